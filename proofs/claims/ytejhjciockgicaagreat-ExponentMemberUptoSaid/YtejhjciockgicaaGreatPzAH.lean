/-
  A part of the library Pm and its contracts (joined by program): PmDel PmInsP PmIO PmIX PmIS PmIG PmIZ PmLay PmSo PmCloI PmUp PmNine PmCk1. Conditions: none.
-/
import Derived.Test.YtejhjciockgicaaGreatPzAG
import Derived.Lib.Overlaps
import Derived.Shelf.SlLaysF0
import Derived.Test.YtejhjciockgicaaGreatProg
import Derived.KernelRfl
import Derived.Test.YtejhjciockgicaaGreatPzAD
import Derived.Shelf.SlSortCmp.NoneTotal
import Derived.Test.YtejhjciockgicaaGreatPzAA
set_option linter.unusedVariables false
set_option linter.unusedSimpArgs false
section
set_option maxRecDepth 100000
set_option maxHeartbeats 4000000
namespace Go.Pm
open Go.Proofs
section
variable {C:Cfg} (T:Tab C.P)
variable {ops:Array Oper} {i:Nat} {d:Nat} {ty:TypeId} {pos:String} {af:Array Edge} {r:List Oper} {ρ:Nat→PV} {L:List (Nat × PV)} {h:AHeap} {Q:St→Prop}
theorem sliceHi_m {P:Program} {t el:TypeId} {id ep len b:Nat} {o:AObj} {k:IntKind} (hu:P.underlying t=some (.slice el)) (hs:tsize P el=some o.esz) (hg:getM h id ep=some o) (hb:b≤len) (hle:len≤o.es.length) :
  sliceP P h t (.mref id ep 0 len) none (some (.int k (b:Int))) none=some (.mref id ep 0 b):=by
 have h1:¬ ((len:Int)<(b:Int)):=by omega
 simp [sliceP,hu,hs,hg,hle,beyond,h1,boundP,hb]
theorem sliceLo_m {P:Program} {t el:TypeId} {id ep len a:Nat} {o:AObj} {k:IntKind} (hu:P.underlying t=some (.slice el)) (hs:tsize P el=some o.esz) (hg:getM h id ep=some o) (ha:a≤len) (hle:len≤o.es.length) :
  sliceP P h t (.mref id ep 0 len) (some (.int k (a:Int))) none none=some (if a=0 then .mref id ep 0 len else if len - a=0 then .snap false [] else .mref id ep a (len - a)):=by
 simp [sliceP,hu,hs,hg,hle,beyond,boundP,ha]
 by_cases h0:a=0
 ·simp [h0]
 ·by_cases h1:len - a=0 <;> simp [h0,h1]
theorem slice3_m {P:Program} {t el:TypeId} {id ep len a b:Nat} {o:AObj} {k k' k2:IntKind} (hu:P.underlying t=some (.slice el)) (hs:tsize P el=some o.esz) (hg:getM h id ep=some o) (ha:a≤b) (hb:b≤len) (hne:a<len) (hle:len≤o.es.length) :
  sliceP P h t (.mref id ep 0 len) (some (.int k (a:Int))) (some (.int k' (b:Int))) (some (.int k2 (len:Int)))=some .any:=by
 have h1:¬ len=a:=by omega
 simp [sliceP,hu,hs,hg,hle,beyond,boundP,ha,hb,h1]
theorem sliceBeyond_m {P:Program} {t el:TypeId} {id ep len a b:Nat} {o:AObj} {k k':IntKind} (hu:P.underlying t=some (.slice el)) (hs:tsize P el=some o.esz) (hg:getM h id ep=some o) (ha:a≤len) (hb:len<b) (hle:b≤o.es.length) :
  sliceP P h t (.mref id ep 0 len) (some (.int k (a:Int))) (some (.int k' (b:Int))) none=some (if a=0 then .mref id ep 0 b else .mref id ep a (b - a)):=by
 have h1:(len:Int)<(b:Int):=by omega
 have h2:¬ (b - a=0):=by omega
 have h3:len≤o.es.length:=by omega
 have h4:a≤b:=by omega
 simp [sliceP,hu,hs,hg,h3,beyond,h1,boundP,hle,h4,h2]
 by_cases h0:a=0 <;> simp [h0]
theorem sliceBeyond0_m {P:Program} {t el:TypeId} {id ep len b:Nat} {o:AObj} {k':IntKind} (hu:P.underlying t=some (.slice el)) (hs:tsize P el=some o.esz) (hg:getM h id ep=some o) (hb:len<b) (hle:b≤o.es.length) :
  sliceP P h t (.mref id ep 0 len) none (some (.int k' (b:Int))) none=some (.mref id ep 0 b):=by
 have h1:(len:Int)<(b:Int):=by omega
 have h3:len≤o.es.length:=by omega
 simp [sliceP,hu,hs,hg,h3,beyond,h1,boundP,hle]
theorem R.slice {t:TypeId} {x:Operand} {lo hi mx:Option Operand} {p q:PV} {plo phi pmx:Option PV} (hx:evL L x=some p) (h1:lo.map (ev (al L ρ))=plo) (h2:hi.map (ev (al L ρ))=phi) (h3:mx.map (ev (al L ρ))=pmx) (hs:sliceP C.P h t p plo phi pmx=some q)
  (kk:EvOps C ops r ⟨al ((d,q)::L) ρ,h⟩ Q):EvOps C ops (⟨some d,.slice t x lo hi mx,ty,pos,af,none⟩::r) ⟨al L ρ,h⟩ Q:=
 EvOps.valL (fun run=>by simp only [opVal,stepOp,evL_ev hx,h1,h2,h3,hs,Option.map_some]) kk
theorem D.slice {t:TypeId} {x:Operand} {lo hi mx:Option Operand} {p q:PV} {plo phi pmx:Option PV} (hcl:closedH h=true) (hx:evL L x=some p) (hv:visR (visible h) p=true) (h1:lo.map (ev (al L ρ))=plo) (h2:hi.map (ev (al L ρ))=phi) (h3:mx.map (ev (al L ρ))=pmx)
  (v1:plo.all (visR (visible h))=true) (v2:phi.all (visR (visible h))=true) (v3:pmx.all (visR (visible h))=true) (hs:sliceP C.P h t p plo phi pmx=some q)
  (kk:EvD C ops (i+1) r ⟨⟨al ((d,q)::L) ρ,h⟩,h.length,[]⟩ Q):EvD C ops i (⟨some d,.slice t x lo hi mx,ty,pos,af,none⟩::r) ⟨⟨al L ρ,h⟩,h.length,[]⟩ Q:=by
 refine EvD.read rfl hcl ?_ ⟨0,fun n lv _ _=>by simp only [opVal,stepOp,evL_ev hx,h1,h2,h3,hs,Option.map_some]⟩ kk
 rw [← h1] at v1;rw [← h2] at v2;rw [← h3] at v3
 rw [List.all_eq_true]
 intro y hy
 simp only [Op.operands] at hy
 cases lo <;> cases hi <;> cases mx <;> simp at hy v1 v2 v3 <;> rcases hy with rfl | hy <;> first
  | (rw [evL_ev hx];exact hv)
  | (simp_all;done)
  | (rcases hy with rfl | hy <;> first | assumption | (rcases hy with rfl | rfl <;> assumption) | (subst hy;assumption))
theorem appendE2 {st xt el el':TypeId} {sz by' id ep k:Nat} {z u:PV} {ys:List PV} {o:AObj} (hk:T.kd st=some (.sl el)) (hk':T.kd xt=some (.sl el')) (hs:T.ts el=some (sz+1)) (hb:T.tb el=some by') (hz:T.tz el=some z) (hby:by'≤1000) (hl:(cells z).length=sz+1) (ho:(cells z).all oneC=true)
  (hu:elems h u=some ys) (hy:esOk (sz+1) ys) (hso:ys≠[]→sameObj id u=true) (hg:getM h id ep=some o) (hm:o.mu=.m) (hz':o.esz=sz+1) (hle:k+ys.length≤o.es.length) :
  appendP C.P 2 h st xt (.mref id ep 0 k) u=some (.mref id ep 0 (k+ys.length),h.set id {o with es:=o.es.take k++ys++o.es.drop (k+ys.length) }):=by
 unfold appendP
 rw [kd_sl (T.hkd _ _ hk)]
 simp only [T.hts _ _ hs,T.htb _ _ hb,T.htz _ _ hz,appendee,kd_sl (T.hkd _ _ hk'),hu]
 unfold esOk at hy
 rw [if_pos ⟨by omega,by omega,⟨hl,ho⟩,hy⟩]
 simp only [hg]
 rw [if_pos ⟨by omega,hz'.symm⟩]
 cases ys with
 | nil=>
  have e1:o.es.take k++[]++o.es.drop (k+0)=o.es:=by simp
  have e2:h.set id {o with es:=o.es.take k++[]++o.es.drop (k+0) }=h:=by
   rw [e1]
   have h1:=(getM_some hg).1
   have hlt:=lt_of_some h1
   rw [List.getElem?_eq_getElem hlt] at h1
   have:(h[id]:AObj)={o with es:=o.es }:=Option.some.inj h1
   rw [← this]
   exact List.set_getElem_self hlt
  simp only [List.isEmpty_nil,if_true,List.length_nil,Nat.add_zero] at e2 ⊢
  rw [e2]
 | cons y ys=>
  have hne:(y::ys).isEmpty=false:=rfl
  simp only [hne,Bool.false_eq_true,if_false]
  rw [if_pos ⟨trivial,Nat.le_refl _,hm,hso (by simp),hle⟩]
theorem D.appendE2 {st xt el el':TypeId} {sz by' id ep k L0:Nat} {own:List Nat} {z u:PV} {ys:List PV} {o:AObj} {x y:Operand} (hl2:level ops (before ops) i=2) (hx:evL L x=some (.mref id ep 0 k)) (hyy:evL L y=some u) (hk:T.kd st=some (.sl el)) (hk':T.kd xt=some (.sl el')) (hs:T.ts el=some (sz+1)) (hb:T.tb el=some by') (hz:T.tz el=some z) (hby:by'≤1000) (hl:(cells z).length=sz+1) (ho:(cells z).all oneC=true)
  (hu:elems h u=some ys) (hy:esOk (sz+1) ys) (hso:ys≠[]→sameObj id u=true) (hg:getM h id ep=some o) (hm:o.mu=.m) (hz':o.esz=sz+1) (hle:k+ys.length≤o.es.length)
  (kk:EvD C ops (i+1) r ⟨⟨al ((d,.mref id ep 0 (k+ys.length))::L) ρ,h.set id {o with es:=o.es.take k++ys++o.es.drop (k+ys.length) }⟩,(h.set id {o with es:=o.es.take k++ys++o.es.drop (k+ys.length) }).length,[]⟩ Q) :
  EvD C ops i (⟨some d,.call ⟨.builtin .append,#[x,y],#[st,xt]⟩,ty,pos,af,none⟩::r) ⟨⟨al L ρ,h⟩,L0,own⟩ Q:=by
 refine EvD.two rfl hl2 ⟨0,fun n _=>?_⟩ kk
 have hap:=Pm.appendE2 T hk hk' hs hb hz hby hl ho hu hy hso hg hm hz' hle
 simp only [opVal,builtinP,List.map_cons,List.map_nil,evL_ev hx,evL_ev hyy,hap]
theorem R.clearM {t el:TypeId} {id ep off len:Nat} {z:PV} {o:AObj} {x:Operand} (hx:evL L x=some (.mref id ep off len)) (hk:T.kd t=some (.sl el)) (hs:T.ts el=some o.esz) (hz:T.tz el=some z) (hl:(cells z).length=o.esz) (ho:(cells z).all oneC=true) (hg:getM h id ep=some o) (hm:o.mu=.m) (hle:off+len≤o.es.length)
  (kk:EvOps C ops r ⟨al L ρ,h.set id {o with es:=o.es.take off++List.replicate len z++o.es.drop (off+len) }⟩ Q):EvOps C ops (⟨none,.call ⟨.builtin .clear,#[x],#[t]⟩,ty,pos,af,none⟩::r) ⟨al L ρ,h⟩ Q:=by
 refine EvOps.val (v:=.tup []) (h':=h.set id {o with es:=o.es.take off++List.replicate len z++o.es.drop (off+len) }) rfl (fun run=>?_) kk
 simp only [opVal,builtinP,List.map_cons,List.map_nil,evL_ev hx,clearP,kd_sl (T.hkd _ _ hk),T.hts _ _ hs,T.htz _ _ hz,hg]
 rw [if_pos ⟨Nat.le_refl _,hm,trivial,hle,hl,ho⟩]
end
attribute [local irreducible] thenQ blockQ loopQ bodyQ Ev EvOps CallEv FnEv EvD
namespace Zero
theorem del_ev (N:Nat) {h:AHeap} {id ep len k:Nat} {o:AObj} (hg:getM h id ep=some o) (hm:o.mu=.m) (hz:o.esz=5) (hle:len≤o.es.length) (hk:k<len) (hn:len<100000000) (hok:(o.es.take len).all (okV 5)=true) (hcl:closedH h=true) :
  ∃ es3:List PV,es3.length=o.es.length∧es3.take (len - 1)=(o.es.take len).take k++(o.es.take len).drop (k+1) ∧
   FnEv C0 92 [.mref id ep 0 len,.int .i64 (k:Int),.int .i64 ((k:Int)+1)] h (fun r h'=>r=.mref id ep 0 (len - 1)∧h'=h.set id {o with es:=es3 }):=by
 have hgs:=(getM_some hg).1
 have hlt:=lt_of_some hgs
 have hvis:visible h id=true:=by
  unfold visible;rw [hgs];simp [hm]
 obtain ⟨ys,hys⟩:∃ ys,ys=(o.es.drop (k+1)).take (len - (k+1)):=⟨_,rfl⟩
 have hyl:ys.length=len - (k+1):=by rw [hys];simp;omega
 have hyok:esOk 5 ys:=by
  unfold esOk
  rw [List.all_eq_true] at hok ⊢
  intro v hv
  rw [hys] at hv
  have hmem:v∈o.es.take len:=by
   have:(o.es.drop (k+1)).take (len - (k+1))=(o.es.take len).drop (k+1):=by rw [List.drop_take]
   rw [this] at hv
   exact List.mem_of_mem_drop hv
  have:=hok v hmem
  unfold okV at this
  simp only [Bool.and_eq_true] at this ⊢
  exact ⟨this.1.2,this.2⟩
 obtain ⟨es2,hes2⟩:∃ es2,es2=o.es.take k++ys++o.es.drop (k+ys.length):=⟨_,rfl⟩
 have hl2:es2.length=o.es.length:=by rw [hes2];simp;omega
 refine ⟨es2.take (len - 1)++List.replicate 1 (.agg [.int .i64 0,.str ByteArray.empty,.int .i64 0,.snap true [],.int .i64 0])++es2.drop (len - 1+1),by simp;omega,?_,?_⟩
 ·have e1:(es2.take (len - 1)++List.replicate 1 (.agg [.int .i64 0,.str ByteArray.empty,.int .i64 0,.snap true [],.int .i64 0]:PV)++es2.drop (len - 1+1)).take (len - 1)=es2.take (len - 1):=by
   rw [List.append_assoc,List.take_append_of_le_length (by simp;omega),List.take_take];congr 1;omega
  rw [e1,hes2]
  have e2:(o.es.take k++ys).length=len - 1:=by simp;omega
  rw [List.take_append_of_le_length (by omega),List.take_of_length_le (by omega),List.take_take,hys]
  congr 1
  ·congr 1;omega
  ·rw [List.drop_take]
 ·refine FnEv.bodyL Tryz.func92 rfl ?_
  have hu:C0.P.underlying 26=some (.slice 66):=kd_sl (T6.hkd 26 _ rfl)
  have hsz:tsize C0.P 66=some o.esz:=by rw [hz];exact T6.hts 66 5 rfl
  have hsT:T6.ts 66=some o.esz:=by rw [hz];rfl
  have hj:((k:Int)+1)=((k+1:Nat):Int):=by omega
  (repeat' (first | refine EvOps.nil ?_ | (apply R.move;exact rfl) | (apply R.assign;exact rfl) | refine Ev.seq ?_ | refine Ev.region ?_ | refine thenQ.normal ?_ | fail))
  apply R.lenM T6 (o:=o);exact rfl;exact rfl;exact hg;exact (by omega)
  skip
  apply R.slice
  ·exact rfl
  ·exact rfl
  ·exact rfl
  ·exact rfl
  ·show sliceP C0.P h 26 (.mref id ep 0 len) (some (.int .i64 (k:Int))) (some (.int .i64 ((k:Int)+1))) (some (.int .i64 (len:Int)))=some .any
   rw [hj]
   exact slice3_m hu hsz hg (by omega) (by omega) (by omega) hle
  (repeat' (first | refine EvOps.nil ?_ | (apply R.move;exact rfl) | (apply R.cmp;exact rfl;exact rfl;exact rfl;all_goals intro hc;all_goals (try (exfalso;omega))) | refine Ev.seq ?_ | refine Ev.region ?_ | (apply Ev.condB;exact rfl) | refine Ev.skip ?_ | refine thenQ.normal ?_ | fail))
  apply R.lenM T6 (o:=o);exact rfl;exact rfl;exact hg;exact (by omega)
  (repeat' (first | refine EvOps.nil ?_ | (apply R.assign;exact rfl) | refine Ev.seq ?_ | refine Ev.regionD ?_ | (apply D.move;exact rfl) | refine thenQ.normal ?_ | fail))
  apply D.slice
  ·exact hcl
  ·exact rfl
  ·exact hvis
  ·exact rfl
  ·exact rfl
  ·exact rfl
  ·exact rfl
  ·exact rfl
  ·exact rfl
  ·exact sliceHi_m (b:=k) (k:=.i64) hu hsz hg (by omega) hle
  (repeat' (first | (apply D.move;exact rfl) | fail))
  apply D.slice
  ·exact hcl
  ·exact rfl
  ·exact hvis
  ·exact rfl
  ·exact rfl
  ·exact rfl
  ·exact rfl
  ·exact rfl
  ·exact rfl
  ·show sliceP C0.P h 26 (.mref id ep 0 len) (some (.int .i64 ((k:Int)+1))) none none=_
   rw [hj]
   exact sliceLo_m hu hsz hg (by omega) hle
  rw [if_neg (by omega)]
  apply D.appendE2 T6 (ys:=ys) (o:=o) (sz:=4)
  ·exact rfl
  ·exact rfl
  ·exact rfl
  ·exact rfl
  ·exact rfl
  ·exact rfl
  ·exact rfl
  ·exact rfl
  ·exact (by decide)
  ·exact rfl
  ·exact rfl
  ·split
   ·have:ys=[]:=List.eq_nil_of_length_eq_zero (by omega)
    rw [this];rfl
   ·simp only [elems,hg]
    rw [if_pos (by omega),hys]
  ·exact hyok
  ·intro hne
   rw [if_neg (fun hh=>hne (List.eq_nil_of_length_eq_zero (by omega)))]
   simp [sameObj]
  ·exact hg
  ·exact hm
  ·exact hz
  ·omega
  have hkl:k+ys.length=len - 1:=by omega
  have hh2:h.set id {o with es:=o.es.take k++ys++o.es.drop (k+ys.length) }=h.set id {o with es:=es2 }:=by rw [hes2]
  have hep:=(getM_some hg).2.1
  have hg2:getM (h.set id {o with es:=es2 }) id ep=some {o with es:=es2 }:=getM_at (List.getElem?_set_self hlt) hep (by show o.mu≠.x;rw [hm];simp)
  refine EvD.heap hh2 ?_
  rw [hkl]
  clear hh2
  (repeat' (first | (apply R.move;exact rfl) | refine Ev.seq ?_ | refine Ev.region ?_ | refine EvD.nil ?_ | (apply D.assign;exact rfl) | refine thenQ.normal ?_ | fail))
  apply R.lenM T6 (o:={o with es:=es2 });exact rfl;exact rfl;exact hg2;exact (by show 0+(len - 1)≤es2.length;omega)
  (repeat' (first | (apply R.move;exact rfl) | fail))
  apply R.slice
  ·exact rfl
  ·exact rfl
  ·exact rfl
  ·exact rfl
  ·exact sliceBeyond_m (o:={o with es:=es2 }) (len:=len - 1) (a:=len - 1) (b:=len) (k:=.i64) (k':=.i64) hu hsz hg2 (Nat.le_refl _) (by omega) (by show len≤es2.length;omega)
  by_cases h1:len - 1=0
  ·rw [if_pos h1]
   have hlen1:len=1:=by omega
   subst hlen1
   apply R.clearM T6 (o:={o with es:=es2 }) (z:=.agg [.int .i64 0,.str ByteArray.empty,.int .i64 0,.snap true [],.int .i64 0])
   ·exact rfl
   ·exact rfl
   ·exact hsT
   ·exact rfl
   ·show 5=o.esz;omega
   ·rfl
   ·exact hg2
   ·exact hm
   ·show 0+1≤es2.length;omega
   (repeat' (first | refine EvOps.nil ?_ | (apply R.move;exact rfl) | (apply R.assign;exact rfl) | refine Ev.seq ?_ | refine Ev.region ?_ | refine Ev.ret ?_ | refine thenQ.normal ?_ | (apply bodyQ.ret;exact rfl) | fail))
   exact ⟨rfl,by rw [List.set_set]⟩
  ·rw [if_neg h1]
   have h2:len - (len - 1)=1:=by omega
   rw [h2]
   apply R.clearM T6 (o:={o with es:=es2 }) (z:=.agg [.int .i64 0,.str ByteArray.empty,.int .i64 0,.snap true [],.int .i64 0])
   ·exact rfl
   ·exact rfl
   ·exact hsT
   ·exact rfl
   ·show 5=o.esz;omega
   ·rfl
   ·exact hg2
   ·exact hm
   ·show len - 1+1≤es2.length;omega
   (repeat' (first | refine EvOps.nil ?_ | (apply R.move;exact rfl) | (apply R.assign;exact rfl) | refine Ev.seq ?_ | refine Ev.region ?_ | refine Ev.ret ?_ | refine thenQ.normal ?_ | (apply bodyQ.ret;exact rfl) | fail))
   exact ⟨rfl,by rw [List.set_set]⟩
theorem delete_sim:SimRun C0.P 92 deletePrim:=by
 intro args h r h' e w F β vs H ha
 unfold deletePrim at e
 split at e
 ·rename_i id ep len i j
  split at e
  ·rename_i o hg
   split at e
   ·rename_i hc
    obtain ⟨hm,hz,hle,hi0,rfl,hi,hn,hok,hcl⟩:=hc
    obtain ⟨rfl,rfl⟩:=Prod.mk.inj (Option.some.inj e)
    obtain ⟨k,rfl⟩:=Int.eq_ofNat_of_zero_le hi0
    have hk:k<len:=by omega
    obtain ⟨es3,l3,t3,f3⟩:=del_ev 0 hg hm hz hle hk hn hok hcl
    unfold FnEv at f3
    obtain ⟨r3,h3,⟨rfl,rfl⟩,n0,hn0⟩:=f3
    obtain ⟨g1,g2,g3⟩:=getM_some hg
    have hlt:=lt_of_some g1
    refine (S0 n0 _ (.inr (if_pos (.inl rfl))) _ h _ _ (hn0 n0 (Nat.le_refl _)) w F β vs H ha).mono ?_
    rintro en w' ⟨v,β1,rfl,q1,q2,q3,_⟩
    have eo:(h.set id {o with es:=es3 })[id]?=some {o with es:=es3 }:=List.getElem?_set_self hlt
    obtain ⟨bc,hb⟩:=beta_at q2.len eo
    obtain ⟨_,_,_,k2,_⟩:=q2.obj id _ bc eo hb (by show o.mu≠.x;rw [hm];simp)
    have hes':((o.es.take len).take k++(o.es.take len).drop (k+1)).length=len - 1:=by simp;omega
    have rs:=q2.reshape eo hb hm ((o.es.take len).take k++(o.es.take len).drop (k+1)) (ep+1) (by show o.ep<ep+1;omega) (by rw [hes'];simp only at k2;omega) (fun i e he=>by
     left
     show es3[i]?=some e
     rw [← t3] at he
     rw [List.getElem?_take] at he
     split at he
     ·exact he
     ·cases he)
    have hset:(h.set id {o with es:=es3 }).set id { ({o with es:=es3 }:AObj) with es:=(o.es.take len).take k++(o.es.take len).drop (k+1),ep:=ep+1 }=h.set id {o with ep:=ep+1,es:=(o.es.take len).take (Int.toNat (k:Int))++(o.es.take len).drop (Int.toNat (k:Int)+1) }:=by
     rw [List.set_set];rfl
    have vr:=VRel.reshape (A:=Av F (h.set id {o with ep:=ep+1,es:=(o.es.take len).take (Int.toNat (k:Int))++(o.es.take len).drop (Int.toNat (k:Int)+1) }) β1) eo hb hm q1 g2 (by show len - 1≤es3.length;omega) ((o.es.take len).take k++(o.es.take len).drop (k+1)) (ep+1)
    rw [hset] at rs vr
    exact ⟨v,β1,rfl,vr,rs.1,q3.trans rs.2,fun hh=>by omega⟩
   ·cases e
  ·cases e
 ·cases e
end Zero
end Go.Pm
end
section
set_option maxRecDepth 100000
set_option maxHeartbeats 4000000
namespace Go.Pm
open Go.Proofs
variable {w:World} {F:Nat→Prop} {β:List (Nat × Nat)} {h:AHeap}
theorem R.appendMm {C:Cfg} (T:Tab C.P) {ops:Array Oper} {d:Nat} {ty:TypeId} {pos:String} {af:Array Edge} {r:List Oper} {ρ:Nat→PV} {L:List (Nat × PV)} {Q:St→Prop} {st xt el el':TypeId} {sz by' id ep len:Nat} {z:PV} {full:Bool} {ys:List PV} {o:AObj} {x y:Operand} (hx:evL L x=some (.mref id ep 0 len)) (hyy:evL L y=some (.snap full ys)) (hk:T.kd st=some (.sl el)) (hk':T.kd xt=some (.sl el')) (hs:T.ts el=some (sz+1)) (hb:T.tb el=some by') (hz:T.tz el=some z) (hby:by'≤1000) (hl:(cells z).length=sz+1) (ho:(cells z).all oneC=true)
  (hy:esOk (sz+1) ys) (hne:ys.isEmpty=false) (hn:len+ys.length<1000000000) (hg:getM h id ep=some o) (hm:o.mu=.m) (hz':o.esz=sz+1) (hle:len≤o.es.length)
  (kk:EvOps C ops r ⟨al ((d,.mref id (ep+1) 0 (len+ys.length))::L) ρ,h.set id {o with ep:=ep+1,es:=o.es.take len++ys }⟩ Q) :
  EvOps C ops (⟨some d,.call ⟨.builtin .append,#[x,y],#[st,xt]⟩,ty,pos,af,none⟩::r) ⟨al L ρ,h⟩ Q:=by
 refine EvOps.valL (fun run=>?_) kk
 have hap:=appendP_m T (full:=full) hk hk' hs hb hz hby hl ho hy hne hn hg hm hz' hle
 simp only [opVal,builtinP,List.map_cons,List.map_nil,evL_ev hx,evL_ev hyy,hap]
theorem sliceLo_s {P:Program} {t el:TypeId} {fl:Bool} {sz:Nat} {k:IntKind} (hu:P.underlying t=some (.slice el)) (hs:tsize P el=some sz):sliceP P h t (.snap fl []) (some (.int k 0)) none none=some (.snap fl []):=by
 simp [sliceP,hu,hs,boundP]
attribute [local irreducible] thenQ blockQ loopQ bodyQ Ev EvOps CallEv FnEv EvD
theorem okV_esOk {sz:Nat} {e:PV} (h:okV sz e=true):esOk sz [e]:=by
 unfold okV at h
 simp only [Bool.and_eq_true] at h
 unfold esOk
 simp only [List.all_cons,List.all_nil,Bool.and_true,Bool.and_eq_true]
 exact ⟨h.1.2,h.2⟩
namespace Zero
theorem insNil_ev {h:AHeap} {fl:Bool} {e:PV} (he:okV 5 e=true):FnEv C0 91 [.snap true [],.int .i64 0,.snap fl [e]] h (fun r h'=>r=.mref h.length 0 0 1∧h'=h++[⟨.m,0,5,[e]⟩]):=by
 refine FnEv.bodyL Tryz.func91 rfl ?_
 have hu:C0.P.underlying 26=some (.slice 66):=kd_sl (T6.hkd 26 _ rfl)
 have hl1:([e]:List PV).length=1:=rfl
 (repeat' (first | refine EvOps.nil ?_ | (apply R.move;exact rfl) | (apply R.assign;exact rfl) | refine Ev.seq ?_ | refine Ev.region ?_ | refine thenQ.normal ?_ | fail))
 apply R.slice
 ·exact rfl
 ·exact rfl
 ·exact rfl
 ·exact rfl
 ·exact sliceLo_s hu (T6.hts 66 5 rfl)
 (repeat' (first | refine EvOps.nil ?_ | (apply R.move;exact rfl) | (apply R.assign;exact rfl) | (apply R.cmp;exact rfl;exact rfl;exact rfl;all_goals intro hc;all_goals (try (exfalso;omega))) | (apply R.lenS T6;exact rfl;exact rfl) | refine Ev.seq ?_ | refine Ev.region ?_ | (apply Ev.condB;exact rfl) | refine Ev.skip ?_ | refine thenQ.normal ?_ | fail))
 all_goals try (exfalso;revert hc;decide)
 all_goals (
  apply R.appendS1 T6;exact rfl;exact rfl;exact rfl;exact rfl;exact rfl;exact rfl;exact rfl;exact (by decide);exact rfl;exact rfl;exact okV_esOk he;exact (by simp);exact (by show 1<_;decide)
  (repeat' (first | refine EvOps.nil ?_ | (apply R.assign;exact rfl) | refine Ev.ret ?_ | refine thenQ.normal ?_ | refine thenQ.ret ?_ | (apply bodyQ.ret;exact rfl) | fail))
  exact ⟨rfl,rfl⟩)
theorem insEnd_ev {h:AHeap} {fl:Bool} {e:PV} {id ep len:Nat} {o:AObj} (he:okV 5 e=true) (hg:getM h id ep=some o) (hm:o.mu=.m) (hz:o.esz=5) (hle:len≤o.es.length) (hn:len<100000000) :
  FnEv C0 91 [.mref id ep 0 len,.int .i64 (len:Int),.snap fl [e]] h (fun r h'=>r=.mref id (ep+1) 0 (len+1)∧h'=h.set id {o with ep:=ep+1,es:=o.es.take len++[e] }):=by
 refine FnEv.bodyL Tryz.func91 rfl ?_
 have hu:C0.P.underlying 26=some (.slice 66):=kd_sl (T6.hkd 26 _ rfl)
 have hl1:([e]:List PV).length=1:=rfl
 have hsz:tsize C0.P 66=some o.esz:=by rw [hz];exact T6.hts 66 5 rfl
 (repeat' (first | refine EvOps.nil ?_ | (apply R.move;exact rfl) | (apply R.assign;exact rfl) | refine Ev.seq ?_ | refine Ev.region ?_ | refine thenQ.normal ?_ | fail))
 apply R.slice
 ·exact rfl
 ·exact rfl
 ·exact rfl
 ·exact rfl
 ·exact sliceLo_m hu hsz hg (Nat.le_refl _) hle
 (repeat' (first | refine EvOps.nil ?_ | (apply R.move;exact rfl) | (apply R.assign;exact rfl) | (apply R.cmp;exact rfl;exact rfl;exact rfl;all_goals intro hc;all_goals (try (exfalso;omega))) | (apply R.lenS T6;exact rfl;exact rfl) | refine Ev.seq ?_ | refine Ev.region ?_ | (apply Ev.condB;exact rfl) | refine Ev.skip ?_ | refine thenQ.normal ?_ | fail))
 all_goals try (exfalso;revert hc;decide)
 all_goals (
  apply R.lenM T6 (o:=o);exact rfl;exact rfl;exact hg;exact (by omega)
  (repeat' (first | refine EvOps.nil ?_ | (apply R.move;exact rfl) | (apply R.assign;exact rfl) | (apply R.cmp;exact rfl;exact rfl;exact rfl;all_goals intro hc;all_goals (try (exfalso;omega))) | refine Ev.seq ?_ | refine Ev.region ?_ | (apply Ev.condB;exact rfl) | refine thenQ.normal ?_ | fail))
  apply R.appendMm T6 (o:=o);exact rfl;exact rfl;exact rfl;exact rfl;exact rfl;exact rfl;exact rfl;exact (by decide);exact rfl;exact rfl;exact okV_esOk he;exact rfl;exact (by show len+1<_;omega);exact hg;exact hm;exact hz;exact hle
  (repeat' (first | refine EvOps.nil ?_ | (apply R.assign;exact rfl) | refine Ev.ret ?_ | refine thenQ.normal ?_ | refine thenQ.ret ?_ | (apply bodyQ.ret;exact rfl) | fail))
  exact ⟨rfl,rfl⟩)
end Zero
end Go.Pm
end
section
set_option maxRecDepth 100000
set_option maxHeartbeats 4000000
namespace Go.Pm
open Go.Proofs
variable {w:World} {F:Nat→Prop} {β:List (Nat × Nat)} {h:AHeap}
theorem mref_at (H:HRel w F β h) {v:Value} {id ep off len:Nat} {o:AObj} (hv:VRel w (Av F h β) β h v (.mref id ep off len)) (hg:getM h id ep=some o) (hle:off+len≤o.es.length) :
  ∃ bc:Nat × Nat,β[id]?=some bc∧∃ cap,v=.slice (some ⟨bc.1,off * o.esz,none⟩) len cap∧off+cap=bc.2:=by
 obtain ⟨e1,e2,e3⟩:=getM_some hg
 obtain ⟨bc,hb⟩:=beta_at H.len e1
 obtain ⟨_,_,m3⟩:=hv.mref_inv
 exact ⟨bc,hb,m3 o bc e1 hb e3 e2 hle⟩
theorem cap_osim {P:Program} {a:Act} {ρ:Nat→PV} (H:HRel w F β h) (R:ERel w (Av F h β) β h a ρ) {t el:TypeId} {x:Operand} {id ep len:Nat} {o:AObj} {bc:Nat × Nat} (hu:P.underlying t=some (.slice el)) (hx:ev ρ x=.mref id ep 0 len) (hg:getM h id ep=some o) (hb:β[id]?=some bc) (hle:len≤o.es.length) :
  ∀ oo:Oper,oo.op=.call ⟨.builtin .cap,#[x],#[t]⟩→OSim P 2 w F β h (execOp a.eval oo) (.int .i64 (bc.2:Int)) h:=by
 intro oo ho
 have hv:=R.ev x
 rw [hx] at hv
 obtain ⟨bc',hb',cap,e1,e2⟩:=mref_at H hv hg (by omega)
 obtain rfl:=Option.some.inj (hb.symm.trans hb')
 have hc:cap=bc.2:=by omega
 subst hc
 obtain ⟨d,op,ty,pos,af,g⟩:=oo
 simp only at ho
 subst ho
 refine ⟨.int .i64 (bc.2:Int),w,β,.inl ?_,.val (.int _ _),H,Stp.refl w h β,fun _=>Grew.refl w⟩
 have h1:(Builtin.cap_ #[t] ty #[a.eval x]).run P w=.ok (.int .i64 (bc.2:Int)) w:=by
  simp [Builtin.cap_,e1,und_run hu,goInt]
 simp only [execOp,resolve,Sem.run_bind,Sem.run_pure,Result.andThen_ok,invoke,builtin]
 simp [h1]
theorem run_overlaps_apart2 {P:Program} (w:World) (tS tR e:TypeId) (ht:P.underlying tS=some (.slice e)) (size:Nat) (hz:∀ w,(Go.sizeOf e).run P w=.ok size w)
  (a b:Addr) (la ca lb cb:Nat) (hne:a.block≠b.block) (tA tB:TypeId) (kA kB:Nat)
  (hsa:w.shape? a.block=some (tA,kA)) (hsb:w.shape? b.block=some (tB,kB)) (hkA:kA≠0)
  (hfa:w.frozen? b=false) (hfe:w.frozen? { block:=b.block,off:=kB }=false) :
  (Extern.SlicesOverlaps.overlaps #[tS,tS] #[tR] #[.slice (some a) la ca,.slice (some b) lb cb]).run P w=.ok (.bool false) w:=by
 have hnb:(a.block != b.block)=true:=by simpa using hne
 have hnb':(a.block == b.block)=false:=by simpa using hne
 conv=>lhs;arg 2;whnf
 have he:(#[tS,tS]:Array TypeId)[0]=tS:=rfl
 have hbp:∀ {α β:Type} (x:α) (f:α→Sem β),(pure x:Sem α).bind f=f x:=fun _ _=>rfl
 by_cases h0:la=0∨lb=0∨size=0
 ·simp [Sem.run,Sem.bind,hbp,he,ht,hz,h0]
 ·cases kA with
  | zero=>exact absurd rfl hkA
  | succ kA=>
   cases h3:w.frozen? a <;> cases h4:w.frozen? { block:=a.block,off:=kA+1 } <;>
    simp [Sem.run,Sem.bind,hbp,he,ht,hz,h0,hnb,hnb',frozen,noView,viewAt,mayBeOne,stringish,shape,hsa,hsb,hfa,hfe,h3,h4]
theorem overlaps_osim {P:Program} {a:Act} {ρ:Nat→PV} (H:HRel w F β h) (R:ERel w (Av F h β) β h a ρ) {t el tR:TypeId} {sz:Nat} {x y:Operand} {f:FuncId} {fn:Func} {fl:Bool} {e1:PV} {id ep off n:Nat} {o:AObj}
  (hu:P.underlying t=some (.slice el)) (hs:tsize P el=some sz) (hx:ev ρ x=.snap fl [e1]) (hy:ev ρ y=.mref id ep off n) (hg:getM h id ep=some o) (hm:o.mu=.m) (hle:off+n≤o.es.length)
  (hf : P.funcs[f]? = some fn) (hname : (fn.name == "runtime.NumGoroutine") = false) (hbd : fn.body.isNone = true) (hn : Extern.findNext fn = none) (he : Extern.find fn = some (Extern.SlicesOverlaps.overlaps #[t, t] #[tR])) {ats : Array TypeId} :
  ∀ oo:Oper,oo.op=.call ⟨.value (.func f),#[x,y],ats⟩→OSim P 2 w F β h (execOp a.eval oo) (.bool false) h:=by
 intro oo ho
 have hvx:=R.ev x
 rw [hx] at hvx
 have hvy:=R.ev y
 rw [hy] at hvy
 obtain ⟨bc,hb,cap,ey,e2⟩:=mref_at H hvy hg hle
 obtain ⟨g1,g2,g3⟩:=getM_some hg
 obtain ⟨T,cs,k1,k2,k3,k4,k5⟩:=H.obj id o bc g1 hb g3
 rcases hvx.snap_inv.snap_open with h0 | ⟨b,off',cap',sz',cvs,ex,hnA,hsz,hl1,hc1,hc2⟩
 ·cases h0
 have hbb:b≠bc.1:=fun hh=>hnA (.inr ⟨id,o,bc,g1,hb,hm,hh.symm⟩)
 have hcell:=hc1 0 0 (by simp) hsz
 obtain ⟨tA,kA,hsa,hkA⟩:∃ tA kA,w.shape? b=some (tA,kA)∧kA≠0:=by
  simp only [World.cell?] at hcell
  split at hcell
  ·rename_i c el0 fr hh
   split at hcell
   ·cases hcell
   ·refine ⟨el0,c.size,by simp [World.shape?,hh],?_⟩
    intro h0
    have:=(Array.getElem?_eq_some_iff.1 hcell).1
    omega
  ·cases hcell
 have hsb:w.shape? bc.1=some (T,cs.size):=by simp [World.shape?,k1]
 have hfb:∀ of,w.frozen? ⟨bc.1,of,none⟩=false:=fun of=>by simp [World.frozen?,k1]
 have hov:=run_overlaps_apart2 (P:=P) w t tR el hu sz (fun w=>tsize_run hs w) ⟨b,off',none⟩ ⟨bc.1,off * o.esz,none⟩ 1 cap' n cap hbb tA T kA cs.size hsa hsb hkA (hfb _) (hfb _)
 obtain ⟨d,op,ty,pos,af,g⟩:=oo
 simp only at ho
 subst ho
 refine ⟨.bool false,w,β,.inl ?_,.val (.bool _),H,Stp.refl w h β,fun _=>Grew.refl w⟩
 have hc:=run_callFunc_extern hf hname hbd hn he #[a.eval x,a.eval y] w
 rw [ex,ey] at hc
 rw [show ([e1]:List PV).length=1 from rfl] at hc
 rw [hov] at hc
 have hfv:a.eval (.func f)=.func (.func f) #[] #[]:=rfl
 simp only [execOp,resolve,hfv,Deferred.ofValue,Sem.run_bind,Sem.run_pure,Result.andThen_ok,invoke]
 simp only [Array.append_empty,List.map_toArray,List.map_cons,List.map_nil,ex,ey]
 exact hc
theorem append_osim {P:Program} {a:Act} {ρ:Nat→PV} (H:HRel w F β h) (R:ERel w (Av F h β) β h a ρ) {st xt el:TypeId} {k:IntKind} {sz by' n:Nat} {z:PV} {x y:Operand} {id ep len:Nat} {o:AObj} {bc:Nat × Nat}
  (hu:P.underlying st=some (.slice el)) (hu2:P.underlying xt=some (.int k)) (hs:tsize P el=some sz) (hpos:0<sz) (hb:tbytes P el=some by') (hby:by'≤1000) (hz:tzero P el=some z) (hl:(cells z).length=sz) (hone:(cells z).all oneC=true)
  (hx:ev ρ x=.mref id ep 0 len) (hy:ev ρ y=.int k (n:Int)) (hg:getM h id ep=some o) (hbc:β[id]?=some bc) (hle:len≤o.es.length) (hsz:o.esz=sz) (hroom:bc.2<len+n) (hn:len+n<1000000000) :
  ∀ oo:Oper,oo.op=.call ⟨.builtin .append,#[x,y],#[st,xt]⟩→OSim P 2 w F β h (execOp a.eval oo) (.mref h.length 0 0 (len+n)) (h++[⟨.m,0,sz,o.es.take len++List.replicate n z⟩]):=by
 intro oo ho
 obtain ⟨d,op,ty,pos,af,g⟩:=oo
 simp only at ho
 subst ho
 have hvx:=R.ev x
 rw [hx] at hvx
 have hvy:=R.ev y
 rw [hy] at hvy
 obtain ⟨bc',hb',cap,ex,e2⟩:=mref_at H hvx hg (by omega)
 obtain rfl:=Option.some.inj (hbc.symm.trans hb')
 have hcap:cap=bc.2:=by omega
 subst hcap
 obtain ⟨g1,g2,g3⟩:=getM_some hg
 obtain ⟨T,cs0,k1,k2,k3,k4,k5⟩:=H.obj id o bc g1 hbc g3
 have main:Sim P 2 w F β h (Builtin.append_ #[st,xt] ty #[a.eval x,a.eval y]) (.mref h.length 0 0 (len+n)) (h++[⟨.m,0,sz,o.es.take len++List.replicate n z⟩]):=by
  have hyl:(List.replicate n z).length=n:=List.length_replicate
  have hall:(List.replicate n z).all (fun v=>decide ((Pm.cells v).length=sz) && (Pm.cells v).all oneC)=true:=by
   rw [List.all_eq_true]
   intro v hv
   obtain rfl:=List.eq_of_mem_replicate hv
   rw [hl,hone];simp
  have happ:appendee P h z xt (.int k (n:Int))=some (List.replicate n z):=by
   simp only [appendee,hu2]
   rw [if_pos (by omega)]
   simp
  obtain ⟨vz,z1,z2⟩:=tzero_run2 (P:=P) hz
  obtain ⟨zb,d',a1,a2,news,a3,a4,a5,a6⟩:=appendee_run (st:=st) (vz:=vz) H hs hb hz hpos (by omega) hvy happ hall
  rw [hyl] at a5 a6
  have zsz:vz.cells.size=sz:=by rw [((z2 w (Av F h β) β h).cells hone).1];exact hl
  have hes:elems h (.mref id ep 0 len)=some ((o.es.drop 0).take len):=by simp only [elems,hg];rw [if_pos (by omega)]
  have htl:((o.es.drop 0).take len).length=len:=by simp;omega
  obtain ⟨a',cap',ev',_,cs,f1,f2⟩:=elems_flat (P:=P) (sz:=sz) H hvx hes (fun y hy=>by
   obtain ⟨k,hk⟩:=List.getElem?_of_mem hy
   rw [List.getElem?_take] at hk
   split at hk
   ·simp at hk;rw [← hsz];exact (k5 k y hk).1
   ·cases hk)
  simp only [List.drop_zero] at f1 htl f2
  have hbig2:len+n≤17592186044416:=by omega
  have hbig:(len+n) * by'≤17592186044416:=by
   have:(len+n) * by'≤1000000000 * 1000:=Nat.mul_le_mul (by omega) hby
   omega
  obtain ⟨c,c1,hrun⟩:=append_grow (P:=P) (w:=w) (ty:=ty) (ts:=#[st,xt]) (args:=#[a.eval x,a.eval y]) (olds:=cs) (sLen:=len) (sCap:=bc.2) (base:=some ⟨bc.1,0 * o.esz,none⟩) rfl rfl (by rw [ex];rfl) rfl hu hs a1 a2 hb (by omega) z1 a5 a6 (fun w' hw'=>by
   have:=f2 w' hw' len (by omega)
   rw [List.take_of_length_le (by rw [f1.1,htl];exact Nat.le_refl _)] at this
   rw [← ex]
   exact this) (by omega) hbig hbig2
  have hfl:=f1.append a3
  have arr:cs.toArray++news.toArray++Builtin.zeroCells vz.cells (c - (len+n))=(cs++news++(Builtin.zeroCells vz.cells (c - (len+n))).toList).toArray:=by apply Array.ext';simp
  have arrsz:c * sz≤(cs.toArray++news.toArray++Builtin.zeroCells vz.cells (c - (len+n))).size:=by
   simp only [Array.size_append,List.size_toArray,size_zeroCells,zsz,f1.1,a3.1,htl,hyl,← Nat.add_mul]
   rw [show len+n+(c - (len+n))=c by omega]
   exact Nat.le_refl _
  obtain ⟨HH,S⟩:=HRel.new H (w':=w.drew.alloc (.cells (cs.toArray++news.toArray++Builtin.zeroCells vz.cells (c - (len+n))) el)) el
   (cs.toArray++news.toArray++Builtin.zeroCells vz.cells (c - (len+n))) { mu:=.m,ep:=0,esz:=sz,es:=o.es.take len++List.replicate n z } c rfl rfl rfl rfl rfl (by simp;omega)
   arrsz hpos (fun i e he=>by
    rw [arr]
    exact hfl.obj (rest:=(Builtin.zeroCells vz.cells (c - (len+n))).toList) i e he)
  exact ⟨_,_,_,hrun,H.mrefNew,HH,S,fun hh=>by omega⟩
 obtain ⟨v,w',β',r1,r2,r3,r4,r5⟩:=main
 refine ⟨v,w',β',.inl ?_,r2,r3,r4,r5⟩
 simp only [execOp,resolve,Sem.run_bind,Sem.run_pure,Result.andThen_ok,invoke,builtin]
 simp only [List.map_toArray,List.map_cons,List.map_nil,r1,Result.andThen_ok]
theorem HRel.setNew {w w':World} {F:Nat→Prop} {β:List (Nat × Nat)} {h:AHeap} (H:HRel w F β h) {id:Nat} {o:AObj} {bc:Nat × Nat} (eo:h[id]?=some o) (eb:β[id]?=some bc) (em:o.mu=.m)
  (T:TypeId) (cs:Array Value) (es':List PV) (ep':Nat) (bc':Nat × Nat)
  (hsz:w.heap.size≤w'.heap.size) (hat:w'.heap[bc'.1]?=some (.cells cs T (0,0))) (hother:∀ b,b<w.heap.size→w'.heap[b]?=w.heap[b]?)
  (hge:w.heap.size≤bc'.1) (hlt:o.ep<ep') (ho:w'.os=w.os) (ht:w'.tape=w.tape) (hu:w'.output=w.output)
  (h1:es'.length≤bc'.2) (h2:bc'.2 * o.esz≤cs.size)
  (h4:∀ (i:Nat) (e:PV),es'[i]?=some e→(cells e).length=o.esz∧∀ (j:Nat) (p:PV),(cells e)[j]?=some p→∃ v:Value,cs[i * o.esz+j]?=some v∧VRel w' (Av F (h.set id {o with es:=es',ep:=ep' }) (β.set id bc')) (β.set id bc') (h.set id {o with es:=es',ep:=ep' }) v p)
  (hd:w.drawn≤w'.drawn:=by first | exact Nat.le_refl _ | exact Nat.le_succ _) :
  HRel w' F (β.set id bc') (h.set id {o with es:=es',ep:=ep' })∧Stp w h β w' (h.set id {o with es:=es',ep:=ep' }) (β.set id bc'):=by
 have hlen:=H.len
 have hid:=lt_of_some eo
 have hesz:0<o.esz:=by
  obtain ⟨_,_,_,_,_,k,_⟩:=H.obj id o bc eo eb (by rw [em];simp)
  exact k
 have hself:(h.set id {o with es:=es',ep:=ep' })[id]?=some {o with es:=es',ep:=ep' }:=by simp [hid]
 have bself:(β.set id bc')[id]?=some bc':=by simp [hlen,hid]
 have hoth:∀ k,k≠id→(h.set id {o with es:=es',ep:=ep' })[k]?=h[k]?:=fun k hk=>List.getElem?_set_ne (Ne.symm hk)
 have both:∀ k,k≠id→(β.set id bc')[k]?=β[k]?:=fun k hk=>List.getElem?_set_ne (Ne.symm hk)
 have hs:Stp w h β w' (h.set id {o with es:=es',ep:=ep' }) (β.set id bc'):=by
  refine ⟨hsz,by simp,fun b hb hm=>hother b hb,?_,?_,?_,ho,ht,hu,hd⟩
  ·rintro b hb ⟨k,o',c',e1,e2,e3,rfl⟩
   by_cases hk:k=id
   ·subst hk
    rw [bself] at e2
    obtain rfl:=Option.some.inj e2
    omega
   ·rw [hoth k hk] at e1;rw [both k hk] at e2
    exact ⟨k,o',c',e1,e2,e3,rfl⟩
  ·intro k o' c' e1 e2 e3
   by_cases hk:k=id
   ·subst hk
    rw [eo] at e1;rw [eb] at e2
    obtain rfl:=Option.some.inj e1
    obtain rfl:=Option.some.inj e2
    exact ⟨_,bc',hself,bself,by rw [em];simp,Nat.le_of_lt hlt,fun e=>by simp at e;omega⟩
   ·exact ⟨o',c',by rw [hoth k hk];exact e1,by rw [both k hk];exact e2,e3,Nat.le_refl _,fun _=>⟨rfl,rfl,rfl⟩⟩
  ·intro k o' e1 e2
   have hk:k≠id:=by
    rintro rfl
    rw [eo] at e1
    obtain rfl:=Option.some.inj e1
    exact e2 em
   exact ⟨by rw [hoth k hk];exact e1,both k hk⟩
 refine ⟨⟨by simp [hlen],fun b hb=>Nat.lt_of_lt_of_le (H.fin b hb) hsz,?_,?_,?_⟩,hs⟩
 ·intro k o' c' e1 e2 e3
  by_cases hk:k=id
  ·subst hk
   rw [hself] at e1;rw [bself] at e2
   obtain rfl:=Option.some.inj e1
   obtain rfl:=Option.some.inj e2
   exact ⟨T,cs,hat,h1,h2,hesz,h4⟩
  ·rw [hoth k hk] at e1;rw [both k hk] at e2
   have r:=H.obj k o' c' e1 e2 e3
   obtain ⟨T',cs',k1,_⟩:=_root_.id r
   exact ORel.mono hs (hother _ (Array.getElem?_eq_some_iff.1 k1).1) r
 ·intro k k' o1 o2 bc1 bc2 hne e1 e2 e3 e4 m1 m2
  by_cases hk:k=id
  ·subst hk
   have hk':k'≠k:=Ne.symm hne
   rw [hoth k' hk'] at e2;rw [both k' hk'] at e4;rw [bself] at e3
   obtain rfl:=Option.some.inj e3
   obtain ⟨T',cs',k1,_⟩:=H.obj k' o2 bc2 e2 e4 m2
   have:=(Array.getElem?_eq_some_iff.1 k1).1
   omega
  ·rw [hoth k hk] at e1;rw [both k hk] at e3
   by_cases hk':k'=id
   ·subst hk'
    rw [bself] at e4
    obtain rfl:=Option.some.inj e4
    have:=Mb.lt H ⟨k,o1,bc1,e1,e3,m1,rfl⟩
    omega
   ·rw [hoth k' hk'] at e2;rw [both k' hk'] at e4
    exact H.dist k k' o1 o2 bc1 bc2 hne e1 e2 e3 e4 m1 m2
 ·intro k o' c' e1 e2 e3
  by_cases hk:k=id
  ·subst hk
   rw [bself] at e2
   obtain rfl:=Option.some.inj e2
   intro hf;have:=H.fin _ hf;omega
  ·rw [hoth k hk] at e1;rw [both k hk] at e2
   exact H.out k o' c' e1 e2 e3
end Go.Pm
end
section
set_option maxRecDepth 100000
set_option maxHeartbeats 4000000
namespace Go.Pm
open Go.Proofs
section
variable {w:World} {F:Nat→Prop} {β:List (Nat × Nat)}
variable {C:Cfg} (T:Tab C.P)
variable {ops:Array Oper} {i:Nat} {d:Nat} {ty:TypeId} {pos:String} {af:Array Edge} {r:List Oper} {ρ:Nat→PV} {L:List (Nat × PV)} {h:AHeap} {Q:St→Prop}
theorem sliceLo_m1 {P:Program} {t el:TypeId} {id ep len a:Nat} {o:AObj} {k:IntKind} (hu:P.underlying t=some (.slice el)) (hs:tsize P el=some o.esz) (hg:getM h id ep=some o) (ha:a<len) (hle:len≤o.es.length) :
  sliceP P h t (.mref id ep 0 len) (some (.int k (a:Int))) none none=some (.mref id ep a (len - a)):=by
 rw [sliceLo_m hu hs hg (by omega) hle]
 by_cases h0:a=0
 ·subst h0;simp
 ·rw [if_neg h0,if_neg (by omega)]
theorem copyE2 {dt el:TypeId} {sz id ep off len:Nat} {u:PV} {ys:List PV} {o:AObj} (hk:T.kd dt=some (.sl el)) (hs:T.ts el=some sz) (hu:elems h u=some ys) (hg:getM h id ep=some o) (hm:o.mu=.m) (hz:o.esz=sz) (hle:off+len≤o.es.length)
  (hy:ys.all (fun v=>decide ((cells v).length=sz))=true) (hy1:(ys.take (min ys.length len)).all (fun v=>decide ((cells v).length=sz) && (cells v).all oneC)=true) :
  copyP C.P 2 h dt (.mref id ep off len) u=some (.int .i64 (min ys.length len:Nat),h.set id {o with es:=o.es.take off++ys.take (min ys.length len)++o.es.drop (off+min ys.length len) }):=by
 unfold copyP
 rw [kd_sl (T.hkd _ _ hk),hu]
 simp only [T.hts _ _ hs,hg]
 rw [if_pos ⟨Nat.le_refl _,hm,hz.symm,hle,hy,hy1⟩]
theorem R.copy {dt xt el:TypeId} {sz id ep off len:Nat} {u:PV} {ys:List PV} {o:AObj} {x y:Operand} (hx:evL L x=some (.mref id ep off len)) (hyy:evL L y=some u) (hk:T.kd dt=some (.sl el)) (hs:T.ts el=some sz) (hu:elems h u=some ys) (hg:getM h id ep=some o) (hm:o.mu=.m) (hz:o.esz=sz) (hle:off+len≤o.es.length)
  (hy:ys.all (fun v=>decide ((cells v).length=sz))=true) (hy1:(ys.take (min ys.length len)).all (fun v=>decide ((cells v).length=sz) && (cells v).all oneC)=true)
  (kk:EvOps C ops r ⟨al ((d,.int .i64 (min ys.length len:Nat))::L) ρ,h.set id {o with es:=o.es.take off++ys.take (min ys.length len)++o.es.drop (off+min ys.length len) }⟩ Q) :
  EvOps C ops (⟨some d,.call ⟨.builtin .copy,#[x,y],#[dt,xt]⟩,ty,pos,af,none⟩::r) ⟨al L ρ,h⟩ Q:=by
 refine EvOps.valL (fun run=>?_) kk
 have hap:=copyE2 T hk hs hu hg hm hz hle hy hy1
 simp only [opVal,builtinP,List.map_cons,List.map_nil,evL_ev hx,evL_ev hyy,hap]
theorem D.copy {dt xt el:TypeId} {sz id ep off len L0:Nat} {own:List Nat} {u:PV} {ys:List PV} {o:AObj} {x y:Operand} (hl2:level ops (before ops) i=2) (hx:evL L x=some (.mref id ep off len)) (hyy:evL L y=some u) (hk:T.kd dt=some (.sl el)) (hs:T.ts el=some sz) (hu:elems h u=some ys) (hg:getM h id ep=some o) (hm:o.mu=.m) (hz:o.esz=sz) (hle:off+len≤o.es.length)
  (hy:ys.all (fun v=>decide ((cells v).length=sz))=true) (hy1:(ys.take (min ys.length len)).all (fun v=>decide ((cells v).length=sz) && (cells v).all oneC)=true)
  (kk:EvD C ops (i+1) r ⟨⟨al ((d,.int .i64 (min ys.length len:Nat))::L) ρ,h.set id {o with es:=o.es.take off++ys.take (min ys.length len)++o.es.drop (off+min ys.length len) }⟩,(h.set id {o with es:=o.es.take off++ys.take (min ys.length len)++o.es.drop (off+min ys.length len) }).length,[]⟩ Q) :
  EvD C ops i (⟨some d,.call ⟨.builtin .copy,#[x,y],#[dt,xt]⟩,ty,pos,af,none⟩::r) ⟨⟨al L ρ,h⟩,L0,own⟩ Q:=by
 refine EvD.two rfl hl2 ⟨0,fun n _=>?_⟩ kk
 have hap:=copyE2 T hk hs hu hg hm hz hle hy hy1
 simp only [opVal,builtinP,List.map_cons,List.map_nil,evL_ev hx,evL_ev hyy,hap]
end
def tlC:Nat→Code→Code
 | 0,c=>c
 | n+1,.seq _ b=>tlC n b
 | _,c=>c
attribute [local irreducible] thenQ blockQ loopQ bodyQ Ev EvOps CallEv FnEv EvD
namespace Zero
noncomputable def c63:Code:=match Tryz.f91.body with | some c=>c | none=>.skip
theorem body63:Tryz.f91.body=some c63:=rfl
variable {w:World} {F:Nat→Prop} {β:List (Nat × Nat)}
theorem ins_pre {h:AHeap} {id ep len i N:Nat} {o:AObj} {fl:Bool} {e:PV} {a:Act} {Q:Exit→Act→World→Prop} (hg:getM h id ep=some o) (hz:o.esz=5) (hle:len≤o.es.length) (hi:i<len) (hn:len<100000000) (hN:N=Tryz.f91.ntmps)
  (RR:SR N w F β ⟨envOf [.mref id ep 0 len,.int .i64 (i:Int),.snap fl [e]],h⟩ a)
  (k:∀ a' w' β' ρ',SR N w' F β' ⟨al [(0,.mref id ep 0 len),(1,.int .i64 (i:Int)),(2,.snap fl [e]),(7,.int .i64 1),(8,.int .i64 (len:Int))] ρ',h⟩ a'→Stp w h β w' h β'→(tlC 6 c63).wp C0.P Q a' w'):c63.wp C0.P Q a w:=by
 subst hN
 have hu:C0.P.underlying 26=some (.slice 66):=kd_sl (T6.hkd 26 _ rfl)
 have hsz:tsize C0.P 66=some o.esz:=by rw [hz];exact T6.hts 66 5 rfl
 have hl1:([e]:List PV).length=1:=rfl
 refine wp_seq ?_
 refine ev_wp K0 mixed0 S0 (M:=fun ex s'=>ex=.normal∧∃ ρ',s'=⟨al [(0,.mref id ep 0 len),(1,.int .i64 (i:Int)),(2,.snap fl [e])] ρ',h⟩) rfl ?_ RR ?_
 ·rw [envOf_al]
  (repeat' (first | refine EvOps.nil ?_ | (apply R.assign;exact rfl) | refine Ev.region ?_ | fail))
  exact ⟨rfl,_,St.keep ⟨rfl,rfl,rfl,trivial⟩⟩
 rintro ex s' a1 w1 β1 ⟨rfl,ρ1,rfl⟩ R1 S1
 refine wp_seq ?_
 refine ev_wp K0 mixed0 S0 (M:=fun ex s'=>ex=.normal∧∃ ρ',s'=⟨al [(0,.mref id ep 0 len),(1,.int .i64 (i:Int)),(2,.snap fl [e])] ρ',h⟩) rfl ?_ R1 ?_
 ·(repeat' (first | (apply R.move;exact rfl) | refine Ev.region ?_ | fail))
  apply R.slice
  ·exact rfl
  ·exact rfl
  ·exact rfl
  ·exact rfl
  ·exact sliceLo_m1 hu hsz hg hi hle
  (repeat' (first | refine EvOps.nil ?_ | fail))
  exact ⟨rfl,_,St.keep ⟨rfl,rfl,rfl,trivial⟩⟩
 rintro ex s' a2 w2 β2 ⟨rfl,ρ2,rfl⟩ R2 S2
 refine wp_seq ?_
 refine ev_wp K0 mixed0 S0 (M:=fun ex s'=>ex=.normal∧∃ ρ',s'=⟨al [(0,.mref id ep 0 len),(1,.int .i64 (i:Int)),(2,.snap fl [e]),(7,.int .i64 1)] ρ',h⟩) rfl ?_ R2 ?_
 ·(repeat' (first | refine EvOps.nil ?_ | (apply R.move;exact rfl) | (apply R.assign;exact rfl) | (apply R.lenS T6;exact rfl;exact rfl) | refine Ev.region ?_ | fail))
  exact ⟨rfl,_,St.keep ⟨rfl,rfl,rfl,rfl,trivial⟩⟩
 rintro ex s' a3 w3 β3 ⟨rfl,ρ3,rfl⟩ R3 S3
 refine wp_seq ?_
 refine ev_wp K0 mixed0 S0 (M:=fun ex s'=>ex=.normal∧∃ ρ',s'=⟨al [(0,.mref id ep 0 len),(1,.int .i64 (i:Int)),(2,.snap fl [e]),(7,.int .i64 1)] ρ',h⟩) rfl ?_ R3 ?_
 ·(repeat' (first | refine EvOps.nil ?_ | (apply R.move;exact rfl) | (apply R.cmp;exact rfl;exact rfl;exact rfl;all_goals intro hc;all_goals (try (exfalso;omega))) | refine Ev.seq ?_ | refine Ev.region ?_ | (apply Ev.condB;exact rfl) | refine Ev.skip ?_ | refine thenQ.normal ?_ | fail))
  exact ⟨rfl,_,St.keep ⟨rfl,rfl,rfl,rfl,trivial⟩⟩
 rintro ex s' a4 w4 β4 ⟨rfl,ρ4,rfl⟩ R4 S4
 refine wp_seq ?_
 refine ev_wp K0 mixed0 S0 (M:=fun ex s'=>ex=.normal∧∃ ρ',s'=⟨al [(0,.mref id ep 0 len),(1,.int .i64 (i:Int)),(2,.snap fl [e]),(7,.int .i64 1),(8,.int .i64 (len:Int))] ρ',h⟩) rfl ?_ R4 ?_
 ·(repeat' (first | (apply R.move;exact rfl) | refine Ev.region ?_ | fail))
  apply R.lenM T6 (o:=o);exact rfl;exact rfl;exact hg;exact (by omega)
  (repeat' (first | refine EvOps.nil ?_ | (apply R.assign;exact rfl) | fail))
  exact ⟨rfl,_,St.keep ⟨rfl,rfl,rfl,rfl,rfl,trivial⟩⟩
 rintro ex s' a5 w5 β5 ⟨rfl,ρ5,rfl⟩ R5 S5
 refine wp_seq ?_
 refine ev_wp K0 mixed0 S0 (M:=fun ex s'=>ex=.normal∧∃ ρ',s'=⟨al [(0,.mref id ep 0 len),(1,.int .i64 (i:Int)),(2,.snap fl [e]),(7,.int .i64 1),(8,.int .i64 (len:Int))] ρ',h⟩) rfl ?_ R5 ?_
 ·(repeat' (first | refine EvOps.nil ?_ | (apply R.move;exact rfl) | (apply R.cmp;exact rfl;exact rfl;exact rfl;all_goals intro hc;all_goals (try (exfalso;omega))) | refine Ev.seq ?_ | refine Ev.region ?_ | (apply Ev.condB;exact rfl) | refine Ev.skip ?_ | refine thenQ.normal ?_ | fail))
  exact ⟨rfl,_,St.keep ⟨rfl,rfl,rfl,rfl,rfl,trivial⟩⟩
 rintro ex s' a6 w6 β6 ⟨rfl,ρ6,rfl⟩ R6 S6
 exact k _ _ _ _ R6 (((((S1.trans S2).trans S3).trans S4).trans S5).trans S6)
end Zero
end Go.Pm
end
section
set_option maxRecDepth 100000
set_option maxHeartbeats 4000000
namespace Go.Pm
open Go.Proofs
theorem shift_list {pre:List PV} {X e:PV} {i:Nat} (hi:i<pre.length) {ys es2:List PV} (hys:ys=((pre++[X]).drop i).take (pre.length+1 - i)) (hes2:es2=(pre++[X]).take (i+1)++ys.take (pre.length - i)++(pre++[X]).drop (i+1+(pre.length - i))) :
  ys.take (pre.length - i)=pre.drop i∧es2.length=pre.length+1∧es2.take i++[e]++es2.drop (i+1)=pre.take i++[e]++pre.drop i:=by
 have h1:ys.take (pre.length - i)=pre.drop i:=by
  rw [hys,List.take_take,List.drop_append_of_le_length (by omega)]
  rw [List.take_append_of_le_length (by simp;omega)]
  rw [List.take_of_length_le (by simp;omega)]
 have h2:(pre++[X]).drop (i+1+(pre.length - i))=[]:=List.drop_eq_nil_of_le (by simp;omega)
 have h3:es2=(pre++[X]).take (i+1)++pre.drop i:=by rw [hes2,h1,h2];simp
 have h4:((pre++[X]).take (i+1)).length=i+1:=by simp;omega
 refine ⟨h1,by rw [h3];simp;omega,?_⟩
 congr 1
 ·congr 1
  rw [h3,List.take_append_of_le_length (by omega),List.take_take,List.take_append_of_le_length (by omega)]
  congr 1;omega
 ·rw [h3,List.drop_append_of_le_length (by omega),List.drop_eq_nil_of_le (by omega),List.nil_append]
attribute [local irreducible] thenQ blockQ loopQ bodyQ Ev EvOps CallEv FnEv EvD
namespace Zero
variable {w:World} {F:Nat→Prop} {β:List (Nat × Nat)}
theorem ins_shift {h:AHeap} {id ep len i:Nat} {o:AObj} {fl:Bool} {e X:PV} {pre:List PV} {vs:List Value} (H:HRel w F β h) (ha:L2 (VRel w (Av F h β) β h) vs [.mref id ep 0 len,.int .i64 (i:Int),.snap fl [e]])
  (hg:getM h id ep=some o) (hm:o.mu=.m) (hz:o.esz=5) (hes:o.es=pre++[X]) (hpl:pre.length=len) (hi:i<len) (hn:len<100000000) (hok:pre.all (okV 5)=true) (hX:(cells X).length=5) (he:okV 5 e=true) (hcl:closedH h=true) :
  CSim C0.P 2 w F β h 91 vs (.mref id ep 0 (len+1)) (h.set id {o with es:=pre.take i++[e]++pre.drop i }):=by
 have hel:o.es.length=len+1:=by rw [hes];simp [hpl]
 have hu:C0.P.underlying 26=some (.slice 66):=kd_sl (T6.hkd 26 _ rfl)
 have hs63:tsize C0.P 66=some 5:=T6.hts 66 5 rfl
 have hsz:tsize C0.P 66=some o.esz:=by rw [hz];exact hs63
 obtain ⟨g1,g2,g3⟩:=getM_some hg
 have hlt:=lt_of_some g1
 obtain ⟨bc,hbc⟩:=beta_at H.len g1
 obtain ⟨T,cs,k1,k2,k3,k4,k5⟩:=H.obj id o bc g1 hbc g3
 have hcap:len+1≤bc.2:=by omega
 have hvis:visible h id=true:=by unfold visible;rw [g1];simp [hm]
 have hj:((len:Int)+1)=((len+1:Nat):Int):=by omega
 have hj2:((i:Int)+1)=((i+1:Nat):Int):=by omega
 have hb':∀ {w':World} {β':List (Nat × Nat)},Stp w h β w' h β'→β'[id]?=some bc:=by
  intro w' β' S
  obtain ⟨o',bc',f1,f2,f3,f4,f5⟩:=S.refs id o bc g1 hbc g3
  obtain rfl:=Option.some.inj (g1.symm.trans f1)
  rw [f2,(f5 rfl).2.2]
 refine csim_wp (P:=C0.P) (c:=c63) Tryz.func91 body63 H ha (fun a RR=>ins_pre hg hz (by omega) hi hn rfl RR (fun a1 w1 β1 ρ1 R1 S1=>?_))
 refine wp_seq ?_
 refine wp_seq ?_
 apply region_special K0 S0 (pre:=[_,_,_,_]) (post:=[_]) (R:=R1) (M:=fun s'=>∃ ρ',s'=⟨al ((28,.int .i64 ((len:Int)+1))::(29,.mref id ep 0 len)::[(0,.mref id ep 0 len),(1,.int .i64 (i:Int)),(2,.snap fl [e]),(7,.int .i64 1),(8,.int .i64 (len:Int))]) ρ',h⟩) (M2:=fun s'=>∃ ρ',s'=⟨al ((31,.bool false)::[(0,.mref id ep 0 len),(1,.int .i64 (i:Int)),(2,.snap fl [e]),(7,.int .i64 1),(8,.int .i64 (len:Int))]) ρ',h⟩)
 ·rfl
 ·rfl
 ·(repeat' (first | refine EvOps.nil ?_ | (apply R.move;exact rfl) | (apply R.arith;exact rfl;exact rfl;exact rfl;exact (wrapI (by omega) (by omega))) | fail))
  exact ⟨_,St.keep ⟨rfl,rfl,rfl,rfl,rfl,rfl,rfl,trivial⟩⟩
 ·rintro s1 a2 w2 β2 ⟨ρ2,rfl⟩ R2 S2
  refine ⟨.int .i64 (bc.2:Int),h,cap_osim (t:=26) (x:=.tmp 29) R2.hr R2.er hu (lk_al (t:=29) rfl ρ2) hg (hb' (S1.trans S2)) (by omega) _ rfl,?_⟩
  show EvOps C0 _ _ ⟨updO (al _ ρ2) (some 30) (.int .i64 (bc.2:Int)),h⟩ _
  rw [al_cons]
  (repeat' (first | refine EvOps.nil ?_ | (apply R.cmp;exact rfl;exact rfl;exact rfl;all_goals intro hc;all_goals (try (exfalso;omega))) | fail))
  exact ⟨_,St.keep ⟨rfl,rfl,rfl,rfl,rfl,rfl,trivial⟩⟩
 rintro s3 a3 w3 β3 ⟨ρ3,rfl⟩ R3 S3
 refine ev_wp K0 mixed0 S0 (M:=fun ex s'=>ex=.normal∧∃ ρ',s'=⟨al [(0,.mref id ep 0 len),(1,.int .i64 (i:Int)),(2,.snap fl [e]),(7,.int .i64 1),(8,.int .i64 (len:Int))] ρ',h⟩) rfl ?_ R3 ?_
 ·(repeat' (first | (apply Ev.condB;exact rfl) | refine Ev.skip ?_ | fail))
  exact ⟨rfl,_,St.keep ⟨rfl,rfl,rfl,rfl,rfl,trivial⟩⟩
 rintro ex s' a4 w4 β4 ⟨rfl,ρ4,rfl⟩ R4 S4
 refine wp_seq ?_
 refine ev_wp K0 mixed0 S0 (M:=fun ex s'=>ex=.normal∧∃ ρ',s'=⟨al [(0,.mref id ep 0 (len+1)),(1,.int .i64 (i:Int)),(2,.snap fl [e]),(7,.int .i64 1)] ρ',h⟩) rfl ?_ R4 ?_
 ·(repeat' (first | (apply R.move;exact rfl) | (apply R.arith;exact rfl;exact rfl;exact rfl;exact (wrapI (by omega) (by omega))) | refine Ev.region ?_ | fail))
  apply R.slice
  ·exact rfl
  ·exact rfl
  ·exact rfl
  ·exact rfl
  ·show sliceP C0.P h 26 (.mref id ep 0 len) none (some (.int .i64 ((len:Int)+1))) none=_
   rw [hj]
   exact sliceBeyond0_m hu hsz hg (by omega) (by omega)
  (repeat' (first | refine EvOps.nil ?_ | (apply R.assign;exact rfl) | fail))
  exact ⟨rfl,_,St.keep ⟨rfl,rfl,rfl,rfl,trivial⟩⟩
 rintro ex s' a5 w5 β5 ⟨rfl,ρ5,rfl⟩ R5 S5
 refine wp_seq ?_
 refine wp_seq ?_
 apply region_special K0 S0 (pre:=[_,_,_,_,_,_]) (post:=[_]) (R:=R5) (M:=fun s'=>∃ ρ',s'=⟨al ((61,.snap fl [e])::(66,.mref id ep (i+1) (len+1 - (i+1)))::[(0,.mref id ep 0 (len+1)),(1,.int .i64 (i:Int)),(2,.snap fl [e]),(7,.int .i64 1)]) ρ',h⟩) (M2:=fun s'=>∃ ρ',s'=⟨al ((68,.bool true)::[(0,.mref id ep 0 (len+1)),(1,.int .i64 (i:Int)),(2,.snap fl [e]),(7,.int .i64 1)]) ρ',h⟩)
 ·rfl
 ·rfl
 ·(repeat' (first | (apply R.move;exact rfl) | (apply R.arith;exact rfl;exact rfl;exact rfl;exact (wrapI (by omega) (by omega))) | fail))
  apply R.slice
  ·exact rfl
  ·exact rfl
  ·exact rfl
  ·exact rfl
  ·show sliceP C0.P h 26 (.mref id ep 0 (len+1)) (some (.int .i64 ((i:Int)+1))) none none=_
   rw [hj2]
   exact sliceLo_m1 hu hsz hg (by omega) (by omega)
  (repeat' (first | refine EvOps.nil ?_ | fail))
  exact ⟨_,St.keep ⟨rfl,rfl,rfl,rfl,rfl,rfl,trivial⟩⟩
 ·rintro s1 a6 w6 β6 ⟨ρ6,rfl⟩ R6 S6
  refine ⟨.bool false,h,overlaps_osim (t:=26) (tR:=4) (x:=.tmp 61) (y:=.tmp 66) (f:=113) R6.hr R6.er hu hs63 (lk_al (t:=61) rfl ρ6) (lk_al (t:=66) rfl ρ6) hg hm (by omega) Tryz.func113 (by kernel_rfl) (by kernel_rfl) (by kernel_rfl) (by kernel_rfl) _ rfl,?_⟩
  show EvOps C0 _ _ ⟨updO (al _ ρ6) (some 67) (.bool false),h⟩ _
  rw [al_cons]
  (repeat' (first | refine EvOps.nil ?_ | (apply R.not;exact rfl;exact rfl) | fail))
  exact ⟨_,St.keep ⟨rfl,rfl,rfl,rfl,rfl,trivial⟩⟩
 rintro s7 a7 w7 β7 ⟨ρ7,rfl⟩ R7 S7
 obtain ⟨ys,hys⟩:∃ ys,ys=((pre++[X]).drop i).take (pre.length+1 - i):=⟨_,rfl⟩
 obtain ⟨es2,hes2⟩:∃ es2,es2=(pre++[X]).take (i+1)++ys.take (pre.length - i)++(pre++[X]).drop (i+1+(pre.length - i)):=⟨_,rfl⟩
 obtain ⟨l1,l2,l3⟩:=shift_list (e:=e) (by omega) hys hes2
 rw [hpl] at l1 l2
 have hyl:ys.length=len+1 - i:=by rw [hys];simp;omega
 have hymem:∀ v∈ys,(cells v).length=5:=by
  intro v hv
  rw [hys] at hv
  have:=List.mem_of_mem_drop (List.mem_of_mem_take hv)
  rcases List.mem_append.1 this with hv | hv
  ·have:=List.all_eq_true.1 hok v hv
   unfold okV at this
   simp only [Bool.and_eq_true,decide_eq_true_eq] at this
   exact this.1.2
  ·obtain rfl:=List.mem_singleton.1 hv
   exact hX
 have he2:(cells e).length=5∧(cells e).all oneC=true:=by
  unfold okV at he
  simp only [Bool.and_eq_true,decide_eq_true_eq] at he
  exact ⟨he.1.2,he.2⟩
 have hmn:min ys.length (len+1 - (i+1))=len - i:=by omega
 have hh2:h.set id {o with es:=o.es.take (i+1)++ys.take (min ys.length (len+1 - (i+1)))++o.es.drop (i+1+min ys.length (len+1 - (i+1))) }=h.set id {o with es:=es2 }:=by
  rw [hmn,hes,hes2,hpl]
 have hg2:getM (h.set id {o with es:=es2 }) id ep=some {o with es:=es2 }:=getM_at (List.getElem?_set_self hlt) g2 (by show o.mu≠.x;rw [hm];simp)
 have hmn2:min ([e]:List PV).length (len+1 - i)=1:=by show min 1 _=1;omega
 have hfin:(h.set id {o with es:=es2 }).set id { ({o with es:=es2 }:AObj) with es:=es2.take i++[e].take (min ([e]:List PV).length (len+1 - i))++es2.drop (i+min ([e]:List PV).length (len+1 - i)) }=h.set id {o with es:=pre.take i++[e]++pre.drop i }:=by
  rw [List.set_set,hmn2,← l3];rfl
 refine ev_wp K0 mixed0 S0 (M:=fun ex s'=>ex=.ret∧∃ ρ',s'=⟨al [(6,.mref id ep 0 (len+1))] ρ',h.set id {o with es:=pre.take i++[e]++pre.drop i }⟩) rfl ?_ R7 ?_
 ·(repeat' (first | refine Ev.seq ?_ | refine Ev.regionD ?_ | (apply D.move;exact rfl) | (apply D.arith;exact rfl;exact rfl;exact rfl;exact (wrapI (by omega) (by omega))) | (apply Ev.condB;exact rfl) | fail))
  apply D.slice
  ·exact hcl
  ·exact rfl
  ·exact hvis
  ·exact rfl
  ·exact rfl
  ·exact rfl
  ·exact rfl
  ·exact rfl
  ·exact rfl
  ·show sliceP C0.P h 26 (.mref id ep 0 (len+1)) (some (.int .i64 ((i:Int)+1))) none none=_
   rw [hj2]
   exact sliceLo_m1 hu hsz hg (by omega) (by omega)
  (repeat' (first | (apply D.move;exact rfl) | fail))
  apply D.slice
  ·exact hcl
  ·exact rfl
  ·exact hvis
  ·exact rfl
  ·exact rfl
  ·exact rfl
  ·exact rfl
  ·exact rfl
  ·exact rfl
  ·exact sliceLo_m1 hu hsz hg (by omega) (by omega)
  apply D.copy T6 (ys:=ys) (o:=o) (sz:=5)
  ·exact rfl
  ·exact rfl
  ·exact rfl
  ·exact rfl
  ·exact rfl
  ·simp only [elems,hg]
   rw [if_pos (by omega),hes,hys,hpl]
  ·exact hg
  ·exact hm
  ·exact hz
  ·omega
  ·rw [List.all_eq_true]
   intro v hv
   simp [hymem v hv]
  ·rw [hmn,l1,List.all_eq_true]
   intro v hv
   have:=List.all_eq_true.1 hok v (List.mem_of_mem_drop hv)
   unfold okV at this
   simp only [Bool.and_eq_true] at this ⊢
   exact ⟨this.1.2,this.2⟩
  refine EvD.heap hh2 ?_
  (repeat' (first | (apply R.move;exact rfl) | refine Ev.seq ?_ | refine Ev.region ?_ | refine EvD.nil ?_ | refine thenQ.normal ?_ | fail))
  apply R.slice
  ·exact rfl
  ·exact rfl
  ·exact rfl
  ·exact rfl
  ·exact sliceLo_m1 (o:={o with es:=es2 }) hu hsz hg2 (by omega) (by show len+1≤es2.length;omega)
  (repeat' (first | (apply R.move;exact rfl) | fail))
  apply R.copy T6 (ys:=[e]) (o:={o with es:=es2 }) (sz:=5)
  ·exact rfl
  ·exact rfl
  ·exact rfl
  ·exact rfl
  ·exact rfl
  ·exact hg2
  ·exact hm
  ·exact hz
  ·show i+(len+1 - i)≤es2.length;omega
  ·simp [he2.1]
  ·simp only [hmn2,List.take_succ_cons,List.take_zero,List.all_cons,List.all_nil,he2.1,he2.2];rfl
  (repeat' (first | refine EvOps.nil ?_ | (apply R.move;exact rfl) | (apply R.assign;exact rfl) | refine Ev.seq ?_ | refine Ev.region ?_ | refine Ev.ret ?_ | refine thenQ.normal ?_ | fail))
  exact ⟨rfl,_,(congrArg (fun hh=>(⟨_,hh⟩:St)) hfin).trans (St.keep ⟨rfl,trivial⟩)⟩
 rintro ex s8 a8 w8 β8 ⟨rfl,ρ8,rfl⟩ R8 S8
 refine ⟨.inr rfl,_,β8,R8,(((((S1.trans S3).trans S4).trans S5).trans S7).trans S8),[.mref id ep 0 (len+1)],?_,fun u hu'=>⟨β8,hu',R8.hr,(((((S1.trans S3).trans S4).trans S5).trans S7).trans S8)⟩⟩
 ·exact resT_of (L:=[(6,.mref id ep 0 (len+1))]) rfl
 all_goals rfl
end Zero
end Go.Pm
end
section
set_option maxRecDepth 100000
set_option maxHeartbeats 4000000
namespace Go.Pm
open Go.Proofs
mutual
theorem visR_mono {f g:Nat→Bool} (hfg:∀ i,f i=true→g i=true):∀ p,visR f p=true→visR g p=true
 | .int ..,_ | .bool _,_ | .str _,_ | .nilp,_ | .nilf,_ | .snap ..,_ | .sptr _,_ | .undef,_ | .any,_=>rfl
 | .agg cs,h=>by simp only [visR] at h ⊢;exact visRs_mono hfg cs h
 | .tup cs,h=>by simp only [visR] at h ⊢;exact visRs_mono hfg cs h
 | .fn _ cs,h=>by simp only [visR] at h ⊢;exact visRs_mono hfg cs h
 | .bfn _ _ cs,h=>by simp only [visR] at h ⊢;exact visRs_mono hfg cs h
 | .mref ..,h=>by simp only [visR] at h ⊢;exact hfg _ h
 | .ptr ..,h=>by simp only [visR] at h ⊢;exact hfg _ h
theorem visRs_mono {f g:Nat→Bool} (hfg:∀ i,f i=true→g i=true):∀ cs,visRs f cs=true→visRs g cs=true
 | [],_=>rfl
 | c::r,h=>by
  simp only [visRs,Bool.and_eq_true] at h ⊢
  exact ⟨visR_mono hfg c h.1,visRs_mono hfg r h.2⟩
end
theorem closed_mono {h h':AHeap} (hv:∀ i,visible h i=true→visible h' i=true) (ho:∀ o'∈h',o'.mu=.x∨visRs (visible h') o'.es=true∨∃ o∈h,o.es=o'.es∧(o.mu=.x→o'.mu=.x)) (hcl:closedH h=true):closedH h'=true:=by
 unfold closedH at hcl ⊢
 rw [List.all_eq_true] at hcl ⊢
 intro o' h1
 rcases ho o' h1 with h2 | h2 | ⟨o,h2,h3,h4⟩
 ·simp [h2]
 ·rw [h2];simp
 ·have:=hcl o h2
  simp only [Bool.or_eq_true,decide_eq_true_eq] at this ⊢
  rcases this with hh | hh
  ·exact .inl (h4 hh)
  ·exact .inr (by rw [← h3];exact visRs_mono hv _ hh)
theorem closed_lock {h:AHeap} (hcl:closedH h=true):closedH (h.map lock1)=true:=by
 refine closed_mono (h:=h) (fun i hi=>?_) (fun o' h1=>?_) hcl
 ·unfold visible at hi ⊢
  rw [List.getElem?_map]
  split at hi
  ·rename_i o ho
   rw [ho]
   simp only [Option.map_some,decide_eq_true_eq] at hi ⊢
   exact fun hh=>hi ((lock1_shape o).2.2.2.1.1 hh)
  ·cases hi
 ·obtain ⟨o,h2,rfl⟩:=List.mem_map.1 h1
  exact .inr (.inr ⟨o,h2,(lock1_shape o).2.2.1.symm,fun hh=>(lock1_shape o).2.2.2.1.2 hh⟩)
theorem closed_push {h:AHeap} {n sz:Nat} {es:List PV} (hv:isVals es=true) (hcl:closedH h=true):closedH (h++[⟨.m,n,sz,es⟩])=true:=by
 refine closed_mono (h:=h) (fun i hi=>?_) (fun o' h1=>?_) hcl
 ·unfold visible at hi ⊢
  split at hi
  ·rename_i o ho
   rw [List.getElem?_append_left (lt_of_some ho),ho]
   exact hi
  ·cases hi
 ·rcases List.mem_append.1 h1 with h1 | h1
  ·exact .inr (.inr ⟨o',h1,rfl,fun hh=>hh⟩)
  ·obtain rfl:=List.mem_singleton.1 h1
   exact .inr (.inl (vis_vals _ _ hv))
theorem grow_list {es:List PV} {Z e:PV} {i len:Nat} (hi:i<len) (hl:len≤es.length) {es1 es2 ys:List PV} (h1:es1=es.take i++List.replicate (len+1 - i) Z) (h2:es2=es1.take i++[e]++es1.drop (i+1)) (h3:ys=(es.drop i).take (len - i)) :
  es1.length=len+1∧es2.length=len+1∧ys.length=len - i∧ys=(es.take len).drop i∧es2.take (i+1)++ys++es2.drop (i+1+(len - i))=(es.take len).take i++[e]++(es.take len).drop i:=by
 have a1:es1.length=len+1:=by rw [h1];simp;omega
 have a2:es2.length=len+1:=by rw [h2];simp;omega
 have a3:ys.length=len - i:=by rw [h3];simp;omega
 have a4:ys=(es.take len).drop i:=by rw [h3,List.drop_take]
 refine ⟨a1,a2,a3,a4,?_⟩
 rw [List.drop_eq_nil_of_le (by omega),List.append_nil,a4]
 congr 1
 rw [h2,List.take_append_of_le_length (by simp;omega),List.take_of_length_le (by simp;exact Nat.min_le_left _ _)]
 congr 1
 rw [h1,List.take_append_of_le_length (by simp;omega),List.take_take,List.take_take]
 congr 1;omega
theorem at_push {h:AHeap} {o:AObj} (hm:o.mu≠.x):getM (h++[o]) h.length o.ep=some o:=getM_at (by simp) rfl hm
theorem at_old {h k:AHeap} {id ep:Nat} {o:AObj} (hg:getM h id ep=some o):getM (h++k) id ep=some o:=by
 obtain ⟨g1,g2,g3⟩:=getM_some hg
 exact getM_at (by rw [List.getElem?_append_left (lt_of_some g1)];exact g1) g2 g3
theorem set_push {h:AHeap} {o o':AObj}:(h++[o]).set h.length o'=h++[o']:=by
 rw [List.set_append_right _ _ (Nat.le_refl _)];simp
attribute [local irreducible] thenQ blockQ loopQ bodyQ Ev EvOps CallEv FnEv EvD
namespace Zero
variable {w:World} {F:Nat→Prop} {β:List (Nat × Nat)}
theorem ins_grow {h:AHeap} {id ep len i:Nat} {o:AObj} {bc:Nat × Nat} {fl:Bool} {e:PV} {vs:List Value} (H:HRel w F β h) (ha:L2 (VRel w (Av F h β) β h) vs [.mref id ep 0 len,.int .i64 (i:Int),.snap fl [e]])
  (hg:getM h id ep=some o) (hz:o.esz=5) (hle:len≤o.es.length) (hbc:β[id]?=some bc) (hcap:bc.2<len+1) (hi:i<len) (hn:len<100000000) (hok:(o.es.take len).all (okV 5)=true) (he:okV 5 e=true) (hcl:closedH h=true) :
  CSim C0.P 2 w F β h 91 vs (.mref h.length 0 0 (len+1)) (h++[⟨.m,0,5,(o.es.take len).take i++[e]++(o.es.take len).drop i⟩]):=by
 have hu:C0.P.underlying 26=some (.slice 66):=kd_sl (T6.hkd 26 _ rfl)
 have hs63:tsize C0.P 66=some 5:=T6.hts 66 5 rfl
 have hsz:tsize C0.P 66=some o.esz:=by rw [hz];exact hs63
 obtain ⟨g1,g2,g3⟩:=getM_some hg
 have hlt:=lt_of_some g1
 have hj:((i:Int)+1)=((i+1:Nat):Int):=by omega
 have hj3:((len:Int)+1 - (i:Int))=((len+1 - i:Nat):Int):=by omega
 have hin:i+(len+1 - i)=len+1:=by omega
 have hb':∀ {w':World} {β':List (Nat × Nat)},Stp w h β w' h β'→β'[id]?=some bc:=by
  intro w' β' S
  obtain ⟨o',bc',f1,f2,f3,f4,f5⟩:=S.refs id o bc g1 hbc g3
  obtain rfl:=Option.some.inj (g1.symm.trans f1)
  rw [f2,(f5 rfl).2.2]
 obtain ⟨es1,hes1⟩:∃ es1,es1=o.es.take i++List.replicate (len+1 - i) (.agg [.int .i64 0,.str ByteArray.empty,.int .i64 0,.snap true [],.int .i64 0]:PV):=⟨_,rfl⟩
 obtain ⟨es2,hes2⟩:∃ es2,es2=es1.take i++[e]++es1.drop (i+1):=⟨_,rfl⟩
 obtain ⟨ys,hys⟩:∃ ys,ys=(o.es.drop i).take (len - i):=⟨_,rfl⟩
 obtain ⟨l1,l2,l3,l4,l5⟩:=grow_list hi hle hes1 hes2 hys
 have he2:(cells e).length=5∧(cells e).all oneC=true∧isVal e=true:=by
  unfold okV at he
  simp only [Bool.and_eq_true,decide_eq_true_eq] at he
  exact ⟨he.1.2,he.2,he.1.1⟩
 have hyok:ys.all (okV 5)=true:=by
  rw [l4,List.all_eq_true]
  intro v hv
  exact List.all_eq_true.1 hok v (List.mem_of_mem_drop hv)
 have hv1:isVals es1=true:=by
  rw [hes1,isVals_eq,List.all_append,← isVals_eq]
  have:isVals (o.es.take i)=true:=by
   refine okV_vals (sz:=5) ?_
   rw [List.all_eq_true]
   intro v hv
   refine List.all_eq_true.1 hok v ?_
   have:o.es.take i=(o.es.take len).take i:=by rw [List.take_take];congr 1;omega
   rw [this] at hv
   exact List.mem_of_mem_take hv
  rw [this,Bool.true_and,List.all_eq_true]
  intro v hv
  obtain rfl:=List.eq_of_mem_replicate hv
  rfl
 have hv2:isVals es2=true:=by
  rw [isVals_eq,List.all_eq_true] at hv1 ⊢
  intro v hv
  rw [hes2] at hv
  rcases List.mem_append.1 hv with hv | hv
  ·rcases List.mem_append.1 hv with hv | hv
   ·exact hv1 v (List.mem_of_mem_take hv)
   ·obtain rfl:=List.mem_singleton.1 hv
    exact he2.2.2
  ·exact hv1 v (List.mem_of_mem_drop hv)
 have hcl2:closedH (h++[⟨.m,0,5,es2⟩])=true:=closed_push hv2 hcl
 have hgn:∀ es,getM (h++[⟨.m,0,5,es⟩]) h.length 0=some ⟨.m,0,5,es⟩:=fun es=>at_push (o:=⟨.m,0,5,es⟩) (by simp)
 have hgo:∀ es,getM (h++[⟨.m,0,5,es⟩]) id ep=some o:=fun es=>at_old hg
 have hvis:∀ es,visible (h++[⟨.m,0,5,es⟩]) id=true:=fun es=>by unfold visible;rw [List.getElem?_append_left hlt,g1];simpa using g3
 have hvisn:∀ es,visible (h++[⟨.m,0,5,es⟩]) h.length=true:=fun es=>by unfold visible;simp
 refine csim_wp (P:=C0.P) (c:=c63) Tryz.func91 body63 H ha (fun a RR=>ins_pre hg hz (by omega) hi hn rfl RR (fun a1 w1 β1 ρ1 R1 S1=>?_))
 refine wp_seq ?_
 refine wp_seq ?_
 apply region_special K0 S0 (pre:=[_,_,_,_]) (post:=[_]) (R:=R1) (M:=fun s'=>∃ ρ',s'=⟨al ((28,.int .i64 ((len:Int)+1))::(29,.mref id ep 0 len)::[(0,.mref id ep 0 len),(1,.int .i64 (i:Int)),(2,.snap fl [e]),(7,.int .i64 1),(8,.int .i64 (len:Int))]) ρ',h⟩) (M2:=fun s'=>∃ ρ',s'=⟨al ((31,.bool true)::[(0,.mref id ep 0 len),(1,.int .i64 (i:Int)),(2,.snap fl [e]),(7,.int .i64 1),(8,.int .i64 (len:Int))]) ρ',h⟩)
 ·rfl
 ·rfl
 ·(repeat' (first | refine EvOps.nil ?_ | (apply R.move;exact rfl) | (apply R.arith;exact rfl;exact rfl;exact rfl;exact (wrapI (by omega) (by omega))) | fail))
  exact ⟨_,St.keep ⟨rfl,rfl,rfl,rfl,rfl,rfl,rfl,trivial⟩⟩
 ·rintro s1 a2 w2 β2 ⟨ρ2,rfl⟩ R2 S2
  refine ⟨.int .i64 (bc.2:Int),h,cap_osim (t:=26) (x:=.tmp 29) R2.hr R2.er hu (lk_al (t:=29) rfl ρ2) hg (hb' (S1.trans S2)) (by omega) _ rfl,?_⟩
  show EvOps C0 _ _ ⟨updO (al _ ρ2) (some 30) (.int .i64 (bc.2:Int)),h⟩ _
  rw [al_cons]
  (repeat' (first | refine EvOps.nil ?_ | (apply R.cmp;exact rfl;exact rfl;exact rfl;all_goals intro hc;all_goals (try (exfalso;omega))) | fail))
  exact ⟨_,St.keep ⟨rfl,rfl,rfl,rfl,rfl,rfl,trivial⟩⟩
 rintro s3 a3 w3 β3 ⟨ρ3,rfl⟩ R3 S3
 have ht31:a3.eval (.tmp 31)=.bool true:=by
  have:=R3.er.ev (.tmp 31)
  rw [show ev (al ((31,PV.bool true)::[(0,.mref id ep 0 len),(1,.int .i64 (i:Int)),(2,.snap fl [e]),(7,.int .i64 1),(8,.int .i64 (len:Int))]) ρ3) (.tmp 31)=.bool true from lk_al (t:=31) rfl ρ3] at this
  exact this.bool_inv
 refine wp_cond_true ht31 ?_
 refine wp_seq ?_
 apply region_special K0 S0 (pre:=[_,_,_,_,_,_,_,_]) (post:=[_]) (R:=R3) (M:=fun s'=>∃ ρ',s'=⟨al ((34,.mref id ep 0 i)::(39,.int .i64 ((len:Int)+1 - (i:Int)))::[(0,.mref id ep 0 len),(1,.int .i64 (i:Int)),(2,.snap fl [e]),(7,.int .i64 1),(8,.int .i64 (len:Int))]) ρ',h⟩) (M2:=fun s'=>∃ ρ',s'=⟨al ((9,.mref h.length 0 0 (len+1))::[(0,.mref id ep 0 len),(1,.int .i64 (i:Int)),(2,.snap fl [e]),(7,.int .i64 1),(8,.int .i64 (len:Int))]) ρ',h++[⟨.m,0,5,es1⟩]⟩)
 case ho=>rfl
 case hg=>rfl
 ·(repeat' (first | (apply R.move;exact rfl) | fail))
  apply R.slice
  ·exact rfl
  ·exact rfl
  ·exact rfl
  ·exact rfl
  ·exact sliceHi_m hu hsz hg (by omega) hle
  (repeat' (first | refine EvOps.nil ?_ | (apply R.move;exact rfl) | (apply R.arith;exact rfl;exact rfl;exact rfl;exact (wrapI (by omega) (by omega))) | fail))
  exact ⟨_,St.keep ⟨rfl,rfl,rfl,rfl,rfl,rfl,rfl,trivial⟩⟩
 ·rintro s1 a4 w4 β4 ⟨ρ4,rfl⟩ R4 S4
  have os:=append_osim (P:=C0.P) (st:=26) (xt:=3) (el:=66) (x:=.tmp 34) (y:=.tmp 39) (k:=.i64) (n:=len+1 - i) (len:=i) R4.hr R4.er hu (kd_int (T6.hkd 3 _ rfl)) hs63 (by decide) (T6.htb 66 _ rfl) (by decide) (T6.htz 66 (.agg [.int .i64 0,.str ByteArray.empty,.int .i64 0,.snap true [],.int .i64 0]) rfl) rfl rfl (lk_al (t:=34) rfl ρ4) (by rw [← hj3];exact lk_al (t:=39) rfl ρ4) hg (hb' ((S1.trans S3).trans S4)) (by omega) hz (by omega) (by omega)
  rw [hin,← hes1] at os
  refine ⟨.mref h.length 0 0 (len+1),h++[⟨.m,0,5,es1⟩],os _ rfl,?_⟩
  show EvOps C0 _ _ ⟨updO (al _ ρ4) (some 40) (.mref h.length 0 0 (len+1)),_⟩ _
  rw [al_cons]
  (repeat' (first | refine EvOps.nil ?_ | (apply R.assign;exact rfl) | fail))
  exact ⟨_,St.keep ⟨rfl,rfl,rfl,rfl,rfl,rfl,trivial⟩⟩
 rintro s5 a5 w5 β5 ⟨ρ5,rfl⟩ R5 S5
 have hmn:min ([e]:List PV).length (len+1 - i)=1:=by show min 1 _=1;omega
 have hmn2:min ys.length (len+1 - (i+1))=len - i:=by omega
 have hyt:ys.take (len - i)=ys:=List.take_of_length_le (by omega)
 have hh2:(h++[⟨.m,0,5,es1⟩]:AHeap).set h.length { (⟨.m,0,5,es1⟩:AObj) with es:=es1.take i++[e].take (min ([e]:List PV).length (len+1 - i))++es1.drop (i+min ([e]:List PV).length (len+1 - i)) }=h++[⟨.m,0,5,es2⟩]:=by
  rw [hmn,set_push,hes2];rfl
 have hh3:(h++[⟨.m,0,5,es2⟩]:AHeap).set h.length { (⟨.m,0,5,es2⟩:AObj) with es:=es2.take (i+1)++ys.take (min ys.length (len+1 - (i+1)))++es2.drop (i+1+min ys.length (len+1 - (i+1))) }=h++[⟨.m,0,5,(o.es.take len).take i++[e]++(o.es.take len).drop i⟩]:=by
  rw [hmn2,set_push,hyt,l5]
 refine ev_wp K0 mixed0 S0 (M:=fun ex s'=>ex=.ret∧∃ ρ',s'=⟨al [(6,.mref h.length 0 0 (len+1))] ρ',h++[⟨.m,0,5,(o.es.take len).take i++[e]++(o.es.take len).drop i⟩]⟩) rfl ?_ R5 ?_
 ·(repeat' (first | (apply R.move;exact rfl) | refine Ev.seq ?_ | refine Ev.region ?_ | fail))
  apply R.slice
  ·exact rfl
  ·exact rfl
  ·exact rfl
  ·exact rfl
  ·exact sliceLo_m1 hu hs63 (hgn es1) (by omega) (by show len+1≤es1.length;omega)
  (repeat' (first | (apply R.move;exact rfl) | fail))
  apply R.copy T6 (ys:=[e]) (o:=⟨.m,0,5,es1⟩) (sz:=5)
  ·exact rfl
  ·exact rfl
  ·exact rfl
  ·exact rfl
  ·exact rfl
  ·exact hgn es1
  ·exact rfl
  ·exact rfl
  ·show i+(len+1 - i)≤es1.length;omega
  ·simp [he2.1]
  ·simp only [hmn,List.take_succ_cons,List.take_zero,List.all_cons,List.all_nil,he2.1,he2.2.1];rfl
  rw [hh2]
  (repeat' (first | refine EvOps.nil ?_ | refine Ev.seq ?_ | refine Ev.regionD ?_ | (apply D.move;exact rfl) | (apply D.arith;exact rfl;exact rfl;exact rfl;exact (wrapI (by omega) (by omega))) | refine thenQ.normal ?_ | fail))
  apply D.slice
  ·exact hcl2
  ·exact rfl
  ·exact hvisn es2
  ·exact rfl
  ·exact rfl
  ·exact rfl
  ·exact rfl
  ·exact rfl
  ·exact rfl
  ·show sliceP C0.P _ 26 (.mref h.length 0 0 (len+1)) (some (.int .i64 ((i:Int)+1))) none none=_
   rw [hj]
   exact sliceLo_m1 hu hs63 (hgn es2) (by omega) (by show len+1≤es2.length;omega)
  (repeat' (first | (apply D.move;exact rfl) | fail))
  apply D.slice
  ·exact hcl2
  ·exact rfl
  ·exact hvis es2
  ·exact rfl
  ·exact rfl
  ·exact rfl
  ·exact rfl
  ·exact rfl
  ·exact rfl
  ·exact sliceLo_m1 hu hsz (hgo es2) hi hle
  apply D.copy T6 (ys:=ys) (o:=⟨.m,0,5,es2⟩) (sz:=5)
  ·exact rfl
  ·exact rfl
  ·exact rfl
  ·exact rfl
  ·exact rfl
  ·simp only [elems,hgo]
   rw [if_pos (by omega),hys]
  ·exact hgn es2
  ·exact rfl
  ·exact rfl
  ·show i+1+(len+1 - (i+1))≤es2.length;omega
  ·rw [List.all_eq_true]
   intro v hv
   have:=List.all_eq_true.1 hyok v hv
   unfold okV at this
   simp only [Bool.and_eq_true] at this
   exact this.1.2
  ·rw [hmn2,hyt,List.all_eq_true]
   intro v hv
   have:=List.all_eq_true.1 hyok v hv
   unfold okV at this
   simp only [Bool.and_eq_true] at this ⊢
   exact ⟨this.1.2,this.2⟩
  refine EvD.heap hh3 ?_
  (repeat' (first | refine EvOps.nil ?_ | (apply R.move;exact rfl) | (apply R.assign;exact rfl) | refine Ev.seq ?_ | refine Ev.region ?_ | refine EvD.nil ?_ | refine Ev.ret ?_ | refine thenQ.normal ?_ | fail))
  exact ⟨rfl,_,St.keep ⟨rfl,trivial⟩⟩
 rintro ex s8 a8 w8 β8 ⟨rfl,ρ8,rfl⟩ R8 S8
 have SS:=(((S1.trans S3).trans S5).trans S8)
 refine ⟨.inr rfl,_,β8,R8,SS,[.mref h.length 0 0 (len+1)],?_,fun u hu'=>⟨β8,hu',R8.hr,SS⟩⟩
 ·exact resT_of (L:=[(6,.mref h.length 0 0 (len+1))]) rfl
 all_goals rfl
end Zero
end Go.Pm
end
section
set_option maxRecDepth 100000
set_option maxHeartbeats 4000000
namespace Go.Pm
open Go.Proofs
theorem visRs_app {f:Nat→Bool}:∀ {a b:List PV},visRs f a=true→visRs f b=true→visRs f (a++b)=true
 | [],_,_,hb=>hb
 | x::a,b,ha,hb=>by
  simp only [visRs,Bool.and_eq_true,List.cons_append] at ha ⊢
  exact ⟨ha.1,visRs_app ha.2 hb⟩
theorem celv {e:PV} (h:isVal e=true):∀ q∈cells e,isVal q=true:=by
 intro q hq
 cases e with
 | agg cs=>
  simp only [isVal] at h
  rw [isVals_eq] at h
  exact List.all_eq_true.1 h q hq
 | _=>simp only [cells,List.mem_singleton] at hq;subst hq;exact h
theorem VRel.valWeak {w:World} {A A':Nat→Prop} {β β':List (Nat × Nat)} {h h':AHeap} {v:Value} {p:PV} (hv:VRel w A β h v p) (hp:isVal p=true) (hA:∀ b,A' b→A b):VRel w A' β' h' v p:=
 .val ((hv.toS hp).weak hA)
attribute [local irreducible] thenQ blockQ loopQ bodyQ Ev EvOps CallEv FnEv EvD
namespace Zero
variable {w:World} {F:Nat→Prop} {β:List (Nat × Nat)}
theorem of_fnEv {h:AHeap} {f:FuncId} {args:List PV} {r:PV} {h':AHeap} (hm:C0.mode f=.opened) (e:FnEv C0 f args h (fun r' h2=>r'=r∧h2=h')) {vs:List Value} (H:HRel w F β h) (ha:L2 (VRel w (Av F h β) β h) vs args):CSim C0.P 2 w F β h f vs r h':=by
 unfold FnEv at e
 obtain ⟨r3,h3,⟨rfl,rfl⟩,n0,hn0⟩:=e
 exact S0 n0 _ (.inr hm) _ h _ _ (hn0 n0 (Nat.le_refl _)) w F β vs H ha
theorem l2_three {R R':Value→PV→Prop} {vs:List Value} {a b c a' b' c':PV} (h:L2 R vs [a,b,c]) (ha:∀ v,R v a→R' v a') (hb:∀ v,R v b→R' v b') (hc:∀ v,R v c→R' v c'):L2 R' vs [a',b',c']:=by
 refine ⟨h.1,fun j hj=>?_⟩
 have h0:=h.2 0 (by simp)
 have h1:=h.2 1 (by simp)
 have h2:=h.2 2 (by simp)
 match j,hj with
 | 0,_=>exact ha _ h0
 | 1,_=>exact hb _ h1
 | 2,_=>exact hc _ h2
 | j+3,hj=>simp at hj;omega
theorem insert_sim:SimRun C0.P 91 insertPrim:=by
 intro args h r h' e w F β vs H ha
 unfold insertPrim at e
 split at e
 ·rename_i i fl e1
  split at e
  ·rename_i hc
   obtain ⟨rfl,he⟩:=hc
   obtain ⟨rfl,rfl⟩:=Prod.mk.inj (Option.some.inj e)
   exact of_fnEv (if_pos (.inr rfl)) (insNil_ev he) H ha
  ·cases e
 ·rename_i id ep len i fl e1
  split at e
  ·rename_i o hg
   split at e
   ·rename_i hc
    obtain ⟨hm,hz,hle,hi0,hi,hn,he,hok,hcl⟩:=hc
    obtain ⟨rfl,rfl⟩:=Prod.mk.inj (Option.some.inj e)
    obtain ⟨k,rfl⟩:=Int.eq_ofNat_of_zero_le hi0
    have hk:k≤len:=by omega
    rw [show Int.toNat (k:Int)=k from rfl]
    obtain ⟨g1,g2,g3⟩:=getM_some hg
    have hlt:=lt_of_some g1
    obtain ⟨bc,hbc⟩:=beta_at H.len g1
    have hpl:(o.es.take len).length=len:=by simp;omega
    by_cases hkl:k=len
    ·subst hkl
     have hfin:(o.es.take k).take k++[e1]++(o.es.take k).drop k=o.es.take k++[e1]:=by
      rw [List.take_take,Nat.min_self,List.drop_eq_nil_of_le (by omega),List.append_nil]
     rw [hfin]
     exact of_fnEv (if_pos (.inr rfl)) (insEnd_ev he hg hm hz hle hn) H ha
    ·have hk':k<len:=by omega
     by_cases hroom:len+1≤bc.2
     ·-- there is room
      have hXc:(cells (PV.agg [.any,.any,.any,.any,.any])).length=5:=rfl
      obtain ⟨Hp,Sp⟩:=H.reshape g1 hbc hm (o.es.take len++[.agg [.any,.any,.any,.any,.any]]) (ep+1) (by omega) (by simp;omega) (fun i e he=>by
       rcases Nat.lt_or_ge i len with hil | hil
       ·left
        rw [List.getElem?_append_left (by omega),List.getElem?_take,if_pos hil] at he
        exact he
       ·right
        rw [List.getElem?_append_right (by omega)] at he
        obtain rfl:=List.mem_singleton.1 (List.mem_of_getElem? he)
        refine ⟨by rw [hXc,hz],fun p hp=>?_⟩
        simp only [cells] at hp
        simpa using hp)
      have hselfp:(h.set id {o with es:=o.es.take len++[.agg [.any,.any,.any,.any,.any]],ep:=ep+1 })[id]?=some {o with es:=o.es.take len++[.agg [.any,.any,.any,.any,.any]],ep:=ep+1 }:=List.getElem?_set_self hlt
      have hclp:closedH (h.set id {o with es:=o.es.take len++[.agg [.any,.any,.any,.any,.any]],ep:=ep+1 })=true:=by
       refine closed_mono (h:=h) (fun i hi=>?_) (fun o' h1=>?_) hcl
       ·unfold visible at hi ⊢
        by_cases hii:i=id
        ·subst hii
         rw [hselfp]
         simp [hm]
        ·rw [List.getElem?_set_ne (Ne.symm hii)];exact hi
       ·rcases List.mem_or_eq_of_mem_set h1 with h1 | rfl
        ·exact .inr (.inr ⟨o',h1,rfl,fun hh=>hh⟩)
        ·exact .inr (.inl (visRs_app (vis_vals _ _ (okV_vals hok)) rfl))
      have hap:L2 (VRel w (Av F (h.set id {o with es:=o.es.take len++[.agg [.any,.any,.any,.any,.any]],ep:=ep+1 }) β) β (h.set id {o with es:=o.es.take len++[.agg [.any,.any,.any,.any,.any]],ep:=ep+1 })) vs [.mref id (ep+1) 0 len,.int .i64 (k:Int),.snap fl [e1]]:=
       l2_three ha (fun v hv=>VRel.reshape g1 hbc hm hv g2 hle _ _) (fun v hv=>hv.mono Sp) (fun v hv=>hv.mono Sp)
      have cs:=ins_shift (o:={o with es:=o.es.take len++[.agg [.any,.any,.any,.any,.any]],ep:=ep+1 }) (X:=.agg [.any,.any,.any,.any,.any]) (pre:=o.es.take len) Hp hap (getM_at hselfp rfl (by show o.mu≠.x;rw [hm];simp)) hm hz rfl hpl hk' hn hok rfl he hclp
      refine cs.mono ?_
      rintro en w' ⟨v,β1,rfl,q1,q2,q3,_⟩
      rw [List.set_set] at q1 q2 q3
      exact ⟨v,β1,rfl,q1,q2,Sp.trans q3,fun hh=>by omega⟩
     ·-- all is made anew
      obtain ⟨p1,p2,p3,p4,p5,p6⟩:=lock1_shape o
      have gl:getM (h.map lock1) id ep=some (lock1 o):=getM_at (by rw [List.getElem?_map,g1];rfl) (by rw [p1];exact g2) (fun hh=>g3 (p4.1 hh))
      have hAl:∀ b,Av (Av F h β) (h.map lock1) β b→Av F h β b:=fun b hb=>hb.elim (fun hh=>hh) (fun hm=>absurd hm (lock_Mb h β b))
      have cs:=ins_grow (o:=lock1 o) (bc:=bc) H.lock (l2_three ha (fun v hv=>hv.alike (alike_lock h) hAl) (fun v hv=>hv.alike (alike_lock h) hAl) (fun v hv=>hv.alike (alike_lock h) hAl)) gl (by rw [p2];exact hz) (by rw [p3];exact hle) hbc (by omega) hk' hn (by rw [p3];exact hok) he (closed_lock hcl)
      rw [p3,List.length_map] at cs
      refine cs.mono ?_
      rintro en w' ⟨v,β1,rfl,q1,q2,q3,_⟩
      obtain ⟨es3,hes3⟩:∃ es3,es3=(o.es.take len).take k++[e1]++(o.es.take len).drop k:=⟨_,rfl⟩
      rw [← hes3] at q1 q2 q3 ⊢
      have hl3:es3.length=len+1:=by rw [hes3];simp;omega
      have hok3:es3.all (okV 5)=true:=by
       rw [List.all_eq_true] at hok ⊢
       intro x hx
       rw [hes3] at hx
       rcases List.mem_append.1 hx with hx | hx
       ·rcases List.mem_append.1 hx with hx | hx
        ·exact hok x (List.mem_of_mem_take hx)
        ·obtain rfl:=List.mem_singleton.1 hx
         exact he
       ·exact hok x (List.mem_of_mem_drop hx)
      have enew:(h.map lock1++[(⟨.m,0,5,es3⟩:AObj)])[h.length]?=some ⟨.m,0,5,es3⟩:=by
       rw [List.getElem?_append_right (by simp)];simp
      obtain ⟨bn,hbn⟩:=beta_at q2.len enew
      have mnew:Mb (h.map lock1++[⟨.m,0,5,es3⟩]) β1 bn.1:=⟨h.length,_,bn,enew,hbn,rfl,rfl⟩
      obtain ⟨T,cs0,k1,k2,k3,k4,k5⟩:=q2.obj h.length _ bn enew hbn (by simp)
      have hge:w.heap.size≤bn.1:=by
       rcases Nat.lt_or_ge bn.1 w.heap.size with hh | hh
       ·exact absurd (q3.shr bn.1 hh mnew) (lock_Mb h β bn.1)
       ·exact hh
      have hA:∀ b,Av F (h.set id {o with es:=es3,ep:=ep+1 }) (β.set id bn) b→Av (Av F h β) (h.map lock1++[⟨.m,0,5,es3⟩]) β1 b:=by
       rintro b (hb | ⟨id',o',bc',e1',e2',e3',e4'⟩)
       ·exact .inl (.inl hb)
       ·by_cases hid:id'=id
        ·subst hid
         rw [List.getElem?_set_self (by rw [H.len];exact hlt)] at e2'
         obtain rfl:=Option.some.inj e2'
         rw [← e4']
         exact .inr mnew
        ·rw [List.getElem?_set_ne (Ne.symm hid)] at e1' e2'
         exact .inl (.inr ⟨id',o',bc',e1',e2',e3',e4'⟩)
      obtain ⟨HH,SS⟩:=H.setNew (w':=w') g1 hbc hm T cs0 es3 (ep+1) bn q3.size k1 (fun b hb=>q3.keep b hb (lock_Mb h β b)) hge (by omega) q3.os q3.tape q3.output k2 (by rw [hz];exact k3) (fun i e hee=>by
       obtain ⟨m1,m2⟩:=k5 i e hee
       refine ⟨by rw [hz];exact m1,fun j p hp=>?_⟩
       obtain ⟨u,n1,n2⟩:=m2 j p hp
       have hv:isVal e=true:=by
        have:=List.all_eq_true.1 hok3 e (List.mem_of_getElem? hee)
        unfold okV at this
        simp only [Bool.and_eq_true] at this
        exact this.1.1
       exact ⟨u,by rw [hz];exact n1,n2.valWeak (celv hv p (List.mem_of_getElem? hp)) hA⟩) q3.drawn
      obtain ⟨_,_,m3⟩:=q1.mref_inv
      obtain ⟨cap,c1,c2⟩:=m3 _ bn enew hbn (by simp) rfl (by show 0+(len+1)≤es3.length;omega)
      refine ⟨v,β.set id bn,rfl,?_,HH,SS,fun hh=>by omega⟩
      refine .mref v id (ep+1) 0 (len+1) {o with es:=es3,ep:=ep+1 } bn ⟨_,_,_,c1⟩ (List.getElem?_set_self hlt) (List.getElem?_set_self (by rw [H.len];exact hlt)) (by show o.mu≠.x;rw [hm];simp) (Nat.le_refl _) (fun _ _=>⟨cap,?_,c2⟩)
      rw [c1,Nat.zero_mul,Nat.zero_mul]
   ·cases e
  ·cases e
 ·cases e
end Zero
theorem clone_sim4:SimRun C.P 103 (clonePrim 4):=by
 intro args h r h' e w F β vs H ha
 unfold clonePrim at e
 split at e
 ·rename_i fl es
  split at e
  ·rename_i hem
   obtain ⟨rfl,rfl⟩:=Prod.mk.inj (Option.some.inj e)
   obtain rfl:es=[]:=by simpa using hem
   exact Zero.clone59 H ha rfl (by simp) (.inl ⟨rfl,rfl,rfl⟩)
  ·rename_i hem
   split at e
   ·rename_i hc
    obtain ⟨rfl,rfl⟩:=Prod.mk.inj (Option.some.inj e)
    exact Zero.clone59 H ha hc.1 hc.2 (.inr ⟨by simpa using hem,rfl,rfl⟩)
   ·cases e
 ·cases e
theorem clone_sim1:SimRun C.P 51 (clonePrim 1):=by
 intro args h r h' e w F β vs H ha
 unfold clonePrim at e
 split at e
 ·rename_i fl es
  split at e
  ·rename_i hem
   obtain ⟨rfl,rfl⟩:=Prod.mk.inj (Option.some.inj e)
   obtain rfl:es=[]:=by simpa using hem
   exact Zero.clone79 H ha rfl (by simp) (.inl ⟨rfl,rfl,rfl⟩)
  ·rename_i hem
   split at e
   ·rename_i hc
    obtain ⟨rfl,rfl⟩:=Prod.mk.inj (Option.some.inj e)
    exact Zero.clone79 H ha hc.1 hc.2 (.inr ⟨by simpa using hem,rfl,rfl⟩)
   ·cases e
 ·cases e
theorem cfgOk6:CfgOk C where
 enters f hf hne:=entersOk6 f (fun h=>hf h) hne
 primQ f g hh:=by
  have hm:mode06 f=.primQ g:=hh
  unfold mode06 at hm
  repeat' split at hm
  all_goals cases hm
 primL f g hh:=by
  have hm:mode06 f=.primL g:=hh
  unfold mode06 at hm
  split at hm
  ·cases hm
  split at hm
  ·cases hm
  split at hm
  ·rename_i hf
   subst hf
   obtain rfl:=Mode.primL.inj hm
   exact Zero.insert_sim
  split at hm
  ·rename_i hf
   subst hf
   obtain rfl:=Mode.primL.inj hm
   exact Zero.delete_sim
  split at hm
  ·rename_i hf
   subst hf
   obtain rfl:=Mode.primL.inj hm
   exact clone_sim4
  split at hm
  ·rename_i hf
   subst hf
   obtain rfl:=Mode.primL.inj hm
   exact clone_sim1
  repeat' split at hm
  all_goals cases hm
 ext:=extOk6
end Go.Pm
end
section
namespace Go.Pm
open Go.Proofs Go.Shelf
def layS_ren:Go.Shelf.Ren:=⟨fun | 6=>85 | 15=>112 | 14=>111 | 28=>132 | 29=>133 | 20=>124 | 21=>125 | 22=>126 | 23=>127 | 24=>128 | 25=>129 | 26=>130 | 27=>131 | 46=>138 | 47=>139 | 48=>140 | 49=>141 | 50=>142 | 57=>147 | n=>n,fun | 22=>51 | 24=>53 | 25=>74 | 3=>3 | 39=>119 | 0=>0 | 53=>160 | 55=>162 | 4=>4 | 46=>154 | 45=>153 | 50=>75 | 5=>5 | 9=>9 | 66=>168 | 70=>115 | 76=>176 | 77=>177 | n=>n,fun | n=>n⟩
theorem layS:Go.Proofs.SlLaysF0.n6 Tryz.prog layS_ren:={
 mixed:=by kernel_rfl
 f6:=⟨Tryz.f85.name,by decide,Tryz.func85.trans (congrArg some (by kernel_rfl))⟩
 f14:=⟨Tryz.f111.name,by decide,Tryz.func111.trans (congrArg some (by kernel_rfl))⟩
 f15:=Tryz.func112.trans (congrArg some (by kernel_rfl))
 f20:=⟨Tryz.f124.name,by decide,Tryz.func124.trans (congrArg some (by kernel_rfl))⟩
 f21:=⟨Tryz.f125.name,by decide,Tryz.func125.trans (congrArg some (by kernel_rfl))⟩
 f22:=⟨Tryz.f126.name,by decide,Tryz.func126.trans (congrArg some (by kernel_rfl))⟩
 f23:=⟨Tryz.f127.name,by decide,Tryz.func127.trans (congrArg some (by kernel_rfl))⟩
 f24:=⟨Tryz.f128.name,by decide,Tryz.func128.trans (congrArg some (by kernel_rfl))⟩
 f25:=⟨Tryz.f129.name,by decide,Tryz.func129.trans (congrArg some (by kernel_rfl))⟩
 f26:=⟨Tryz.f130.name,by decide,Tryz.func130.trans (congrArg some (by kernel_rfl))⟩
 f27:=⟨Tryz.f131.name,by decide,Tryz.func131.trans (congrArg some (by kernel_rfl))⟩
 f28:=Tryz.func132.trans (congrArg some (by kernel_rfl))
 f29:=Tryz.func133.trans (congrArg some (by kernel_rfl))
 f46:=⟨Tryz.f138.name,by decide,Tryz.func138.trans (congrArg some (by kernel_rfl))⟩
 f47:=Tryz.func139.trans (congrArg some (by kernel_rfl))
 f48:=Tryz.func140.trans (congrArg some (by kernel_rfl))
 f49:=⟨Tryz.f141.name,by decide,Tryz.func141.trans (congrArg some (by kernel_rfl))⟩
 f50:=⟨Tryz.f142.name,by decide,Tryz.func142.trans (congrArg some (by kernel_rfl))⟩
 f57:=⟨Tryz.f147.name,by decide,Tryz.func147.trans (congrArg some (by kernel_rfl))⟩
 t0:=Tryz.underlying0
 a0:=Tryz.isAgg0
 z0:=Tryz.sizeOf0
 v0:=Tryz.zeroValue0
 t3:=Tryz.underlying3
 a3:=Tryz.isAgg3
 z3:=Tryz.sizeOf3
 v3:=Tryz.zeroValue3
 t4:=Tryz.underlying4
 a4:=Tryz.isAgg4
 z4:=Tryz.sizeOf4
 v4:=Tryz.zeroValue4
 t5:=Tryz.underlying5
 a5:=Tryz.isAgg5
 z5:=Tryz.sizeOf5
 v5:=Tryz.zeroValue5
 t9:=Tryz.underlying9
 a9:=Tryz.isAgg9
 z9:=Tryz.sizeOf9
 v9:=Tryz.zeroValue9
 t22:=Tryz.underlying51
 a22:=Tryz.isAgg51
 z22:=Tryz.sizeOf51
 v22:=Tryz.zeroValue51
 t25:=Tryz.underlying74
 a25:=Tryz.isAgg74
 z25:=Tryz.sizeOf74
 v25:=Tryz.zeroValue74
 t39:=Tryz.underlying119
 a39:=Tryz.isAgg119
 z39:=Tryz.sizeOf119
 v39:=Tryz.zeroValue119
 t45:=Tryz.underlying153
 a45:=Tryz.isAgg153
 z45:=Tryz.sizeOf153
 v45:=Tryz.zeroValue153
 t46:=Tryz.underlying154
 a46:=Tryz.isAgg154
 z46:=Tryz.sizeOf154
 v46:=Tryz.zeroValue154
 t50:=Tryz.underlying75
 a50:=Tryz.isAgg75
 z50:=Tryz.sizeOf75
 v50:=Tryz.zeroValue75
 t53:=Tryz.underlying160
 a53:=Tryz.isAgg160
 z53:=Tryz.sizeOf160
 v53:=Tryz.zeroValue160
 t55:=Tryz.underlying162
 a55:=Tryz.isAgg162
 z55:=Tryz.sizeOf162
 v55:=Tryz.zeroValue162
 t66:=Tryz.underlying168
 a66:=Tryz.isAgg168
 z66:=Tryz.sizeOf168
 v66:=Tryz.zeroValue168
 t70:=Tryz.underlying115
 a70:=Tryz.isAgg115
 z70:=Tryz.sizeOf115
 v70:=Tryz.zeroValue115
 t76:=Tryz.underlying176
 a76:=Tryz.isAgg176
 z76:=Tryz.sizeOf176
 v76:=Tryz.zeroValue176
 t77:=Tryz.underlying177
 a77:=Tryz.isAgg177
 z77:=Tryz.sizeOf177
 v77:=Tryz.zeroValue177 }
theorem laySA:∀ w,(isAgg (layS_ren.t 24)).run Tryz.prog w=.ok true w:=Tryz.isAgg53
theorem laySZ:∀ w,(Go.sizeOf (layS_ren.t 24)).run Tryz.prog w=.ok 4 w:=Tryz.sizeOf53
end Go.Pm
end
section
set_option maxRecDepth 20000
namespace Go.Pm
open Go.Proofs Go.Sort
theorem encs_map (l:List Tm):encs l=l.map enc:=by
 induction l with
 | nil=>rfl
 | cons t l ih=>simp only [encs,List.map_cons,ih]
theorem encs_nth {l:List Tm} {i:Nat} {t:Tm} (h:l[i]?=some t):(encs l)[i]?=some (enc t):=by rw [encs_map,List.getElem?_map,h];rfl
mutual
def decT:PV→Option Tm
 | .agg [.int .i64 k,.str s,.int .i64 o,.snap false l]=>match decTs l with
  | some l'=>some (.mk k s o l')
  | none=>none
 | _=>none
def decTs:List PV→Option (List Tm)
 | []=>some []
 | x::l=>match decT x with
  | some t=>match decTs l with
   | some ts=>some (t::ts)
   | none=>none
  | none=>none
end
mutual
theorem decT_enc:∀ t:Tm,decT (enc t)=some t
 | .mk k s o l=>by simp only [enc,decT,decTs_encs l]
theorem decTs_encs:∀ l:List Tm,decTs (encs l)=some l
 | []=>rfl
 | t::l=>by simp only [encs,decTs,decT_enc t,decTs_encs l]
end
mutual
theorem enc_decT:∀ (p:PV) {t:Tm},decT p=some t→enc t=p
 | .agg [.int .i64 k,.str s,.int .i64 o,.snap false l],t,h=>by
  simp only [decT] at h
  split at h
  ·rename_i l' hl
   obtain rfl:=Option.some.inj h
   simp only [enc,encs_decTs l hl]
  ·cases h
 | p,t,h=>by
  unfold decT at h
  split at h
  ·rename_i k s o l
   split at h
   ·rename_i l' hl
    obtain rfl:=Option.some.inj h
    simp only [enc,encs_decTs l hl]
   ·cases h
  ·cases h
theorem encs_decTs:∀ (es:List PV) {ts:List Tm},decTs es=some ts→encs ts=es
 | [],ts,h=>by simp only [decTs,Option.some.injEq] at h;subst h;rfl
 | x::l,ts,h=>by
  simp only [decTs] at h
  split at h
  ·rename_i t ht
   split at h
   ·rename_i ts' hts
    obtain rfl:=Option.some.inj h
    simp only [encs,enc_decT x ht,encs_decTs l hts]
   ·cases h
  ·cases h
end
theorem cmpT_le_trans {a b c:Tm} (h1:cmpT a b≤0) (h2:cmpT b c≤0):cmpT a c≤0:=by
 rcases Int.lt_or_eq_of_le h1 with h1 | h1
 ·rcases Int.lt_or_eq_of_le h2 with h2 | h2
  ·exact Int.le_of_lt (cmpT_trans h1 h2)
  ·rw [← cmpT_zero h2];exact Int.le_of_lt h1
 ·rw [cmpT_zero h1];exact h2
def insT (t:Tm):List Tm→List Tm
 | []=>[t]
 | x::r=>if cmpT t x≤0 then t::x::r else x::insT t r
def sortT:List Tm→List Tm
 | []=>[]
 | t::r=>insT t (sortT r)
theorem insT_perm (t:Tm):∀ l:List Tm,(insT t l).Perm (t::l)
 | []=>.refl _
 | x::r=>by
  unfold insT
  split
  ·exact .refl _
  ·exact ((insT_perm t r).cons x).trans (.swap t x r)
theorem sortT_perm:∀ ts:List Tm,(sortT ts).Perm ts
 | []=>.refl _
 | t::r=>(insT_perm t (sortT r)).trans ((sortT_perm r).cons t)
theorem insT_srt (t:Tm):∀ {l:List Tm},(l.Pairwise fun x y=>cmpT x y≤0)→(insT t l).Pairwise fun x y=>cmpT x y≤0
 | [],_=>by simp [insT]
 | x::r,h=>by
  unfold insT
  have h2:=List.pairwise_cons.1 h
  split
  ·rename_i hc
   refine List.pairwise_cons.2 ⟨fun y hy=>?_,h⟩
   rcases List.mem_cons.1 hy with rfl | hy
   ·exact hc
   ·exact cmpT_le_trans hc (h2.1 y hy)
  ·rename_i hc
   have ng:=cmpT_neg t x
   refine List.pairwise_cons.2 ⟨fun y hy=>?_,insT_srt t h2.2⟩
   rcases List.mem_cons.1 ((insT_perm t r).mem_iff.1 hy) with rfl | hy
   ·omega
   ·exact h2.1 y hy
theorem sortT_srt:∀ ts:List Tm,(sortT ts).Pairwise fun x y=>cmpT x y≤0
 | []=>.nil
 | t::r=>insT_srt t (sortT_srt r)
theorem sort_unique {a b:List Tm} (hp:a.Perm b) (ha:a.Pairwise fun x y=>cmpT x y≤0) (hb:b.Pairwise fun x y=>cmpT x y≤0):a=b:=
 hp.eq_of_pairwise (fun x y _ _ h1 h2=>cmpT_zero (by have:=cmpT_neg x y;omega)) ha hb
def sortPrim (args:List PV) (h:AHeap):Option (PV × AHeap):=
 match args with
 | [.snap true [],.fn _ []]=>some (.tup [],h)
 | [.mref id ep 0 len,.fn g []]=>match getM h id ep with
  | some o=>match decTs o.es with
   | some ts=>if g=40∧o.mu=.m∧o.esz=4∧len=o.es.length∧len<1000000000∧(ts.all fun t=>decide (bulk t<1000000000))=true then
     some (.tup [],h.set id {o with es:=encs (sortT ts) }) else none
   | none=>none
  | none=>none
 | _=>none
theorem sortPrim_of {h:AHeap} {id ep:Nat} {ts:List Tm} (e:h[id]?=some ⟨.m,ep,4,encs ts⟩) (hn:ts.length<1000000000) (hb:∀ t∈ts,bulk t<1000000000) :
  sortPrim [.mref id ep 0 ts.length,.fn 40 []] h=some (.tup [],h.set id ⟨.m,ep,4,encs (sortT ts)⟩):=by
 have hg:getM h id ep=some ⟨.m,ep,4,encs ts⟩:=getM_at e rfl (by simp)
 have hl:=encs_len ts
 simp only [sortPrim,hg,decTs_encs]
 rw [if_pos ⟨trivial,trivial,trivial,hl.symm,hn,by simpa using hb⟩]
def TV (w:World) (A:Nat→Prop):Type:={ x:Tm × List Value // x.2.length=4∧(∀ v∈x.2,v.oneCell'=true)∧bulk x.1<1000000000∧SRel w A (.agg x.2.toArray) (enc x.1) }
instance (w:World) (A:Nat→Prop):Inhabited (TV w A):=
 ⟨⟨(.mk 0 ByteArray.empty 0 [],[.int .i64 0,.string ByteArray.empty,.int .i64 0,.slice none 0 0]),rfl,by simp [Value.oneCell'],by simp [bulk,bulks],.agg _ _ rfl (fun j hj=>by
  match j,hj with
  | 0,_=>exact .int _ _
  | 1,_=>exact .str _
  | 2,_=>exact .int _ _
  | 3,_=>exact .snapE _ _ _ (fun h=>by cases h)
  | j+4,hj=>simp at hj;omega)⟩⟩
theorem exists_arr {α:Type} [Inhabited α] {R:Nat→α→Prop}:∀ n:Nat,(∀ i,i<n→∃ x,R i x)→∃ d:Array α,d.size=n∧∀ i,i<n→R i d[i]!
 | 0,_=>⟨#[],rfl,fun i hi=>by omega⟩
 | n+1,h=>by
  obtain ⟨d,d1,d2⟩:=exists_arr n (fun i hi=>h i (by omega))
  obtain ⟨x,hx⟩:=h n (by omega)
  refine ⟨d.push x,by simp [d1],fun i hi=>?_⟩
  by_cases hin:i=n
  ·subst hin
   have:(d.push x)[i]! = x:=by simp [← d1]
   rw [this];exact hx
  ·have:(d.push x)[i]! = d[i]!:=by
    have hlt:i<d.size:=by omega
    simp [Array.getElem!_eq_getD,Array.getD,Array.getElem_push,hlt,Nat.lt_succ_of_lt hlt]
   rw [this];exact d2 i (by omega)
theorem swo_T (w:World) (A:Nat→Prop):SWO (ltOf fun x y:TV w A=>cmpT x.1.1 y.1.1) where
 irrefl x:=by simp [ltOf,cmpT_self]
 trans x y z h1 h2:=by
  simp only [ltOf,decide_eq_true_eq] at *
  exact cmpT_trans h1 h2
 ntrans x y z h1 h2:=by
  simp only [ltOf,decide_eq_false_iff_not,Int.not_lt] at *
  have a:=cmpT_neg x.1.1 y.1.1
  have b:=cmpT_neg y.1.1 z.1.1
  have c:=cmpT_neg x.1.1 z.1.1
  have:=cmpT_le_trans (a:=z.1.1) (b:=y.1.1) (c:=x.1.1) (by omega) (by omega)
  omega
theorem sortWorldK_off {α:Type} [Inhabited α] (enc:α→List Value) (k:Nat) (w:World) (blk off m:Nat) (dk:Array α) (os:Array Obj) (b:Nat) (hb:b<w.heap.size) (hne:b≠blk):(sortWorldK enc k w blk off m dk os).heap[b]?=w.heap[b]?:=by
 unfold sortWorldK putRowK putRow mapBlock
 rw [heap_grow_old _ _ (by simpa [ahead] using hb)]
 show (Array.modify w.heap blk _)[b]?=_
 rw [Array.getElem?_modify,if_neg (Ne.symm hne)]
theorem sortWorldK_at {α:Type} [Inhabited α] (enc:α→List Value) (k:Nat) (w:World) (blk off m:Nat) (dk:Array α) (os:Array Obj) {cs:Array Value} {T:TypeId} {fr:Nat × Nat} (hb:w.heap[blk]?=some (.cells cs T fr)) :
  (sortWorldK enc k w blk off m dk os).heap[blk]?=some (.cells (putCells id off (flatK enc k dk) cs) T fr):=by
 have hlt:blk<w.heap.size:=by
  rcases Nat.lt_or_ge blk w.heap.size with h | h
  ·exact h
  ·rw [Array.getElem?_eq_none h] at hb;cases hb
 unfold sortWorldK putRowK putRow mapBlock
 rw [heap_grow_old _ _ (by simpa [ahead] using hlt)]
 show (Array.modify w.heap blk _)[blk]?=_
 rw [Array.getElem?_modify,if_pos rfl,hb]
 rfl
theorem sortWorldK_size {α:Type} [Inhabited α] (enc:α→List Value) (k:Nat) (w:World) (blk off m:Nat) (dk:Array α) (os:Array Obj):w.heap.size≤(sortWorldK enc k w blk off m dk os).heap.size:=by
 unfold sortWorldK putRowK putRow mapBlock
 rw [size_grow]
 simp [ahead]
theorem putCells_get {α:Type} [Inhabited α] {enc:α→List Value} {k:Nat} {dk:Array α} {cs:Array Value} {i j:Nat} (hi:i<dk.size) (hj:j<k) (hs:dk.size * k≤cs.size) (hk:∀ x,(enc x).length=k) :
  (putCells id 0 (flatK enc k dk) cs)[i * k+j]?=(enc dk[i]!)[j]?:=by
 have lt:i * k+j<dk.size * k:=by
  have:=Nat.mul_le_mul_right k (show i+1≤dk.size from hi);rw [Nat.add_mul,Nat.one_mul] at this;omega
 have e1:(i * k+j) / k=i:=(blk_iff k i _ (by omega)).1 ⟨by omega,by omega⟩
 have e2:(i * k+j) % k=j:=by rw [Nat.mod_eq_sub_div_mul,e1];omega
 unfold putCells
 rw [Array.getElem?_mapIdx,Array.getElem?_eq_getElem (show i * k+j<cs.size by omega)]
 simp only [Option.map_some,Nat.zero_le,true_and,Nat.zero_add,size_flatK,if_pos lt,id,Nat.sub_zero]
 rw [get_flatK _ _ _ _ lt,e1,e2,List.getElem?_eq_getElem (by rw [hk];exact hj)]
 rw [getElem!_pos _ j (by rw [hk];exact hj)]
variable {w:World} {F:Nat→Prop} {β:List (Nat × Nat)} {h:AHeap}
theorem tv_of {cs:Array Value} {t:Tm} {i:Nat} (hb:bulk t<1000000000) (q2:∀ (j:Nat) (p:PV),(cells (enc t))[j]?=some p→∃ v:Value,cs[i * 4+j]?=some v∧VRel w (Av F h β) β h v p) :
  ∃ x:TV w (Av F h β),x.1.1=t∧∀ j,j<4→cs[i * 4+j]?=x.1.2[j]?:=by
 obtain ⟨k,s,o,l⟩:=t
 obtain ⟨a,a1,a2⟩:=q2 0 (.int .i64 k) rfl
 obtain ⟨b,b1,b2⟩:=q2 1 (.str s) rfl
 obtain ⟨c,c1,c2⟩:=q2 2 (.int .i64 o) rfl
 obtain ⟨d,d1,d2⟩:=q2 3 (.snap false (encs l)) rfl
 have a3:=a2.toS rfl
 have b3:=b2.toS rfl
 have c3:=c2.toS rfl
 have d3:=d2.snap_inv
 have o4:d.oneCell'=true:=by obtain ⟨ad,cap,rfl,_⟩:=d3.snap_len;rfl
 refine ⟨⟨(.mk k s o l,[a,b,c,d]),rfl,?_,hb,.agg [a,b,c,d] _ rfl (fun j hj=>?_)⟩,rfl,fun j hj=>?_⟩
 ·intro v hv
  simp only [List.mem_cons,List.not_mem_nil,or_false] at hv
  rcases hv with rfl | rfl | rfl | rfl
  ·cases a3;rfl
  ·cases b3;rfl
  ·cases c3;rfl
  ·exact o4
 ·match j,hj with
  | 0,_=>exact a3
  | 1,_=>exact b3
  | 2,_=>exact c3
  | 3,_=>exact d3
  | j+4,hj=>simp at hj;omega
 ·match j,hj with
  | 0,_=>exact a1
  | 1,_=>exact b1
  | 2,_=>exact c1
  | 3,_=>exact d1
  | j+4,hj=>omega
theorem L2.two {R:Value→PV→Prop} {vs:List Value} {a b:PV} (h:L2 R vs [a,b]):∃ x y,vs=[x,y]∧R x a∧R y b:=by
 obtain ⟨h1,h2⟩:=h
 match vs,h1 with
 | [x,y],_=>exact ⟨x,y,rfl,h2 0 (by simp),h2 1 (by simp)⟩
theorem cmp_enters (args:Array Value) (w:World):(callFunc 40 args).run C.P w=.ok (.enter 40 args) w:=enters_of Tryz.func40 (by kernel_rfl) rfl args w
theorem sort_core {vs:List Value} {id ep:Nat} {o:AObj} {ts:List Tm} (H:HRel w F β h) (ha:L2 (VRel w (Av F h β) β h) vs [.mref id ep 0 o.es.length,.fn 40 []]) (hg:getM h id ep=some o) (hm:o.mu=.m) (hz:o.esz=4)
  (hn:o.es.length<1000000000) (hes:encs ts=o.es) (hbk:∀ t∈ts,bulk t<1000000000):CSim C.P 2 w F β h 85 vs (.tup []) (h.set id {o with es:=encs (sortT ts) }):=by
 obtain ⟨g1,g2,g3⟩:=getM_some hg
 obtain ⟨bc,hbc⟩:=beta_at H.len g1
 obtain ⟨v0,v1,rfl,h0,h1⟩:=ha.two
 obtain ⟨_,_,m3⟩:=h0.mref_inv
 obtain ⟨cap,c1,c2⟩:=m3 o bc g1 hbc g3 g2 (by omega)
 rw [Nat.zero_mul] at c1
 obtain ⟨us,d1,d2,_⟩:=h1.fn_inv
 obtain rfl:us=[]:=List.eq_nil_of_length_eq_zero d2
 subst c1 d1
 obtain ⟨T,cs,k1,k2,k3,k4,k5⟩:=H.obj id o bc g1 hbc g3
 have hblk:bc.1<w.heap.size:=Mb.lt H ⟨id,o,bc,g1,hbc,hm,rfl⟩
 have hav:Av F h β bc.1:=.inr ⟨id,o,bc,g1,hbc,hm,rfl⟩
 have hlen:ts.length=o.es.length:=by rw [← hes,encs_len]
 have hcs:ts.length * 4≤cs.size:=by rw [hz] at k3;omega
 obtain ⟨d,dl,dh⟩:=exists_arr (α:=TV w (Av F h β)) (R:=fun i x=>ts[i]?=some x.1.1∧∀ j,j<4→cs[i * 4+j]?=x.1.2[j]?) ts.length (fun i hi=>by
  have ht:ts[i]?=some ts[i]:=List.getElem?_eq_getElem hi
  obtain ⟨_,q2⟩:=k5 i (enc ts[i]) (by rw [← hes];exact encs_nth ht)
  rw [hz] at q2
  obtain ⟨x,x1,x2⟩:=tv_of (hbk _ (List.getElem_mem hi)) q2
  exact ⟨x,by rw [ht,x1],x2⟩)
 have hk:∀ x:TV w (Av F h β),x.1.2.length=4:=fun x=>x.2.1
 have hH:HoldsK (fun x:TV w (Av F h β)=>x.1.2) 4 w bc.1 0 d:=by
  intro j hj
  rw [size_flatK] at hj
  have hj4:j / 4<d.size:=by omega
  obtain ⟨_,r2⟩:=dh (j / 4) (by omega)
  have:=r2 (j % 4) (by omega)
  rw [show j / 4 * 4+j % 4=j by omega] at this
  refine ⟨?_,by simp [World.frozen?,k1]⟩
  rw [get_flatK _ _ _ _ hj]
  have hl:j % 4<(d[j / 4]!).1.2.length:=by rw [hk];omega
  rw [List.getElem?_eq_getElem hl] at this
  simp only [World.cell?,k1,Nat.zero_add,this]
  rw [getElem!_pos (d[j / 4]!).1.2 (j % 4) hl]
  rfl
 have hcmp:CmpLays C.P 40 #[] (fun x:TV w (Av F h β)=>x.1.2) 4 (fun x y=>cmpT x.1.1 y.1.1) bc.1 0 d.size w:=by
  intro m os dk hs x y
  obtain ⟨n,hn⟩:=(tcmp_fun x.1.1 y.1.1 x.2.2.2.1 y.2.2.2.1).pureF
  have up:∀ (x:TV w (Av F h β)),SRel (sortWorldK (fun x:TV w (Av F h β)=>x.1.2) 4 w bc.1 0 m dk os) (fun _=>False) (.agg x.1.2.toArray) (enc x.1.1):=fun x=>
   x.2.2.2.2.mono (fun b hb hnb=>sortWorldK_off _ _ _ _ _ _ _ _ b hb (fun e=>hnb (e ▸ hav))) (fun _ _ _ hh=>hh)
  have hargs:L2 (SRel (sortWorldK (fun x:TV w (Av F h β)=>x.1.2) 4 w bc.1 0 m dk os) (fun _=>False)) [.agg x.1.2.toArray,.agg y.1.2.toArray] [enc x.1.1,enc y.1.1]:=⟨rfl,fun j hj=>by
   match j,hj with
   | 0,_=>exact up x
   | 1,_=>exact up y
   | j+2,hj=>simp at hj;omega⟩
  rw [Array.append_empty]
  refine (pureF_sim cfgOk6 codesOk6 (.inl rfl) hn (fun b hb=>hb.elim) hargs).mono ?_
  rintro e w' ⟨v,rfl,hv,hgr⟩
  cases hv
  exact ⟨rfl,hgr.grow⟩
 have hcon:=AnyQ.slices_SortFunc layS 4 laySA laySZ (fun x:TV w (Av F h β)=>x.1.2) hk (fun x=>x.2.2.1) (fun x y=>cmpT x.1.1 y.1.1) (swo_T w _) 40 #[] bc.1 0 cap d w cmp_enters hcmp hH hblk (by omega)
 rw [dl,hlen] at hcon
 refine hcon.mono ?_
 rintro e w' ⟨rfl,d',n,os,hp,hs,rfl⟩
 rw [← hlen,← dl] at hp hs
 have hsz':d'.size=d.size:=hp.1
 have hdt:d.toList.map (fun x=>x.1.1)=ts:=by
  apply List.ext_getElem?
  intro i
  by_cases hi:i<ts.length
  ·rw [List.getElem?_map,(dh i hi).1,Array.getElem?_toList,Array.getElem?_eq_getElem (by omega),getElem!_pos d i (by omega)];rfl
  ·rw [List.getElem?_eq_none (by simp;omega),List.getElem?_eq_none (by omega)]
 have hts:d'.toList.map (fun x=>x.1.1)=sortT ts:=by
  refine sort_unique ?_ ?_ (sortT_srt ts)
  ·have h3:=hp.2.2
   rw [show d.extract 0 d.size=d by simp,show d'.extract 0 d.size=d' by rw [← hsz'];simp] at h3
   refine (h3.map _).trans ?_
   rw [hdt]
   exact (sortT_perm ts).symm
  ·rw [List.pairwise_map,List.pairwise_iff_getElem]
   intro i j hi hj hij
   simp only [Array.length_toList] at hi hj
   have:=hs i j (Nat.zero_le _) hij (by omega)
   rw [getElem!_pos d' i (by omega),getElem!_pos d' j (by omega)] at this
   simp only [ltOf,decide_eq_false_iff_not,Int.not_lt] at this
   have ng:=cmpT_neg d'[i].1.1 d'[j].1.1
   simp only [Array.getElem_toList]
   omega
 have hl2:(encs (sortT ts)).length=o.es.length:=by rw [encs_len,← hts];simp;omega
 obtain ⟨H',S'⟩:=H.set (w':=sortWorldK (fun x:TV w (Av F h β)=>x.1.2) 4 w bc.1 0 n d' os) g1 hbc hm T (putCells _root_.id 0 (flatK (fun x:TV w (Av F h β)=>x.1.2) 4 d') cs) (encs (sortT ts)) o.ep bc (sortWorldK_size _ _ _ _ _ _ _ _) (sortWorldK_at _ _ _ _ _ _ _ _ k1)
  (fun b hb hne=>sortWorldK_off _ _ _ _ _ _ _ _ b hb hne) (.inl ⟨rfl,fun _=>hl2⟩) (Nat.le_refl _) rfl rfl rfl (by rw [hl2];exact k2) (by simpa [putCells] using k3) (fun i e he=>by
   have hi:i<d'.size:=by have:=lt_of_some he;omega
   have he2:(sortT ts)[i]?=some d'[i].1.1:=by rw [← hts,List.getElem?_map,Array.getElem?_toList,Array.getElem?_eq_getElem hi];rfl
   rw [encs_nth he2] at he
   obtain rfl:=Option.some.inj he
   have sr:=d'[i].2.2.2.2
   obtain ⟨z1,z2⟩:=sr.cells
   rw [hz]
   have hcl:(cells (enc d'[i].1.1)).length=4:=by
    rw [← z1];show d'[i].1.2.toArray.size=4;simpa using hk d'[i]
   refine ⟨hcl,fun j p hp=>?_⟩
   obtain ⟨u,u1,u2⟩:=z2 j p hp
   refine ⟨u,?_,.val u2⟩
   have hj:=lt_of_some hp
   rw [putCells_get (enc:=fun x:TV w (Av F h β)=>x.1.2) hi (by omega) (by omega) hk,getElem!_pos d' i hi]
   have u3:d'[i].1.2.toArray[j]?=some u:=u1
   simpa using u3) (by show w.drawn≤w.drawn+n;omega)
 rw [beta_set hbc] at H' S'
 exact ⟨_,β,rfl,.val (.tup [] [] rfl (fun j hj=>by simp at hj)),H',S',fun hh=>by omega⟩
theorem sort_sim:SimRun C.P 85 sortPrim:=by
 intro args h r h' e w F β vs H ha
 unfold sortPrim at e
 split at e
 ·rename_i g
  obtain ⟨rfl,rfl⟩:=Prod.mk.inj (Option.some.inj e)
  obtain ⟨v0,v1,rfl,h0,h1⟩:=ha.two
  obtain ⟨ad,cap,rfl,_,_⟩:=h0.snap_inv.snap_len
  have hcon:=AnyF.slices_SortFunc_none layS ad cap v1 w
  refine hcon.mono ?_
  rintro e w' ⟨rfl,rfl⟩
  exact ⟨_,β,rfl,.val (.tup [] [] rfl (fun j hj=>by simp at hj)),H,Stp.refl w' h β,fun hh=>by omega⟩
 ·rename_i id ep len g
  split at e
  ·rename_i o hg
   split at e
   ·rename_i ts hd
    split at e
    ·rename_i hc
     obtain ⟨rfl,rfl⟩:=Prod.mk.inj (Option.some.inj e)
     obtain ⟨rfl,c1,c2,rfl,c4,c5⟩:=hc
     exact sort_core H ha hg c1 c2 c4 (encs_decTs _ hd) (by simpa using c5)
    ·cases e
   ·cases e
  ·cases e
 ·cases e
end Go.Pm
end
section
set_option maxRecDepth 100000
set_option maxHeartbeats 4000000
namespace Go.Pm
open Go.Proofs
variable {w:World} {F:Nat→Prop} {β:List (Nat × Nat)} {h:AHeap}
attribute [local irreducible] thenQ blockQ loopQ bodyQ Ev EvOps CallEv FnEv EvD
namespace Zero
theorem clone7 {fl:Bool} {es:List PV} {vs:List Value} (H:HRel w F β h) (ha:L2 (VRel w (Av F h β) β h) vs [.snap fl es]) (hes:esOk 1 es) (hn:es.length<1000000000) {r:PV} {h':AHeap}
  (hr:(es=[]∧r=.snap true []∧h'=h)∨(es≠[]∧r=.mref h.length 0 0 es.length∧h'=h++[⟨.m,0,1,es⟩])):CSim C0.P 2 w F β h 13 vs r h':=by
 refine csim_wp (P:=C0.P) Tryz.func13 rfl H ha (fun a RR=>?_)
 refine wp_seq ?_
 refine ev_wp K0 mixed0 S0 (M:=fun ex s'=>ex=.normal∧∃ ρ',s'=⟨al [(0,.snap fl es)] ρ',h⟩) rfl ?_ RR ?_
 ·rw [envOf_al]
  (repeat' (first | refine EvOps.nil ?_ | (apply R.assign;exact rfl) | refine Ev.region ?_ | fail))
  exact ⟨rfl,_,St.keep ⟨rfl,trivial⟩⟩
 rintro ex s' a1 w1 β1 ⟨rfl,ρ1,rfl⟩ R1 S1
 refine wp_seq ?_
 refine wp_seq ?_
 apply region_special K0 S0 (pre:=[_]) (post:=[]) (R:=R1) (M:=fun s'=>∃ ρ',s'=⟨al [(0,.snap fl es),(3,.snap fl es)] ρ',h⟩) (M2:=fun s'=>∃ bb ρ',s'=⟨al [(0,.snap fl es),(4,.bool bb)] ρ',h⟩∧(bb=true→es=[]))
 ·rfl
 ·rfl
 ·(repeat' (first | refine EvOps.nil ?_ | (apply R.move;exact rfl) | fail))
  exact ⟨_,St.keep ⟨rfl,rfl,trivial⟩⟩
 ·rintro s1 a2 w2 β2 ⟨ρ2,rfl⟩ R2 S2
  obtain ⟨bb,hb,os⟩:=eqnil_osim (t:=36) (yt:=36) (el:=3) (x:=.tmp 3) (fl:=fl) (es:=es) R2.hr R2.er (kd_sl (T6.hkd 36 _ rfl)) (lk_al (L:=[(0,.snap fl es),(3,.snap fl es)]) (t:=3) rfl ρ2)
  refine ⟨.bool bb,h,os _ rfl,EvOps.nil ⟨bb,al ((4,.bool bb)::[(0,.snap fl es),(3,.snap fl es)]) ρ2,?_,hb⟩⟩
  show (⟨updO (al [(0,.snap fl es),(3,.snap fl es)] ρ2) (some 4) (.bool bb),h⟩:St)=_
  rw [al_cons]
  exact St.keep ⟨rfl,rfl,trivial⟩
 rintro s3 a3 w3 β3 ⟨bb,ρ3,rfl,hb⟩ R3 S3
 cases bb
 ·refine ev_wp K0 mixed0 S0 (M:=fun ex s'=>ex=.normal∧∃ ρ',s'=⟨al [(0,.snap fl es)] ρ',h⟩) rfl ?_ R3 ?_
  ·(repeat' (first | (apply Ev.condB;exact rfl) | refine Ev.skip ?_ | fail))
   exact ⟨rfl,_,St.keep ⟨rfl,trivial⟩⟩
  rintro ex s' a4 w4 β4 ⟨rfl,ρ4,rfl⟩ R4 S4
  refine ev_wp K0 mixed0 S0 (M:=fun ex s'=>ex=.ret∧∃ ρ',s'=⟨al [(2,r)] ρ',h'⟩) rfl ?_ R4 ?_
  ·(repeat' (first | (apply R.move;exact rfl) | (apply R.buildSlice T6;exact rfl;exact rfl;exact rfl;exact rfl;exact (by decide);exact rfl;exact rfl;exact rfl;exact rfl;exact rfl) | refine Ev.seq ?_ | refine Ev.region ?_ | fail))
   rcases hr with ⟨rfl,rfl,rfl⟩ | ⟨hne,rfl,rfl⟩
   ·apply R.appendS0 T6;exact rfl;exact rfl;exact rfl;exact rfl;exact rfl;exact rfl;exact rfl;exact (by decide);exact rfl;exact rfl
    (repeat' (first | refine EvOps.nil ?_ | (apply R.assign;exact rfl) | refine Ev.ret ?_ | refine thenQ.normal ?_ | fail))
    exact ⟨rfl,_,St.keep ⟨rfl,trivial⟩⟩
   ·apply R.appendS1 T6;exact rfl;exact rfl;exact rfl;exact rfl;exact rfl;exact rfl;exact rfl;exact (by decide);exact rfl;exact rfl;exact hes;exact hne;exact hn
    (repeat' (first | refine EvOps.nil ?_ | (apply R.assign;exact rfl) | refine Ev.ret ?_ | refine thenQ.normal ?_ | fail))
    exact ⟨rfl,_,St.keep ⟨rfl,trivial⟩⟩
  rintro ex s5 a5 w5 β5 ⟨rfl,ρ5,rfl⟩ R5 S5
  refine ⟨.inr rfl,_,β5,R5,((S1.trans S3).trans S4).trans S5,[r],?_,fun u hu=>⟨β5,hu,R5.hr,((S1.trans S3).trans S4).trans S5⟩⟩
  exact resT_of (L:=[(2,r)]) rfl
 ·obtain rfl:=hb rfl
  rcases hr with ⟨_,rfl,rfl⟩ | ⟨hne,_⟩
  ·refine ev_wp K0 mixed0 S0 (M:=fun ex s'=>ex=.ret∧∃ ρ',s'=⟨al [(2,.snap true [])] ρ',h'⟩) rfl ?_ R3 ?_
   ·(repeat' (first | refine EvOps.nil ?_ | (apply R.assign;exact rfl) | refine Ev.seq ?_ | refine Ev.region ?_ | (apply Ev.condB;exact rfl) | refine Ev.ret ?_ | refine thenQ.normal ?_ | fail))
    exact ⟨rfl,_,St.keep ⟨rfl,trivial⟩⟩
   rintro ex s5 a5 w5 β5 ⟨rfl,ρ5,rfl⟩ R5 S5
   refine ⟨.inr rfl,_,β5,R5,(S1.trans S3).trans S5,[.snap true []],?_,fun u hu=>⟨β5,hu,R5.hr,(S1.trans S3).trans S5⟩⟩
   exact resT_of (L:=[(2,.snap true [])]) rfl
  ·exact absurd rfl hne
 ·rfl
end Zero
theorem clone_simI:SimRun C.P 13 (clonePrim 1):=by
 intro args h r h' e w F β vs H ha
 unfold clonePrim at e
 split at e
 ·rename_i fl es
  split at e
  ·rename_i hem
   obtain ⟨rfl,rfl⟩:=Prod.mk.inj (Option.some.inj e)
   obtain rfl:es=[]:=by simpa using hem
   exact Zero.clone7 H ha rfl (by simp) (.inl ⟨rfl,rfl,rfl⟩)
  ·rename_i hem
   split at e
   ·rename_i hc
    obtain ⟨rfl,rfl⟩:=Prod.mk.inj (Option.some.inj e)
    exact Zero.clone7 H ha hc.1 hc.2 (.inr ⟨by simpa using hem,rfl,rfl⟩)
   ·cases e
 ·cases e
end Go.Pm
end
section
namespace Go.Pm
def Moded (md md':FuncId→Mode):Prop:=∀ f,md f=.no∨md f=md' f
variable {P:Program} {md md':FuncId→Mode} {run run':Run}
theorem callF_up (M:Moded md md') (L:RunLe run run') {lv:Nat} {f:FuncId} {args:List PV} {h:AHeap} {x:PV × AHeap} (e:callF ⟨P,md⟩ run lv f args h=some x):callF ⟨P,md'⟩ run' lv f args h=some x:=by
 unfold callF at e ⊢
 rcases M f with hz | hz
 ·simp only [hz] at e
  cases e
 simp only [← hz]
 cases hm:md f <;> simp only [hm] at e ⊢
 ·cases e
 ·exact callPure_mono L e
 ·exact callOpen_mono L e
 ·exact e
 ·exact lockCall_mono (fun _ _ _ x=>x) e
 ·exact e
theorem opVal_up (M:Moded md md') (L:RunLe run run') {lv:Nat} {op:Op} {ρ:Nat→PV} {h:AHeap} {x:PV × AHeap} (e:opVal ⟨P,md⟩ run lv op ρ h=some x):opVal ⟨P,md'⟩ run' lv op ρ h=some x:=by
 unfold opVal at e ⊢
 split at e
 ·split at e
  ·unfold calleeP at e ⊢
   split at e
   ·exact callF_up M L e
   ·exact callF_up M L e
   ·cases e
  ·exact e
  ·cases e
 ·exact e
theorem opStep_up (M:Moded md md') (L:RunLe run run') {ops:Array Oper} {o:Oper} {s s':St} (e:opStep ⟨P,md⟩ run ops o s=some s'):opStep ⟨P,md'⟩ run' ops o s=some s':=by
 unfold opStep at e ⊢
 split at e
 ·cases hr:opVal ⟨P,md⟩ run 2 o.op s.ρ s.h with
  | none=>rw [hr] at e;cases e
  | some y=>rw [hr] at e;rw [opVal_up M L hr];exact e
 ·exact e
 ·cases e
theorem evalOps_up (M:Moded md md') (L:RunLe run run') {ops:Array Oper}:∀ {l:List Oper} {s s':St},evalOps ⟨P,md⟩ run ops l s=some s'→evalOps ⟨P,md'⟩ run' ops l s=some s'
 | [],s,s',e=>e
 | o::l,s,s',e=>by
  simp only [evalOps] at e ⊢
  cases hr:opStep ⟨P,md⟩ run ops o s with
  | none=>rw [hr] at e;cases e
  | some y=>
   rw [hr] at e
   rw [opStep_up M L hr]
   exact evalOps_up M L e
theorem opStepD_up (M:Moded md md') (L:RunLe run run') {ops:Array Oper} {b:List Nat} {i:Nat} {o:Oper} {s s':DSt} (e:opStepD ⟨P,md⟩ run ops b i o s=some s'):opStepD ⟨P,md'⟩ run' ops b i o s=some s':=by
 unfold opStepD at e ⊢
 split at e
 ·split at e
  ·rename_i hh
   rw [if_pos hh]
   cases hr:opVal ⟨P,md⟩ run 1 o.op s.s.ρ s.s.h with
   | none=>rw [hr] at e;cases e
   | some y=>rw [hr] at e;rw [opVal_up M L hr];exact e
  ·rename_i hh
   rw [if_neg hh]
   split at e
   ·rename_i hl
    rw [if_pos hl]
    cases hr:opVal ⟨P,md⟩ run 2 o.op s.s.ρ s.s.h with
    | none=>rw [hr] at e;cases e
    | some y=>rw [hr] at e;rw [opVal_up M L hr];exact e
   ·rename_i hl
    rw [if_neg hl]
    simp only at e ⊢
    split at e
    ·rename_i hc
     rw [if_pos hc]
     cases hr:opVal ⟨P,md⟩ run 1 o.op s.s.ρ (maskE (b.getD i 0).testBit s.L0 s.own s.s.h) with
     | none=>rw [hr] at e;cases e
     | some y=>rw [hr] at e;rw [opVal_up M L hr];exact e
    ·cases e
 ·exact e
 ·cases e
theorem evalOpsD_up (M:Moded md md') (L:RunLe run run') {ops:Array Oper} {b:List Nat}:∀ {l:List Oper} {i:Nat} {s s':DSt},evalOpsD ⟨P,md⟩ run ops b i l s=some s'→evalOpsD ⟨P,md'⟩ run' ops b i l s=some s'
 | [],i,s,s',e=>e
 | o::l,i,s,s',e=>by
  simp only [evalOpsD] at e ⊢
  cases hr:opStepD ⟨P,md⟩ run ops b i o s with
  | none=>rw [hr] at e;cases e
  | some y=>
   rw [hr] at e
   rw [opStepD_up M L hr]
   exact evalOpsD_up M L e
theorem evalC_up (M:Moded md md') (L:RunLe run run') {n m:Nat} (hnm:n≤m):∀ (c:Code) {s:St} {x:Ex × St},evalC ⟨P,md⟩ run n c s=some x→evalC ⟨P,md'⟩ run' m c s=some x:=by
 intro c
 induction c with
 | region id ops draw=>
  intro s x e
  simp only [evalC] at e ⊢
  cases draw with
  | false=>
   simp only [Bool.false_eq_true,if_false] at e ⊢
   cases hr:evalOps ⟨P,md⟩ run ops ops.toList s with
   | none=>rw [hr] at e;cases e
   | some y=>rw [hr] at e;rw [evalOps_up M L hr];exact e
  | true=>
   simp only [if_true] at e ⊢
   cases hr:evalOpsD ⟨P,md⟩ run ops (before ops) 0 ops.toList ⟨s,s.h.length,[]⟩ with
   | none=>rw [hr] at e;simp at e
   | some y=>rw [hr] at e;rw [evalOpsD_up M L hr];exact e
 | seq a b iha ihb=>
  intro s x e
  simp only [evalC] at e ⊢
  cases hr:evalC ⟨P,md⟩ run n a s with
  | none=>rw [hr] at e;cases e
  | some y=>
   rw [hr] at e
   rw [iha hr]
   obtain ⟨ex,s'⟩:=y
   cases ex with
   | normal=>exact ihb e
   | exit id=>exact e
   | ret=>exact e
 | cond c a b iha ihb=>
  intro s x e
  simp only [evalC] at e ⊢
  split at e
  ·exact iha e
  ·exact ihb e
  ·cases e
 | block id c ih=>
  intro s x e
  simp only [evalC] at e ⊢
  cases hr:evalC ⟨P,md⟩ run n c s with
  | none=>rw [hr] at e;cases e
  | some y=>rw [hr] at e;rw [ih hr];exact e
 | loop c ih=>
  intro s x e
  simp only [evalC] at e ⊢
  exact iter_mono (fun s x=>ih) hnm e
 | scope c ih=>
  intro s x e
  simp only [evalC] at e ⊢
  exact ih e
 | _=>
  intro s x e
  first
   | exact e
   | (simp [evalC] at e;done)
   | (simp only [evalC] at e ⊢;exact e)
theorem bodyF_up (M:Moded md md') (L:RunLe run run') {n m:Nat} (hnm:n≤m):RunLe (bodyF ⟨P,md⟩ run n) (bodyF ⟨P,md'⟩ run' m):=by
 intro f args h x e
 unfold bodyF at e ⊢
 cases hf:P.funcs[f]? with
 | none=>rw [hf] at e;cases e
 | some fn=>
  rw [hf] at e
  simp only at e ⊢
  cases hb:fn.body with
  | none=>rw [hb] at e;cases e
  | some c=>
   rw [hb] at e
   simp only at e ⊢
   cases hr:evalC ⟨P,md⟩ run n c ⟨envOf args,h⟩ with
   | none=>rw [hr] at e;cases e
   | some y=>rw [hr] at e;rw [evalC_up M L hnm c hr];exact e
theorem runF_up (M:Moded md md'):∀ n,RunLe (runF ⟨P,md⟩ n) (runF ⟨P,md'⟩ n)
 | 0=>fun f args h x e=>by cases e
 | n+1=>bodyF_up M (runF_up M n) (Nat.le_refl n)
theorem FnEv.up (M:Moded md md') {f:FuncId} {args:List PV} {h:AHeap} {Q:PV→AHeap→Prop} (a:FnEv ⟨P,md⟩ f args h Q):FnEv ⟨P,md'⟩ f args h Q:=by
 obtain ⟨r,h',q,n0,hn⟩:=a
 exact ⟨r,h',q,n0,fun n h1=>runF_up M n _ _ _ _ (hn n h1)⟩
theorem Fun.up (M:Moded md md') {f:FuncId} {args:List PV} {r:PV} (a:Fun ⟨P,md⟩ f args r):Fun ⟨P,md'⟩ f args r:=by
 obtain ⟨n0,hn⟩:=a
 refine ⟨n0,fun n h1=>?_⟩
 obtain ⟨r0,hc,r1,e1,e2⟩:=hn n h1
 exact ⟨r0,hc,r1,runF_up M n _ _ _ _ e1,e2⟩
end Go.Pm
end
section
set_option maxRecDepth 100000
namespace Go.Pm.Nine
open Go.Proofs
def mode9 (f:FuncId):Mode:=if f=85 then .primL sortPrim else if f=13 then .primL (clonePrim 1) else mode06 f
noncomputable def C:Cfg:=⟨Go.Pm.C.P,mode9⟩
noncomputable def T6:Tab C.P:=Go.Pm.T6
theorem mode9_cases (f:FuncId):f=85∨f=13∨mode9 f=mode06 f:=by
 unfold mode9
 by_cases h1:f=85
 ·exact .inl h1
 ·by_cases h2:f=13
  ·exact .inr (.inl h2)
  ·rw [if_neg h1,if_neg h2];exact .inr (.inr rfl)
theorem moded:Moded mode06 mode9:=fun f=>by
 rcases mode9_cases f with rfl | rfl | h
 ·exact .inl rfl
 ·exact .inl rfl
 ·exact .inr h.symm
theorem _root_.Go.Pm.Fun.nine {f:FuncId} {args:List PV} {r:PV} (a:Fun Go.Pm.C f args r):Fun C f args r:=Fun.up moded a
theorem _root_.Go.Pm.FnEv.nine {f:FuncId} {args:List PV} {h:AHeap} {Q:PV→AHeap→Prop} (a:FnEv Go.Pm.C f args h Q):FnEv C f args h Q:=FnEv.up moded a
theorem cfgOk9:CfgOk C where
 enters f hf hne:=by
  rcases mode9_cases f with rfl | rfl | h
  ·exact ⟨_,Tryz.func85,by kernel_rfl,by kernel_rfl⟩
  ·exact ⟨_,Tryz.func13,by kernel_rfl,by kernel_rfl⟩
  ·exact cfgOk6.enters f (fun h2=>hf (h.trans h2)) (fun g h2=>hne g (h.trans h2))
 primQ f g hh:=by
  rcases mode9_cases f with rfl | rfl | h
  ·cases hh
  ·cases hh
  ·exact cfgOk6.primQ f g (h.symm.trans hh)
 primL f g hh:=by
  rcases mode9_cases f with rfl | rfl | h
  ·obtain rfl:=Mode.primL.inj hh
   exact sort_sim
  ·obtain rfl:=Mode.primL.inj hh
   exact clone_simI
  ·exact cfgOk6.primL f g (h.symm.trans hh)
 ext f g hh:=by
  rcases mode9_cases f with rfl | rfl | h
  ·cases hh
  ·cases hh
  ·exact cfgOk6.ext f g (h.symm.trans hh)
theorem codesOk9:CodesOk C where
 mixed:=codesOk6.mixed
 codes f fn c hm hf hb:=by
  rcases mode9_cases f with rfl | rfl | h
  ·rcases hm with hm | hm <;> cases hm
  ·rcases hm with hm | hm <;> cases hm
  ·exact codesOk6.codes f fn c (hm.imp (fun h2=>h.symm.trans h2) (fun h2=>h.symm.trans h2)) hf hb
end Go.Pm.Nine
end
section
set_option maxRecDepth 4000
namespace Go.Pm
open Go.Proofs
def addT (t:Tm):List Tm→List Tm
 | []=>[t]
 | x::r=>if cmpT t x≤0 then (if cmpT t x<0 then t::x::r else x::r) else x::addT t r
attribute [local irreducible] thenQ blockQ loopQ bodyQ Ev EvOps CallEv FnEv EvD
theorem addT_fun (t:Tm) (l:List Tm) (ht:bulk t<1000000000) (hb:∀ x∈l,bulk x<1000000000) (hl:l.length<1000000):Fun C 89 [.snap false (encs l),enc t] (.snap false (encs (addT t l))):=by
 have hel:(encs l).length=l.length:=by simp
 rw [enc_x]
 refine Fun.x T6 Tryz.func89 rfl ?_
 (repeat' (first | (refine Rn.go ?_;conv=>whnf) | refine .mk ?_ | refine .tt ?_ | refine .ff ?_ | refine .m2 ?_ | refine .m3 ?_ | refine .mk (fun hc=>?_) fun hc=>?_ | refine .lp fun v H lp=>?_ | fail))
 refine LpX.zip T6 l (fun p q L H=>∃ v acc d,L=[(0,.snap false (encs l)),(3,.ptr 0 0 0 0),(5,v),(6,.bool d),(7,.int .i64 p.length)]∧HV H∧H[0]?=some ⟨.m,0,4,[.agg [.int .i64 t.k,.str t.s,.int .i64 t.o,.snap false (encs t.l)]]⟩∧Out 4 H v (encs acc)∧(∀ ep n,v≠.mref 0 ep 0 n)∧(acc.length≤p.length+if d then 1 else 0)∧acc++(if d then q else addT t q)=addT t l) (.nx ⟨_,[],false,rfl,HV.one rfl,rfl,.inl ⟨rfl,rfl⟩,(fun _ _ h=>by cases h),by simp,by simp⟩) ?_ ?_
 ·rintro p x q _ h ρ e ⟨v,acc,d,rfl,hH,h0,ho,hv0,hal,hg⟩
  have hat:=at_encs e
  have hl2:=congrArg List.length e
  simp only [List.length_append,List.length_cons] at hl2
  have hcm:=rcmp_fun t x ht (hb x (by rw [e];simp))
  rw [enc_x,enc_x] at hcm
  have hla:(encs acc).length=acc.length:=by simp
  have hal2:acc.length≤p.length+1:=by cases d <;> simp at hal <;> omega
  (repeat' (first | (refine Rn.go ?_;conv=>whnf) | refine .mk ?_ | refine .tt ?_ | refine .ff ?_ | refine .m2 ?_ | refine .m3 ?_ | refine .mk (fun hc=>?_) fun hc=>?_ | refine .lp fun v H lp=>?_ | fail))
  refine .p hcm ?_
  have sn:∀ (a:List Tm) (y:Tm),encs a++[.agg [.int .i64 y.k,.str y.s,.int .i64 y.o,.snap false (encs y.l)]]=encs (a++[y]):=fun a y=>by rw [← encs_snoc,enc_x]
  cases d
  ·rw [if_neg (by decide)] at hg
   (repeat' (first | (refine Rn.go ?_;conv=>whnf) | refine .mk ?_ | refine .tt ?_ | refine .ff ?_ | refine .m2 ?_ | refine .m3 ?_ | refine .mk (fun hc=>?_) fun hc=>?_ | refine .lp fun v H lp=>?_ | fail))
   ·obtain ⟨h0',hv0'⟩:=lp.obj h0 hv0
    have hH':=lp.hv
    have lo:=lp.out
    rw [sn] at lo
    have hla2:(encs (acc++[t])).length=acc.length+1:=by simp
    clear lp
    (repeat' (first | (refine Rn.go ?_;conv=>whnf) | refine .mk ?_ | refine .tt ?_ | refine .ff ?_ | refine .m2 ?_ | refine .m3 ?_ | refine .mk (fun hc=>?_) fun hc=>?_ | refine .lp fun v H lp=>?_ | fail))
    have lo2:=lp.out
    rw [sn] at lo2
    exact .nx ⟨_,acc++[t]++[x],true,rfl,lp.hv,(lp.obj h0' hv0').1,lo2,(lp.obj h0' hv0').2,by simp at hal ⊢;omega,by rw [← hg,show addT t (x::q)=t::x::q by rw [addT,if_pos (by assumption),if_pos hc]];simp⟩
   ·have lo2:=lp.out
    rw [sn] at lo2
    exact .nx ⟨_,acc++[x],true,rfl,lp.hv,(lp.obj h0 hv0).1,lo2,(lp.obj h0 hv0).2,by simp at hal ⊢;omega,by rw [← hg,show addT t (x::q)=x::q by rw [addT,if_pos (by assumption),if_neg hc]];simp⟩
   ·have lo2:=lp.out
    rw [sn] at lo2
    exact .nx ⟨_,acc++[x],false,rfl,lp.hv,(lp.obj h0 hv0).1,lo2,(lp.obj h0 hv0).2,by simp at hal ⊢;omega,by rw [← hg,show addT t (x::q)=x::addT t q by rw [addT,if_neg hc]];simp⟩
  ·(repeat' (first | (refine Rn.go ?_;conv=>whnf) | refine .mk ?_ | refine .tt ?_ | refine .ff ?_ | refine .m2 ?_ | refine .m3 ?_ | refine .mk (fun hc=>?_) fun hc=>?_ | refine .lp fun v H lp=>?_ | fail))
   have lo2:=lp.out
   rw [sn] at lo2
   exact .nx ⟨_,acc++[x],true,rfl,lp.hv,(lp.obj h0 hv0).1,lo2,(lp.obj h0 hv0).2,by simp at hal ⊢;omega,by rw [← hg];simp⟩
 ·rintro _ h ρ ⟨v,acc,d,rfl,hH,h0,ho,hv0,hal,hg⟩
  have hla:(encs acc).length=acc.length:=by simp
  have hal2:acc.length≤l.length+1:=by cases d <;> simp at hal <;> omega
  have sn:∀ (a:List Tm) (y:Tm),encs a++[.agg [.int .i64 y.k,.str y.s,.int .i64 y.o,.snap false (encs y.l)]]=encs (a++[y]):=fun a y=>by rw [← encs_snoc,enc_x]
  have fin:∀ {h:AHeap} {v:PV} {a:List Tm},Out 4 h v (encs a)→a=addT t l→∃ r1,rb h (tupOf [v])=some r1∧nrm r1=.snap false (encs (addT t l)):=fun {h v a} ho ha=>by
   obtain ⟨r1,e1,e2⟩:=ho.rbA (isVals_encs _)
   exact ⟨r1,by rcases ho with ⟨rfl,_⟩ | ⟨id,ep,rfl,_⟩ <;> exact e1,by rw [e2,nrms_encs,ha]⟩
  cases d
  ·(repeat' (first | (refine Rn.go ?_;conv=>whnf) | refine .mk ?_ | refine .tt ?_ | refine .ff ?_ | refine .m2 ?_ | refine .m3 ?_ | refine .mk (fun hc=>?_) fun hc=>?_ | refine .lp fun v H lp=>?_ | fail))
   have lo2:=lp.out
   rw [sn] at lo2
   exact fin lo2 (by rw [← hg];simp [addT])
  ·(repeat' (first | (refine Rn.go ?_;conv=>whnf) | refine .mk ?_ | refine .tt ?_ | refine .ff ?_ | refine .m2 ?_ | refine .m3 ?_ | refine .mk (fun hc=>?_) fun hc=>?_ | refine .lp fun v H lp=>?_ | fail))
   exact fin ho (by rw [← hg];simp)
end Go.Pm
end
