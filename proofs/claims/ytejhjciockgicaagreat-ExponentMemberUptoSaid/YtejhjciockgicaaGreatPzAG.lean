/-
  A part of the library Pm and its contracts (joined by program): PmOk6 PmC0 PmClo PmROps PmRTerm PmFew PmRInv PmXT PmRead PmRead2 PmLink0 PmInv PmMulM PmMulW PmRMul PmChrR PmChrR2 PmMade PmAll PmLink1 PmChrP PmChrQ PmCk0 PmLink9 PmGrow. Conditions: none.
-/
import Derived.Test.YtejhjciockgicaaGreatPzAC
import Derived.Test.YtejhjciockgicaaGreatPzAF
import Derived.Laws.Externs
import Derived.Laws.Cover3
import Derived.Test.YtejhjciockgicaaGreatPzAE
import Derived.Test.YtejhjciockgicaaGreatPzAD
import Derived.Test.YtejhjciockgicaaGreatRows
import Derived.WalkKit
import Derived.ProofKit
import Derived.Deep.Slices
import Derived.ChangeArms
import Derived.OpenShut
import Derived.JoinedCond
import Derived.WideKeyArgs
import Derived.Test.YtejhjciockgicaaGreatPzAA
import Derived.Shelf.SlSortCmp.WholeK
set_option linter.unusedVariables false
set_option linter.unusedSimpArgs false
section
set_option maxRecDepth 20000
namespace Go.Pm
open Go.Proofs
def isRun:Mode→Bool
 | .pure=>true
 | .opened=>true
 | _=>false
def isNo:Mode→Bool
 | .no=>true
 | .ext _=>true
 | _=>false
def codeChk (C:Cfg) (f:FuncId):Bool:=!isRun (C.mode f) || match C.P.funcs[f]? with
 | some fn=>match fn.body with
  | some c=>codeOk fn.ntmps c
  | none=>true
 | none=>true
def enterChk (C:Cfg) (f:FuncId):Bool:=isNo (C.mode f) || match C.P.funcs[f]? with
 | some fn => fn.body.isSome && !(fn.name == "runtime.NumGoroutine")
 | none=>false
theorem codes6:((List.range 165).all (codeChk C))=true:=by kernel_rfl
theorem enters6:((List.range 165).all (enterChk C))=true:=by kernel_rfl
theorem all_range {p:Nat→Bool} {n:Nat} (h:(List.range n).all p=true) {f:Nat} (hf:f<n):p f=true:=List.all_eq_true.1 h f (List.mem_range.2 hf)
theorem mode_big {f:Nat} (h:165≤f):C.mode f=.no:=by
 show mode06 f=.no
 unfold mode06
 have hne:∀ k:Nat,k<165→¬ f=k:=fun k hk=>by omega
 have hl:∀ l:List Nat,l.all (fun k=>decide (k<165))=true→l.contains f=false:=by
  intro l hl
  cases hc:l.contains f with
  | false=>rfl
  | true=>
   have:=List.all_eq_true.1 hl f (by simpa using hc)
   have:=of_decide_eq_true this
   omega
 rw [hl _ (by decide),hl _ (by decide)]
 simp only [Bool.false_eq_true,if_false]
 repeat' rw [if_neg (hne _ (by decide))]
 rw [if_neg (by omega:¬ f<148)]
theorem codesOk6:CodesOk C where
 mixed:=by kernel_rfl
 codes f fn c hm hf hb:=by
  have hlt:f<165:=by
   rcases Nat.lt_or_ge f 165 with h | h
   ·exact h
   ·rw [mode_big h] at hm;rcases hm with hm | hm <;> cases hm
  have:=all_range codes6 hlt
  unfold codeChk at this
  rw [hf] at this
  simp only [hb] at this
  have hr:isRun (C.mode f)=true:=by rcases hm with hm | hm <;> rw [hm] <;> rfl
  simpa [hr] using this
theorem entersOk6 : ∀ f, (∀ _h : C.mode f = .no, False) → (∀ g, C.mode f ≠ .ext g) → ∃ fn, C.P.funcs[f]? = some fn ∧ fn.body.isSome = true ∧ (fn.name == "runtime.NumGoroutine") = false := by
 intro f hf hne
 have hlt:f<165:=by
  rcases Nat.lt_or_ge f 165 with h | h
  ·exact h
  ·exact (hf (mode_big h)).elim
 have:=all_range enters6 hlt
 unfold enterChk at this
 have hn:isNo (C.mode f)=false:=by
  cases hm:C.mode f with
  | no=>exact (hf hm).elim
  | ext g=>exact (hne g hm).elim
  | _=>rfl
 rw [hn] at this
 simp only [Bool.false_or] at this
 split at this
 ·rename_i fn hfn
  simp only [Bool.and_eq_true,Bool.not_eq_true'] at this
  exact ⟨fn,hfn,this.1,this.2⟩
 ·cases this
theorem extOk6:∀ f g,C.mode f=.ext g→∀ args r,g args=some r→∀ (w:World) (A:Nat→Prop) (vs:List Value),L2 (SRel w A) vs args→∃ v,(callFunc f vs.toArray).run C.P w=.ok (.value v) w∧SRel w A v r:=by
 intro f g hm args r hr w A vs ha
 have hm':mode06 f=.ext g:=hm
 unfold mode06 at hm'
 split at hm'
 ·cases hm'
 ·split at hm'
  ·rename_i hf
   obtain rfl:=Mode.ext.inj hm'
   simp only at hr
   split at hr
   ·rename_i a b
    obtain rfl:=Option.some.inj hr
    obtain ⟨hl,hh⟩:=ha
    match vs,hl with
    | [x,y],_=>
     have h0:=hh 0 (by simp)
     have h1:=hh 1 (by simp)
     simp only [List.getD_cons_zero,List.getD_cons_succ] at h0 h1
     cases h0
     cases h1
     subst hf
     refine ⟨_,?_,.int _ _⟩
     rw [run_callFunc_extern (P:=C.P) Tryz.func122 (by kernel_rfl) (by kernel_rfl) (by kernel_rfl) (e:=Extern.BytealgCompare.compare) (by kernel_rfl)]
     show ((Extern.BytealgCompare.compare #[.string a,.string b]).run C.P w).andThen _=_
     rw [Lib.run_compareString]
     rfl
   ·cases hr
  ·repeat' split at hm'
   all_goals cases hm'
end Go.Pm
end
section
set_option maxRecDepth 100000
namespace Go.Pm
open Go.Proofs
noncomputable def C0:Cfg:=⟨C.P,fun f=>if f=92∨f=91 then .opened else .no⟩
theorem c0_mode {f:FuncId} (h:C0.mode f≠.no):f=92∨f=91:=by
 by_cases hf:f=92∨f=91
 ·exact hf
 ·exact (h (if_neg hf)).elim
theorem c0_cases (f:FuncId):C0.mode f=.opened∨C0.mode f=.no:=by
 by_cases hf:f=92∨f=91
 ·exact .inl (if_pos hf)
 ·exact .inr (if_neg hf)
theorem K0:CfgOk C0 where
 enters f hf _:=by
  rcases c0_mode (f:=f) (fun h=>hf h) with rfl | rfl
  ·exact ⟨_,Tryz.func92,rfl,rfl⟩
  ·exact ⟨_,Tryz.func91,rfl,rfl⟩
 primQ f g hh:=by rcases c0_cases f with h | h <;> rw [h] at hh <;> cases hh
 primL f g hh:=by rcases c0_cases f with h | h <;> rw [h] at hh <;> cases hh
 ext f g hh:=by rcases c0_cases f with h | h <;> rw [h] at hh <;> cases hh
def bodyChk (P:Program) (f:FuncId):Bool:=match P.funcs[f]? with
 | some fn=>match fn.body with
  | some c=>codeOk fn.ntmps c
  | none=>true
 | none=>true
theorem chk64:bodyChk C0.P 92=true:=by kernel_rfl
theorem chk63:bodyChk C0.P 91=true:=by kernel_rfl
theorem KC0:CodesOk C0 where
 mixed:=codesOk6.mixed
 codes f fn c hm hf hb:=by
  have h1:bodyChk C0.P f=true:=by
   rcases c0_mode (f:=f) (fun h=>by rcases hm with hm | hm <;> rw [hm] at h <;> cases h) with rfl | rfl
   ·exact chk64
   ·exact chk63
  unfold bodyChk at h1
  rw [hf] at h1
  simp only [hb] at h1
  exact h1
theorem S0:∀ n,RunsOk C0 (runF C0 n):=runF_sim K0 KC0
theorem mixed0:C0.P.follows .mixedOrders=true:=codesOk6.mixed
namespace Zero
noncomputable def T6:Tab C0.P:=Go.Pm.T6
end Zero
end Go.Pm
end
section
set_option maxRecDepth 100000
set_option maxHeartbeats 4000000
namespace Go.Pm
open Go.Proofs
variable {w:World} {F:Nat→Prop} {β:List (Nat × Nat)} {h:AHeap}
attribute [local irreducible] thenQ blockQ loopQ bodyQ Ev EvOps CallEv FnEv EvD
theorem eqnil_osim {a:Act} {ρ:Nat→PV} (H:HRel w F β h) (R:ERel w (Av F h β) β h a ρ) {t yt el:TypeId} {x:Operand} {fl:Bool} {es:List PV} (hu:C0.P.underlying t=some (.slice el)) (hx:ev ρ x=.snap fl es) :
  ∃ bb,(bb=true→es=[])∧∀ o:Oper,o.op=.binOp .eql t x (.const (.slice none 0 0)) yt→OSim C0.P 2 w F β h (execOp a.eval o) (.bool bb) h:=by
 have hv:=R.ev x
 rw [hx] at hv
 obtain ⟨ad,cap,e1,_,_⟩:=hv.snap_inv.snap_len
 refine ⟨ad.isNone,fun hb=>?_,fun o ho=>⟨.bool ad.isNone,w,β,.inl ?_,.val (.bool _),H,Stp.refl w h β,fun _=>Grew.refl w⟩⟩
 ·have hn:ad=none:=by cases ad <;> simp_all
  subst hn
  rcases hv.snap_inv.snap_open with h0 | ⟨b,off,cap',sz',cvs,ev',_⟩
  ·exact h0
  ·rw [e1] at ev';cases ev'
 ·obtain ⟨d,op,ty,pos,af,g⟩:=o
  simp only at ho
  subst ho
  have h2:a.eval (.const (.slice none 0 0))=.slice none 0 0:=rfl
  have g1:(eqGuard .eql t x (.const (.slice none 0 0)) (.slice ad es.length cap) (.slice none 0 0)).run C0.P w=.ok () w:=by simp [eqGuard]
  have g2:(binOp .eql t (.slice ad es.length cap) (.slice none 0 0)).run C0.P w=.ok (.bool ad.isNone) w:=by
   simp only [binOp]
   simp [run_equal_slice_nil w t el ad es.length cap hu]
  simp only [execOp,e1,h2,Sem.run_bind,g1,g2,Result.andThen_ok,Sem.run_pure]
theorem appendP_nil {C:Cfg} (T:Tab C.P) {lv:Nat} {st xt el el':TypeId} {sz by':Nat} {z:PV} {full:Bool} (hk:T.kd st=some (.sl el)) (hk':T.kd xt=some (.sl el')) (hs:T.ts el=some (sz+1)) (hb:T.tb el=some by') (hz:T.tz el=some z)
  (hby:by'≤1000) (hl:(cells z).length=sz+1) (ho:(cells z).all oneC=true):appendP C.P lv h st xt (.snap true []) (.snap full [])=some (.snap true [],h):=by
 unfold appendP
 rw [kd_sl (T.hkd _ _ hk)]
 simp only [T.hts _ _ hs,T.htb _ _ hb,T.htz _ _ hz,appendee,kd_sl (T.hkd _ _ hk'),elems]
 rw [if_pos ⟨by omega,by omega,⟨hl,ho⟩,rfl⟩]
 rfl
section
variable {C:Cfg} (T:Tab C.P)
variable {ops:Array Oper} {d:Nat} {ty:TypeId} {pos:String} {af:Array Edge} {r:List Oper} {ρ:Nat→PV} {L:List (Nat × PV)} {Q:St→Prop}
theorem R.appendS0 {st xt el el':TypeId} {sz by':Nat} {z:PV} {full:Bool} {x y:Operand} (hx:evL L x=some (.snap true [])) (hy:evL L y=some (.snap full [])) (hk:T.kd st=some (.sl el)) (hk':T.kd xt=some (.sl el')) (hs:T.ts el=some (sz+1)) (hb:T.tb el=some by') (hz:T.tz el=some z)
  (hby:by'≤1000) (hl:(cells z).length=sz+1) (ho:(cells z).all oneC=true) (kk:EvOps C ops r ⟨al ((d,.snap true [])::L) ρ,h⟩ Q) :
  EvOps C ops (⟨some d,.call ⟨.builtin .append,#[x,y],#[st,xt]⟩,ty,pos,af,none⟩::r) ⟨al L ρ,h⟩ Q:=by
 refine EvOps.valL (fun run=>?_) kk
 have hap:=appendP_nil T (h:=h) (lv:=2) (full:=full) hk hk' hs hb hz hby hl ho
 simp only [opVal,builtinP,List.map_cons,List.map_nil,evL_ev hx,evL_ev hy,hap]
theorem R.appendS1 {st xt el el':TypeId} {sz by':Nat} {z:PV} {full:Bool} {ys:List PV} {x y:Operand} (hx:evL L x=some (.snap true [])) (hy:evL L y=some (.snap full ys)) (hk:T.kd st=some (.sl el)) (hk':T.kd xt=some (.sl el')) (hs:T.ts el=some (sz+1)) (hb:T.tb el=some by') (hz:T.tz el=some z)
  (hby:by'≤1000) (hl:(cells z).length=sz+1) (ho:(cells z).all oneC=true) (hyo:esOk (sz+1) ys) (hne:ys≠[]) (hn:ys.length<1000000000) (kk:EvOps C ops r ⟨al ((d,.mref h.length 0 0 ys.length)::L) ρ,h++[⟨.m,0,sz+1,ys⟩]⟩ Q) :
  EvOps C ops (⟨some d,.call ⟨.builtin .append,#[x,y],#[st,xt]⟩,ty,pos,af,none⟩::r) ⟨al L ρ,h⟩ Q:=by
 refine EvOps.valL (fun run=>?_) kk
 have hap:=appendP_new T (h:=h) (lv:=2) (full:=full) (by decide) hk hk' hs hb hz hby hl ho hyo (by cases ys with | nil=>exact absurd rfl hne | cons=>rfl) hn
 simp only [opVal,builtinP,List.map_cons,List.map_nil,evL_ev hx,evL_ev hy,hap]
end
namespace Zero
theorem clone59 {fl:Bool} {es:List PV} {vs:List Value} (H:HRel w F β h) (ha:L2 (VRel w (Av F h β) β h) vs [.snap fl es]) (hes:esOk 4 es) (hn:es.length<1000000000) {r:PV} {h':AHeap}
  (hr:(es=[]∧r=.snap true []∧h'=h)∨(es≠[]∧r=.mref h.length 0 0 es.length∧h'=h++[⟨.m,0,4,es⟩])):CSim C0.P 2 w F β h 103 vs r h':=by
 refine csim_wp (P:=C0.P) Tryz.func103 rfl H ha (fun a RR=>?_)
 refine wp_seq ?_
 refine ev_wp K0 mixed0 S0 (M:=fun ex s'=>ex=.normal∧∃ ρ',s'=⟨al [(0,.snap fl es)] ρ',h⟩) rfl ?_ RR ?_
 ·rw [envOf_al]
  (repeat' (first | refine EvOps.nil ?_ | (apply R.assign;exact rfl) | refine Ev.region ?_ | fail))
  exact ⟨rfl,_,St.keep ⟨rfl,trivial⟩⟩
 rintro ex s' a1 w1 β1 ⟨rfl,ρ1,rfl⟩ R1 S1
 refine wp_seq ?_
 refine wp_seq ?_
 apply region_special K0 S0 (pre:=[_]) (post:=[]) (R:=R1) (M:=fun s'=>∃ ρ',s'=⟨al [(0,.snap fl es),(3,.snap fl es)] ρ',h⟩) (M2:=fun s'=>∃ bb ρ',s'=⟨al [(0,.snap fl es),(4,.bool bb)] ρ',h⟩∧(bb=true→es=[]))
 ·rfl
 ·rfl
 ·(repeat' (first | refine EvOps.nil ?_ | (apply R.move;exact rfl) | fail))
  exact ⟨_,St.keep ⟨rfl,rfl,trivial⟩⟩
 ·rintro s1 a2 w2 β2 ⟨ρ2,rfl⟩ R2 S2
  obtain ⟨bb,hb,os⟩:=eqnil_osim (t:=51) (yt:=51) (el:=53) (x:=.tmp 3) (fl:=fl) (es:=es) R2.hr R2.er (kd_sl (T6.hkd 51 _ rfl)) (lk_al (L:=[(0,.snap fl es),(3,.snap fl es)]) (t:=3) rfl ρ2)
  refine ⟨.bool bb,h,os _ rfl,EvOps.nil ⟨bb,al ((4,.bool bb)::[(0,.snap fl es),(3,.snap fl es)]) ρ2,?_,hb⟩⟩
  show (⟨updO (al [(0,.snap fl es),(3,.snap fl es)] ρ2) (some 4) (.bool bb),h⟩:St)=_
  rw [al_cons]
  exact St.keep ⟨rfl,rfl,trivial⟩
 rintro s3 a3 w3 β3 ⟨bb,ρ3,rfl,hb⟩ R3 S3
 cases bb
 ·refine ev_wp K0 mixed0 S0 (M:=fun ex s'=>ex=.normal∧∃ ρ',s'=⟨al [(0,.snap fl es)] ρ',h⟩) rfl ?_ R3 ?_
  ·(repeat' (first | (apply Ev.condB;exact rfl) | refine Ev.skip ?_ | fail))
   exact ⟨rfl,_,St.keep ⟨rfl,trivial⟩⟩
  rintro ex s' a4 w4 β4 ⟨rfl,ρ4,rfl⟩ R4 S4
  refine ev_wp K0 mixed0 S0 (M:=fun ex s'=>ex=.ret∧∃ ρ',s'=⟨al [(2,r)] ρ',h'⟩) rfl ?_ R4 ?_
  ·(repeat' (first | (apply R.move;exact rfl) | (apply R.buildSlice T6;exact rfl;exact rfl;exact rfl;exact rfl;exact (by decide);exact rfl;exact rfl;exact rfl;exact rfl;exact rfl) | refine Ev.seq ?_ | refine Ev.region ?_ | fail))
   rcases hr with ⟨rfl,rfl,rfl⟩ | ⟨hne,rfl,rfl⟩
   ·apply R.appendS0 T6;exact rfl;exact rfl;exact rfl;exact rfl;exact rfl;exact rfl;exact rfl;exact (by decide);exact rfl;exact rfl
    (repeat' (first | refine EvOps.nil ?_ | (apply R.assign;exact rfl) | refine Ev.ret ?_ | refine thenQ.normal ?_ | fail))
    exact ⟨rfl,_,St.keep ⟨rfl,trivial⟩⟩
   ·apply R.appendS1 T6;exact rfl;exact rfl;exact rfl;exact rfl;exact rfl;exact rfl;exact rfl;exact (by decide);exact rfl;exact rfl;exact hes;exact hne;exact hn
    (repeat' (first | refine EvOps.nil ?_ | (apply R.assign;exact rfl) | refine Ev.ret ?_ | refine thenQ.normal ?_ | fail))
    exact ⟨rfl,_,St.keep ⟨rfl,trivial⟩⟩
  rintro ex s5 a5 w5 β5 ⟨rfl,ρ5,rfl⟩ R5 S5
  refine ⟨.inr rfl,_,β5,R5,((S1.trans S3).trans S4).trans S5,[r],?_,fun u hu=>⟨β5,hu,R5.hr,((S1.trans S3).trans S4).trans S5⟩⟩
  exact resT_of (L:=[(2,r)]) rfl
 ·obtain rfl:=hb rfl
  rcases hr with ⟨_,rfl,rfl⟩ | ⟨hne,_⟩
  ·refine ev_wp K0 mixed0 S0 (M:=fun ex s'=>ex=.ret∧∃ ρ',s'=⟨al [(2,.snap true [])] ρ',h'⟩) rfl ?_ R3 ?_
   ·(repeat' (first | refine EvOps.nil ?_ | (apply R.assign;exact rfl) | refine Ev.seq ?_ | refine Ev.region ?_ | (apply Ev.condB;exact rfl) | refine Ev.ret ?_ | refine thenQ.normal ?_ | fail))
    exact ⟨rfl,_,St.keep ⟨rfl,trivial⟩⟩
   rintro ex s5 a5 w5 β5 ⟨rfl,ρ5,rfl⟩ R5 S5
   refine ⟨.inr rfl,_,β5,R5,(S1.trans S3).trans S5,[.snap true []],?_,fun u hu=>⟨β5,hu,R5.hr,(S1.trans S3).trans S5⟩⟩
   exact resT_of (L:=[(2,.snap true [])]) rfl
  ·exact absurd rfl hne
 ·rfl
theorem clone79 {fl:Bool} {es:List PV} {vs:List Value} (H:HRel w F β h) (ha:L2 (VRel w (Av F h β) β h) vs [.snap fl es]) (hes:esOk 1 es) (hn:es.length<1000000000) {r:PV} {h':AHeap}
  (hr:(es=[]∧r=.snap true []∧h'=h)∨(es≠[]∧r=.mref h.length 0 0 es.length∧h'=h++[⟨.m,0,1,es⟩])):CSim C0.P 2 w F β h 51 vs r h':=by
 refine csim_wp (P:=C0.P) Tryz.func51 rfl H ha (fun a RR=>?_)
 refine wp_seq ?_
 refine ev_wp K0 mixed0 S0 (M:=fun ex s'=>ex=.normal∧∃ ρ',s'=⟨al [(0,.snap fl es)] ρ',h⟩) rfl ?_ RR ?_
 ·rw [envOf_al]
  (repeat' (first | refine EvOps.nil ?_ | (apply R.assign;exact rfl) | refine Ev.region ?_ | fail))
  exact ⟨rfl,_,St.keep ⟨rfl,trivial⟩⟩
 rintro ex s' a1 w1 β1 ⟨rfl,ρ1,rfl⟩ R1 S1
 refine wp_seq ?_
 refine wp_seq ?_
 apply region_special K0 S0 (pre:=[_]) (post:=[]) (R:=R1) (M:=fun s'=>∃ ρ',s'=⟨al [(0,.snap fl es),(3,.snap fl es)] ρ',h⟩) (M2:=fun s'=>∃ bb ρ',s'=⟨al [(0,.snap fl es),(4,.bool bb)] ρ',h⟩∧(bb=true→es=[]))
 ·rfl
 ·rfl
 ·(repeat' (first | refine EvOps.nil ?_ | (apply R.move;exact rfl) | fail))
  exact ⟨_,St.keep ⟨rfl,rfl,trivial⟩⟩
 ·rintro s1 a2 w2 β2 ⟨ρ2,rfl⟩ R2 S2
  obtain ⟨bb,hb,os⟩:=eqnil_osim (t:=31) (yt:=31) (el:=26) (x:=.tmp 3) (fl:=fl) (es:=es) R2.hr R2.er (kd_sl (T6.hkd 31 _ rfl)) (lk_al (L:=[(0,.snap fl es),(3,.snap fl es)]) (t:=3) rfl ρ2)
  refine ⟨.bool bb,h,os _ rfl,EvOps.nil ⟨bb,al ((4,.bool bb)::[(0,.snap fl es),(3,.snap fl es)]) ρ2,?_,hb⟩⟩
  show (⟨updO (al [(0,.snap fl es),(3,.snap fl es)] ρ2) (some 4) (.bool bb),h⟩:St)=_
  rw [al_cons]
  exact St.keep ⟨rfl,rfl,trivial⟩
 rintro s3 a3 w3 β3 ⟨bb,ρ3,rfl,hb⟩ R3 S3
 cases bb
 ·refine ev_wp K0 mixed0 S0 (M:=fun ex s'=>ex=.normal∧∃ ρ',s'=⟨al [(0,.snap fl es)] ρ',h⟩) rfl ?_ R3 ?_
  ·(repeat' (first | (apply Ev.condB;exact rfl) | refine Ev.skip ?_ | fail))
   exact ⟨rfl,_,St.keep ⟨rfl,trivial⟩⟩
  rintro ex s' a4 w4 β4 ⟨rfl,ρ4,rfl⟩ R4 S4
  refine ev_wp K0 mixed0 S0 (M:=fun ex s'=>ex=.ret∧∃ ρ',s'=⟨al [(2,r)] ρ',h'⟩) rfl ?_ R4 ?_
  ·(repeat' (first | (apply R.move;exact rfl) | (apply R.buildSlice T6;exact rfl;exact rfl;exact rfl;exact rfl;exact (by decide);exact rfl;exact rfl;exact rfl;exact rfl;exact rfl) | refine Ev.seq ?_ | refine Ev.region ?_ | fail))
   rcases hr with ⟨rfl,rfl,rfl⟩ | ⟨hne,rfl,rfl⟩
   ·apply R.appendS0 T6;exact rfl;exact rfl;exact rfl;exact rfl;exact rfl;exact rfl;exact rfl;exact (by decide);exact rfl;exact rfl
    (repeat' (first | refine EvOps.nil ?_ | (apply R.assign;exact rfl) | refine Ev.ret ?_ | refine thenQ.normal ?_ | fail))
    exact ⟨rfl,_,St.keep ⟨rfl,trivial⟩⟩
   ·apply R.appendS1 T6;exact rfl;exact rfl;exact rfl;exact rfl;exact rfl;exact rfl;exact rfl;exact (by decide);exact rfl;exact rfl;exact hes;exact hne;exact hn
    (repeat' (first | refine EvOps.nil ?_ | (apply R.assign;exact rfl) | refine Ev.ret ?_ | refine thenQ.normal ?_ | fail))
    exact ⟨rfl,_,St.keep ⟨rfl,trivial⟩⟩
  rintro ex s5 a5 w5 β5 ⟨rfl,ρ5,rfl⟩ R5 S5
  refine ⟨.inr rfl,_,β5,R5,((S1.trans S3).trans S4).trans S5,[r],?_,fun u hu=>⟨β5,hu,R5.hr,((S1.trans S3).trans S4).trans S5⟩⟩
  exact resT_of (L:=[(2,r)]) rfl
 ·obtain rfl:=hb rfl
  rcases hr with ⟨_,rfl,rfl⟩ | ⟨hne,_⟩
  ·refine ev_wp K0 mixed0 S0 (M:=fun ex s'=>ex=.ret∧∃ ρ',s'=⟨al [(2,.snap true [])] ρ',h'⟩) rfl ?_ R3 ?_
   ·(repeat' (first | refine EvOps.nil ?_ | (apply R.assign;exact rfl) | refine Ev.seq ?_ | refine Ev.region ?_ | (apply Ev.condB;exact rfl) | refine Ev.ret ?_ | refine thenQ.normal ?_ | fail))
    exact ⟨rfl,_,St.keep ⟨rfl,trivial⟩⟩
   rintro ex s5 a5 w5 β5 ⟨rfl,ρ5,rfl⟩ R5 S5
   refine ⟨.inr rfl,_,β5,R5,(S1.trans S3).trans S5,[.snap true []],?_,fun u hu=>⟨β5,hu,R5.hr,(S1.trans S3).trans S5⟩⟩
   exact resT_of (L:=[(2,.snap true [])]) rfl
  ·exact absurd rfl hne
 ·rfl
end Zero
end Go.Pm
end
section
set_option maxRecDepth 4000
set_option maxHeartbeats 8000000
namespace Go.Pm
open Go.Proofs
attribute [local irreducible] thenQ blockQ loopQ bodyQ Ev EvOps CallEv FnEv EvD
end Go.Pm
end
section
set_option maxRecDepth 4000
set_option maxHeartbeats 8000000
namespace Go.Pm
open Go.Proofs
theorem validGo_bd:∀ {l:List Pw} {pr:Option Tm},validGo pr l=0→Bd 1000 l∧(∀ p∈l,valid p.1=0∧special p.1=false)∧Nz l∧Srt l∧(∀ q,pr=some q→∀ p∈l,cmpT q p.1<0)
 | [],_,_=>⟨(fun p hp=>by cases hp),(fun p hp=>by cases hp),(fun p hp=>by cases hp),by simp [Srt],(fun _ _ p hp=>by cases hp)⟩
 | p::l,pr,h=>by
  rw [validGo_cons] at h
  by_cases h1:valid p.1=0
  ·rw [if_neg (by omega)] at h
   by_cases h2:special p.1=true
   ·rw [if_pos h2] at h;cases h
   ·rw [if_neg h2] at h
    by_cases h3:p.2=0∨p.2 < -1000∨1000<p.2
    ·rw [if_pos h3] at h;cases h
    ·rw [if_neg h3] at h
     have main:validGo (some p.1) l=0∧(∀ q,pr=some q→cmpT q p.1<0):=by
      cases pr with
      | none=>
       simp only [Bool.false_eq_true,if_false] at h
       exact ⟨h,fun q hq=>by cases hq⟩
      | some q=>
       simp only at h
       split at h
       ·cases h
       ·rename_i h4
        refine ⟨h,fun q' hq=>?_⟩
        cases hq
        have:¬ 0≤cmpT q p.1:=fun hh=>h4 (decide_eq_true hh)
        omega
     obtain ⟨b1,b2,b3,b4,b5⟩:=validGo_bd main.1
     refine ⟨fun x hx=>?_,fun x hx=>?_,fun x hx=>?_,List.pairwise_cons.2 ⟨fun x hx=>b5 p.1 rfl x hx,b4⟩,fun q hq x hx=>?_⟩
     ·rcases List.mem_cons.1 hx with rfl | hx
      ·omega
      ·exact b1 x hx
     ·rcases List.mem_cons.1 hx with rfl | hx
      ·exact ⟨h1,by simpa using h2⟩
      ·exact b2 x hx
     ·rcases List.mem_cons.1 hx with rfl | hx
      ·omega
      ·exact b3 x hx
     ·rcases List.mem_cons.1 hx with rfl | hx
      ·exact main.2 q hq
      ·exact cmpT_trans (main.2 q hq) (b5 p.1 rfl x hx)
  ·rw [if_pos h1] at h;exact absurd h h1
theorem validP_zero {l:List Pw} (h:validP l=0):l.length≤200∧Bd 1000 l∧(∀ p∈l,valid p.1=0∧special p.1=false)∧Nz l∧Srt l:=by
 unfold validP at h
 split at h
 ·cases h
 ·obtain ⟨b1,b2,b3,b4,_⟩:=validGo_bd h
  exact ⟨by omega,b1,b2,b3,b4⟩
attribute [local irreducible] thenQ blockQ loopQ bodyQ Ev EvOps CallEv FnEv EvD
end Go.Pm
end
section
set_option maxRecDepth 4000
set_option maxHeartbeats 4000000
namespace Go.Pm
open Go.Proofs
attribute [local irreducible] thenQ blockQ loopQ bodyQ Ev EvOps CallEv FnEv
end Go.Pm
end
section
set_option maxRecDepth 4000
set_option maxHeartbeats 8000000
namespace Go.Pm
open Go.Proofs
def encPPs (l:List (List Pw)):List PV:=l.map fun p=>.snap false (encPs p)
def allT (l:List (List Pw)):List Tm:=l.flatMap fun p=>p.map (·.1)
attribute [local irreducible] thenQ blockQ loopQ bodyQ Ev EvOps CallEv FnEv EvD
section
variable {C:Cfg} (T:Tab C.P)
variable {ops:Array Oper} {i:Nat} {d L0:Nat} {own:List Nat} {ty:TypeId} {pos:String} {af:Array Edge} {r:List Oper} {ρ:Nat→PV} {L:List (Nat × PV)} {h:AHeap} {Q:St→Prop}
end
end Go.Pm
end
section
set_option maxRecDepth 4000
namespace Go.Pm
open Go.Proofs
def Tm.k:Tm→Int | .mk k _ _ _=>k
def Tm.s:Tm→ByteArray | .mk _ s _ _=>s
def Tm.o:Tm→Int | .mk _ _ o _=>o
def Tm.l:Tm→List Tm | .mk _ _ _ l=>l
theorem enc_x (t:Tm):enc t=.agg [.int .i64 t.k,.str t.s,.int .i64 t.o,.snap false (encs t.l)]:=by cases t;exact enc_mk _ _ _ _
theorem encP_x (t:Tm) (n:Int):encP (t,n)=.agg [.int .i64 t.k,.str t.s,.int .i64 t.o,.snap false (encs t.l),.int .i64 n]:=by cases t;rfl
attribute [simp] isVals isVal nrms nrm isVals_encs nrms_encs isVal_enc nrm_enc nrms_encPs encPs_vals
@[simp] theorem fold_enc (t:Tm):PV.agg [.int .i64 t.k,.str t.s,.int .i64 t.o,.snap false (encs t.l)]=enc t:=(enc_x t).symm
@[simp] theorem fold_encP (t:Tm) (n:Int):PV.agg [.int .i64 t.k,.str t.s,.int .i64 t.o,.snap false (encs t.l),.int .i64 n]=encP (t,n):=(encP_x t n).symm
theorem isVals_app (a b:List PV):isVals (a++b)=(isVals a && isVals b):=by rw [isVals_eq,List.all_append,← isVals_eq,← isVals_eq]
attribute [simp] isVals_app
@[simp] theorem isVal_encP (p:Pw):isVal (encP p)=true:=by obtain ⟨t,n⟩:=p;rw [encP_x];simp
@[simp] theorem nrm_encP (p:Pw):nrm (encP p)=encP p:=by obtain ⟨t,n⟩:=p;rw [encP_x];simp [-fold_encP,-fold_enc]
@[simp] theorem encPs_nil:encPs []=[]:=rfl
@[simp] theorem encs_nil:encs []=[]:=by simp [encs]
@[simp] theorem encs_lenS (l:List Tm):(encs l).length=l.length:=encs_len l
@[simp] theorem encPs_lenS (l:List Pw):(encPs l).length=l.length:=encPs_len l
theorem at_encs {l p q:List Tm} {t:Tm} (e:l=p++t::q):(encs l)[p.length]?=some (.agg [.int .i64 t.k,.str t.s,.int .i64 t.o,.snap false (encs t.l)]):=by rw [encs_eq,e,← enc_x];simp
theorem at_encPs {l p q:List Pw} {t:Tm} {n:Int} (e:l=p++(t,n)::q):(encPs l)[p.length]?=some (.agg [.int .i64 t.k,.str t.s,.int .i64 t.o,.snap false (encs t.l),.int .i64 n]):=by rw [encPs,e,← encP_x];simp
attribute [local irreducible] thenQ blockQ loopQ bodyQ Ev EvOps CallEv FnEv EvD
end Go.Pm
end
section
set_option maxRecDepth 100000
set_option maxHeartbeats 2000000
namespace Go.Pm
open Go.Proofs
instance:Inhabited Tm:=⟨zeroT⟩
def NoB:Nat→Prop:=fun _=>False
theorem plain_addr {w:World} {a:Addr} {v:Value} (h:w.cell? a=some v):∃ b off,a=⟨b,off,none⟩:=by
 obtain ⟨b,off,sp⟩:=a
 cases sp with
 | none=>exact ⟨b,off,rfl⟩
 | some s=>
  exfalso
  unfold World.cell? at h
  split at h
  ·simp at h
  ·cases h
theorem add0 (a:Addr):a.add 0=a:=by obtain ⟨b,off,sp⟩:=a;simp [Addr.add]
end Go.Pm
end
section
set_option maxRecDepth 100000
set_option maxHeartbeats 2000000
namespace Go.Pm
open Go.Proofs
open Go.Proofs.YtejhjciockgicaaGreat in
theorem sum_upto {H E:Type} (B:E→Nat):∀ (l:List E) (ds:List (DataW H)),l.length=ds.length→(∀ (i:Nat) (t:E) (d:DataW H),l[i]?=some t→ds[i]?=some d→B t≤Rows.uptoBulk d)→(l.map B).sum≤Rows.uptoBulkAll ds
 | [],_,_,_=>by simp
 | t::l,[],h,_=>by simp at h
 | t::l,d::ds,h,hb=>by
  have h1:=hb 0 t d rfl rfl
  have h2:=sum_upto B l ds (by simpa using h) (fun i t' d' e1 e2=>hb (i+1) t' d' (by simpa using e1) (by simpa using e2))
  simp only [List.map_cons,List.sum_cons,Rows.uptoBulkAll];omega
open Go.Proofs.YtejhjciockgicaaGreat in
theorem read_slice {H:Type} {ec:TypeId × Value→H} {w:World} {sp:Nat→Bool} {held:Bool} {ty el:TypeId} {sz:Nat} {E:Type} [Inhabited E] (encE:E→PV) (B:E→Nat) (hk:C.P.underlying ty=some (.slice el)) (hc:C.P.cellsOf el=sz) (hpos:0<sz) (hl:∀ e,(Pm.cells (encE e)).length=sz)
  (elem:∀ (n:Nat) (cs:List Value) (x:DataW H × List MemPlace),DataW.trod ec C.P w 0 sp held n el cs=some x→∃ e:E,cs.length=sz∧(∀ j,j<sz→SRel w NoB (cs.getD j undef) ((Pm.cells (encE e)).getD j .any))∧B e≤Rows.uptoBulk x.1)
  {n:Nat} {cs:List Value} {x:DataW H × List MemPlace} (h:DataW.trod ec C.P w 0 sp held n ty cs=some x):∃ (c:Value) (l:List E),cs=[c]∧SRel w NoB c (.snap false (l.map encE))∧(l.map B).sum+1≤Rows.uptoBulk x.1:=by
 rcases DataW.trod_slice hk h with ⟨e3,rfl⟩ | ⟨a,len,cap,elems,rest,n2,hn2,e3,rfl,hb,hle,hcap,hlen2,hel,_,_⟩
 ·exact ⟨_,[],e3,.snapE none 0 false (fun h=>by cases h),by simp [Rows.uptoBulk]⟩
 ·subst hc
  have each:∀ i,i<len→∃ q:List Value × E,w.cells? 0 (a.add (i * C.P.cellsOf el)) (C.P.cellsOf el)=some q.1∧(q.1.length=C.P.cellsOf el∧∀ j,j<C.P.cellsOf el→SRel w NoB (q.1.getD j undef) ((Pm.cells (encE q.2)).getD j .any))∧∀ y,elems[i]?=some y→B q.2≤Rows.uptoBulk y.1:=by
   intro i hi
   have h1:=hel i hi
   obtain ⟨y,hy⟩:∃ y,elems[i]?=some y:=⟨elems[i],List.getElem?_eq_getElem (by omega)⟩
   rw [hy] at h1
   cases hc:w.cells? 0 (a.add (i * C.P.cellsOf el)) (C.P.cellsOf el) with
   | none=>rw [hc] at h1;cases h1
   | some cs'=>
    rw [hc] at h1
    obtain ⟨t,t1,t2,t3⟩:=elem n2 cs' y h1
    exact ⟨(cs',t),rfl,⟨t1,t2⟩,fun y' hy'=>by rw [hy] at hy';obtain rfl:=Option.some.inj hy';exact t3⟩
  obtain ⟨q,hq⟩:=Deep.choose_lt each
  have hl1:((List.range len).map fun i=>(q i).2).length=len:=by simp
  have hget:∀ i,i<len→((List.range len).map fun i=>(q i).2)[i]?=some (q i).2:=fun i hi=>by rw [List.getElem?_map,List.getElem?_range hi];rfl
  refine ⟨_,(List.range len).map fun i=>(q i).2,e3,?_,?_⟩
  ·by_cases h0:len=0
   ·subst h0
    exact .snapE (some a) cap false (fun h=>by cases h)
   ·have h00:=(hq 0 (by omega)).1
    obtain ⟨_,hcl,hcc⟩:=World.cells?_some h00
    have hc0:=hcc 0 hpos
    rw [Nat.zero_mul,add0,add0] at hc0
    obtain ⟨v0,hv0⟩:∃ v,(q 0).1[0]?=some v:=⟨(q 0).1[0],List.getElem?_eq_getElem (by omega)⟩
    rw [hv0] at hc0
    obtain ⟨b,off,rfl⟩:=plain_addr hc0
    have hes:(((List.range len).map fun i=>(q i).2).map encE).length=len:=by simp
    have hgd:∀ i,i<len→(((List.range len).map fun i=>(q i).2).map encE).getD i .any=encE (q i).2:=fun i hi=>by
     rw [List.getD,List.getElem?_map,hget i hi];rfl
    have key:SRel w NoB (.slice (some ⟨b,off,none⟩) (((List.range len).map fun i=>(q i).2).map encE).length cap) (.snap false (((List.range len).map fun i=>(q i).2).map encE)):=by
     refine .snap b off cap (C.P.cellsOf el) false _ (fun i j=>(q i).1.getD j undef) (fun h=>?_) (by omega) (fun h=>by cases h) (fun h=>h) hpos (fun i hi=>?_) (fun i j hi hj=>?_) (fun i j hi hj=>?_)
     ·rw [h] at hes;simp at hes;omega
     ·rw [hgd i (by omega)];exact hl _
     ·obtain ⟨_,hcl,hcc⟩:=World.cells?_some (hq i (by omega)).1
      have:=hcc j hj
      rw [addr_add,addr_add] at this
      rw [show off+(i * C.P.cellsOf el+j)=off+i * C.P.cellsOf el+j by omega,this,List.getElem?_eq_getElem (by omega)]
      simp [List.getD,List.getElem?_eq_getElem (show j<(q i).1.length by omega)]
     ·rw [hgd i (by omega)];exact (hq i (by omega)).2.1.2 j hj
    rw [hes] at key
    exact key
  ·have:=sum_upto B ((List.range len).map fun i=>(q i).2) (elems.map (·.1)) (by simp [hlen2]) (fun i t d e1 e2=>by
    have hi:i<len:=by have:=lt_of_some e1;rwa [hl1] at this
    rw [hget i hi] at e1
    obtain rfl:=Option.some.inj e1
    rw [List.getElem?_map] at e2
    cases hy:elems[i]? with
    | none=>rw [hy] at e2;cases e2
    | some y=>
     rw [hy] at e2
     obtain rfl:=Option.some.inj e2
     exact (hq i hi).2.2 y hy)
   simp only [Rows.uptoBulk]
   omega
instance:Inhabited Pw:=⟨(zeroT,0)⟩
end Go.Pm
end
section
set_option maxRecDepth 100000
set_option maxHeartbeats 2000000
namespace Go.Pm
open Go.Proofs
theorem Grew.kept {W W':World} (g:Grew W W') (may:MemPlace→Prop):W.keptBut W' may:=by
 refine ⟨g.os,g.output,fun i hi=>?_⟩
 rw [g.keep i hi]
 cases W.heap[i]? with
 | none=>rfl
 | some o=>cases o <;> simp
open Go.ChangeShapes Go.WideShapes
end Go.Pm
end
section
set_option maxRecDepth 4000
set_option maxHeartbeats 8000000
namespace Go.Pm
open Go.Proofs
attribute [local irreducible] thenQ blockQ loopQ bodyQ Ev EvOps CallEv FnEv EvD
end Go.Pm
end
section
namespace Go.Pm
theorem snocInd {α:Type} {P:List α→Prop} (h0:P []) (h1:∀ p x,P p→P (p++[x])) (l:List α):P l:=by
 have:∀ r:List α,P r.reverse:=fun r=>by
  induction r with
  | nil=>exact h0
  | cons x r ih=>rw [List.reverse_cons];exact h1 _ _ ih
 simpa using this l.reverse
def inR (l:List Pw):Bool:=l.any fun p=>decide (p.2 < -1000∨1000<p.2)
def resP (l:List Pw):List Pw × Int:=if inR l=true then ([],7) else if 200<l.length then ([],3) else (l,0)
def mulP (a b:List Pw):List Pw:=b.foldl (fun acc p=>insP p.1 p.2 acc) a
def mulT (a b:List Pw):List Pw × Int:=if validP a≠0 then ([],validP a) else if validP b≠0 then ([],validP b) else resP (mulP a b)
def tmsP (a:List Pw) (n:Int):List Pw:=if n=0 then [] else a.map fun p=>(p.1,n * p.2)
def timesT (a:List Pw) (n:Int):List Pw × Int:=if validP a≠0 then ([],validP a) else if n < -1000∨1000<n then ([],7) else resP (tmsP a n)
theorem insP_bdN {B M:Int} {t:Tm} {n:Int} (h1 : -M≤n) (h2:n≤M) (hM:0≤M) (hB:0≤B):∀ {l:List Pw},Bd B l→Bd (B+M) (insP t n l)
 | [],_=>by intro p hp;simp [insP] at hp;subst hp;simp only;omega
 | q::l,h=>by
  have hl:Bd B l:=fun r hr=>h r (by simp [hr])
  have hl1:Bd (B+M) l:=fun r hr=>by have:=hl r hr;omega
  have hq:=h q (by simp)
  rw [insP]
  split
  ·intro p hp
   rcases List.mem_cons.1 hp with rfl | hp
   ·omega
   ·exact insP_bdN h1 h2 hM hB hl p hp
  ·split
   ·split
    ·exact hl1
    ·intro p hp
     rcases List.mem_cons.1 hp with rfl | hp
     ·simp only;omega
     ·exact hl1 p hp
   ·intro p hp
    rcases List.mem_cons.1 hp with rfl | hp
    ·simp only;omega
    ·have:=h p hp;omega
structure MI (a:List Pw) (k:Nat):Prop where
 srt:Srt a
 nz:Nz a
 bd:Bd (1000+1000 * (k:Int)) a
 len:a.length≤200+k
theorem MI.of {a:List Pw} (h:validP a=0):MI a 0:=by
 obtain ⟨h1,h2,h3,h4,h5⟩:=validP_zero h
 exact ⟨h5,h4,fun p hp=>by have:=h2 p hp;omega,by omega⟩
theorem MI.ins {a:List Pw} {k:Nat} (m:MI a k) {t:Tm} {n:Int} (h0:n≠0) (h1 : -1000≤n) (h2:n≤1000):MI (insP t n a) (k+1):=
 ⟨insP_srt m.srt,insP_nz h0 m.nz,fun p hp=>by have:=insP_bdN h1 h2 (by omega) (by omega) m.bd p hp;omega,by have:=insP_len (t:=t) (n:=n) a;have:=m.len;omega⟩
theorem mulP_snoc (a p:List Pw) (x:Pw):mulP a (p++[x])=insP x.1 x.2 (mulP a p):=by simp [mulP]
theorem MI.mul {a:List Pw} (ha:validP a=0):∀ {p b:List Pw},validP b=0→(∀ x∈p,x∈b)→MI (mulP a p) p.length:=by
 intro p b hb hp
 induction p using snocInd with
 | h0=>exact MI.of ha
 | h1 p x ih=>
  obtain ⟨h1,h2,h3,h4,h5⟩:=validP_zero hb
  have hx:=hp x (by simp)
  rw [mulP_snoc,List.length_append]
  exact (ih (fun y hy=>hp y (by simp [hy]))).ins (h4 x hx) (h2 x hx).1 (h2 x hx).2
theorem insP_bulk {t:Tm} {n:Int} {B:Nat} (ht:bulk t<B) {l:List Pw} (hl:∀ p∈l,bulk p.1<B):∀ p∈insP t n l,bulk p.1<B:=fun p hp=>by
 rcases insP_mem hp with h | ⟨q,hq,h⟩
 ·rw [h];exact ht
 ·rw [← h];exact hl q hq
theorem mulP_bulk {B:Nat} {a b:List Pw} (ha:∀ p∈a,bulk p.1<B) (hb:∀ p∈b,bulk p.1<B):∀ p∈mulP a b,bulk p.1<B:=by
 induction b using snocInd with
 | h0=>exact ha
 | h1 p x ih=>rw [mulP_snoc];exact insP_bulk (hb x (by simp)) (ih fun y hy=>hb y (by simp [hy]))
theorem mulP_add {a p b:List Pw} (ha:validP a=0) (hb:validP b=0) (hp:∀ x∈p,x∈b) {t:Tm} {n:Int}:addP t n false (mulP a p)=insP t n (mulP a p):=
 addP_ins _ _ _ (MI.mul ha hb hp).srt (MI.mul ha hb hp).nz
end Go.Pm
end
section
set_option maxRecDepth 4000
namespace Go.Pm
open Go.Proofs
def idxI {α:Type} (p:α→Bool) (l:List α):Int:=match l.findIdx? p with | some i=>i | none=>-1
theorem idxI_at {α:Type} {p:α→Bool} {a q:List α} {x:α} (h:∀ y∈a,p y=false) (hx:p x=true):idxI p (a++x::q)=a.length:=by
 unfold idxI
 rw [List.findIdx?_append,List.findIdx?_eq_none_iff.2 h]
 simp [List.findIdx?_cons,hx]
theorem idxI_none {α:Type} {p:α→Bool} {a:List α} (h:∀ y∈a,p y=false):idxI p a=-1:=by
 unfold idxI
 rw [List.findIdx?_eq_none_iff.2 h]
theorem idxI_any {α:Type} (p:α→Bool) (l:List α):decide (0≤idxI p l)=l.any p:=by
 unfold idxI
 cases h:l.findIdx? p with
 | none=>
  rw [List.findIdx?_eq_none_iff] at h
  have:l.any p=false:=by rw [List.any_eq_false];intro x hx;simp [h x hx]
  rw [this];rfl
 | some i=>
  obtain ⟨h1,h2,_⟩:=List.findIdx?_eq_some_iff_getElem.1 h
  have:l.any p=true:=List.any_eq_true.2 ⟨_,List.getElem_mem h1,h2⟩
  rw [this];simp
attribute [local irreducible] thenQ blockQ loopQ bodyQ Ev EvOps CallEv FnEv EvD
theorem mul_bd {n m B D:Int} (h1 : -B≤n) (h2:n≤B) (h3 : -D≤m) (h4:m≤D) : -(B * D)≤n * m∧n * m≤B * D:=by
 have h:(n * m).natAbs≤(B * D).natAbs:=by
  rw [Int.natAbs_mul,Int.natAbs_mul]
  exact Nat.mul_le_mul (by omega) (by omega)
 have hp:0≤B * D:=Int.mul_nonneg (by omega) (by omega)
 omega
end Go.Pm
end
section
set_option maxRecDepth 4000
namespace Go.Pm
open Go.Proofs
@[simp] theorem esOk_encPs (l:List Pw):esOk (4+1) (encPs l):=by
 unfold esOk encPs
 rw [List.all_map,List.all_eq_true]
 rintro ⟨t,n⟩ _
 simp only [Function.comp,encP_x]
 rfl
def inE (l:List Pw):Int:=if inR l=true then 7 else if 200<l.length then 3 else 0
theorem resP_inE (l:List Pw):resP l=if inE l≠0 then ([],inE l) else (l,0):=by
 unfold resP inE
 split
 ·rfl
 ·split <;> rfl
theorem inR_at {p q:List Pw} {x:Pw} (h:x.2 < -1000∨1000<x.2):inR (p++x::q)=true:=by
 unfold inR
 rw [List.any_eq_true]
 exact ⟨x,by simp,by simpa using h⟩
theorem inR_none {l:List Pw} (h:∀ x∈l,¬ (x.2 < -1000∨1000<x.2)):inR l=false:=by
 unfold inR
 rw [List.any_eq_false]
 intro x hx
 simpa using h x hx
attribute [local irreducible] thenQ blockQ loopQ bodyQ Ev EvOps CallEv FnEv EvD
theorem inRange_fun (l:List Pw) (hl:l.length<1000000000):Fun C 60 [.snap false (encPs l)] (.int .i64 (inE l)):=by
 have hel:=encPs_len l
 refine Fun.x T6 Tryz.func60 rfl ?_
 (repeat' (first | (refine Rn.go ?_;conv=>whnf) | refine .mk ?_ | refine .tt ?_ | refine .ff ?_ | refine .m2 ?_ | refine .m3 ?_ | refine .mk (fun hc=>?_) fun hc=>?_ | refine .lp fun v H lp=>?_ | fail))
 refine LpX.zip T6 l (fun p q L H=>L=[(0,.snap false (encPs l)),(3,.int .i64 p.length)]∧∀ x∈p,¬ (x.2 < -1000∨1000<x.2)) (.nx ⟨rfl,by simp⟩) ?_ ?_
 ·rintro p ⟨t,n⟩ q _ h ρ e ⟨rfl,hp⟩
  have hat:=at_encPs e
  have hl2:=congrArg List.length e
  simp only [List.length_append,List.length_cons] at hl2
  (repeat' (first | (refine Rn.go ?_;conv=>whnf) | refine .mk ?_ | refine .tt ?_ | refine .ff ?_ | refine .m2 ?_ | refine .m3 ?_ | refine .mk (fun hc=>?_) fun hc=>?_ | refine .lp fun v H lp=>?_ | fail))
  ·exact ⟨_,rfl,by rw [inE,e,inR_at (.inl hc)];rfl⟩
  ·exact ⟨_,rfl,by rw [inE,e,inR_at (.inr hc)];rfl⟩
  ·exact .nx ⟨rfl,fun x hx=>by rcases List.mem_append.1 hx with h | h;exact hp x h;simp at h;subst h;simp only;omega⟩
 ·rintro _ h ρ ⟨rfl,hp⟩
  have h1:=inR_none hp
  (repeat' (first | (refine Rn.go ?_;conv=>whnf) | refine .mk ?_ | refine .tt ?_ | refine .ff ?_ | refine .m2 ?_ | refine .m3 ?_ | refine .mk (fun hc=>?_) fun hc=>?_ | refine .lp fun v H lp=>?_ | fail))
  ·exact ⟨_,rfl,by rw [inE,h1,if_neg (by simp),if_pos (by omega)];rfl⟩
  ·exact ⟨_,rfl,by rw [inE,h1,if_neg (by simp),if_neg (by omega)];rfl⟩
theorem rmul_fun (a b:List Pw) (ha:∀ p∈a,bulk p.1<10000000) (hb:∀ p∈b,bulk p.1<10000000) (la:a.length<10000000) (lb:b.length<10000000) :
  Fun C 16 [.snap false (encPs a),.snap false (encPs b)] (.tup [.snap false (encPs (mulT a b).1),.int .i64 (mulT a b).2]):=by
 have hva:=rpvalid_fun a (fun p hp=>by have:=ha p hp;omega) (by omega)
 have hvb:=rpvalid_fun b (fun p hp=>by have:=hb p hp;omega) (by omega)
 have r1:validP a≠0→mulT a b=([],validP a):=fun h=>by rw [mulT,if_pos h]
 have r2:validP a=0→validP b≠0→mulT a b=([],validP b):=fun h h2=>by rw [mulT,if_neg (by omega),if_pos h2]
 have r3:validP a=0→validP b=0→mulT a b=resP (mulP a b):=fun h h2=>by rw [mulT,if_neg (by omega),if_neg (by omega)]
 have hel:=encPs_len b
 have hela:=encPs_len a
 generalize mulT a b=R at *
 refine Fun.x T6 Tryz.func16 rfl ?_
 (repeat' (first | (refine Rn.go ?_;conv=>whnf) | refine .mk ?_ | refine .tt ?_ | refine .ff ?_ | refine .m2 ?_ | refine .m3 ?_ | refine .mk (fun hc=>?_) fun hc=>?_ | refine .lp fun v H lp=>?_ | fail))
 refine .p hva ?_
 (repeat' (first | (refine Rn.go ?_;conv=>whnf) | refine .mk ?_ | refine .tt ?_ | refine .ff ?_ | refine .m2 ?_ | refine .m3 ?_ | refine .mk (fun hc=>?_) fun hc=>?_ | refine .lp fun v H lp=>?_ | fail))
 rotate_left
 ·exact ⟨_,rfl,by rw [r1 hc];rfl⟩
 have va:=hc
 clear hc
 refine .p hvb ?_
 (repeat' (first | (refine Rn.go ?_;conv=>whnf) | refine .mk ?_ | refine .tt ?_ | refine .ff ?_ | refine .m2 ?_ | refine .m3 ?_ | refine .mk (fun hc=>?_) fun hc=>?_ | refine .lp fun v H lp=>?_ | fail))
 rotate_left
 ·exact ⟨_,rfl,by rw [r2 va hc];rfl⟩
 have vb:=hc
 clear hc
 have r3:=r3 va vb
 rw [resP_inE] at r3
 clear r1 r2 hva hvb
 have lb2:=(validP_zero vb).1
 refine LpX.zip T6 b (fun p q L H=>∃ v,L=[(1,.snap false (encPs b)),(8,v),(9,.int .i64 p.length)]∧HV H∧Ls 5 H v (encPs (mulP a p))) (.nx ⟨_,rfl,lp.hv,.inl lp.out⟩) ?_ ?_
 ·rintro p ⟨t,n⟩ q _ h ρ e ⟨v,rfl,hH,ho⟩
  have hat:=at_encPs e
  have hl2:=congrArg List.length e
  simp only [List.length_append,List.length_cons] at hl2
  have hpb:∀ x∈p,x∈b:=fun x hx=>by rw [e];exact List.mem_append.2 (.inl hx)
  have mi:=MI.mul va vb hpb
  have hbt:=hb (t,n) (by rw [e];simp)
  have hadd:=radd_fun (mulP a p) t n ⟨mulP_bulk (fun x hx=>by have:=ha x hx;omega) (fun x hx=>by have:=hb x (hpb x hx);omega),by have:=mi.len;omega⟩ (by simp only at hbt;omega) (fun x hx=>by have:=mi.bd x hx;omega) (by have:=(validP_zero vb).2.1 (t,n) (by rw [e];simp);simp only at this;omega)
  rw [mulP_add va vb hpb] at hadd
  (repeat' (first | (refine Rn.go ?_;conv=>whnf) | refine .mk ?_ | refine .tt ?_ | refine .ff ?_ | refine .m2 ?_ | refine .m3 ?_ | refine .mk (fun hc=>?_) fun hc=>?_ | refine .lp fun v H lp=>?_ | fail))
  refine .pl ho hadd (fun h' z=>?_)
  (repeat' (first | (refine Rn.go ?_;conv=>whnf) | refine .mk ?_ | refine .tt ?_ | refine .ff ?_ | refine .m2 ?_ | refine .m3 ?_ | refine .mk (fun hc=>?_) fun hc=>?_ | refine .lp fun v H lp=>?_ | fail))
  exact .nx ⟨_,rfl,z.hv hH (by simp),.inr ⟨_,by rw [mulP_snoc]⟩⟩
 ·rintro _ h ρ ⟨v,rfl,hH,ho⟩
  have mi:=MI.mul va vb (fun x hx=>hx:∀ x∈b,x∈b)
  have hin:=inRange_fun (mulP a b) (by have:=mi.len;omega)
  (repeat' (first | (refine Rn.go ?_;conv=>whnf) | refine .mk ?_ | refine .tt ?_ | refine .ff ?_ | refine .m2 ?_ | refine .m3 ?_ | refine .mk (fun hc=>?_) fun hc=>?_ | refine .lp fun v H lp=>?_ | fail))
  refine .plS ho hin ?_
  (repeat' (first | (refine Rn.go ?_;conv=>whnf) | refine .mk ?_ | refine .tt ?_ | refine .ff ?_ | refine .m2 ?_ | refine .m3 ?_ | refine .mk (fun hc=>?_) fun hc=>?_ | refine .lp fun v H lp=>?_ | fail))
  ·rw [r3,if_neg (by omega)];exact ho.ret2
  ·exact ⟨_,rfl,by rw [r3,if_pos hc];rfl⟩
theorem rtimes_fun (a:List Pw) (m:Int) (ha:∀ p∈a,bulk p.1<10000000) (la:a.length<10000000) :
  Fun C 18 [.snap false (encPs a),.int .i64 m] (.tup [.snap false (encPs (timesT a m).1),.int .i64 (timesT a m).2]):=by
 have hva:=rpvalid_fun a (fun p hp=>by have:=ha p hp;omega) (by omega)
 have r1:validP a≠0→timesT a m=([],validP a):=fun h=>by rw [timesT,if_pos h]
 have r2:validP a=0→(m < -1000∨1000<m)→timesT a m=([],7):=fun h h2=>by rw [timesT,if_neg (by omega),if_pos h2]
 have r3:validP a=0→¬ (m < -1000∨1000<m)→timesT a m=resP (tmsP a m):=fun h h2=>by rw [timesT,if_neg (by omega),if_neg (by omega)]
 have hin:=inRange_fun (tmsP a m) (by unfold tmsP;split <;> simp;omega)
 have hel:=encPs_len a
 have ht:m=0→tmsP a m=[]:=fun h=>by rw [tmsP,if_pos h]
 have ht':m≠0→tmsP a m=a.map fun p=>(p.1,m * p.2):=fun h=>by rw [tmsP,if_neg h]
 rw [resP_inE] at r3
 generalize timesT a m=R at *
 refine Fun.x T6 Tryz.func18 rfl ?_
 (repeat' (first | (refine Rn.go ?_;conv=>whnf) | refine .mk ?_ | refine .tt ?_ | refine .ff ?_ | refine .m2 ?_ | refine .m3 ?_ | refine .mk (fun hc=>?_) fun hc=>?_ | refine .lp fun v H lp=>?_ | fail))
 refine .p hva ?_
 (repeat' (first | (refine Rn.go ?_;conv=>whnf) | refine .mk ?_ | refine .tt ?_ | refine .ff ?_ | refine .m2 ?_ | refine .m3 ?_ | refine .mk (fun hc=>?_) fun hc=>?_ | refine .lp fun v H lp=>?_ | fail))
 rotate_left 3
 ·exact ⟨_,rfl,by rw [r1 hc];rfl⟩
 ·exact ⟨_,rfl,by rw [r2 (by assumption) (by omega)];rfl⟩
 ·exact ⟨_,rfl,by rw [r2 (by assumption) (by omega)];rfl⟩
 have va:validP a=0:=by assumption
 have hb:=(validP_zero va).2.1
 have r3:=r3 va (by omega)
 by_cases h0:m=0
 ·have ht:=ht h0
  have hil:inE ([]:List Pw)=0:=rfl
  rw [ht,hil] at hin
  rw [ht,hil,if_neg (by simp)] at r3
  refine LpX.nat T6 (fun _ L H=>L=[(0,.snap false (encPs a)),(1,.int .i64 m),(7,.snap true []),(8,.int .i64 0)]) 0 (.nx rfl) ?_
  rintro _ _ h ρ rfl
  (repeat' (first | (refine Rn.go ?_;conv=>whnf) | refine .mk ?_ | refine .tt ?_ | refine .ff ?_ | refine .m2 ?_ | refine .m3 ?_ | refine .mk (fun hc=>?_) fun hc=>?_ | refine .lp fun v H lp=>?_ | fail))
  all_goals (refine .p hin ?_;(repeat' (first | (refine Rn.go ?_;conv=>whnf) | refine .mk ?_ | refine .tt ?_ | refine .ff ?_ | refine .m2 ?_ | refine .m3 ?_ | refine .mk (fun hc=>?_) fun hc=>?_ | refine .lp fun v H lp=>?_ | fail));exact ⟨_,rfl,by rw [r3];rfl⟩)
 ·have ht':=ht' h0
  refine LpX.zip T6 a (fun p q L H=>∃ v,L=[(0,.snap false (encPs a)),(1,.int .i64 m),(7,v),(8,.int .i64 p.length)]∧HV H∧Out 5 H v (encPs (p.map fun p=>(p.1,m * p.2)))) (.nx ⟨_,rfl,HV.nil,.inl ⟨rfl,rfl⟩⟩) ?_ ?_
  ·rintro p ⟨t,n⟩ q _ h ρ e ⟨v,rfl,hH,ho⟩
   have hat:=at_encPs e
   have hl2:=congrArg List.length e
   simp only [List.length_append,List.length_cons] at hl2
   have hlp:(encPs (p.map fun p=>(p.1,m * p.2))).length=p.length:=by rw [encPs_len,List.length_map]
   have hn:=hb (t,n) (by rw [e];simp)
   have hnm:=mul_bd (show -1000≤m by omega) (show m≤1000 by omega) hn.1 hn.2
   dsimp only at hn hnm
   (repeat' (first | (refine Rn.go ?_;conv=>whnf) | refine .mk ?_ | refine .tt ?_ | refine .ff ?_ | refine .m2 ?_ | refine .m3 ?_ | refine .mk (fun hc=>?_) fun hc=>?_ | refine .lp fun v H lp=>?_ | fail))
   exact .nx ⟨_,rfl,lp.hv,by simpa [encPs] using lp.out⟩
  ·rintro _ h ρ ⟨v,rfl,hH,ho⟩
   rw [← ht'] at ho
   (repeat' (first | (refine Rn.go ?_;conv=>whnf) | refine .mk ?_ | refine .tt ?_ | refine .ff ?_ | refine .m2 ?_ | refine .m3 ?_ | refine .mk (fun hc=>?_) fun hc=>?_ | refine .lp fun v H lp=>?_ | fail))
   refine .plS (.inl ho) hin ?_
   (repeat' (first | (refine Rn.go ?_;conv=>whnf) | refine .mk ?_ | refine .tt ?_ | refine .ff ?_ | refine .m2 ?_ | refine .m3 ?_ | refine .mk (fun hc=>?_) fun hc=>?_ | refine .lp fun v H lp=>?_ | fail))
   ·rw [r3,if_neg (by omega)];exact Ls.ret2 (.inl ho)
   ·exact ⟨_,rfl,by rw [r3,if_pos hc];rfl⟩
end Go.Pm
end
section
set_option maxRecDepth 4000
namespace Go.Pm
open Go.Proofs
def pwr:List Pw→Tm→Int
 | [],_=>0
 | p::l,t=>if cmpT p.1 t=0 then p.2 else pwr l t
def valS (vs m:List Pw):Int:=(m.map fun p=>p.2 * pwr vs p.1).sum
def modI (n q:Int):Int:=((n.tmod q)+q).tmod q
def valC (q:Int) (vs m:List Pw):Int:=if q=0 then valS vs m else modI (valS vs m) q
theorem valS_snoc (vs p:List Pw) (x:Pw):valS vs (p++[x])=valS vs p+x.2 * pwr vs x.1:=by simp [valS]
theorem pwr_bd {B:Int} (hB:0≤B):∀ {l:List Pw},Bd B l→∀ t,-B≤pwr l t∧pwr l t≤B
 | [],_,t=>by simp [pwr];omega
 | p::l,b,t=>by
  have ih:=pwr_bd hB (l:=l) (fun q hq=>b q (by simp [hq])) t
  have hp:=b p (by simp)
  rw [pwr]
  split <;> omega
theorem pwr_at {p q:List Pw} {x:Pw} {t:Tm} (h:∀ y∈p,cmpT y.1 t≠0) (hx:cmpT x.1 t=0):pwr (p++x::q) t=x.2:=by
 induction p with
 | nil=>rw [List.nil_append,pwr,if_pos hx]
 | cons y p ih=>rw [List.cons_append,pwr,if_neg (h y (by simp)),ih (fun z hz=>h z (by simp [hz]))]
theorem pwr_none {p:List Pw} {t:Tm} (h:∀ y∈p,cmpT y.1 t≠0):pwr p t=0:=by
 induction p with
 | nil=>rfl
 | cons y p ih=>rw [pwr,if_neg (h y (by simp)),ih (fun z hz=>h z (by simp [hz]))]
def bef (pr:Option Tm) (t:Tm):Bool:=match pr with | none=>false | some q=>decide (0≤cmpT q t)
def rgtGo:Option Tm→List Pw→Bool
 | _,[]=>true
 | pr,p::l=>if valid p.1≠0∨special p.1=true∨p.2=0∨p.2 < -35184372088832∨35184372088832<p.2∨bef pr p.1=true then false else rgtGo (some p.1) l
theorem rgtGo_cons (pr:Option Tm) (p:Pw) (l:List Pw):rgtGo pr (p::l)=if valid p.1≠0∨special p.1=true∨p.2=0∨p.2 < -35184372088832∨35184372088832<p.2∨bef pr p.1=true then false else rgtGo (some p.1) l:=by
 cases pr <;> rfl
theorem rgtGo_nil (pr:Option Tm):rgtGo pr []=true:=by cases pr <;> rfl
def rgtC (q:Int) (vs:List Pw):Bool:=if q<0∨q=1∨35184372088832<q∨200<vs.length then false else rgtGo none vs
def lastT (pr:Option Tm) (l:List Pw):Option Tm:=match l.getLast? with | some p=>some p.1 | none=>pr
theorem lastT_snoc (l:List Pw) (x:Pw) (pr:Option Tm):lastT pr (l++[x])=some x.1:=by simp [lastT]
theorem rgtGo_ok:∀ {l:List Pw} {pr:Option Tm},rgtGo pr l=true→Bd 35184372088832 l∧Srt l∧(∀ p∈l,valid p.1=0∧special p.1=false)∧∀ q,pr=some q→∀ p∈l,cmpT q p.1<0
 | [],_,_=>⟨(fun p hp=>by cases hp),by simp [Srt],(fun p hp=>by cases hp),fun _ _ p hp=>by cases hp⟩
 | p::l,pr,h=>by
  rw [rgtGo_cons] at h
  split at h
  ·cases h
  ·rename_i hn
   obtain ⟨b1,b2,b3,b4⟩:=rgtGo_ok h
   have hq:∀ q,pr=some q→cmpT q p.1<0:=fun q hq=>by
    subst hq
    have:¬ 0≤cmpT q p.1:=fun hh=>hn (.inr (.inr (.inr (.inr (.inr (by simpa [bef] using hh))))))
    omega
   refine ⟨fun x hx=>?_,List.pairwise_cons.2 ⟨fun x hx=>b4 p.1 rfl x hx,b2⟩,fun x hx=>?_,fun q hq' x hx=>?_⟩
   all_goals (rcases List.mem_cons.1 hx with rfl | hx)
   ·omega
   ·exact b1 x hx
   ·refine ⟨by omega,?_⟩
    cases hs:special x.1 with
    | false=>rfl
    | true=>exact absurd (.inr (.inl hs)) hn
   ·exact b3 x hx
   ·exact hq q hq'
   ·exact cmpT_trans (hq q hq') (b4 p.1 rfl x hx)
attribute [local irreducible] thenQ blockQ loopQ bodyQ Ev EvOps CallEv FnEv EvD
theorem rpower_fun (l:List Pw) (t:Tm) (hl:Sm l) (ht:bulk t<1000000000):Fun C 55 [.snap false (encPs l),enc t] (.int .i64 (pwr l t)):=by
 have hel:=encPs_len l
 have hl2:=hl.2
 rw [enc_x]
 refine Fun.x T6 Tryz.func55 rfl ?_
 (repeat' (first | (refine Rn.go ?_;conv=>whnf) | refine .mk ?_ | refine .tt ?_ | refine .ff ?_ | refine .m2 ?_ | refine .m3 ?_ | refine .mk (fun hc=>?_) fun hc=>?_ | refine .lp fun v H lp=>?_ | fail))
 refine LpX.zip T6 l (fun p q L H=>L=[(0,.snap false (encPs l)),(3,.ptr 0 0 0 0),(5,.int .i64 p.length)]∧H=[⟨.m,0,4,[.agg [.int .i64 t.k,.str t.s,.int .i64 t.o,.snap false (encs t.l)]]⟩]∧∀ y∈p,cmpT y.1 t≠0) (.nx ⟨rfl,rfl,by simp⟩) ?_ ?_
 ·rintro p ⟨u,n⟩ q _ _ ρ e ⟨rfl,rfl,hp⟩
  have hat:=at_encPs e
  have hl2:=congrArg List.length e
  simp only [List.length_append,List.length_cons] at hl2
  have hs:=rsame_fun u t (hl.1 (u,n) (by rw [e];simp)) ht
  (repeat' (first | (refine Rn.go ?_;conv=>whnf) | refine .mk ?_ | refine .tt ?_ | refine .ff ?_ | refine .m2 ?_ | refine .m3 ?_ | refine .mk (fun hc=>?_) fun hc=>?_ | refine .lp fun v H lp=>?_ | fail))
  refine .p hs ?_
  by_cases hc:cmpT u t=0
  ·rw [decide_eq_true hc]
   (repeat' (first | (refine Rn.go ?_;conv=>whnf) | refine .mk ?_ | refine .tt ?_ | refine .ff ?_ | refine .m2 ?_ | refine .m3 ?_ | refine .mk (fun hc=>?_) fun hc=>?_ | refine .lp fun v H lp=>?_ | fail))
   exact ⟨_,rfl,by rw [e,pwr_at hp hc];rfl⟩
  ·rw [decide_eq_false hc]
   (repeat' (first | (refine Rn.go ?_;conv=>whnf) | refine .mk ?_ | refine .tt ?_ | refine .ff ?_ | refine .m2 ?_ | refine .m3 ?_ | refine .mk (fun hc=>?_) fun hc=>?_ | refine .lp fun v H lp=>?_ | fail))
   exact .nx ⟨rfl,rfl,fun y hy=>by rcases List.mem_append.1 hy with h | h;exact hp y h;simp at h;rw [h];exact hc⟩
 ·rintro _ _ ρ ⟨rfl,rfl,hp⟩
  (repeat' (first | (refine Rn.go ?_;conv=>whnf) | refine .mk ?_ | refine .tt ?_ | refine .ff ?_ | refine .m2 ?_ | refine .m3 ?_ | refine .mk (fun hc=>?_) fun hc=>?_ | refine .lp fun v H lp=>?_ | fail))
  exact ⟨_,rfl,by rw [pwr_none hp];rfl⟩
theorem mod_fun (n q:Int) (hn : -9000000000000000000≤n∧n≤9000000000000000000) (hq:1≤q∧q≤35184372088832):Fun C 83 [.int .i64 n,.int .i64 q] (.int .i64 (modI n q)):=by
 have h1 : -q<n.tmod q∧n.tmod q<q:=by
  have a1:=Int.tmod_lt_of_pos n (show 0<q by omega)
  have a2:=Int.lt_tmod_of_pos n (show 0<q by omega)
  omega
 refine Fun.x T6 Tryz.func83 rfl ?_
 (repeat' (first | (refine Rn.go ?_;conv=>whnf) | refine .mk ?_ | refine .tt ?_ | refine .ff ?_ | refine .m2 ?_ | refine .m3 ?_ | refine .mk (fun hc=>?_) fun hc=>?_ | refine .lp fun v H lp=>?_ | fail))
 exact ⟨_,rfl,rfl⟩
theorem valS_bd {vs p:List Pw} (hv:Bd 35184372088832 vs) (hp:Bd 1000 p) : -(35184372088832000 * (p.length:Int))≤valS vs p∧valS vs p≤35184372088832000 * p.length:=by
 induction p using snocInd with
 | h0=>simp [valS]
 | h1 p x ih=>
  have ih:=ih (fun y hy=>hp y (by simp [hy]))
  have hx:=hp x (by simp)
  have h1:=pwr_bd (by omega) hv x.1
  have h2:=mul_bd hx.1 hx.2 h1.1 h1.2
  rw [valS_snoc,List.length_append]
  simp only [List.length_cons,List.length_nil,Int.natCast_add]
  omega
theorem value_fun (q:Int) (vs m:List Pw) (hq:q=0∨1≤q∧q≤35184372088832) (hv:Bd 35184372088832 vs) (sv:Sm vs) (hm:Bd 1000 m) (lm:m.length≤200) (sm:Sm m):Fun C 47 [.snap false (encPs m),.agg [.int .i64 q,.snap false (encPs vs)]] (.int .i64 (valC q vs m)):=by
 have hel:=encPs_len m
 refine Fun.x T6 Tryz.func47 rfl ?_
 (repeat' (first | (refine Rn.go ?_;conv=>whnf) | refine .mk ?_ | refine .tt ?_ | refine .ff ?_ | refine .m2 ?_ | refine .m3 ?_ | refine .mk (fun hc=>?_) fun hc=>?_ | refine .lp fun v H lp=>?_ | fail))
 refine LpX.zip T6 m (fun p _ L H=>L=[(0,.snap false (encPs m)),(3,.ptr 0 0 0 0),(5,.int .i64 (valS vs p)),(6,.int .i64 p.length)]∧H=[⟨.m,0,2,[.agg [.int .i64 q,.snap false (encPs vs)]]⟩]) (.nx ⟨rfl,rfl⟩) ?_ ?_
 ·rintro p ⟨u,n⟩ r _ _ ρ e ⟨rfl,rfl⟩
  have hat:=at_encPs e
  have hl2:=congrArg List.length e
  simp only [List.length_append,List.length_cons] at hl2
  have hpw:=rpower_fun vs u sv (sm.1 (u,n) (by rw [e];simp))
  have hn:=hm (u,n) (by rw [e];simp)
  have h1:=pwr_bd (by omega) hv u
  have h2:=mul_bd hn.1 hn.2 h1.1 h1.2
  have h3:=valS_bd hv (p:=p) (fun y hy=>hm y (by rw [e];simp [hy]))
  dsimp only at hn h2
  have hsn:=valS_snoc vs p (u,n)
  (repeat' (first | (refine Rn.go ?_;conv=>whnf) | refine .mk ?_ | refine .tt ?_ | refine .ff ?_ | refine .m2 ?_ | refine .m3 ?_ | refine .mk (fun hc=>?_) fun hc=>?_ | refine .lp fun v H lp=>?_ | fail))
  refine .p hpw ?_
  (repeat' (first | (refine Rn.go ?_;conv=>whnf) | refine .mk ?_ | refine .tt ?_ | refine .ff ?_ | refine .m2 ?_ | refine .m3 ?_ | refine .mk (fun hc=>?_) fun hc=>?_ | refine .lp fun v H lp=>?_ | fail))
  exact .nx ⟨by rw [hsn],rfl⟩
 ·rintro _ _ ρ ⟨rfl,rfl⟩
  have h3:=valS_bd hv hm
  (repeat' (first | (refine Rn.go ?_;conv=>whnf) | refine .mk ?_ | refine .tt ?_ | refine .ff ?_ | refine .m2 ?_ | refine .m3 ?_ | refine .mk (fun hc=>?_) fun hc=>?_ | refine .lp fun v H lp=>?_ | fail))
  ·exact ⟨_,rfl,by rw [valC,if_pos hc];rfl⟩
  ·refine .p (mod_fun (valS vs m) q (by omega) (by omega)) ?_
   (repeat' (first | (refine Rn.go ?_;conv=>whnf) | refine .mk ?_ | refine .tt ?_ | refine .ff ?_ | refine .m2 ?_ | refine .m3 ?_ | refine .mk (fun hc=>?_) fun hc=>?_ | refine .lp fun v H lp=>?_ | fail))
   exact ⟨_,rfl,by rw [valC,if_neg hc];rfl⟩
end Go.Pm
end
section
set_option maxRecDepth 4000
namespace Go.Pm
open Go.Proofs
theorem at_encPPs {l p q:List (List Pw)} {x:List Pw} (e:l=p++x::q):(encPPs l)[p.length]?=some (.snap false (encPs x)):=by rw [encPPs,e];simp
@[simp] theorem encPPs_lenS (l:List (List Pw)):(encPPs l).length=l.length:=by simp [encPPs]
@[simp] theorem encPPs_vals (l:List (List Pw)):isVals (encPPs l)=true:=by induction l with | nil=>rfl | cons x l ih=>simpa [encPPs] using ih
@[simp] theorem encPPs_nrms (l:List (List Pw)):nrms (encPPs l)=encPPs l:=by induction l with | nil=>rfl | cons x l ih=>simpa [encPPs] using ih
attribute [local irreducible] thenQ blockQ loopQ bodyQ Ev EvOps CallEv FnEv EvD
theorem right_fun (c:Int) (vs:List Pw) (sv:Sm vs):Fun C 46 [.agg [.int .i64 c,.snap false (encPs vs)]] (.bool (rgtC c vs)):=by
  have hel:=encPs_len vs
  have hl2:=sv.2
  refine Fun.x T6 Tryz.func46 rfl ?_
  (repeat' (first | (refine Rn.go ?_;conv=>whnf) | refine .mk ?_ | refine .tt ?_ | refine .ff ?_ | refine .m2 ?_ | refine .m3 ?_ | refine .mk (fun hc=>?_) fun hc=>?_ | refine .lp fun v H lp=>?_ | fail))
  all_goals first | (refine ⟨_,rfl,?_⟩;rw [rgtC,if_pos (by omega)];rfl) | skip
  refine LpX.zip T6 vs (fun p q L H=>L=[(1,.ptr 0 0 0 0),(3,.int .i64 p.length)]∧HV H∧H[0]?=some ⟨.m,0,2,[.agg [.int .i64 c,.snap false (encPs vs)]]⟩∧rgtC c vs=rgtGo (lastT none p) q) (.nx ⟨rfl,HV.one rfl,rfl,by rw [rgtC,if_neg (by omega)];rfl⟩) ?_ ?_
  · rintro p ⟨u,n⟩ r _ h ρ e ⟨rfl,hH,h0,hg⟩
    have hat:=at_encPs e
    have hl3:=congrArg List.length e
    simp only [List.length_append,List.length_cons] at hl3
    have hsm:=sv.1 (u,n) (by rw [e];simp)
    have hv:=rvalid_fun u hsm
    have hsp:Fun C 82 [enc u] (.bool (special u)):=by obtain ⟨k1,s1,o1,l1⟩:=u;exact rspecial_fun k1 s1 o1 l1
    rw [rgtGo_cons] at hg
    (repeat' (first | (refine Rn.go ?_;conv=>whnf) | refine .mk ?_ | refine .tt ?_ | refine .ff ?_ | refine .m2 ?_ | refine .m3 ?_ | refine .mk (fun hc=>?_) fun hc=>?_ | refine .lp fun v H lp=>?_ | fail))
    refine .p hv ?_
    (repeat' (first | (refine Rn.go ?_;conv=>whnf) | refine .mk ?_ | refine .tt ?_ | refine .ff ?_ | refine .m2 ?_ | refine .m3 ?_ | refine .mk (fun hc=>?_) fun hc=>?_ | refine .lp fun v H lp=>?_ | fail))
    rotate_left
    · exact ⟨_,rfl,by rw [hg,if_pos (.inl hc)];rfl⟩
    have v0:=hc
    clear hc hv
    refine .p hsp ?_
    cases hs:special u
    rotate_left
    · (repeat' (first | (refine Rn.go ?_;conv=>whnf) | refine .mk ?_ | refine .tt ?_ | refine .ff ?_ | refine .m2 ?_ | refine .m3 ?_ | refine .mk (fun hc=>?_) fun hc=>?_ | refine .lp fun v H lp=>?_ | fail))
      exact ⟨_,rfl,by rw [hg,if_pos (.inr (.inl hs))];rfl⟩
    rw [hs] at hsp
    rcases List.eq_nil_or_concat p with rfl | ⟨p',⟨y,ny⟩,rfl⟩
    · (repeat' (first | (refine Rn.go ?_;conv=>whnf) | refine .mk ?_ | refine .tt ?_ | refine .ff ?_ | refine .m2 ?_ | refine .m3 ?_ | refine .mk (fun hc=>?_) fun hc=>?_ | refine .lp fun v H lp=>?_ | fail))
      all_goals first
        | (refine ⟨_,rfl,?_⟩;rw [hg,if_pos (by simp only;omega)];rfl)
        | (refine .nx ⟨rfl,hH.app (HV.one (by simp)),by rw [List.getElem?_append_left (lt_of_some h0)];exact h0,?_⟩
           rw [hg,if_neg (by simp [v0,hs,lastT,bef];omega)];rfl)
    · have hy:(encPs vs)[p'.length]?=some (.agg [.int .i64 y.k,.str y.s,.int .i64 y.o,.snap false (encs y.l),.int .i64 ny]):=at_encPs (q:=(u,n)::r) (by rw [e];simp)
      have hcm:=rcmp_fun y u (sv.1 (y,ny) (by rw [e];simp)) hsm
      have hll:(p'.concat (y,ny)).length=p'.length+1:=by simp
      rw [List.concat_eq_append,lastT_snoc,bef] at hg
      (repeat' (first | (refine Rn.go ?_;conv=>whnf) | refine .mk ?_ | refine .tt ?_ | refine .ff ?_ | refine .m2 ?_ | refine .m3 ?_ | refine .mk (fun hc=>?_) fun hc=>?_ | refine .lp fun v H lp=>?_ | fail))
      all_goals first
        | (refine ⟨_,rfl,?_⟩;rw [hg,if_pos (by simp only;omega)];rfl)
        | skip
      refine .mk (n:=p'.length) ?_ (by omega) hy
      (repeat' (first | (refine Rn.go ?_;conv=>whnf) | refine .mk ?_ | refine .tt ?_ | refine .ff ?_ | refine .m2 ?_ | refine .m3 ?_ | refine .mk (fun hc=>?_) fun hc=>?_ | refine .lp fun v H lp=>?_ | fail))
      refine .p hcm ?_
      (repeat' (first | (refine Rn.go ?_;conv=>whnf) | refine .mk ?_ | refine .tt ?_ | refine .ff ?_ | refine .m2 ?_ | refine .m3 ?_ | refine .mk (fun hc=>?_) fun hc=>?_ | refine .lp fun v H lp=>?_ | fail))
      · exact ⟨_,rfl,by rw [hg,if_pos (by simp only;simp [hc])];rfl⟩
      · refine .nx ⟨rfl,hH.app (HV.one (by simp)),by rw [List.getElem?_append_left (lt_of_some h0)];exact h0,?_⟩
        rw [hg,if_neg (by simp [v0,hs];omega),lastT_snoc]
  · rintro _ h ρ ⟨rfl,hH,h0,hg⟩
    (repeat' (first | (refine Rn.go ?_;conv=>whnf) | refine .mk ?_ | refine .tt ?_ | refine .ff ?_ | refine .m2 ?_ | refine .m3 ?_ | refine .mk (fun hc=>?_) fun hc=>?_ | refine .lp fun v H lp=>?_ | fail))
    exact ⟨_,rfl,by rw [hg,rgtGo_nil];rfl⟩
theorem rcr_fun (c:Int) (vs m:List Pw) (l:List (List Pw)) (sv:Sm vs) (sm:∀ p∈m,bulk p.1<100000000) (lm:m.length<100000000) (sl:∀ x∈l,(∀ p∈x,bulk p.1<100000000)∧x.length<100000000) (ll:l.length<100000000) :
    Fun C 11 [.snap false (encPPs l),.snap false (encPs m),.agg [.int .i64 c,.snap false (encPs vs)]]
      (.bool (decide (validP m=0) && rgtC c vs && l.all (fun x=>decide (validP x=0) && decide (valC c vs x=0)) && decide (valC c vs m≠0))):=by
  have hel:=encPs_len m
  have hell:(encPPs l).length=l.length:=by simp
  have hvm:=rpvalid_fun m sm lm
  have hrg:=right_fun c vs sv
  refine Fun.x T6 Tryz.func11 rfl ?_
  (repeat' (first | (refine Rn.go ?_;conv=>whnf) | refine .mk ?_ | refine .tt ?_ | refine .ff ?_ | refine .m2 ?_ | refine .m3 ?_ | refine .mk (fun hc=>?_) fun hc=>?_ | refine .lp fun v H lp=>?_ | fail))
  refine .p hvm ?_
  (repeat' (first | (refine Rn.go ?_;conv=>whnf) | refine .mk ?_ | refine .tt ?_ | refine .ff ?_ | refine .m2 ?_ | refine .m3 ?_ | refine .mk (fun hc=>?_) fun hc=>?_ | refine .lp fun v H lp=>?_ | fail))
  rotate_left
  · exact ⟨_,rfl,by simp [hc,tupOf]⟩
  have vm:=hc
  clear hc
  refine .p hrg ?_
  cases hr:rgtC c vs
  · (repeat' (first | (refine Rn.go ?_;conv=>whnf) | refine .mk ?_ | refine .tt ?_ | refine .ff ?_ | refine .m2 ?_ | refine .m3 ?_ | refine .mk (fun hc=>?_) fun hc=>?_ | refine .lp fun v H lp=>?_ | fail))
    exact ⟨_,rfl,by simp [tupOf]⟩
  obtain ⟨bv,_,_,_⟩:=rgtGo_ok (l:=vs) (pr:=none) (by unfold rgtC at hr;split at hr;cases hr;exact hr)
  have hcq:c=0∨1≤c∧c≤35184372088832:=by unfold rgtC at hr;split at hr;cases hr;omega
  rw [hr] at hrg
  have fv:∀ x,validP x=0→(∀ p∈x,bulk p.1<100000000)→Fun C 47 [.snap false (encPs x),.agg [.int .i64 c,.snap false (encPs vs)]] (.int .i64 (valC c vs x)):=fun x hx hb=>by
    obtain ⟨h1,h2,_⟩:=validP_zero hx
    exact value_fun c vs x hcq bv sv h2 h1 ⟨fun p hp=>by have:=hb p hp;omega,by omega⟩
  have hval:=fv m vm sm
  (repeat' (first | (refine Rn.go ?_;conv=>whnf) | refine .mk ?_ | refine .tt ?_ | refine .ff ?_ | refine .m2 ?_ | refine .m3 ?_ | refine .mk (fun hc=>?_) fun hc=>?_ | refine .lp fun v H lp=>?_ | fail))
  refine LpX.zip T6 l (fun p q L H=>L=[(0,.snap false (encPPs l)),(1,.snap false (encPs m)),(5,.ptr 0 0 0 0),(7,.int .i64 p.length)]∧H=[⟨.m,0,2,[.agg [.int .i64 c,.snap false (encPs vs)]]⟩]∧(p.all fun x=>decide (validP x=0) && decide (valC c vs x=0))=true) (.nx ⟨rfl,rfl,rfl⟩) ?_ ?_
  · rintro p x q _ _ ρ e ⟨rfl,rfl,hp⟩
    have hat:=at_encPPs e
    have hl3:=congrArg List.length e
    simp only [List.length_append,List.length_cons] at hl3
    obtain ⟨s1,s2⟩:=sl x (by rw [e];simp)
    have hvx:=rpvalid_fun x s1 s2
    (repeat' (first | (refine Rn.go ?_;conv=>whnf) | refine .mk ?_ | refine .tt ?_ | refine .ff ?_ | refine .m2 ?_ | refine .m3 ?_ | refine .mk (fun hc=>?_) fun hc=>?_ | refine .lp fun v H lp=>?_ | fail))
    refine .p hvx ?_
    (repeat' (first | (refine Rn.go ?_;conv=>whnf) | refine .mk ?_ | refine .tt ?_ | refine .ff ?_ | refine .m2 ?_ | refine .m3 ?_ | refine .mk (fun hc=>?_) fun hc=>?_ | refine .lp fun v H lp=>?_ | fail))
    · have hvv:=fv x hc s1
      refine .p hvv ?_
      (repeat' (first | (refine Rn.go ?_;conv=>whnf) | refine .mk ?_ | refine .tt ?_ | refine .ff ?_ | refine .m2 ?_ | refine .m3 ?_ | refine .mk (fun hc=>?_) fun hc=>?_ | refine .lp fun v H lp=>?_ | fail))
      · exact .nx ⟨rfl,rfl,by rw [List.all_append,hp];simp [*]⟩
      · exact ⟨_,rfl,by rw [e,List.all_append,List.all_cons];simp [*,tupOf]⟩
    · exact ⟨_,rfl,by rw [e,List.all_append,List.all_cons];simp [hc,tupOf]⟩
  · rintro _ _ ρ ⟨rfl,rfl,hp⟩
    (repeat' (first | (refine Rn.go ?_;conv=>whnf) | refine .mk ?_ | refine .tt ?_ | refine .ff ?_ | refine .m2 ?_ | refine .m3 ?_ | refine .mk (fun hc=>?_) fun hc=>?_ | refine .lp fun v H lp=>?_ | fail))
    refine .p hval ?_
    (repeat' (first | (refine Rn.go ?_;conv=>whnf) | refine .mk ?_ | refine .tt ?_ | refine .ff ?_ | refine .m2 ?_ | refine .m3 ?_ | refine .mk (fun hc=>?_) fun hc=>?_ | refine .lp fun v H lp=>?_ | fail))
    all_goals exact ⟨_,rfl,by rw [hp];simp [*,tupOf]⟩
end Go.Pm
end
section
set_option maxRecDepth 4000
namespace Go.Pm
open Go.Proofs
def sAbc:ByteArray:=⟨#[97,98,99,100,101,102]⟩
def atm (i:Nat):Tm:=.mk 2 (sAbc.extract i (i+1)) 2 []
def madeI:Nat→List Int→List Pw
 | _,[]=>[]
 | i,x::l=>if x=0 then madeI (i+1) l else (atm i,x)::madeI (i+1) l
def made (l:List Int):List Pw:=madeI 0 (l.take 6)
theorem madeI_snoc (x:Int):∀ (i:Nat) (l:List Int),madeI i (l++[x])=madeI i l++if x=0 then [] else [(atm (i+l.length),x)]
 | i,[]=>by simp [madeI]
 | i,y::l=>by
  have ih:=madeI_snoc x (i+1) l
  simp only [List.cons_append,madeI,ih,List.length_cons,show i+1+l.length=i+(l.length+1) by omega]
  split <;> simp
theorem madeI_len:∀ (i:Nat) (l:List Int),(madeI i l).length≤l.length
 | i,[]=>by simp [madeI]
 | i,y::l=>by have:=madeI_len (i+1) l;simp only [madeI];split <;> simp <;> omega
def encI8 (l:List Int):List PV:=l.map fun x=>.int .i8 x
theorem at_encI8 {l p q:List Int} {x:Int} (e:l=p++x::q):(encI8 l)[p.length]?=some (.int .i8 x):=by rw [encI8,e];simp
@[simp] theorem encI8_len (l:List Int):(encI8 l).length=l.length:=by simp [encI8]
@[simp] theorem encI8_vals (l:List Int):isVals (encI8 l)=true:=by induction l with | nil=>rfl | cons x l ih=>simpa [encI8] using ih
@[simp] theorem encI8_nrms (l:List Int):nrms (encI8 l)=encI8 l:=by induction l with | nil=>rfl | cons x l ih=>simpa [encI8] using ih
attribute [local irreducible] thenQ blockQ loopQ bodyQ Ev EvOps CallEv FnEv EvD
theorem atom_fun (s:ByteArray) (n:Int):Fun C 24 [.str s,.int .i64 n] (enc (.mk 2 s n [])):=by
 rw [enc_mk]
 refine Fun.x T6 Tryz.func24 rfl ?_
 (repeat' (first | (refine Rn.go ?_;conv=>whnf) | refine .mk ?_ | refine .tt ?_ | refine .ff ?_ | refine .m2 ?_ | refine .m3 ?_ | refine .mk (fun hc=>?_) fun hc=>?_ | refine .lp fun v H lp=>?_ | fail))
 exact ⟨_,rfl,by simp [tupOf,nrm,nrms]⟩
theorem made_fun (l:List Int) (hl:l.length<1000000000) (hr:∀ x∈l,-128≤x∧x≤127):Fun C 30 [.snap false (encI8 l)] (.snap false (encPs (made l))):=by
 have hel:=encI8_len l
 have hsz:(ByteArray.mk #[97,98,99,100,101,102]).size=6:=rfl
 refine Fun.x T6 Tryz.func30 rfl ?_
 (repeat' (first | (refine Rn.go ?_;conv=>whnf) | refine .mk ?_ | refine .tt ?_ | refine .ff ?_ | refine .m2 ?_ | refine .m3 ?_ | refine .mk (fun hc=>?_) fun hc=>?_ | refine .lp fun v H lp=>?_ | fail))
 refine LpX.zip T6 (l.take 6) (fun p q L H=>∃ v,L=[(0,.snap false (encI8 l)),(3,v),(4,.int .i64 p.length)]∧HV H∧Out 5 H v (encPs (madeI 0 p))) (.nx ⟨_,rfl,HV.nil,.inl ⟨rfl,rfl⟩⟩) ?_ ?_
 ·rintro p x q _ h ρ e ⟨v,rfl,hH,ho⟩
  have hl2:=congrArg List.length e
  simp only [List.length_append,List.length_cons,List.length_take] at hl2
  have e2:l=p++x::(q++l.drop 6):=by have:=(List.take_append_drop 6 l).symm;rw [e] at this;simpa using this
  have hat:=at_encI8 e2
  have hx:=hr x (by rw [e2];simp)
  have hll:=madeI_len 0 p
  have hlp:(encPs (madeI 0 p)).length=(madeI 0 p).length:=encPs_len _
  have hsn:=madeI_snoc x 0 p
  rw [Nat.zero_add] at hsn
  have hatm:=atom_fun ((ByteArray.mk #[97,98,99,100,101,102]).extract p.length (p.length+1)) 2
  rw [enc_mk] at hatm
  (repeat' (first | (refine Rn.go ?_;conv=>whnf) | refine .mk ?_ | refine .tt ?_ | refine .ff ?_ | refine .m2 ?_ | refine .m3 ?_ | refine .mk (fun hc=>?_) fun hc=>?_ | refine .lp fun v H lp=>?_ | fail))
  ·refine .nx ⟨v,rfl,hH,?_⟩
   rw [hsn,if_pos hc];simpa using ho
  ·refine .p hatm ?_
   (repeat' (first | (refine Rn.go ?_;conv=>whnf) | refine .mk ?_ | refine .tt ?_ | refine .ff ?_ | refine .m2 ?_ | refine .m3 ?_ | refine .mk (fun hc=>?_) fun hc=>?_ | refine .lp fun v H lp=>?_ | fail))
   refine .nx ⟨_,rfl,lp.hv,?_⟩
   rw [hsn,if_neg hc]
   have:=lp.out
   rwa [show ([PV.agg [.int .i64 2,.str ((ByteArray.mk #[97,98,99,100,101,102]).extract p.length (p.length+1)),.int .i64 2,.snap false (encs []),.int .i64 x]]:List PV)=encPs [(atm p.length,x)] from rfl,encPs,encPs,← List.map_append] at this
 ·rintro _ h ρ ⟨v,rfl,hH,ho⟩
  have hl6:(l.take 6).length=min 6 l.length:=by simp
  obtain ⟨r1,e1,e2⟩:=ho.rbA (encPs_vals _)
  have fin:∃ r1,rb h (tupOf [v])=some r1∧nrm r1=.snap false (encPs (made l)):=⟨r1,by rcases ho with ⟨rfl,_⟩ | ⟨id,ep,rfl,_⟩ <;> exact e1,by simpa [made] using e2⟩
  (repeat' (first | (refine Rn.go ?_;conv=>whnf) | refine .mk ?_ | refine .tt ?_ | refine .ff ?_ | refine .m2 ?_ | refine .m3 ?_ | refine .mk (fun hc=>?_) fun hc=>?_ | refine .lp fun v H lp=>?_ | fail))
  all_goals exact fin
end Go.Pm
end
section
set_option maxRecDepth 4000
namespace Go.Pm
open Go.Proofs
def stepA (mix:List Int) (m:List Pw) (i:Nat) (x:List Int):List Pw:=
 match mix[i]? with
 | none=>m
 | some k=>if (timesT (made x) k).2=0 then (if (mulT m (timesT (made x) k).1).2=0 then (mulT m (timesT (made x) k).1).1 else m) else m
def allM (mix:List Int):Nat→List (List Int)→List Pw→List Pw
 | _,[],m=>m
 | i,x::l,m=>allM mix (i+1) l (stepA mix m i x)
def SmA (m:List Pw):Prop:=(∀ p∈m,bulk p.1<10000000)∧m.length≤200
theorem resP_sm {l:List Pw} (h:∀ p∈l,bulk p.1<10000000):SmA (resP l).1:=by
 unfold resP
 split
 ·exact ⟨(fun p hp=>by cases hp),by simp⟩
 ·split
  ·exact ⟨(fun p hp=>by cases hp),by simp⟩
  ·exact ⟨h,by simp only;omega⟩
theorem mulT_sm {a b:List Pw} (ha:∀ p∈a,bulk p.1<10000000) (hb:∀ p∈b,bulk p.1<10000000):SmA (mulT a b).1:=by
 unfold mulT
 split
 ·exact ⟨(fun p hp=>by cases hp),by simp⟩
 ·split
  ·exact ⟨(fun p hp=>by cases hp),by simp⟩
  ·exact resP_sm (mulP_bulk ha hb)
theorem timesT_sm {a:List Pw} (m:Int) (ha:∀ p∈a,bulk p.1<10000000):SmA (timesT a m).1:=by
 unfold timesT
 split
 ·exact ⟨(fun p hp=>by cases hp),by simp⟩
 ·split
  ·exact ⟨(fun p hp=>by cases hp),by simp⟩
  ·refine resP_sm fun p hp=>?_
   unfold tmsP at hp
   split at hp
   ·cases hp
   ·obtain ⟨q,hq,rfl⟩:=List.mem_map.1 hp;exact ha q hq
theorem made_mem:∀ (i:Nat) (l:List Int),∀ p∈madeI i l,∃ j,p.1=atm j
 | _,[],p,hp=>by simp [madeI] at hp
 | i,x::l,p,hp=>by
  simp only [madeI] at hp
  split at hp
  ·exact made_mem (i+1) l p hp
  ·rcases List.mem_cons.1 hp with rfl | hp
   ·exact ⟨i,rfl⟩
   ·exact made_mem (i+1) l p hp
theorem atm_bulk (i:Nat):bulk (atm i)<100:=by
 have:(sAbc.extract i (i+1)).size≤6:=by
  have:sAbc.size=6:=rfl
  simp [ByteArray.size_extract];omega
 simp only [atm,bulk,bulks];omega
theorem made_sm (l:List Int):SmA (made l):=by
 refine ⟨fun p hp=>?_,?_⟩
 ·obtain ⟨j,e⟩:=made_mem 0 _ p hp
  rw [e];have:=atm_bulk j;omega
 ·have:=madeI_len 0 (l.take 6)
  simp only [List.length_take] at this
  unfold made;omega
theorem stepA_sm {mix:List Int} {m:List Pw} (i:Nat) (x:List Int) (h:SmA m):SmA (stepA mix m i x):=by
 unfold stepA
 split
 ·exact h
 ·split
  ·split
   ·exact mulT_sm h.1 (timesT_sm _ (made_sm x).1).1
   ·exact h
  ·exact h
theorem allM_sm {mix:List Int}:∀ {l:List (List Int)} {i:Nat} {m:List Pw},SmA m→SmA (allM mix i l m)
 | [],_,_,h=>h
 | x::l,i,m,h=>allM_sm (l:=l) (stepA_sm i x h)
def encLL (l:List (List Int)):List PV:=l.map fun x=>.snap false (encI8 x)
theorem at_encLL {l p q:List (List Int)} {x:List Int} (e:l=p++x::q):(encLL l)[p.length]?=some (.snap false (encI8 x)):=by rw [encLL,e];simp
@[simp] theorem encLL_len (l:List (List Int)):(encLL l).length=l.length:=by simp [encLL]
@[simp] theorem encLL_vals (l:List (List Int)):isVals (encLL l)=true:=by induction l with | nil=>rfl | cons x l ih=>simpa [encLL] using ih
@[simp] theorem encLL_nrms (l:List (List Int)):nrms (encLL l)=encLL l:=by induction l with | nil=>rfl | cons x l ih=>simpa [encLL] using ih
def i8L (l:List Int):Prop:=∀ x∈l,-128≤x∧x≤127
attribute [local irreducible] thenQ blockQ loopQ bodyQ Ev EvOps CallEv FnEv EvD
theorem ret_ls {h:AHeap} {v:PV} {l:List (List Pw)} {m:List Pw} (o:Out 1 h v (encPPs l)):∃ r1,rb h (tupOf [v,.snap false (encPs m)])=some r1∧nrm r1=.tup [.snap false (encPPs l),.snap false (encPs m)]:=by
 obtain ⟨r1,h1,h2⟩:=o.rbA (encPPs_vals _)
 refine ⟨.tup [r1,.snap false (encPs m)],by simp only [tupOf,rb,rbAs,h1];rfl,?_⟩
 simp only [nrm,nrms,h2,encPPs_nrms,nrms_encPs]
theorem all_fun (l:List (List Int)) (mix rest:List Int) (hl:∀ x∈l,i8L x∧x.length<1000000000) (ll:l.length<1000000000) (hm:i8L mix) (lm:mix.length<1000000000) (hr:i8L rest) (lr:rest.length<1000000000) :
  Fun C 9 [.agg [.snap false (encLL l),.snap false (encI8 mix),.snap false (encI8 rest)]] (.tup [.snap false (encPPs ((l.take 8).map made)),.snap false (encPs (allM mix 0 (l.take 8) (made rest)))]):=by
 have hel:=encLL_len l
 have hmr:=made_fun rest lr hr
 have hem:=encI8_len mix
 refine Fun.x T6 Tryz.func9 rfl ?_
 (repeat' (first | (refine Rn.go ?_;conv=>whnf) | refine .mk ?_ | refine .tt ?_ | refine .ff ?_ | refine .m2 ?_ | refine .m3 ?_ | refine .mk (fun hc=>?_) fun hc=>?_ | refine .lp fun v H lp=>?_ | fail))
 refine .p hmr ?_
 (repeat' (first | (refine Rn.go ?_;conv=>whnf) | refine .mk ?_ | refine .tt ?_ | refine .ff ?_ | refine .m2 ?_ | refine .m3 ?_ | refine .mk (fun hc=>?_) fun hc=>?_ | refine .lp fun v H lp=>?_ | fail))
 refine LpX.zip T6 (l.take 8) (fun p q L H=>∃ v m,L=[(1,.ptr 0 0 0 0),(4,v),(5,.snap false (encPs m)),(6,.int .i64 p.length)]∧HV H∧H[0]?=some ⟨.m,0,3,[.agg [.snap false (encLL l),.snap false (encI8 mix),.snap false (encI8 rest)]]⟩∧Out 1 H v (encPPs (p.map made))∧(∀ ep n,v≠.mref 0 ep 0 n)∧SmA m∧allM mix 0 (l.take 8) (made rest)=allM mix p.length q m) (.nx ⟨_,_,rfl,HV.one rfl,rfl,.inl ⟨rfl,rfl⟩,(fun _ _ h=>by cases h),made_sm _,rfl⟩) ?_ ?_
 ·rintro p x q _ h ρ e ⟨v,m,rfl,hH,h0,ho,hv0,sm,hg⟩
  have hl2:=congrArg List.length e
  simp only [List.length_append,List.length_cons,List.length_take] at hl2
  have e2:l=p++x::(q++l.drop 8):=by have:=(List.take_append_drop 8 l).symm;rw [e] at this;simpa using this
  have hat:=at_encLL e2
  obtain ⟨hx1,hx2⟩:=hl x (by rw [e2];simp)
  have hmx:=made_fun x hx2 hx1
  have hlp:(encPPs (p.map made)).length=p.length:=by simp
  (repeat' (first | (refine Rn.go ?_;conv=>whnf) | refine .mk ?_ | refine .tt ?_ | refine .ff ?_ | refine .m2 ?_ | refine .m3 ?_ | refine .mk (fun hc=>?_) fun hc=>?_ | refine .lp fun v H lp=>?_ | fail))
  refine .p hmx ?_
  (repeat' (first | (refine Rn.go ?_;conv=>whnf) | refine .mk ?_ | refine .tt ?_ | refine .ff ?_ | refine .m2 ?_ | refine .m3 ?_ | refine .mk (fun hc=>?_) fun hc=>?_ | refine .lp fun v H lp=>?_ | fail))
  obtain ⟨h0',hv0'⟩:=lp.obj h0 hv0
  have hH':=lp.hv
  have lpo:=lp.out
  have hpp:encPPs (p.map made)++[.snap false (encPs (made x))]=encPPs ((p++[x]).map made):=by simp [encPPs]
  rw [hpp] at lpo
  have lpo':=lpo
  have hlp2:(encPPs ((p++[x]).map made)).length=p.length+1:=by simp
  rcases lpo with ⟨rfl,hn⟩ | ⟨id,ep,rfl,e1⟩
  ·rw [hn] at hlp2;simp at hlp2
  have hat2:(encPPs ((p++[x]).map made))[0+p.length]?=some (.snap false (encPs (made x))):=by rw [Nat.zero_add];simp [encPPs]
  by_cases hi:p.length<mix.length
  ·obtain ⟨k,hk⟩:∃ k,mix[p.length]?=some k:=⟨mix[p.length],List.getElem?_eq_getElem hi⟩
   have hatm:(encI8 mix)[p.length]?=some (.int .i8 k):=by rw [encI8,List.getElem?_map,hk];rfl
   have hk2:=hm k (List.mem_of_getElem? hk)
   have hst:stepA mix m p.length x=if (timesT (made x) k).2=0 then (if (mulT m (timesT (made x) k).1).2=0 then (mulT m (timesT (made x) k).1).1 else m) else m:=by rw [stepA,hk]
   have hti:=rtimes_fun (made x) k (made_sm x).1 (by have:=(made_sm x).2;omega)
   have tsm:=timesT_sm k (made_sm x).1
   have hmu:=rmul_fun m (timesT (made x) k).1 sm.1 tsm.1 (by have:=sm.2;omega) (by have:=tsm.2;omega)
   have ssm:=stepA_sm (mix:=mix) p.length x sm
   rw [allM] at hg
   (repeat' (first | (refine Rn.go ?_;conv=>whnf) | refine .mk ?_ | refine .tt ?_ | refine .ff ?_ | refine .m2 ?_ | refine .m3 ?_ | refine .mk (fun hc=>?_) fun hc=>?_ | refine .lp fun v H lp=>?_ | fail))
   refine .p hti ?_
   (repeat' (first | (refine Rn.go ?_;conv=>whnf) | refine .mk ?_ | refine .tt ?_ | refine .ff ?_ | refine .m2 ?_ | refine .m3 ?_ | refine .mk (fun hc=>?_) fun hc=>?_ | refine .lp fun v H lp=>?_ | fail))
   ·refine .p hmu ?_
    (repeat' (first | (refine Rn.go ?_;conv=>whnf) | refine .mk ?_ | refine .tt ?_ | refine .ff ?_ | refine .m2 ?_ | refine .m3 ?_ | refine .mk (fun hc=>?_) fun hc=>?_ | refine .lp fun v H lp=>?_ | fail))
    ·exact .nx ⟨_,_,rfl,hH',h0',lpo',hv0',by rw [hst,if_pos (by assumption),if_pos hc] at ssm;exact ssm,by rw [hg,hst,if_pos (by assumption),if_pos hc];simp⟩
    ·exact .nx ⟨_,_,rfl,hH',h0',lpo',hv0',sm,by rw [hg,hst,if_pos (by assumption),if_neg hc];simp⟩
   ·exact .nx ⟨_,_,rfl,hH',h0',lpo',hv0',sm,by rw [hg,hst,if_neg hc];simp⟩
  ·have hst:stepA mix m p.length x=m:=by rw [stepA,List.getElem?_eq_none (by omega)]
   rw [allM,hst] at hg
   (repeat' (first | (refine Rn.go ?_;conv=>whnf) | refine .mk ?_ | refine .tt ?_ | refine .ff ?_ | refine .m2 ?_ | refine .m3 ?_ | refine .mk (fun hc=>?_) fun hc=>?_ | refine .lp fun v H lp=>?_ | fail))
   exact .nx ⟨_,_,rfl,hH',h0',lpo',hv0',sm,by rw [hg];simp⟩
 ·rintro _ h ρ ⟨v,m,rfl,hH,h0,ho,hv0,sm,hg⟩
  have hl6:(l.take 8).length=min 8 l.length:=by simp
  rw [allM] at hg
  (repeat' (first | (refine Rn.go ?_;conv=>whnf) | refine .mk ?_ | refine .tt ?_ | refine .ff ?_ | refine .m2 ?_ | refine .m3 ?_ | refine .mk (fun hc=>?_) fun hc=>?_ | refine .lp fun v H lp=>?_ | fail))
  all_goals (rw [hg];exact ret_ls ho)
end Go.Pm
end
section
set_option maxRecDepth 100000
set_option maxHeartbeats 2000000
namespace Go.Pm
open Go.Proofs Go.ChangeShapes Go.WideShapes
theorem ones {α:Type}:∀ (l:List α),(l.map fun _=>1).sum=l.length
 | []=>rfl
 | _::l=>by rw [List.map_cons,List.sum_cons,ones l,List.length_cons];omega
theorem mem_sumN {α:Type} (f:α→Nat):∀ {l:List α} {x:α},x∈l→f x≤(l.map f).sum
 | y::l,x,h=>by
  rw [List.map_cons,List.sum_cons]
  rcases List.mem_cons.1 h with rfl | h
  ·omega
  ·have:=mem_sumN f h;omega
theorem len_sumN {α:Type} (f:α→Nat) (hf:∀ x,1≤f x):∀ (l:List α),l.length≤(l.map f).sum
 | []=>by simp
 | y::l=>by have:=len_sumN f hf l;have:=hf y;rw [List.map_cons,List.sum_cons,List.length_cons];omega
instance:Inhabited { x:Int // -128≤x∧x≤127 }:=⟨⟨0,by decide⟩⟩
instance:Inhabited { l:List Int // i8L l }:=⟨⟨[],by intro x h;cases h⟩⟩
theorem coI8:C.P.cellsOf 62=1:=by kernel_rfl
theorem coI8s:C.P.cellsOf 23=1:=by kernel_rfl
theorem coLL:C.P.cellsOf 22=1:=by kernel_rfl
theorem coDr:C.P.cellsOf 25=3:=by kernel_rfl
theorem unDr:∃ fs,C.P.underlying 25=some (.struct fs)∧fs.toList.map (fun f=>(f.offset,f.type))=[(0,22),(1,23),(2,23)]:=kd_st (T6.hkd 25 _ rfl)
open Go.Proofs.YtejhjciockgicaaGreat in
theorem read_i8s {H:Type} {ec:TypeId × Value→H} {w:World} {sp:Nat→Bool} {held:Bool} {n:Nat} {cs:List Value} {x:DataW H × List MemPlace} (h:DataW.trod ec C.P w 0 sp held n 23 cs=some x) :
  ∃ (c:Value) (l:List Int),cs=[c]∧SRel w NoB c (.snap false (encI8 l))∧i8L l∧l.length+1≤Rows.uptoBulk x.1:=by
 obtain ⟨c,l,hc,h1,h2⟩:=read_slice (E:={ x:Int // -128≤x∧x≤127 }) (fun e=>.int .i8 e.1) (fun _=>1) (kd_sl (T6.hkd 23 _ rfl)) coI8 (by decide) (fun _=>rfl) (fun n cs x hx=>by
  obtain ⟨k,rfl,rfl,hw⟩:=DataW.trod_int (kd_int (T6.hkd 62 _ rfl)) hx
  have hk : -128≤k∧k≤127:=by
   simp only [Lit.wf,decide_eq_true_eq,Bool.and_eq_true] at hw
   have h1:IntKind.i8.min=-128:=rfl
   have h2:IntKind.i8.max=127:=rfl
   omega
  exact ⟨⟨k,hk⟩,rfl,fun j hj=>(by obtain rfl:j=0:=(by omega);exact .int _ _),by simp [Rows.uptoBulk]⟩) h
 refine ⟨c,l.map (·.1),hc,by simpa [encI8] using h1,fun x hx=>?_,?_⟩
 ·obtain ⟨y,_,rfl⟩:=List.mem_map.1 hx;exact y.2
 ·rw [ones] at h2
  simp only [List.length_map];exact h2
open Go.Proofs.YtejhjciockgicaaGreat in
theorem read_LL {H:Type} {ec:TypeId × Value→H} {w:World} {sp:Nat→Bool} {held:Bool} {n:Nat} {cs:List Value} {x:DataW H × List MemPlace} (h:DataW.trod ec C.P w 0 sp held n 22 cs=some x) :
  ∃ (c:Value) (l:List (List Int)),cs=[c]∧SRel w NoB c (.snap false (encLL l))∧(∀ y∈l,i8L y∧y.length<Rows.uptoBulk x.1)∧l.length<Rows.uptoBulk x.1:=by
 obtain ⟨c,l,hc,h1,h2⟩:=read_slice (E:={ l:List Int // i8L l }) (fun e=>.snap false (encI8 e.1)) (fun e=>e.1.length+1) (kd_sl (T6.hkd 22 _ rfl)) coI8s (by decide) (fun _=>rfl) (fun n cs x hx=>by
  obtain ⟨c,l,rfl,a1,a2,a3⟩:=read_i8s hx
  exact ⟨⟨l,a2⟩,rfl,fun j hj=>(by obtain rfl:j=0:=(by omega);exact a1),a3⟩) h
 refine ⟨c,l.map (·.1),hc,by simpa [encLL,List.map_map,Function.comp_def] using h1,fun y hy=>?_,?_⟩
 ·obtain ⟨z,hz,rfl⟩:=List.mem_map.1 hy
  have:=mem_sumN (fun e:{ l:List Int // i8L l }=>e.1.length+1) hz
  exact ⟨z.2,by omega⟩
 ·have:=len_sumN (fun e:{ l:List Int // i8L l }=>e.1.length+1) (fun x=>by omega) l
  simp only [List.length_map];omega
theorem fldOf {fs:Array Field} {os:List (Nat × TypeId)} (hfs:fs.toList.map (fun f=>(f.offset,f.type))=os) {i a b:Nat} (hi:os[i]?=some (a,b)):∃ f,fs[i]?=some f∧f.offset=a∧f.type=b:=by
 rw [← hfs,List.getElem?_map] at hi
 have:fs[i]?=fs.toList[i]?:=by simp
 rw [this]
 cases hh:fs.toList[i]? with
 | none=>rw [hh] at hi;cases hi
 | some f=>
  rw [hh] at hi
  simp only [Option.map_some,Option.some.injEq,Prod.mk.injEq] at hi
  exact ⟨f,rfl,hi.1,hi.2⟩
open Go.Proofs.YtejhjciockgicaaGreat in
theorem read_draft {H:Type} {ec:TypeId × Value→H} {w:World} {sp:Nat→Bool} {held:Bool} {n:Nat} {cs:List Value} {x:DataW H × List MemPlace} (h:DataW.trod ec C.P w 0 sp held n 25 cs=some x) :
  ∃ (l:List (List Int)) (mix rest:List Int),SRel w NoB (.agg cs.toArray) (.agg [.snap false (encLL l),.snap false (encI8 mix),.snap false (encI8 rest)])∧(∀ y∈l,i8L y∧y.length<Rows.uptoBulk x.1)∧l.length<Rows.uptoBulk x.1∧i8L mix∧mix.length<Rows.uptoBulk x.1∧i8L rest∧rest.length<Rows.uptoBulk x.1:=by
 obtain ⟨fs,hu,hfs⟩:=unDr
 obtain ⟨xs,m,rfl,rfl,hlen,hxl,hf⟩:=DataW.trod_struct hu h
 rw [coDr] at hlen
 have hsz:fs.size=3:=by have:=congrArg List.length hfs;simpa using this
 rw [hsz] at hxl
 match cs,hlen,xs,hxl with
 | [c0,c1,c2],_,[x0,x1,x2],_=>
  obtain ⟨f0,g0,a0,b0⟩:=fldOf hfs (i:=0) rfl
  obtain ⟨f1,g1,a1,b1⟩:=fldOf hfs (i:=1) rfl
  obtain ⟨f2,g2,a2,b2⟩:=fldOf hfs (i:=2) rfl
  have h0:=hf 0 f0 g0
  have h1:=hf 1 f1 g1
  have h2:=hf 2 f2 g2
  rw [a0,b0,coLL] at h0
  rw [a1,b1,coI8s] at h1
  rw [a2,b2,coI8s] at h2
  simp only [List.drop_zero,List.take_succ_cons,List.take_zero,List.drop_succ_cons,List.getElem?_cons_zero,List.getElem?_cons_succ] at h0 h1 h2
  obtain ⟨d0,l,e0,s0,r0,q0⟩:=read_LL h0
  obtain ⟨d1,mix,e1,s1,r1,q1⟩:=read_i8s h1
  obtain ⟨d2,rest,e2,s2,r2,q2⟩:=read_i8s h2
  obtain rfl:c0=d0:=by simpa using e0
  obtain rfl:c1=d1:=by simpa using e1
  obtain rfl:c2=d2:=by simpa using e2
  refine ⟨l,mix,rest,.agg _ _ rfl (fun j hj=>by
   match j,hj with
   | 0,_=>exact s0
   | 1,_=>exact s1
   | 2,_=>exact s2),?_⟩
  simp only [List.map_cons,List.map_nil,Rows.uptoBulk,Rows.uptoBulkAll]
  exact ⟨fun y hy=>⟨(r0 y hy).1,by have:=(r0 y hy).2;omega⟩,by omega,r1,by omega,r2,by omega⟩
open Go.Proofs.YtejhjciockgicaaGreat in
theorem read_draftv {H:Type} {ec:TypeId × Value→H} {w:World} {base:Nat} {sp:Nat→Bool} {v:Value} {d:DataW H} {p:List MemPlace} (hok:Value.okWide C.P w .any base 25 v) (h:DataW.Trod ec C.P w 0 sp true 25 v d p) :
  ∃ (l:List (List Int)) (mix rest:List Int),SRel w NoB v (.agg [.snap false (encLL l),.snap false (encI8 mix),.snap false (encI8 rest)])∧(∀ y∈l,i8L y∧y.length<Rows.uptoBulk d)∧l.length<Rows.uptoBulk d∧i8L mix∧mix.length<Rows.uptoBulk d∧i8L rest∧rest.length<Rows.uptoBulk d:=by
 obtain ⟨n,hn⟩:=h
 obtain ⟨fs,hu,hfs⟩:=unDr
 obtain ⟨cs,rfl,_⟩:=okWide_struct hu hok
 have:=read_draft hn
 simpa [Value.cells] using this
end Go.Pm
end
section
set_option maxRecDepth 4000
namespace Go.Pm
open Go.Proofs
attribute [local irreducible] thenQ blockQ loopQ bodyQ Ev EvOps CallEv FnEv EvD
theorem outside_fun (n:Int):Fun C 39 [.int .i64 n] (.bool (decide (n < -35184372088832∨35184372088832<n))):=by
 refine Fun.x T6 Tryz.func39 rfl ?_
 (repeat' (first | (refine Rn.go ?_;conv=>whnf) | refine .mk ?_ | refine .tt ?_ | refine .ff ?_ | refine .m2 ?_ | refine .m3 ?_ | refine .mk (fun hc=>?_) fun hc=>?_ | refine .lp fun v H lp=>?_ | fail))
 all_goals exact ⟨_,rfl,by simp [tupOf, *]⟩
theorem cr1_fun (x:List Pw) (hb:∀ p∈x,bulk p.1<100000000) (hl:x.length<100000000):Fun C 36 [.snap false (encPs x)] (.bool (decide (validP x≠0))):=by
 have hv:=pvalid_fun x hb hl
 refine Fun.x T6 Tryz.func36 rfl ?_
 (repeat' (first | (refine Rn.go ?_;conv=>whnf) | refine .mk ?_ | refine .tt ?_ | refine .ff ?_ | refine .m2 ?_ | refine .m3 ?_ | refine .mk (fun hc=>?_) fun hc=>?_ | refine .lp fun v H lp=>?_ | fail))
 refine .p hv ?_
 (repeat' (first | (refine Rn.go ?_;conv=>whnf) | refine .mk ?_ | refine .tt ?_ | refine .ff ?_ | refine .m2 ?_ | refine .m3 ?_ | refine .mk (fun hc=>?_) fun hc=>?_ | refine .lp fun v H lp=>?_ | fail))
 all_goals exact ⟨_,rfl,by simp [tupOf, *]⟩
theorem cr21_fun (p:Pw) (t:Tm) (hp:bulk p.1<1000000000) (ht:bulk t<1000000000):Fun C 43 [encP p,enc t] (.int .i64 (cmpT p.1 t)):=by
 have h1:=tcmp_fun p.1 t hp ht
 obtain ⟨u,n⟩:=p
 rw [encP_x,enc_x]
 refine Fun.x T6 Tryz.func43 rfl ?_
 (repeat' (first | (refine Rn.go ?_;conv=>whnf) | refine .mk ?_ | refine .tt ?_ | refine .ff ?_ | refine .m2 ?_ | refine .m3 ?_ | refine .mk (fun hc=>?_) fun hc=>?_ | refine .lp fun v H lp=>?_ | fail))
 refine .p h1 ?_
 (repeat' (first | (refine Rn.go ?_;conv=>whnf) | refine .mk ?_ | refine .tt ?_ | refine .ff ?_ | refine .m2 ?_ | refine .m3 ?_ | refine .mk (fun hc=>?_) fun hc=>?_ | refine .lp fun v H lp=>?_ | fail))
 exact ⟨_,rfl,rfl⟩
theorem binG_fun (g:FuncId) (hm:C.mode g=.pure) (l:List Pw) (t:Tm) (hs:Srt l) (hl:l.length<100000000) (hcf:∀ p∈l,Fun C g [encP p,enc t] (.int .i64 (cmpT p.1 t))) :
  Fun C 42 [.snap false (encPs l),enc t,.fn g []] (.tup [.int .i64 (lbP t l),.bool (fdP t l)]):=by
 have hle:=lbP_le t l
 have hif:=lbP_iff t l hs
 have hfd:fdP t l=match l[lbP t l]? with | some p=>decide (cmpT p.1 t=0) | none=>false:=rfl
 have hel:=encPs_len l
 generalize fdP t l=FD at hfd ⊢
 generalize lbP t l=LB at hle hif hfd ⊢
 have elem:∀ m,m<l.length→∃ u n,l[m]?=some (u,n)∧(encPs l)[m]?=some (.agg [.int .i64 u.k,.str u.s,.int .i64 u.o,.snap false (encs u.l),.int .i64 n])∧Fun C g [encP (u,n),enc t] (.int .i64 (cmpT u t)):=fun m hm=>by
  rcases hp:l[m] with ⟨u,n⟩
  have h1:l[m]?=some (u,n):=by rw [List.getElem?_eq_getElem hm,hp]
  exact ⟨u,n,h1,by rw [encPs,List.getElem?_map,h1,← encP_x];rfl,hcf (u,n) (List.mem_of_getElem? h1)⟩
 rw [enc_x]
 refine Fun.x T6 Tryz.func42 rfl ?_
 (repeat' (first | (refine Rn.go ?_;conv=>whnf) | refine .mk ?_ | refine .tt ?_ | refine .ff ?_ | refine .m2 ?_ | refine .m3 ?_ | refine .mk (fun hc=>?_) fun hc=>?_ | refine .lp fun v H lp=>?_ | fail))
 refine LpX.nat T6 (fun k L H=>∃ i j:Nat,L=[(0,.snap false (encPs l)),(2,.fn g []),(4,.ptr 0 0 0 0),(8,.int .i64 (encPs l).length),(9,.int .i64 i),(10,.int .i64 j)]∧H=[⟨.m,0,4,[.agg [.int .i64 t.k,.str t.s,.int .i64 t.o,.snap false (encs t.l)]]⟩]∧k=j - i∧i≤LB∧LB≤j∧j≤l.length) l.length (.nx ⟨0,(encPs l).length,rfl,rfl,by omega,by omega,by omega,by omega⟩) ?_
 rintro k _ _ ρ ⟨i,j,rfl,rfl,hk,i1,i2,i3⟩
 by_cases hij:i<j
 ·obtain ⟨m,hmm⟩:∃ m:Nat,((i:Int)+j) / 2=m:=⟨(i+j) / 2,by omega⟩
  obtain ⟨u,n,h1,hat,hcm⟩:=elem m (by omega)
  have hiff:=hif m _ h1
  dsimp only at hiff
  (repeat' (first | (refine Rn.go ?_;conv=>whnf) | refine .mk ?_ | refine .tt ?_ | refine .ff ?_ | refine .m2 ?_ | refine .m3 ?_ | refine .mk (fun hc=>?_) fun hc=>?_ | refine .lp fun v H lp=>?_ | fail))
  refine .mk (n:=m) ?_ hmm hat
  (repeat' (first | (refine Rn.go ?_;conv=>whnf) | refine .mk ?_ | refine .tt ?_ | refine .ff ?_ | refine .m2 ?_ | refine .m3 ?_ | refine .mk (fun hc=>?_) fun hc=>?_ | refine .lp fun v H lp=>?_ | fail))
  refine .p hcm ?_ hm
  (repeat' (first | (refine Rn.go ?_;conv=>whnf) | refine .mk ?_ | refine .tt ?_ | refine .ff ?_ | refine .m2 ?_ | refine .m3 ?_ | refine .mk (fun hc=>?_) fun hc=>?_ | refine .lp fun v H lp=>?_ | fail))
  ·exact .nx ⟨j - (m+1),by omega,m+1,j,rfl,rfl,rfl,by omega,by omega,by omega⟩
  ·exact .nx ⟨m - i,by omega,i,m,rfl,rfl,rfl,by omega,by omega,by omega⟩
 ·have hi:i=LB:=by omega
  subst hi
  by_cases hil:i<l.length
  ·obtain ⟨u,n,h1,hat,hcm⟩:=elem i hil
   rw [h1] at hfd
   dsimp only at hfd
   (repeat' (first | (refine Rn.go ?_;conv=>whnf) | refine .mk ?_ | refine .tt ?_ | refine .ff ?_ | refine .m2 ?_ | refine .m3 ?_ | refine .mk (fun hc=>?_) fun hc=>?_ | refine .lp fun v H lp=>?_ | fail))
   refine .p hcm ?_ hm
   (repeat' (first | (refine Rn.go ?_;conv=>whnf) | refine .mk ?_ | refine .tt ?_ | refine .ff ?_ | refine .m2 ?_ | refine .m3 ?_ | refine .mk (fun hc=>?_) fun hc=>?_ | refine .lp fun v H lp=>?_ | fail))
   all_goals exact ⟨_,rfl,by rw [hfd];simp [tupOf,nrm,nrms, *]⟩
  ·rw [List.getElem?_eq_none (by omega)] at hfd
   (repeat' (first | (refine Rn.go ?_;conv=>whnf) | refine .mk ?_ | refine .tt ?_ | refine .ff ?_ | refine .m2 ?_ | refine .m3 ?_ | refine .mk (fun hc=>?_) fun hc=>?_ | refine .lp fun v H lp=>?_ | fail))
   exact ⟨_,rfl,by rw [hfd];rfl⟩
theorem pwr_bin {vs:List Pw} (s:Srt vs) (t:Tm):(fdP t vs=true∧∃ x,vs[lbP t vs]?=some x∧pwr vs t=x.2)∨(fdP t vs=false∧pwr vs t=0):=by
 have hif:=lbP_iff t vs s
 have hfd:fdP t vs=match vs[lbP t vs]? with | some p=>decide (cmpT p.1 t=0) | none=>false:=rfl
 cases hx:vs[lbP t vs]? with
 | none=>
  rw [hx] at hfd
  refine .inr ⟨hfd,pwr_none fun y hy h0=>?_⟩
  obtain ⟨k,hk⟩:=List.getElem?_of_mem hy
  have h1:=hif k y hk
  have h2:=lt_of_some hk
  have h3:vs.length≤lbP t vs:=List.getElem?_eq_none_iff.1 hx
  omega
 | some x=>
  rw [hx] at hfd
  have hlt:=lt_of_some hx
  by_cases h0:cmpT x.1 t=0
  ·refine .inl ⟨by rw [hfd];exact decide_eq_true h0,x,rfl,?_⟩
   have hsp:vs=vs.take (lbP t vs)++x::vs.drop (lbP t vs+1):=by
    have h1:=(List.take_append_drop (lbP t vs) vs).symm
    rw [List.drop_eq_getElem_cons hlt] at h1
    rw [List.getElem?_eq_getElem hlt] at hx
    rw [Option.some.inj hx] at h1
    exact h1
   conv=>lhs;rw [hsp]
   refine pwr_at (fun y hy h1=>?_) h0
   obtain ⟨k,hk⟩:=List.getElem?_of_mem hy
   rw [List.getElem?_take] at hk
   split at hk
   ·have:=(hif k y hk).2 (by assumption);omega
   ·cases hk
  ·refine .inr ⟨by rw [hfd];exact decide_eq_false h0,pwr_none fun y hy h1=>?_⟩
   obtain ⟨k,hk⟩:=List.getElem?_of_mem hy
   have hy1:=hif k y hk
   have hx1:=hif _ x hx
   have ht:=cmpT_zero h1
   rcases Nat.lt_trichotomy k (lbP t vs) with h | h | h
   ·omega
   ·rw [h] at hk;rw [hx] at hk;obtain rfl:=Option.some.inj hk;exact h0 h1
   ·have:cmpT x.1 y.1<0:=by
     have h2:=lt_of_some hk
     have:=(List.pairwise_iff_getElem.1 s) _ _ hlt h2 h
     rw [List.getElem?_eq_getElem hlt] at hx
     rw [List.getElem?_eq_getElem h2] at hk
     rwa [Option.some.inj hx,Option.some.inj hk] at this
    rw [ht] at this
    omega
def zeroQ (c s:Int):Bool:=decide (s=0) || (decide (c≠0) && decide (s.tmod c=0))
theorem zero_ev (c:Int) (vs m:List Pw) (id:Nat) (H:AHeap) (h0:H[id]?=some ⟨.m,0,2,[.agg [.int .i64 c,.snap false (encPs vs)]]⟩) (hcl:∀ J,HV J→closedH (H++J)=true) (hc0:c=0∨1≤c) (s:Srt vs) (hv:Bd 35184372088832 vs) (sv:Sm vs) (hm:Bd 1000 m) (lm:m.length≤200) (sm:Sm m) :
  FnEv C 41 [.snap false (encPs m),.ptr id 0 0 0] H (fun r h'=>r=.bool (zeroQ c (valS vs m))∧Exd H h'):=by
 have hel:=encPs_len m
 have hbin:=fun t (ht:bulk t<1000000000)=>binG_fun 43 rfl vs t s sv.2 (fun p hp=>cr21_fun p t (sv.1 p hp) ht)
 refine FnEv.x T6 Tryz.func41 rfl ?_
 (repeat' (first | (refine Rn.go ?_;conv=>whnf) | refine .mk ?_ | refine .tt ?_ | refine .ff ?_ | refine .m2 ?_ | refine .m3 ?_ | refine .mk (fun hc=>?_) fun hc=>?_ | refine .lp fun v H lp=>?_ | fail))
 refine LpX.zip T6 m (fun p q L K=>L=[(1,.ptr id 0 0 0),(4,.int .i64 (valS vs p)),(9,.snap false (encPs m)),(10,.int .i64 (encPs m).length),(11,.int .i64 p.length)]∧Exd H K) (.nx ⟨rfl,Exd.refl _⟩) ?_ ?_
 ·rintro p ⟨u,n⟩ q _ K ρ e ⟨rfl,hE⟩
  have hat:=at_encPs e
  have hl2:=congrArg List.length e
  simp only [List.length_append,List.length_cons] at hl2
  have k0:=hE.at h0
  have hc1:closedH (K++[⟨.m,0,5,[.agg [.int .i64 u.k,.str u.s,.int .i64 u.o,.snap false (encs u.l),.int .i64 n]]⟩])=true:=by
   obtain ⟨J,hJ,rfl⟩:=hE
   rw [List.append_assoc]
   exact hcl _ (hJ.app (HV.one (by simp)))
  have hb:=hbin u (sm.1 (u,n) (by rw [e];simp))
  have hn:=hm (u,n) (by rw [e];simp)
  have h1:=pwr_bd (by omega) hv u
  have h2:=mul_bd hn.1 hn.2 h1.1 h1.2
  have h3:=valS_bd hv (p:=p) (fun y hy=>hm y (by rw [e];simp [hy]))
  have hsn:=valS_snoc vs p (u,n)
  dsimp only at hn h2 hsn
  (repeat' (first | (refine Rn.go ?_;conv=>whnf) | refine .mk ?_ | refine .tt ?_ | refine .ff ?_ | refine .m2 ?_ | refine .m3 ?_ | refine .mk (fun hc=>?_) fun hc=>?_ | refine .lp fun v H lp=>?_ | fail))
  refine .p hb ?_
  rcases pwr_bin s u with ⟨hf,⟨y,ny⟩,hx,hp⟩ | ⟨hf,hp⟩
  ·rw [hf]
   have hatv:(encPs vs)[lbP u vs]?=some (.agg [.int .i64 y.k,.str y.s,.int .i64 y.o,.snap false (encs y.l),.int .i64 ny]):=by rw [encPs,List.getElem?_map,hx,← encP_x];rfl
   dsimp only at hp
   rw [hp] at h1 h2 hsn
   (repeat' (first | (refine Rn.go ?_;conv=>whnf) | refine .mk ?_ | refine .tt ?_ | refine .ff ?_ | refine .m2 ?_ | refine .m3 ?_ | refine .mk (fun hc=>?_) fun hc=>?_ | refine .lp fun v H lp=>?_ | fail))
   exact .nx ⟨by rw [hsn],hE.app (HV.one (by simp))⟩
  ·rw [hf]
   rw [hp] at hsn
   (repeat' (first | (refine Rn.go ?_;conv=>whnf) | refine .mk ?_ | refine .tt ?_ | refine .ff ?_ | refine .m2 ?_ | refine .m3 ?_ | refine .mk (fun hc=>?_) fun hc=>?_ | refine .lp fun v H lp=>?_ | fail))
   exact .nx ⟨by rw [hsn],hE.app (HV.one (by simp))⟩
 ·rintro _ K ρ ⟨rfl,hE⟩
  have k0:=hE.at h0
  (repeat' (first | (refine Rn.go ?_;conv=>whnf) | refine .mk ?_ | refine .tt ?_ | refine .ff ?_ | refine .m2 ?_ | refine .m3 ?_ | refine .mk (fun hc=>?_) fun hc=>?_ | refine .lp fun v H lp=>?_ | fail))
  all_goals exact ⟨by simp [tupOf,zeroQ, *],hE⟩
theorem idxPP_ev (l:List (List Pw)) (g:FuncId) (cs:List PV) (p:List Pw→Bool) (H:AHeap) (hl:l.length<1000000000) (hp:∀ x∈l,∀ H',Exd H H'→∀ Q:PV→AHeap→Prop,(∀ h',Exd H' h'→Q (.bool (p x)) h')→CallEv C 2 g (.snap false (encPs x)::cs) H' Q) :
  FnEv C 76 [.snap false (encPPs l),.fn g cs] H (fun r h'=>r=.int .i64 (idxI p l)∧Exd H h'):=by
 have hel:(encPPs l).length=l.length:=by simp
 refine FnEv.x T6 Tryz.func76 rfl ?_
 (repeat' (first | (refine Rn.go ?_;conv=>whnf) | refine .mk ?_ | refine .tt ?_ | refine .ff ?_ | refine .m2 ?_ | refine .m3 ?_ | refine .mk (fun hc=>?_) fun hc=>?_ | refine .lp fun v H lp=>?_ | fail))
 refine LpX.zip T6 l (fun a q L K=>L=[(0,.snap false (encPPs l)),(1,.fn g cs),(7,.int .i64 (encPPs l).length),(8,.int .i64 a.length)]∧Exd H K∧∀ y∈a,p y=false) (.nx ⟨rfl,Exd.refl _,by simp⟩) ?_ ?_
 ·rintro a x q _ K ρ e ⟨rfl,hE,ha⟩
  have hat:=at_encPPs e
  have hl2:=congrArg List.length e
  simp only [List.length_append,List.length_cons] at hl2
  (repeat' (first | (refine Rn.go ?_;conv=>whnf) | refine .mk ?_ | refine .tt ?_ | refine .ff ?_ | refine .m2 ?_ | refine .m3 ?_ | refine .mk (fun hc=>?_) fun hc=>?_ | refine .lp fun v H lp=>?_ | fail))
  refine hp x (by rw [e];simp) _ hE _ (fun h' hE'=>?_)
  cases hb:p x
  ·(repeat' (first | (refine Rn.go ?_;conv=>whnf) | refine .mk ?_ | refine .tt ?_ | refine .ff ?_ | refine .m2 ?_ | refine .m3 ?_ | refine .mk (fun hc=>?_) fun hc=>?_ | refine .lp fun v H lp=>?_ | fail))
   exact .nx ⟨rfl,hE.trans hE',fun y hy=>by rcases List.mem_append.1 hy with h | h;exact ha y h;simp at h;rw [h];exact hb⟩
  ·(repeat' (first | (refine Rn.go ?_;conv=>whnf) | refine .mk ?_ | refine .tt ?_ | refine .ff ?_ | refine .m2 ?_ | refine .m3 ?_ | refine .mk (fun hc=>?_) fun hc=>?_ | refine .lp fun v H lp=>?_ | fail))
   exact ⟨by rw [e,idxI_at ha hb];rfl,hE.trans hE'⟩
 ·rintro _ K ρ ⟨rfl,hE,ha⟩
  (repeat' (first | (refine Rn.go ?_;conv=>whnf) | refine .mk ?_ | refine .tt ?_ | refine .ff ?_ | refine .m2 ?_ | refine .m3 ?_ | refine .mk (fun hc=>?_) fun hc=>?_ | refine .lp fun v H lp=>?_ | fail))
  exact ⟨by rw [idxI_none ha];rfl,hE⟩
theorem cntPP_ev (l:List (List Pw)) (g:FuncId) (cs:List PV) (p:List Pw→Bool) (H:AHeap) (hl:l.length<1000000000) (hp:∀ x∈l,∀ H',Exd H H'→∀ Q:PV→AHeap→Prop,(∀ h',Exd H' h'→Q (.bool (p x)) h')→CallEv C 2 g (.snap false (encPs x)::cs) H' Q) :
  FnEv C 35 [.snap false (encPPs l),.fn g cs] H (fun r h'=>r=.bool (l.any p)∧Exd H h'):=by
 have hi:=idxPP_ev l g cs p H hl hp
 have ha:=idxI_any p l
 refine FnEv.x T6 Tryz.func35 rfl ?_
 (repeat' (first | (refine Rn.go ?_;conv=>whnf) | refine .mk ?_ | refine .tt ?_ | refine .ff ?_ | refine .m2 ?_ | refine .m3 ?_ | refine .mk (fun hc=>?_) fun hc=>?_ | refine .lp fun v H lp=>?_ | fail))
 refine .ex hi (fun h' hE=>?_)
 (repeat' (first | (refine Rn.go ?_;conv=>whnf) | refine .mk ?_ | refine .tt ?_ | refine .ff ?_ | refine .m2 ?_ | refine .m3 ?_ | refine .mk (fun hc=>?_) fun hc=>?_ | refine .lp fun v H lp=>?_ | fail))
 all_goals exact ⟨by rw [← ha];simp [tupOf, *],hE⟩
theorem cr3_ev (c:Int) (vs m:List Pw) (id id9:Nat) (H:AHeap) (h9:H[id9]?=some ⟨.m,0,1,[.fn 41 [.ptr id 0 0 0]]⟩)
  (hz:FnEv C 41 [.snap false (encPs m),.ptr id 0 0 0] H (fun r h'=>r=.bool (zeroQ c (valS vs m))∧Exd H h')) :
  FnEv C 44 [.snap false (encPs m),.ptr id9 0 0 0] H (fun r h'=>r=.bool (!(zeroQ c (valS vs m)))∧Exd H h'):=by
 refine FnEv.x T6 Tryz.func44 rfl ?_
 (repeat' (first | (refine Rn.go ?_;conv=>whnf) | refine .mk ?_ | refine .tt ?_ | refine .ff ?_ | refine .m2 ?_ | refine .m3 ?_ | refine .mk (fun hc=>?_) fun hc=>?_ | refine .lp fun v H lp=>?_ | fail))
 refine .ex hz (fun h' hE=>?_)
 cases hb:zeroQ c (valS vs m)
 all_goals ((repeat' (first | (refine Rn.go ?_;conv=>whnf) | refine .mk ?_ | refine .tt ?_ | refine .ff ?_ | refine .m2 ?_ | refine .m3 ?_ | refine .mk (fun hc=>?_) fun hc=>?_ | refine .lp fun v H lp=>?_ | fail));exact ⟨rfl,hE⟩)
end Go.Pm
end
section
set_option maxRecDepth 4000
namespace Go.Pm
open Go.Proofs
attribute [local irreducible] thenQ blockQ loopQ bodyQ Ev EvOps CallEv FnEv EvD
theorem pcr_fun (c:Int) (vs m:List Pw) (l:List (List Pw)) (sv:Sm vs) (svb:∀ p∈vs,bulk p.1<100000000) (sm:∀ p∈m,bulk p.1<100000000) (lm:m.length<100000000) (sl:∀ x∈l,(∀ p∈x,bulk p.1<100000000)∧x.length<100000000) (ll:l.length<100000000) :
    Fun C 10 [.snap false (encPPs l),.snap false (encPs m),.agg [.int .i64 c,.snap false (encPs vs)]]
      (.bool (decide (validP m=0) && rgtC c vs && l.all (fun x=>decide (validP x=0) && zeroQ c (valS vs x)) && !(zeroQ c (valS vs m)))):=by
  have hel:=encPs_len m
  have helv:=encPs_len vs
  have hvm:=pvalid_fun m sm lm
  refine Fun.x T6 Tryz.func10 rfl ?_
  (repeat' (first | (refine Rn.go ?_;conv=>whnf) | refine .mk ?_ | refine .tt ?_ | refine .ff ?_ | refine .m2 ?_ | refine .m3 ?_ | refine .mk (fun hc=>?_) fun hc=>?_ | refine .lp fun v H lp=>?_ | fail))
  refine .p hvm ?_
  (repeat' (first | (refine Rn.go ?_;conv=>whnf) | refine .mk ?_ | refine .tt ?_ | refine .ff ?_ | refine .m2 ?_ | refine .m3 ?_ | refine .mk (fun hc=>?_) fun hc=>?_ | refine .lp fun v H lp=>?_ | fail))
  rotate_left
  · exact ⟨_,rfl,by simp [hc,tupOf]⟩
  have vm:=hc
  clear hc
  refine .ex (cntPP_ev l _ [] (fun x=>decide (validP x≠0)) _ (by omega) (fun x hx H' _ Q hQ=>.p (cr1_fun x (sl x hx).1 (sl x hx).2) (hQ _ (Exd.refl _)))) (fun h' hE=>?_)
  have hva:(l.any fun x=>decide (validP x≠0)) = !(l.all fun x=>decide (validP x=0)):=by
    rw [← Bool.not_not (l.any _),List.not_any_eq_all_not];simp
  rw [hva]
  cases hla:l.all fun x=>decide (validP x=0)
  · (repeat' (first | (refine Rn.go ?_;conv=>whnf) | refine .mk ?_ | refine .tt ?_ | refine .ff ?_ | refine .m2 ?_ | refine .m3 ?_ | refine .mk (fun hc=>?_) fun hc=>?_ | refine .lp fun v H lp=>?_ | fail))
    have:(l.all fun x=>decide (validP x=0) && zeroQ c (valS vs x))=false:=by
      rw [List.all_eq_false] at hla ⊢
      obtain ⟨x,hx,h1⟩:=hla
      exact ⟨x,hx,by simp at h1 ⊢;simp [h1]⟩
    exact ⟨_,rfl,by rw [this];simp [tupOf]⟩
  have h0:=hE.at (i:=0) (o:=⟨.m,0,2,[.agg [.int .i64 c,.snap false (encPs vs)]]⟩) rfl
  have hH:=hE.hv (HV.one rfl)
  clear hE hva
  (repeat' (first | (refine Rn.go ?_;conv=>whnf) | refine .mk ?_ | refine .tt ?_ | refine .ff ?_ | refine .m2 ?_ | refine .m3 ?_ | refine .mk (fun hc=>?_) fun hc=>?_ | refine .lp fun v H lp=>?_ | fail))
  all_goals first
    | exact ⟨_,rfl,by rw [show rgtC c vs=false from by rw [rgtC,if_pos (by omega)]];simp [tupOf]⟩
    | skip
  all_goals
    have hrg:rgtC c vs=rgtGo none vs:=by rw [rgtC,if_neg (by omega)]
    refine LpX.zip T6 vs (fun p q L K=>L=[(0,.snap false (encPPs l)),(1,.snap false (encPs m)),(5,.ptr 0 0 0 0),(37,.snap false (encPs vs)),(38,.int .i64 (encPs vs).length),(39,.int .i64 p.length)]∧HV K∧K[0]?=some ⟨.m,0,2,[.agg [.int .i64 c,.snap false (encPs vs)]]⟩∧rgtC c vs=rgtGo (lastT none p) q) (.nx ⟨rfl,hH,h0,hrg⟩) ?_ ?_
  all_goals first
    | (rintro p ⟨u,n⟩ r _ h ρ e ⟨rfl,hH,h0,hg⟩
       have hat:=at_encPs e
       have hl3:=congrArg List.length e
       simp only [List.length_append,List.length_cons] at hl3
       have hlv:=sv.2
       have hsm:=svb (u,n) (by rw [e];simp)
       have hv:=valid_fun u hsm
       have hsp:Fun C 38 [enc u] (.bool (special u)):=by obtain ⟨k1,s1,o1,l1⟩:=u;exact symbol_fun k1 s1 o1 l1
       have hou:=outside_fun n
       rw [rgtGo_cons] at hg
       have bad:∀ {K:AHeap},(valid u≠0∨special u=true∨n=0∨n < -35184372088832∨35184372088832<n∨bef (lastT none p) u=true)→∃ r1,rb K (tupOf [.bool false])=some r1∧nrm r1=.bool ((decide (validP m=0) && rgtC c vs && l.all fun x=>decide (validP x=0) && zeroQ c (valS vs x)) && !(zeroQ c (valS vs m))):=fun hh=>⟨_,rfl,by rw [hg,if_pos hh];simp [tupOf]⟩
       have nx:¬ (valid u≠0∨special u=true∨n=0∨n < -35184372088832∨35184372088832<n∨bef (lastT none p) u=true)→rgtC c vs=rgtGo (lastT none (p++[(u,n)])) r:=fun hh=>by rw [hg,if_neg hh,lastT_snoc]
       have hk0:(h++[⟨.m,0,5,[.agg [.int .i64 u.k,.str u.s,.int .i64 u.o,.snap false (encs u.l),.int .i64 n]]⟩])[0]?=some ⟨.m,0,2,[.agg [.int .i64 c,.snap false (encPs vs)]]⟩:=by rw [List.getElem?_append_left (lt_of_some h0)];exact h0
       have hkv:HV (h++[⟨.m,0,5,[.agg [.int .i64 u.k,.str u.s,.int .i64 u.o,.snap false (encs u.l),.int .i64 n]]⟩]):=hH.app (HV.one (by simp))
       clear hg
       (repeat' (first | (refine Rn.go ?_;conv=>whnf) | refine .mk ?_ | refine .tt ?_ | refine .ff ?_ | refine .m2 ?_ | refine .m3 ?_ | refine .mk (fun hc=>?_) fun hc=>?_ | refine .lp fun v H lp=>?_ | fail))
       refine .p hv ?_
       (repeat' (first | (refine Rn.go ?_;conv=>whnf) | refine .mk ?_ | refine .tt ?_ | refine .ff ?_ | refine .m2 ?_ | refine .m3 ?_ | refine .mk (fun hc=>?_) fun hc=>?_ | refine .lp fun v H lp=>?_ | fail))
       rotate_left
       · exact bad (.inl hc)
       have v0:=hc
       clear hc hv
       refine .p hsp ?_
       cases hs:special u
       rotate_left
       · (repeat' (first | (refine Rn.go ?_;conv=>whnf) | refine .mk ?_ | refine .tt ?_ | refine .ff ?_ | refine .m2 ?_ | refine .m3 ?_ | refine .mk (fun hc=>?_) fun hc=>?_ | refine .lp fun v H lp=>?_ | fail))
         exact bad (.inr (.inl hs))
       (repeat' (first | (refine Rn.go ?_;conv=>whnf) | refine .mk ?_ | refine .tt ?_ | refine .ff ?_ | refine .m2 ?_ | refine .m3 ?_ | refine .mk (fun hc=>?_) fun hc=>?_ | refine .lp fun v H lp=>?_ | fail))
       · exact bad (.inr (.inr (.inl hc)))
       have n0:=hc
       clear hc
       refine .p hou ?_
       by_cases ho:n < -35184372088832∨35184372088832<n
       · rw [decide_eq_true ho]
         (repeat' (first | (refine Rn.go ?_;conv=>whnf) | refine .mk ?_ | refine .tt ?_ | refine .ff ?_ | refine .m2 ?_ | refine .m3 ?_ | refine .mk (fun hc=>?_) fun hc=>?_ | refine .lp fun v H lp=>?_ | fail))
         exact bad (.inr (.inr (.inr (by rcases ho with h | h;exact .inl h;exact .inr (.inl h)))))
       rw [decide_eq_false ho]
       rcases List.eq_nil_or_concat p with rfl | ⟨p',⟨y,ny⟩,rfl⟩
       · (repeat' (first | (refine Rn.go ?_;conv=>whnf) | refine .mk ?_ | refine .tt ?_ | refine .ff ?_ | refine .m2 ?_ | refine .m3 ?_ | refine .mk (fun hc=>?_) fun hc=>?_ | refine .lp fun v H lp=>?_ | fail))
         exact .nx ⟨rfl,hkv,hk0,nx (by simp [v0,hs,lastT,bef];omega)⟩
       · have hy:(encPs vs)[p'.length]?=some (.agg [.int .i64 y.k,.str y.s,.int .i64 y.o,.snap false (encs y.l),.int .i64 ny]):=at_encPs (q:=(u,n)::r) (by rw [e];simp)
         have hcm:=tcmp_fun y u (Nat.lt_trans (svb (y,ny) (by rw [e];simp)) (by decide)) (Nat.lt_trans hsm (by decide))
         have hll:(p'.concat (y,ny)).length=p'.length+1:=by simp
         have hbf:bef (lastT none (p'.concat (y,ny))) u=decide (0≤cmpT y u):=by rw [List.concat_eq_append,lastT_snoc];rfl
         (repeat' (first | (refine Rn.go ?_;conv=>whnf) | refine .mk ?_ | refine .tt ?_ | refine .ff ?_ | refine .m2 ?_ | refine .m3 ?_ | refine .mk (fun hc=>?_) fun hc=>?_ | refine .lp fun v H lp=>?_ | fail))
         refine .mk (n:=p'.length) ?_ (by omega) hy
         (repeat' (first | (refine Rn.go ?_;conv=>whnf) | refine .mk ?_ | refine .tt ?_ | refine .ff ?_ | refine .m2 ?_ | refine .m3 ?_ | refine .mk (fun hc=>?_) fun hc=>?_ | refine .lp fun v H lp=>?_ | fail))
         refine .p hcm ?_
         (repeat' (first | (refine Rn.go ?_;conv=>whnf) | refine .mk ?_ | refine .tt ?_ | refine .ff ?_ | refine .m2 ?_ | refine .m3 ?_ | refine .mk (fun hc=>?_) fun hc=>?_ | refine .lp fun v H lp=>?_ | fail))
         · exact bad (.inr (.inr (.inr (.inr (.inr (by rw [hbf];exact decide_eq_true hc))))))
         · exact .nx ⟨rfl,hkv,hk0,nx (by rw [hbf];simp [v0,hs];omega)⟩)
    | (rintro _ h ρ ⟨rfl,hH,h0,hg⟩
       rw [rgtGo_nil] at hg
       obtain ⟨bv,st,_,_⟩:=rgtGo_ok (l:=vs) (pr:=none) (by rw [← hrg];exact hg)
       obtain ⟨m1,m2,_,_,_⟩:=validP_zero vm
       have smm:Sm m:=⟨fun p hp=>Nat.lt_trans (sm p hp) (by decide),lm⟩
       have hcc:c=0∨1≤c:=by omega
       have hcl:∀ J,HV J→closedH (h++[⟨.m,0,1,[.fn 41 [.ptr 0 0 0 0]]⟩]++J)=true:=fun J hJ=>closed_app (by
         rw [List.all_append,List.all_eq_true.2 (fun o ho=>by rw [vis_vals _ _ (hH o ho).2];simp),Bool.true_and]
         have:visible (h++[⟨.m,0,1,[.fn 41 [.ptr 0 0 0 0]]⟩]++J) 0=true:=vis_app (vis_app (vis_at h0 (by simp)))
         simp only [List.all_cons,List.all_nil,visRs,visR,this,Bool.and_true,Bool.or_true]) hJ
       have k0:(h++[⟨.m,0,1,[.fn 41 [.ptr 0 0 0 0]]⟩])[0]?=some ⟨.m,0,2,[.agg [.int .i64 c,.snap false (encPs vs)]]⟩:=by rw [List.getElem?_append_left (lt_of_some h0)];exact h0
       have k9:(h++[⟨.m,0,1,[.fn 41 [.ptr 0 0 0 0]]⟩])[h.length]?=some ⟨.m,0,1,[.fn 41 [.ptr 0 0 0 0]]⟩:=by simp
       have hcl':∀ {h2},Exd (h++[⟨.m,0,1,[.fn 41 [.ptr 0 0 0 0]]⟩]) h2→closedH h2=true:=fun {h2} ⟨J,hJ,e⟩=>by rw [e];exact hcl J hJ
       (repeat' (first | (refine Rn.go ?_;conv=>whnf) | refine .mk ?_ | refine .tt ?_ | refine .ff ?_ | refine .m2 ?_ | refine .m3 ?_ | refine .mk (fun hc=>?_) fun hc=>?_ | refine .lp fun v H lp=>?_ | fail))
       clear hH h0
       generalize (h++[⟨.m,0,1,[.fn 41 [.ptr 0 0 0 0]]⟩])=H at hcl hcl' k0 k9 ⊢
       have zev:∀ x,validP x=0→(∀ p∈x,bulk p.1<100000000)→∀ H',Exd H H'→FnEv C 41 [.snap false (encPs x),.ptr 0 0 0 0] H' (fun r h'=>r=.bool (zeroQ c (valS vs x))∧Exd H' h'):=fun x hx hb H' hE=>by
         obtain ⟨x1,x2,_,_,_⟩:=validP_zero hx
         exact zero_ev c vs x 0 H' (hE.at k0) (fun J hJ=>hcl' (hE.app hJ)) hcc st bv sv x2 x1 ⟨fun p hp=>Nat.lt_trans (hb p hp) (by decide),by omega⟩
       refine .ex (zev m vm sm H (Exd.refl _)) (fun h2 hE2=>?_)
       have hq:=hcl' hE2
       cases hz:zeroQ c (valS vs m)
       · (repeat' (first | (refine Rn.go ?_;conv=>whnf) | refine .mk ?_ | refine .tt ?_ | refine .ff ?_ | refine .m2 ?_ | refine .m3 ?_ | refine .mk (fun hc=>?_) fun hc=>?_ | refine .lp fun v H lp=>?_ | fail))
         refine .ex (cntPP_ev l _ [.ptr h.length 0 0 0] (fun x=>!(zeroQ c (valS vs x))) _ (by omega) (fun x hx H' hE' Q hQ=>.ex (cr3_ev c vs x 0 h.length H' ((hE2.trans hE').at k9) (zev x (by simpa using List.all_eq_true.1 hla x hx) (sl x hx).1 H' (hE2.trans hE'))) hQ)) (fun h3 hE3=>?_)
         have hq3:=hcl' (hE2.trans hE3)
         have hb:(!(l.any fun x=>!(zeroQ c (valS vs x))))=l.all (fun x=>decide (validP x=0) && zeroQ c (valS vs x)):=by
           rw [List.not_any_eq_all_not,Bool.eq_iff_iff,List.all_eq_true,List.all_eq_true]
           exact ⟨fun a x hx=>by have:=a x hx;have:=List.all_eq_true.1 hla x hx;simp_all,fun a x hx=>by have:=a x hx;simp_all⟩
         rw [← hb,hg,vm]
         cases hany:l.any fun x=>!(zeroQ c (valS vs x))
         all_goals
           (repeat' (first | (refine Rn.go ?_;conv=>whnf) | refine .mk ?_ | refine .tt ?_ | refine .ff ?_ | refine .m2 ?_ | refine .m3 ?_ | refine .mk (fun hc=>?_) fun hc=>?_ | refine .lp fun v H lp=>?_ | fail))
           exact ⟨_,rfl,by simp [tupOf]⟩
       · (repeat' (first | (refine Rn.go ?_;conv=>whnf) | refine .mk ?_ | refine .tt ?_ | refine .ff ?_ | refine .m2 ?_ | refine .m3 ?_ | refine .mk (fun hc=>?_) fun hc=>?_ | refine .lp fun v H lp=>?_ | fail))
         exact ⟨_,rfl,by simp [tupOf]⟩)
end Go.Pm
end
section
set_option maxRecDepth 4000
namespace Go.Pm
open Go.Proofs
def encIs (l:List Int):List PV:=l.map fun x=>.int .i64 x
theorem at_encIs {l p q:List Int} {x:Int} (e:l=p++x::q):(encIs l)[p.length]?=some (.int .i64 x):=by rw [encIs,e];simp
@[simp] theorem encIs_len (l:List Int):(encIs l).length=l.length:=by simp [encIs]
@[simp] theorem encIs_vals (l:List Int):isVals (encIs l)=true:=by induction l with | nil=>rfl | cons x l ih=>simpa [encIs] using ih
@[simp] theorem encIs_nrms (l:List Int):nrms (encIs l)=encIs l:=by induction l with | nil=>rfl | cons x l ih=>simpa [encIs] using ih
attribute [local irreducible] thenQ blockQ loopQ bodyQ Ev EvOps CallEv FnEv EvD
theorem idxN_fun (g:FuncId) (hm:C.mode g=.pure) (p:Int→Bool) (l:List Int) (hl:l.length<1000000000) (hp:∀ x∈l,Fun C g [.int .i64 x] (.bool (p x))):Fun C 84 [.snap false (encIs l),.fn g []] (.int .i64 (idxI p l)):=by
 have hel:=encIs_len l
 refine Fun.x T6 Tryz.func84 rfl ?_
 (repeat' (first | (refine Rn.go ?_;conv=>whnf) | refine .mk ?_ | refine .tt ?_ | refine .ff ?_ | refine .m2 ?_ | refine .m3 ?_ | refine .mk (fun hc=>?_) fun hc=>?_ | refine .lp fun v H lp=>?_ | fail))
 refine LpX.zip T6 l (fun a q L K=>L=[(0,.snap false (encIs l)),(1,.fn g []),(7,.int .i64 (encIs l).length),(8,.int .i64 a.length)]∧K=[]∧∀ y∈a,p y=false) (.nx ⟨rfl,rfl,by simp⟩) ?_ ?_
 ·rintro a x q _ K ρ e ⟨rfl,rfl,ha⟩
  have hat:=at_encIs e
  have hl2:=congrArg List.length e
  simp only [List.length_append,List.length_cons] at hl2
  have hpx:=hp x (by rw [e];simp)
  (repeat' (first | (refine Rn.go ?_;conv=>whnf) | refine .mk ?_ | refine .tt ?_ | refine .ff ?_ | refine .m2 ?_ | refine .m3 ?_ | refine .mk (fun hc=>?_) fun hc=>?_ | refine .lp fun v H lp=>?_ | fail))
  refine .p hpx ?_ hm
  cases hb:p x
  ·(repeat' (first | (refine Rn.go ?_;conv=>whnf) | refine .mk ?_ | refine .tt ?_ | refine .ff ?_ | refine .m2 ?_ | refine .m3 ?_ | refine .mk (fun hc=>?_) fun hc=>?_ | refine .lp fun v H lp=>?_ | fail))
   exact .nx ⟨rfl,rfl,fun y hy=>by rcases List.mem_append.1 hy with h | h;exact ha y h;simp at h;rw [h];exact hb⟩
  ·(repeat' (first | (refine Rn.go ?_;conv=>whnf) | refine .mk ?_ | refine .tt ?_ | refine .ff ?_ | refine .m2 ?_ | refine .m3 ?_ | refine .mk (fun hc=>?_) fun hc=>?_ | refine .lp fun v H lp=>?_ | fail))
   exact ⟨_,rfl,by rw [e,idxI_at ha hb];rfl⟩
 ·rintro _ K ρ ⟨rfl,rfl,ha⟩
  (repeat' (first | (refine Rn.go ?_;conv=>whnf) | refine .mk ?_ | refine .tt ?_ | refine .ff ?_ | refine .m2 ?_ | refine .m3 ?_ | refine .mk (fun hc=>?_) fun hc=>?_ | refine .lp fun v H lp=>?_ | fail))
  exact ⟨_,rfl,by rw [idxI_none ha];rfl⟩
theorem cntN_fun (g:FuncId) (hm:C.mode g=.pure) (p:Int→Bool) (l:List Int) (hl:l.length<1000000000) (hp:∀ x∈l,Fun C g [.int .i64 x] (.bool (p x))):Fun C 48 [.snap false (encIs l),.fn g []] (.bool (l.any p)):=by
 have hi:=idxN_fun g hm p l hl hp
 have ha:=idxI_any p l
 refine Fun.x T6 Tryz.func48 rfl ?_
 (repeat' (first | (refine Rn.go ?_;conv=>whnf) | refine .mk ?_ | refine .tt ?_ | refine .ff ?_ | refine .m2 ?_ | refine .m3 ?_ | refine .mk (fun hc=>?_) fun hc=>?_ | refine .lp fun v H lp=>?_ | fail))
 refine .p hi ?_
 (repeat' (first | (refine Rn.go ?_;conv=>whnf) | refine .mk ?_ | refine .tt ?_ | refine .ff ?_ | refine .m2 ?_ | refine .m3 ?_ | refine .mk (fun hc=>?_) fun hc=>?_ | refine .lp fun v H lp=>?_ | fail))
 all_goals exact ⟨_,rfl,by rw [← ha];simp [tupOf, *]⟩
theorem ne0_fun (n:Int):Fun C 53 [.int .i64 n] (.bool (decide (n≠0))):=by
 refine Fun.x T6 Tryz.func53 rfl ?_
 (repeat' (first | (refine Rn.go ?_;conv=>whnf) | refine .mk ?_ | refine .tt ?_ | refine .ff ?_ | refine .m2 ?_ | refine .m3 ?_ | refine .mk (fun hc=>?_) fun hc=>?_ | refine .lp fun v H lp=>?_ | fail))
 all_goals exact ⟨_,rfl,by simp [tupOf, *]⟩
end Go.Pm
end
section
set_option maxRecDepth 100000
set_option maxHeartbeats 2000000
namespace Go.Pm
open Go.Proofs Go.ChangeShapes Go.WideShapes
end Go.Pm
end
section
namespace Go.Pm
open Go.Proofs
theorem Grew.grow {w w':World} (g:Grew w w'):∃ q os',w'=Go.Sort.grow (w.drewN q) os':=by
 refine ⟨w'.drawn - w.drawn,w'.heap.extract w.heap.size w'.heap.size,?_⟩
 have hh:w'.heap=w.heap++w'.heap.extract w.heap.size w'.heap.size:=by
  apply Array.ext_getElem?
  intro i
  have hs:=g.size
  by_cases hi:i<w.heap.size
  ·rw [g.keep i hi,Array.getElem?_append_left hi]
  ·rw [Array.getElem?_append_right (by omega),Array.getElem?_extract]
   by_cases h2:i<w'.heap.size
   ·rw [if_pos (by omega)];congr 1;omega
   ·rw [if_neg (by omega),Array.getElem?_eq_none (by omega)]
 obtain ⟨hp,tp,dr,os,out⟩:=w'
 have h1:=g.os;have h2:=g.tape;have h3:=g.output;have h4:=g.drawn
 simp only at h1 h2 h3 h4 hh
 subst h1 h2 h3
 simp only [Go.Sort.grow,World.drewN]
 rw [← hh]
 congr 1
 omega
end Go.Pm
end
