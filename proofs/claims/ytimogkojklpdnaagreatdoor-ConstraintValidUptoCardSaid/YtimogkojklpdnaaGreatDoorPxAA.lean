/-
  Pm, a part. Conditions: none.
-/
import GoSem.Decode
import GoSem.Step
import Derived.Orders
import Derived.Laws.BitsLemmas
import Derived.Laws.AppendOwn
import Derived.Laws.MakeOwn
import Derived.Below
set_option linter.unusedVariables false
set_option linter.unusedSimpArgs false
set_option linter.unnecessarySimpa false
set_option linter.unusedSectionVars false
abbrev TF:=@Option.some.inj
abbrev TG:=@List.getElem?_append_left
abbrev TH:=@List.all_eq_true
abbrev TI:=@Nat.le_refl
abbrev TJ:=@List.getElem?_eq_getElem
abbrev TK:=@Bool.and_eq_true
abbrev TL:=@Prod.mk.inj
abbrev TM:=@List.getElem?_set_self
abbrev TN:=@List.getElem?_set_ne
abbrev TO:=@Option.map_some
abbrev TP:=@List.mem_append
abbrev TQ:=@List.getElem?_append_right
abbrev TR:=@Bool.false_eq_true
abbrev TS:=@List.getElem?_map
abbrev TT:=@List.map_cons
abbrev TU:=@List.mem_of_getElem?
abbrev TW:=@List.mem_cons
abbrev TX:=@List.getElem?_take
abbrev TY:=@Array.getElem?_eq_some_iff
abbrev TZ:=@List.getElem?_eq_none
abbrev T0:=@List.length_append
abbrev T1:=@Array.getElem?_toList
abbrev T2:=@List.length_cons
abbrev T3:=@List.eq_nil_of_length_eq_zero
abbrev T4:=@Nat.lt_of_lt_of_le
abbrev T5:=@List.map_nil
abbrev T7:=@List.getD_eq_getElem?_getD
abbrev T8:=@Nat.lt_or_ge
abbrev T9:=@List.getElem?_drop
abbrev T':=@Nat.le_trans
abbrev Ua:=@List.mem_singleton
abbrev Ub:=@List.take_of_length_le
abbrev Uc:=@List.append_nil
abbrev Ud:=@Nat.eq_of_beq_eq_true
abbrev Ue:=@Option.some.injEq
abbrev Uf:=@List.drop_eq_nil_of_le
abbrev Ug:=@List.mem_of_mem_drop
abbrev Uh:=@List.cons_append
abbrev Ui:=@Array.getD_eq_getD_getElem?
abbrev Uj:=@Option.map_eq_some_iff
abbrev Uk:=@Bool.true_eq_false
abbrev Ul:=@List.take_append_of_le_length
abbrev Um:=@Ne.symm
abbrev Un:=@List.mem_of_mem_take
abbrev Uo:=@Bool.or_eq_true
abbrev Up:=@List.getElem_mem
abbrev Uq:=@Nat.mul_le_mul_right
abbrev Ur:=@Nat.add_mul
abbrev Us:=@List.pairwise_cons
abbrev Ut:=@List.length_nil
abbrev Uu:=@Nat.zero_add
abbrev Uv:=@Array.length_toList
abbrev Uw:=@List.ext_getElem?
abbrev Ux:=@List.getElem?_take_of_lt
abbrev Uy:=@ByteArray.size_append
abbrev Uz:=@Array.getElem?_append
abbrev UA:=@UInt8.lt_iff_toNat_lt
abbrev UB:=@List.append_assoc
abbrev UC:=@Array.getElem?_eq_getElem
abbrev UD:=@Nat.le_of_ble_eq_true
abbrev UE:=@List.mem_nil_iff
abbrev UF:=@List.length_take
abbrev UG:=@Nat.zero_le
abbrev UH:=@Array.ext'
abbrev UI:=@List.take_take
abbrev UJ:=@Array.getElem?_eq_none
abbrev UK:=@Nat.add_zero
abbrev UL:=@Array.mem_of_getElem?
abbrev UM:=@List.set_set
abbrev UN:=@List.getElem?_of_mem
abbrev UO:=@Array.getElem?_replicate
abbrev UP:=@List.nil_append
abbrev UQ:=@Nat.zero_mul
abbrev UR:=@List.any_eq_false
abbrev US:=@Nat.add_assoc
abbrev UT:=@Bool.and_self
abbrev UU:=@Int.eq_ofNat_of_zero_le
abbrev UW:=@List.map_congr_left
abbrev UX:=@List.take_succ_cons
abbrev UY:=@List.mem_flatMap
abbrev UZ:=@List.any_eq_true
abbrev U0:=@List.range_succ_eq_map
abbrev U1:=@List.mem_map
abbrev U2:=@List.length_map
abbrev U3:=@List.mem_iff_getElem?
abbrev U4:=@List.getElem?_zipWith
abbrev U5:=@List.getElem?_toArray
abbrev U6:=@List.all_cons
abbrev U7:=@List.all_eq_false
abbrev U8:=@List.drop_eq_getElem_cons
abbrev U9:=@List.mem_or_eq_of_mem_set
abbrev U':=@List.drop_zero
abbrev Va:=@List.eq_of_mem_replicate
abbrev Vb:=@Prod.mk.injEq
abbrev Vc:=@Nat.min_eq_left
abbrev Vd:=@List.drop_append_of_le_length
abbrev Ve:=@Bool.not_eq_true'
abbrev Vf:=@Int.toNat_natCast
abbrev Vg:=@List.flatMap_cons
abbrev Vh:=@List.take_zero
abbrev Vi:=@List.length_replicate
abbrev Vj:=@Array.getElem?_modify
abbrev Vk:=@List.getElem?_zipIdx
abbrev Vl:=@Bool.not_true
abbrev Vm:=@Bool.false_or
abbrev Vn:=@Nat.le_succ
abbrev Vo:=@List.getD_cons_zero
abbrev Vp:=@List.getD_cons_succ
abbrev Vq:=@List.length_pos_iff
abbrev Vr:=@Option.map_none
abbrev Vs:=@List.mem_filter
abbrev Vt:=@List.findIdx?_eq_none_iff
abbrev Vu:=@Option.isSome_iff_exists
abbrev Vv:=@List.mem_replicate
abbrev Vw:=@List.all_nil
abbrev Vx:=@Bool.not_false
abbrev Vy:=@Nat.mul_le_mul
abbrev Vz:=@List.getElem?_cons_succ
abbrev VA:=@Nat.lt_trichotomy
abbrev VB:=@List.size_toArray
abbrev VC:=@ByteArray.ext
abbrev VD:=@List.map_toArray
abbrev VE:=@List.not_mem_nil
abbrev VF:=@List.countP_cons
abbrev VG:=@Option.bind_some
abbrev VH:=@List.countP_le_length
abbrev VI:=@List.take_append_drop
abbrev VJ:=@Array.mem_toList_iff
abbrev VK:=@List.map_append
abbrev VL:=@List.foldl_cons
abbrev VN:=@List.map_map
abbrev VO:=@List.all_append
abbrev VP:=@Nat.mul_comm
abbrev VR:=@List.getElem?_range
abbrev VS:=@Int.toNat_of_nonneg
abbrev VT:=@Option.map_map
abbrev VU:=@List.mem_range
abbrev VV:=@Bool.true_and
abbrev VW:=@Bool.and_true
structure Wq(Q:Prop):Prop where
 o:Q
theorem wA {P Q0:Prop} (q0:Q0) (h:Wq Q0->P:=by
  intro q0
  repeat' (first |(refine Rn.go ?_;conv=>whnf)|refine .mk ?_ |refine .tt ?_ |refine .ff ?_ |refine .m2 ?_ |refine .m3 ?_ |fail)
  exact q0.1):P:=h ⟨q0⟩
theorem wB {P Q0:Prop} (q0:Q0) (h:Wq Q0->P:=by
  intro q0
  repeat' (first |refine ag.nil ?_ |(apply R.ve;exact rfl;exact rfl;exact rfl)|(apply R.mU;exact rfl;exact rfl;exact rfl)|(apply R.Jz;exact rfl;exact rfl)|(apply R.move;exact rfl)|(apply R.assign;exact rfl)|(apply R.gx;exact rfl;exact rfl)|(apply R.ir;exact rfl;exact rfl)|(apply R.gZ T6;exact rfl;exact rfl;exact rfl;exact rfl)|(apply R.pU T6;exact rfl;exact rfl;exact rfl;exact rfl;exact(by repeat constructor))|(apply R.fieldAddr T6;exact rfl;exact rfl;exact rfl;exact rfl)|(apply R.Af T6;exact rfl;exact rfl;exact rfl;exact rfl;exact rfl)|(apply R.arith;exact rfl;exact rfl;exact rfl;exact(mE (by omega) (by omega)))|(apply R.max;exact rfl;exact rfl)|(apply R.neg;exact rfl;exact(mE (by omega) (by omega)))|(apply R.build T6;exact rfl;exact rfl;exact rfl;exact rfl;exact rfl;exact rfl)|(apply R.buildSlice T6;exact rfl;exact rfl;exact rfl;exact rfl;exact(by decide);exact rfl;exact rfl;exact rfl;exact rfl;exact rfl)|(apply R.Et;exact rfl;exact rfl;exact(by assumption))|(apply R.JY;exact rfl;exact rfl;exact(by assumption))|(apply R.not;exact rfl;exact rfl)|(apply R.qc T6;exact rfl;exact rfl)|(apply R.extract;exact rfl;exact rfl)|(apply R.box;exact rfl;exact rfl;exact rfl;exact .nil)|(apply R.box;exact rfl;exact rfl;exact rfl;exact(.cons .nil))|(apply R.O8;exact rfl;exact rfl;exact rfl)|(apply R.alloc T6;exact rfl;exact rfl;exact rfl;exact .nil)|(apply R.alloc T6;exact rfl;exact rfl;exact rfl;exact(.cons .nil))|(apply R.alloc T6;exact rfl;exact rfl;exact rfl;exact(.cons (.cons .nil)))|(apply R.Er T6;exact rfl;exact rfl;exact rfl)|(apply R.Es T6;exact rfl;exact rfl;exact rfl;exact rfl;exact rfl;exact rfl)|(apply R.oH T6;exact rfl;exact rfl;exact rfl;exact(by assumption);exact rfl)|(apply R.EZ T6;exact rfl;exact rfl;exact rfl;exact(by assumption);exact(by repeat constructor))|(apply R.zH T6;exact rfl;exact rfl;exact rfl;exact(by repeat constructor))|(apply R.nilCheck;exact rfl)|refine Ev.seq ?_ |refine Ev.region ?_ |refine Ev.js ?_ |refine bw.nil ?_ |(apply D.move;exact rfl)|(apply D.assign;exact rfl)|(apply D.ve;exact rfl;exact rfl;exact rfl;exact rfl)|(apply D.arith;exact rfl;exact rfl;exact rfl;exact(mE (by omega) (by omega)))|(apply D.Af T6;exact rfl;exact rfl;exact rfl;exact rfl;exact rfl)|(apply D.build T6;exact rfl;exact rfl;exact rfl;exact rfl;exact rfl;exact rfl)|(apply D.fieldAddr T6;exact rfl;exact rfl;exact rfl;exact rfl)|(apply D.gZ T6;exact(by first |exact rfl |assumption);exact rfl;exact rfl;exact rfl;exact rfl;exact rfl)|(apply D.pU T6;exact(by first |exact rfl |assumption);exact rfl;exact rfl;exact rfl;exact rfl;exact rfl;exact(by repeat constructor))|(apply Ev.ef;exact rfl)|refine Ev.ret ?_ |refine Ev.skip ?_ |refine Ev.block ?_ |refine aA.normal ?_ |refine aA.ret ?_ |refine az.normal ?_ |refine az.ret ?_ |refine aH.normal ?_ |refine aH.ret ?_ |(apply aF.ret;exact rfl)|(apply aF.SV T6;exact rfl)|(apply D.oH T6;exact(by assumption);exact rfl;exact rfl;exact rfl;exact(by assumption);exact rfl)|(apply D.EZ T6;exact(by assumption);exact rfl;exact rfl;exact rfl;exact(by assumption);exact(by repeat constructor))|(apply D.zH T6;exact(by first |exact rfl |assumption);exact rfl;exact rfl;exact rfl;exact(by repeat constructor))|fail)
  exact q0.1):P:=h ⟨q0⟩
theorem wC {P Q0:Prop} (q0:Q0) (h:Wq Q0->P:=by
  intro q0
  repeat' (first |refine ag.nil ?_ |(apply R.ve;exact rfl;exact rfl;exact rfl)|(apply R.mU;exact rfl;exact rfl;exact rfl)|(apply R.Jz;exact rfl;exact rfl)|(apply R.move;exact rfl)|(apply R.assign;exact rfl)|(apply R.gx;exact rfl;exact rfl)|(apply R.ir;exact rfl;exact rfl)|(apply R.pU T6;exact rfl;exact rfl;exact rfl;exact rfl;exact(by repeat constructor))|(apply R.arith;exact rfl;exact rfl;exact rfl;exact(mE (by omega) (by omega)))|(apply R.build T6;exact rfl;exact rfl;exact rfl;exact rfl;exact rfl;exact rfl)|(apply R.buildSlice T6;exact rfl;exact rfl;exact rfl;exact rfl;exact(by decide);exact rfl;exact rfl;exact rfl;exact rfl;exact rfl)|(apply R.not;exact rfl;exact rfl)|(apply R.qc T6;exact rfl;exact rfl)|(apply R.alloc T6;exact rfl;exact rfl;exact rfl;exact(.cons .nil))|refine Ev.seq ?_ |refine Ev.region ?_ |refine Ev.js ?_ |refine bw.nil ?_ |(apply D.move;exact rfl)|(apply D.assign;exact rfl)|(apply D.arith;exact rfl;exact rfl;exact rfl;exact(mE (by omega) (by omega)))|(apply Ev.ef;exact rfl)|refine Ev.ret ?_ |refine Ev.skip ?_ |refine Ev.block ?_ |refine aA.normal ?_ |refine aA.ret ?_ |refine az.normal ?_ |refine aH.normal ?_ |(apply aF.ret;exact rfl)|fail)
  exact q0.1):P:=h ⟨q0⟩
theorem wD {P Q0 Q1:Prop} (q0:Q0) (q1:Q1) (h:Wq Q0->Wq Q1->P:=by
  intro q0 q1
  repeat' (first |(refine Rn.go ?_;conv=>whnf)|refine .mk ?_ |refine .tt ?_ |refine .ff ?_ |refine .m2 ?_ |refine .m3 ?_ |refine .mk (λhc=>?_) λhc=>?_ |fail)
  ·revert hc;exact q0.1
  ·revert hc;exact q1.1):P:=h ⟨q0⟩ ⟨q1⟩
theorem wE {P Q0 Q1:Prop} (q0:Q0) (q1:Q1) (h:Wq Q0->Wq Q1->P:=by
  intro q0 q1
  repeat' (first |refine ag.nil ?_ |(apply R.ve;exact rfl;exact rfl;exact rfl)|(apply R.mU;exact rfl;exact rfl;exact rfl)|(apply R.Jz;exact rfl;exact rfl)|(apply R.move;exact rfl)|(apply R.assign;exact rfl)|(apply R.gx;exact rfl;exact rfl)|(apply R.ir;exact rfl;exact rfl)|(apply R.gZ T6;exact rfl;exact rfl;exact rfl;exact rfl)|(apply R.pU T6;exact rfl;exact rfl;exact rfl;exact rfl;exact(by repeat constructor))|(apply R.fieldAddr T6;exact rfl;exact rfl;exact rfl;exact rfl)|(apply R.cmp;exact rfl;exact rfl;exact rfl;all_goals intro hc)|(apply R.arith;exact rfl;exact rfl;exact rfl;exact(mE (by omega) (by omega)))|(apply R.neg;exact rfl;exact(mE (by omega) (by omega)))|(apply R.build T6;exact rfl;exact rfl;exact rfl;exact rfl;exact rfl;exact rfl)|(apply R.Et;exact rfl;exact rfl;exact(by assumption))|(apply R.JY;exact rfl;exact rfl;exact(by assumption))|(apply R.not;exact rfl;exact rfl)|(apply R.oV T6;exact rfl;exact rfl)|(apply R.qc T6;exact rfl;exact rfl)|(apply R.oH T6;exact rfl;exact rfl;exact rfl;exact(by assumption);exact rfl)|(apply R.EZ T6;exact rfl;exact rfl;exact rfl;exact(by assumption);exact(by repeat constructor))|(apply R.zH T6;exact rfl;exact rfl;exact rfl;exact(by repeat constructor))|refine Ev.seq ?_ |refine Ev.region ?_ |refine Ev.js ?_ |refine bw.nil ?_ |(apply D.move;exact rfl)|(apply D.assign;exact rfl)|(apply D.ve;exact rfl;exact rfl;exact rfl;exact rfl)|(apply D.gx;exact rfl;exact rfl)|(apply D.cmp;exact rfl;exact rfl;exact rfl;all_goals intro hc)|(apply D.fieldAddr T6;exact rfl;exact rfl;exact rfl;exact rfl)|(apply D.gZ T6;exact(by first |exact rfl |assumption);exact rfl;exact rfl;exact rfl;exact rfl;exact rfl)|(apply D.pU T6;exact(by first |exact rfl |assumption);exact rfl;exact rfl;exact rfl;exact rfl;exact rfl;exact(by repeat constructor))|(apply Ev.ef;exact rfl)|refine Ev.ret ?_ |refine Ev.skip ?_ |refine Ev.exit ?_ |refine Ev.block ?_ |refine aA.normal ?_ |refine aA.ret ?_ |refine aA.exit ?_ |refine az.normal ?_ |refine az.ret ?_ |refine az.KE ?_ |refine aH.normal ?_ |refine aH.ret ?_ |refine aH.exit ?_ |(apply aF.ret;exact rfl)|fail)
  ·revert hc;exact q0.1
  ·revert hc;exact q1.1):P:=h ⟨q0⟩ ⟨q1⟩
theorem wF {P Q0:Prop} (q0:Q0) (h:Wq Q0->P:=by
  intro q0
  repeat' (first |refine ag.nil ?_ |(apply R.ve;exact rfl;exact rfl;exact rfl)|(apply R.move;exact rfl)|(apply R.assign;exact rfl)|(apply R.gx;exact rfl;exact rfl)|(apply R.pU T6;exact rfl;exact rfl;exact rfl;exact rfl;exact(by repeat constructor))|(apply R.fieldAddr T6;exact rfl;exact rfl;exact rfl;exact rfl)|(apply R.cmp;exact rfl;exact rfl;exact rfl;all_goals intro hc;all_goals(try(exfalso;omega)))|(apply R.arith;exact rfl;exact rfl;exact rfl;exact(mE (by omega) (by omega)))|(apply R.build T6;exact rfl;exact rfl;exact rfl;exact rfl;exact rfl;exact rfl)|(apply R.buildSlice T6;exact rfl;exact rfl;exact rfl;exact rfl;exact(by decide);exact rfl;exact rfl;exact rfl;exact rfl;exact rfl)|(apply R.not;exact rfl;exact rfl)|(apply R.qc T6;exact rfl;exact rfl)|(apply R.Er T6;exact rfl;exact rfl;exact rfl)|(apply R.Es T6;exact rfl;exact rfl;exact rfl;exact rfl;exact rfl;exact rfl)|(apply R.NF T6;exact rfl;exact rfl;exact rfl;exact rfl)|refine Ev.seq ?_ |refine Ev.region ?_ |refine bw.nil ?_ |(apply D.assign;exact rfl)|(apply Ev.ef;exact rfl)|refine Ev.ret ?_ |refine Ev.skip ?_ |refine Ev.exit ?_ |refine Ev.block ?_ |refine aA.normal ?_ |refine aA.exit ?_ |refine az.normal ?_ |refine az.KE ?_ |refine aH.normal ?_ |refine aH.exit ?_ |(apply aF.ret;exact rfl)|fail)
  revert hc;exact q0.1):P:=h ⟨q0⟩
theorem wG {P Q0:Prop} (q0:Q0) (h:Wq Q0->P:=by
  intro q0
  repeat' (first |(refine Rn.go ?_;conv=>whnf)|refine .mk ?_ |refine .tt ?_ |refine .ff ?_ |refine .m2 ?_ |refine .lp λv H lp=>?_ |fail)
  revert lp;revert H;revert v;exact q0.1):P:=h ⟨q0⟩
theorem wH {P Q0 Q1 Q2:Prop} (q0:Q0) (q1:Q1) (q2:Q2) (h:Wq Q0->Wq Q1->Wq Q2->P:=by
  intro q0 q1 q2
  repeat' (first |(refine Rn.go ?_;conv=>whnf)|refine .mk ?_ |refine .tt ?_ |refine .mk (λhc=>?_) λhc=>?_ |fail)
  ·revert hc;exact q0.1
  ·revert hc;revert hc;exact q1.1
  ·revert hc;revert hc;exact q2.1):P:=h ⟨q0⟩ ⟨q1⟩ ⟨q2⟩
theorem wI {P Q0 Q1:Prop} (q0:Q0) (q1:Q1) (h:Wq Q0->Wq Q1->P:=by
  intro q0 q1
  repeat' (first |(refine Rn.go ?_;conv=>whnf)|refine .mk ?_ |refine .tt ?_ |refine .mk (λhc=>?_) λhc=>?_ |refine .lp λv H lp=>?_ |fail)
  ·revert lp;revert H;revert v;revert hc;exact q0.1
  ·revert hc;exact q1.1):P:=h ⟨q0⟩ ⟨q1⟩
theorem wK {P Q0 Q1 Q2 Q3 Q4 Q5 Q6:Prop} (q0:Q0) (q1:Q1) (q2:Q2) (q3:Q3) (q4:Q4) (q5:Q5) (q6:Q6) (h:Wq Q0->Wq Q1->Wq Q2->Wq Q3->Wq Q4->Wq Q5->Wq Q6->P:=by
  intro q0 q1 q2 q3 q4 q5 q6
  repeat' (first |(refine Rn.go ?_;conv=>whnf)|refine .mk ?_ |refine .mk (λhc=>?_) λhc=>?_ |fail)
  ·revert hc;exact q0.1
  ·revert hc;revert hc;exact q1.1
  ·revert hc;revert hc;revert hc;exact q2.1
  ·revert hc;revert hc;revert hc;revert hc;exact q3.1
  ·revert hc;revert hc;revert hc;revert hc;revert hc;exact q4.1
  ·revert hc;revert hc;revert hc;revert hc;revert hc;revert hc;exact q5.1
  ·revert hc;revert hc;revert hc;revert hc;revert hc;revert hc;exact q6.1):P:=h ⟨q0⟩ ⟨q1⟩ ⟨q2⟩ ⟨q3⟩ ⟨q4⟩ ⟨q5⟩ ⟨q6⟩
theorem lenE{α:Type}{l p q:List α}{x:α}(e:l=p++x::q):l.length=p.length+(q.length+1):=by
 rw[e,T0,T2]
namespace Go.Pm
inductive PV where
 |int (k:IntKind) (n:Int)
 |bool (b:Bool)
 |str (s:ByteArray)
 |agg (cs:List PV)
 |cT (vs:List PV)
 |ab (full:Bool) (es:List PV)
 |an (id ep off len:Nat)
 |ptr (id ep i off:Nat)
 |cU (cs:List PV)
 |fe (id:Nat)
 |eK
 |c9
 |ay
 |fn (f:FuncId) (cA:List PV)
 |j4 (f:FuncId) (k:Nat) (cs:List PV)
 |undef
 |any
 deriving Inhabited
inductive Mu where
 |m |l |f |x
 deriving DecidableEq,Inhabited
structure aC where
 mu:Mu
 ep:Nat
 aP:Nat
 es:List PV
 deriving Inhabited
abbrev aa:=List aC
structure St where
 V:Nat->PV
 h:aa
def kS(V:Nat->PV)(d:Nat)(v:PV):Nat->PV:=λt=>if t=d then v else V t
def bh(V:Nat->PV)(d:Option Nat)(v:PV):Nat->PV:=
 match d with
 |some d=>kS V d v
 |none=>V
def cells:PV->List PV
 | .agg cs=>cs
 |v=>[v]
def aZ:PV->Bool
 | .agg _ | .cT _ | .undef | .any=>false
 |_=>true
mutual
def aJ:PV->Bool
 | .int .. | .bool _ | .str _ | .c9 | .ay | .eK | .ab .. | .cU _=>true
 | .agg cs=>au cs
 | .cT cs=>au cs
 | .fn _ cs=>au cs
 | .j4 _ _ cs=>au cs
 | .an .. | .ptr .. | .fe _ | .undef | .any=>false
def au:List PV->Bool
 |[]=>true
 |c::r=>aJ c&&au r
end
mutual
def dI:PV->Bool
 | .int .. | .bool _ | .str _ | .c9 | .ay | .eK=>true
 | .agg cs=>kU cs
 | .cT cs=>kU cs
 |_=>false
def kU:List PV->Bool
 |[]=>true
 |c::r=>dI c&&kU r
end
mutual
def cJ:PV->PV
 | .ab _ es=>.ab false (ba es)
 | .agg cs=>.agg (ba cs)
 | .cT cs=>.cT (ba cs)
 | .fn f cs=>.fn f (ba cs)
 | .j4 f k cs=>.j4 f k (ba cs)
 | .cU cs=>.cU (ba cs)
 |p=>p
def ba:List PV->List PV
 |[]=>[]
 |c::r=>cJ c::ba r
end
def KN:Value->PV
 | .int k n=>.int k n
 | .bool b=>.bool b
 | .string s=>.str s
 | .slice none 0 0=>.ab true []
 | .pointer none=>.c9
 | .nilFunc=>.ay
 | .map none=>.eK
 |_=>.any
def cv:Value->PV
 | .agg cs=>.agg (cs.toList.map KN)
 |v=>KN v
def qI(g:Nat):Option PV:=match g with |0=>some (.ab false [.str ⟨#[97,110,121]⟩,.str ⟨#[97,103,101,110,116]⟩,.str ⟨#[110,111,110,99,101]⟩,.str ⟨#[107,101,121]⟩,.str ⟨#[100,97,116,97]⟩,.str ⟨#[116,97,103]⟩])|_=>none
def ev(V:Nat->PV):Operand->PV
 | .tmp t=>V t
 | .const v=>cv v
 | .func f=>.fn f []
 | .global g=>match qI g with
  |some p=>.cU [p]
  |none=>.any
def bI(P:Program)(t:TypeId):Option Nat:=(P.info? t).map (·.size)
def jz(P:Program)(t:TypeId):Option Nat:=(P.info? t).map (·.bytes)
def gv(P:Program)(t:TypeId):Option PV:=((P.info? t).bind (·.zero)).map cv
def A5(P:Program)(t:TypeId):Option Bool:=(P.underlying t).map λ| .struct _ | .array _ _=>true |_=>false
def getM(h:aa)(id ep:Nat):Option aC:=
 match h[id]? with
 |some o=>if o.ep=ep/\o.mu≠.x then some o else none
 |none=>none
def bC(h:aa):PV->Option (List PV)
 | .ab _ es=>some es
 | .an id ep off len=>match getM h id ep with
  |some o=>if off+len<=o.es.length then some ((o.es.drop off).take len)else none
  |none=>none
 |_=>none
def cV(h:aa):PV->Option (List PV)
 | .cU cs=>some cs
 | .ptr id ep i off=>match getM h id ep with
  |some o=>match o.es[i]? with
   |some e=>some ((cells e).drop off)
   |none=>none
  |none=>none
 |_=>none
def fC(P:Program)(h:aa)(t:TypeId)(p:PV):Option PV:=
 match bI P t,A5 P t,cV h p with
 |some sz,some true,some cs=>if 0<sz/\sz<=cs.length then some (.agg (cs.take sz))else none
 |some _,some false,some cs=>match cs with
  |c::_=>some c
  |[]=>none
 |_,_,_=>none
def eF(off sz:Nat)(e v:PV):PV:=
 if off=0/\sz=(cells e).length then v else .agg ((cells e).take off++cells v++(cells e).drop (off+sz))
def fq(P:Program)(h:aa)(t:TypeId)(p v:PV):Option aa:=
 match p,bI P t with
 | .ptr id ep i off,some sz=>match getM h id ep with
  |some o=>match o.es[i]? with
   |some e=>if o.mu=.m/\(cells v).length=sz/\(cells v).all aZ=true/\off+sz<=(cells e).length then
     some (h.set id {o with es:=o.es.set i (eF off sz e v)})else none
   |none=>none
  |none=>none
 |_,_=>none
def newObj(h:aa)(aP:Nat)(es:List PV):aa:=h++[{mu:=.m,ep:=0,aP,es}]
def nt(cs:List PV)(off:Nat)(vs:List PV):List PV:=cs.take off++vs++cs.drop (off+vs.length)
def iF(place:Nat->Option (Nat×Nat))(cs:List PV):List (Nat×PV)->Option (List PV)
 |[]=>some cs
 |(i,v)::rest=>match place i with
  |none=>none
  |some (off,size)=>
   if(cells v).length=size/\(cells v).all aZ=true/\off+size<=cs.length then iF place (nt cs off (cells v)) rest else none
def fD(P:Program)(fs:Array Field)(i:Nat):Option (Nat×Nat):=
 match fs[i]? with
 |some f=>(bI P f.type).map λs=>(f.offset,s)
 |none=>none
def qJ(P:Program)(t:TypeId)(parts:List (Nat×PV)):Option PV:=
 match gv P t,P.underlying t with
 |some z,some (.struct fs)=>if fs.toList.all (λf=>(bI P f.type).isSome)=true/\(cells z).all aZ=true then(iF (fD P fs) (cells z) parts).map .agg else none
 |some z,some (.array _ e)=>match bI P e with
  |some size=>if(cells z).all aZ=true then(iF (λi=>some (i * size,size)) (cells z) parts).map .agg else none
  |none=>none
 |_,_=>none
def uR(z:PV)(n:Nat)(parts:List (Nat×PV)):List PV:=parts.foldl (λes x=>es.set x.1 x.2) (List.replicate n z)
def cu(P:Program)(lv:Nat)(h:aa)(t:TypeId)(len:Nat)(parts:List (Nat×PV)):Option (PV×aa):=
 match P.underlying t with
 |some (.slice e)=>match bI P e,gv P e with
  |some size,some z=>
   if 0<size/\len * size<=16777216/\(cells z).length=size/\(cells z).all aZ=true/\parts.all (λp=>decide ((cells p.2).length=size)&& (cells p.2).all aZ&&decide (p.1<len))=true then
    if au (uR z len parts)then some (.ab true (uR z len parts),h)
    else if 2<=lv then some (.an h.length 0 0 len,newObj h size (uR z len parts))else none
   else none
  |_,_=>none
 |_=>none
def fE(op:BinOp)(k:IntKind)(a b:Int):Option PV:=
 match op with
 | .add=>some (.int k (k.wrap (a+b)))
 | .sub=>some (.int k (k.wrap (a - b)))
 | .mul=>some (.int k (k.wrap (a * b)))
 | .quo=>if b=0 then none else some (.int k (k.wrap (a.tdiv b)))
 | .rem=>if b=0 then none else some (.int k (a.tmod b))
 | .eql=>some (.bool (a==b))
 | .neq=>some (.bool (a !=b))
 | .lss=>some (.bool (decide (a<b)))
 | .leq=>some (.bool (decide (a<=b)))
 | .gtr=>some (.bool (decide (a>b)))
 | .geq=>some (.bool (decide (a>=b)))
 | .and=>some (.int k (k.wrap (BitVec.ofInt k.bits a&&&BitVec.ofInt k.bits b).toNat))
 | .or=>some (.int k (k.wrap (BitVec.ofInt k.bits a |||BitVec.ofInt k.bits b).toNat))
 | .xor=>some (.int k (k.wrap (BitVec.ofInt k.bits a^^^BitVec.ofInt k.bits b).toNat))
 |_=>none
def nu(op:BinOp)(k:IntKind)(x y:Int):Option PV:=
 if y<0 then none else
 match op with
 | .shl=>some (.int k (k.wrap (x * 2^ (min y.toNat k.bits))))
 | .shr=>some (.int k (x.fdiv (2^ (min y.toNat k.bits))))
 |_=>none
def jJ(op:BinOp)(x y:ByteArray):Option PV:=
 match op with
 | .add=>if((x.size+y.size:Nat):Int)>IntKind.i64.max then none else some (.str (x++y))
 | .eql=>some (.bool (x.toList==y.toList))
 | .neq=>some (.bool !(x.toList==y.toList))
 | .lss=>some (.bool (Op.bytesLess x.toList y.toList))
 | .leq=>some (.bool (Op.bytesLess x.toList y.toList ||x.toList==y.toList))
 | .gtr=>some (.bool !(Op.bytesLess x.toList y.toList ||x.toList==y.toList))
 | .geq=>some (.bool !(Op.bytesLess x.toList y.toList))
 |_=>none
def dY(P:Program)(op:BinOp)(t:TypeId)(x y:PV):Option PV:=
 match x,y with
 | .int k a,.int k' b=>match op with
  | .shl | .shr=>nu op k a b
  |_=>if k=k' then fE op k a b else none
 | .str a,.str b=>jJ op a b
 | .bool a,.bool b=>match P.underlying t with
  |some .bool=>match op with
   | .eql=>some (.bool (a==b))
   | .neq=>some (.bool !(a==b))
   |_=>none
  |_=>none
 |_,_=>none
def HN(op:UnOp)(x:PV):Option PV:=
 match op,x with
 | .neg,.int k n=>some (.int k (k.wrap (0 - n)))
 | .not,.bool b=>some (.bool !b)
 |_,_=>none
def CL:PV->Option Int
 | .int .u8 n=>some n
 |_=>none
def j8:List PV->Option (List Int)
 |[]=>some []
 |c::r=>match CL c with
  |some n=>match j8 r with
   |some l=>some (n::l)
   |none=>none
  |none=>none
def HO(xs:List Int):ByteArray:=⟨(xs.map λn=>UInt8.ofNat n.toNat).toArray⟩
def th(P:Program)(src dst:TypeId)(x:PV):Option PV:=
 match P.underlying src,P.underlying dst,x with
 |some _,some (.int k),.int _ n=>some (.int k (k.wrap n))
 |some _,some .string,.str s=>some (.str s)
 |some (.slice e),some .string,.ab _ es=>match P.underlying e,j8 es with
  |some (.int .u8),some l=>some (.str (HO l))
  |_,_=>none
 |_,_,_=>none
def ck(x:Option PV)(dflt top:Nat):Option Nat:=
 match x with
 |none=>some dflt
 |some (.int _ i)=>if 0<=i/\i<=(top:Int)then some i.toNat else none
 |some _=>none
def beyond(mx hi:Option PV)(len top:Nat):Option Nat:=
 match mx,hi with
 |none,some (.int k i)=>if(len:Int)<i then ck (some (.int k i)) 0 top else none
 |_,_=>none
def bO(P:Program)(h:aa)(t:TypeId)(x:PV)(lo hi mx:Option PV):Option PV:=
 match P.underlying t,x with
 |some .string,.str s=>if mx.isSome then none else
  match ck hi s.size s.size with
  |some b=>match ck lo 0 b with
   |some a=>some (.str (s.extract a b))
   |none=>none
  |none=>none
 |some (.slice e),.ab full es=>match bI P e with
  |some sz=>match ck mx es.length es.length with
   |some m=>match ck hi es.length m with
    |some b=>match ck lo 0 b with
     |some a=>if(mx.isSome&&hi.isNone)=false/\(es[a]?).all (λv=>(cells v).length==sz)=true then some (.ab (if mx.isSome then m==b else full&&b==es.length) ((es.drop a).take (b - a)))else none
     |none=>none
    |none=>none
   |none=>none
  |none=>none
 |some (.slice e),.an id ep off len=>match bI P e,getM h id ep with
  |some sz,some o=>if sz=o.aP/\off+len<=o.es.length then
    match beyond mx hi len (o.es.length - off)with
    |some b=>match ck lo 0 b with
     |some a=>if a=0 then some (.an id ep off b)else if b - a=0 then some (.ab false [])else some (.an id ep (off+a) (b - a))
     |none=>none
    |none=>
    match ck mx len len with
    |some m=>match ck hi len m with
     |some b=>match ck lo 0 b with
      |some a=>if(mx.isSome&&hi.isNone)=false then
        (if mx.isSome then(if m=a then some (.ab true [])else some .any)
         else if a=0 then some (.an id ep off b)else if b - a=0 then some (.ab false [])else some (.an id ep (off+a) (b - a)))
       else none
      |none=>none
     |none=>none
    |none=>none
   else none
  |_,_=>none
 |_,_=>none
def kV(P:Program)(s:TypeId)(f:Nat):Option (Nat×TypeId):=
 match P.underlying s with
 |some (.struct fs)=>match fs[f]? with
  |some fl=>match bI P fl.type with
   |some sz=>if sz=0 then none else some (fl.offset,fl.type)
   |none=>none
  |none=>none
 |_=>none
def fu(P:Program)(s:TypeId)(p:PV)(f:Nat):Option PV:=
 match kV P s f,p with
 |some (off,_),.cU cs=>if off<cs.length then some (.cU (cs.drop off))else none
 |some (off,_),.ptr id ep i o=>some (.ptr id ep i (o+off))
 |_,_=>none
def qK(P:Program)(t:TypeId)(cs:List PV)(off:Nat):Option PV:=
 match A5 P t,bI P t with
 |some true,some sz=>if off+sz<=cs.length then some (.agg ((cs.drop off).take sz))else none
 |some false,some _=>match cs[off]? with
  |some c=>some c
  |none=>none
 |_,_=>none
def uS(P:Program)(s:TypeId)(x:PV)(f:Nat):Option PV:=
 match P.underlying s,x with
 |some (.struct fs),.agg cs=>match fs[f]? with
  |some fl=>qK P fl.type cs fl.offset
  |none=>none
 |_,_=>none
def bT(P:Program)(h:aa)(t:TypeId)(x ix:PV):Option PV:=
 match P.underlying t,x,ix with
 |some (.slice e),.ab _ es,.int _ i=>match bI P e with
  |some sz=>if 0<=i/\i<(es.length:Int)then
    match es[i.toNat]? with
    |some v=>if 0<sz/\(cells v).length=sz then some (.cU (cells v))else none
    |none=>none
   else none
  |none=>none
 |some (.slice e),.an id ep off len,.int _ i=>match bI P e,getM h id ep with
  |some sz,some o=>if 0<=i/\i<(len:Int)/\sz=o.aP/\off+len<=o.es.length then some (.ptr id ep (off+i.toNat) 0)else none
  |_,_=>none
 |some (.array n e),.cU cs,.int _ i=>match bI P e with
  |some sz=>if 0<=i/\i<(n:Int)/\i.toNat * sz<cs.length then some (.cU (cs.drop (i.toNat * sz)))else none
  |none=>none
 |some (.array n e),.ptr id ep k o,.int _ i=>match bI P e with
  |some sz=>if 0<=i/\i<(n:Int)then some (.ptr id ep k (o+i.toNat * sz))else none
  |none=>none
 |_,_,_=>none
def qL(P:Program)(t:TypeId)(x ix:PV):Option PV:=
 match P.underlying t,x,ix with
 |some (.array n e),.agg cs,.int _ i=>match bI P e with
  |some sz=>if 0<=i/\i<(n:Int)then qK P e cs (i.toNat * sz)else none
  |none=>none
 |some .string,.str s,.int _ i=>if 0<=i then
   match s[i.toNat]? with
   |some b=>some (.int .u8 b.toNat)
   |none=>none
  else none
 |_,_,_=>none
def wg(h:aa)(id:Nat):Option aC:=
 match getM h id 0 with
 |some o=>if o.aP=0 then some o else none
 |none=>none
def ti:PV->PV->Option Bool
 | .int k a,.int k' b=>if k=k' then some (a==b)else none
 | .str a,.str b=>some (a==b)
 | .bool a,.bool b=>some (a==b)
 |_,_=>none
def pF(k:PV):List PV->Nat->Option (Option (Nat×PV))
 |[],_=>some none
 |e::es,i=>match e with
  | .agg [k',v]=>match ti k k' with
   |some true=>some (some (i,v))
   |some false=>pF k es (i+1)
   |none=>none
  |_=>none
def sO(P:Program)(t:TypeId)(k:PV):Bool:=
 match P.underlying t,k with
 |some (.int k),.int k' _=>decide (k'=k)
 |some .string,.str _ |some .bool,.bool _=>true
 |_,_=>false
def eL(ok:Bool)(v:PV)(b:Bool):PV:=if ok then .cT [v,.bool b]else v
def j9(P:Program)(h:aa)(t:TypeId)(m k:PV)(ok:Bool):Option PV:=
 match P.underlying t with
 |some (.map kt et)=>match gv P et with
  |some z=>if sO P kt k=true then
    match m with
    | .eK=>some (eL ok z false)
    | .fe id=>match wg h id with
     |some o=>match pF k o.es 0 with
      |some (some (_,v))=>some (eL ok v true)
      |some none=>some (eL ok z false)
      |none=>none
     |none=>none
    |_=>none
   else none
  |none=>none
 |_=>none
def HP(k v:PV)(es:List PV):Option (List PV):=
 match pF k es 0 with
 |some (some (i,_))=>some (es.set i (.agg [k,v]))
 |some none=>some (es++[.agg [k,v]])
 |none=>none
def j'(P:Program)(h:aa)(t:TypeId)(m k v:PV):Option aa:=
 match P.underlying t,m with
 |some (.map kt _),.fe id=>match wg h id with
  |some o=>if sO P kt k=true/\o.mu=.m then
    match HP k v o.es with
    |some es=>some (h.set id {o with es})
    |none=>none
   else none
  |none=>none
 |_,_=>none
def jK(P:Program)(lv:Nat)(h:aa)(t:TypeId)(r:Option PV):Option (PV×aa):=
 if 1<=lv then
  match r,P.underlying t with
  |none,_=>some (.fe h.length,newObj h 0 [])
  |some (.int _ _),some (.map _ _)=>some (.fe h.length,newObj h 0 [])
  |_,_=>none
 else none
def mL(P:Program)(h:aa)(t:TypeId)(x:PV):Option PV:=
 match P.underlying t,x with
 |some .string,.str s=>some (.int .i64 s.size)
 |some (.array n _),_=>some (.int .i64 n)
 |some (.slice _),.ab _ es=>some (.int .i64 es.length)
 |some (.map _ _),.eK=>some (.int .i64 0)
 |some (.map _ _),.fe id=>match wg h id with
  |some o=>some (.int .i64 o.es.length)
  |none=>none
 |some (.slice _),.an id ep off len=>match getM h id ep with
  |some o=>if off+len<=o.es.length then some (.int .i64 len)else none
  |none=>none
 |_,_=>none
def cL(P:Program)(h:aa)(z:PV)(xt:TypeId)(x:PV):Option (List PV):=
 match P.underlying xt,x with
 |some (.int _),.int _ n=>if 0<=n/\n<=1073741824 then some (List.replicate n.toNat z)else none
 |some (.slice _),x=>bC h x
 |_,_=>none
def roomy(n bytes:Nat):Bool:=decide (n * bytes<=17592186044416)&&decide (n<=17592186044416)
def nv(id:Nat):PV->Bool
 | .an i _ _ _=>i==id
 |_=>false
def cg(P:Program)(lv:Nat)(h:aa)(st xt:TypeId)(s x:PV):Option (PV×aa):=
 match P.underlying st with
 |some (.slice e)=>match bI P e,jz P e,gv P e with
  |some sz,some bytes,some z=>match cL P h z xt x with
   |some ys=>
    if 0<sz/\bytes<=65536/\((cells z).length=sz/\(cells z).all aZ=true)/\ys.all (λv=>decide ((cells v).length=sz)&& (cells v).all aZ)=true then
     match s with
     | .ab full es=>
      if ys.isEmpty then some (s,h)
      else if full=true/\1<=lv/\roomy (es.length+ys.length) bytes=true/\es.all (λv=>decide ((cells v).length=sz)&& (cells v).all aZ)=true then
       some (.an h.length 0 0 (es.length+ys.length),newObj h sz (es++ys))
      else none
     | .an id ep off len=>match getM h id ep with
      |some o=>
       if off+len<=o.es.length/\sz=o.aP then
        if ys.isEmpty then some (s,h)
        else if off=0/\2<=lv/\o.mu=.m/\nv id x=true/\len+ys.length<=o.es.length then
         some (.an id ep 0 (len+ys.length),h.set id {o with es:=o.es.take len++ys++o.es.drop (len+ys.length)})
        else if off=0/\2<=lv/\o.mu=.m/\roomy (len+ys.length) bytes=true then
         some (.an id (ep+1) 0 (len+ys.length),h.set id {o with ep:=ep+1,es:=o.es.take len++ys})
        else none
       else none
      |none=>none
     |_=>none
    else none
   |none=>none
  |_,_,_=>none
 |_=>none
def tj(P:Program)(lv:Nat)(h:aa)(dt:TypeId)(d x:PV):Option (PV×aa):=
 match P.underlying dt,d,bC h x with
 |some (.slice e),.an id ep off len,some ys=>match bI P e,getM h id ep with
  |some sz,some o=>
   if 2<=lv/\o.mu=.m/\sz=o.aP/\off+len<=o.es.length/\ys.all (λv=>decide ((cells v).length=sz))=true/\(ys.take (min ys.length len)).all (λv=>decide ((cells v).length=sz)&& (cells v).all aZ)=true then
    let n:=min ys.length len
    some (.int .i64 n,h.set id {o with es:=o.es.take off++ys.take n++o.es.drop (off+n)})
   else none
  |_,_=>none
 |_,_,_=>none
def kW(P:Program)(lv:Nat)(h:aa)(t:TypeId)(x:PV):Option (PV×aa):=
 match P.underlying t,x with
 |some (.slice e),.an id ep off len=>match bI P e,gv P e,getM h id ep with
  |some sz,some z,some o=>
   if 2<=lv/\o.mu=.m/\sz=o.aP/\off+len<=o.es.length/\(cells z).length=sz/\(cells z).all aZ=true then
    some (.cT [],h.set id {o with es:=o.es.take off++List.replicate len z++o.es.drop (off+len)})
   else none
  |_,_,_=>none
 |some (.slice _),.ab _ []=>some (.cT [],h)
 |_,_=>none
def KO(P:Program)(t:TypeId)(x:PV):Option PV:=
 match P.underlying t,x with
 |some (.slice _),.ab true es=>some (.int .i64 es.length)
 |_,_=>none
def CM:List PV->Option PV
 |[.int k a,.int _ b]=>some (.int k (if b>a then b else a))
 |_=>none
def Fs:List PV->Option PV
 |[.int k a,.int _ b]=>some (.int k (if b<a then b else a))
 |_=>none
def iG(P:Program)(lv:Nat)(h:aa)(t:TypeId)(len cap:PV):Option (PV×aa):=
 match P.underlying t,len,cap with
 |some (.slice e),.int _ n,.int _ c=>match bI P e,jz P e,gv P e with
  |some sz,some bytes,some z=>
   if 1<=lv/\0<=n/\n<=c/\c<=1073741824/\0<sz/\bytes<=65536/\(cells z).length=sz/\(cells z).all aZ=true then
    some (.an h.length 0 0 n.toNat,newObj h sz (List.replicate n.toNat z))
   else none
  |_,_,_=>none
 |_,_,_=>none
def aT(P:Program)(lv:Nat)(h:aa)(b:Builtin)(ts:List TypeId)(args:List PV):Option (PV×aa):=
 match b,ts,args with
 | .len,t::_,x::_=>(mL P h t x).map (·,h)
 | .append,st::xt::_,s::x::_=>cg P lv h st xt s x
 | .copy,dt::_,d::x::_=>tj P lv h dt d x
 | .clear,t::_,x::_=>kW P lv h t x
 | .cap,t::_,x::_=>(KO P t x).map (·,h)
 | .max,_,xs=>(CM xs).map (·,h)
 | .min,_,xs=>(Fs xs).map (·,h)
 |_,_,_=>none
def aw(P:Program)(lv:Nat)(op:Op)(V:Nat->PV)(h:aa):Option (PV×aa):=
 match op with
 | .move x | .assign x=>some (ev V x,h)
 | .pick c a b=>match ev V c with
  | .bool t=>some (if t then ev V a else ev V b,h)
  |_=>none
 | .alloc t=>match gv P t with
  |some z=>if 1<=lv/\(cells z).all aZ=true/\0<(cells z).length then some (.ptr h.length 0 0 0,newObj h (cells z).length [z])else none
  |none=>none
 | .box _ x=>if 1<=lv/\(cells (ev V x)).all aZ=true/\0<(cells (ev V x)).length then some (.ptr h.length 0 0 0,newObj h (cells (ev V x)).length [ev V x])else none
 | .build t parts=>(qJ P t (parts.toList.map λ(i,x)=>(i,ev V x))).map (·,h)
 | .buildSlice t n parts=>cu P lv h t n (parts.toList.map λ(i,x)=>(i,ev V x))
 | .load t a=>(fC P h t (ev V a)).map (·,h)
 | .store t a x=>if 2<=lv then(fq P h t (ev V a) (ev V x)).map (.undef,·)else none
 | .nilCheck x=>match ev V x with
  | .ptr id ep i o=>some (.ptr id ep i o,h)
  | .cU cs=>some (.cU cs,h)
  | .fn f cs=>some (.fn f cs,h)
  |_=>none
 | .binOp op t x y _=>(dY P op t (ev V x) (ev V y)).map (·,h)
 | .unOp op _ x=>(HN op (ev V x)).map (·,h)
 | .convert s d x=>(th P s d (ev V x)).map (·,h)
 | .makeFunc (.func f) first cA=>if first.isEmpty then some (.fn f (cA.toList.map (ev V)),h)else some (.j4 f first.size ((first.toList++cA.toList).map (ev V)),h)
 | .makeSlice t l c=>iG P lv h t (ev V l) (ev V c)
 | .slice t x lo hi mx=>(bO P h t (ev V x) (lo.map (ev V)) (hi.map (ev V)) (mx.map (ev V))).map (·,h)
 | .fieldAddr s x f=>(fu P s (ev V x) f).map (·,h)
 | .field s x f=>(uS P s (ev V x) f).map (·,h)
 | .indexAddr t x ix=>(bT P h t (ev V x) (ev V ix)).map (·,h)
 | .index t x ix=>(qL P t (ev V x) (ev V ix)).map (·,h)
 | .makeMap t r=>jK P lv h t (r.map (ev V))
 | .lookup t x k ok=>(j9 P h t (ev V x) (ev V k) ok).map (·,h)
 | .mapUpdate t m k v | .insert t m k v=>if 2<=lv then(j' P h t (ev V m) (ev V k) (ev V v)).map (.undef,·)else none
 | .extract x i=>match ev V x with
  | .cT vs=>match vs[i]? with
   |some v=>some (v,h)
   |none=>none
  |_=>none
 |_=>none
def sP(h:aa)(p:PV):Option PV:=
 match p with
 | .an id ep off len=>match getM h id ep with
  |some o=>if off+len<=o.es.length/\(o.mu=.m\/o.mu=.f)/\au ((o.es.drop off).take len)=true then some (.ab false ((o.es.drop off).take len))else none
  |none=>none
 |p=>if aJ p then some p else none
def qM(h:aa):List PV->Option (List PV)
 |[]=>some []
 |c::r=>match sP h c,qM h r with
  |some c',some r'=>some (c'::r')
  |_,_=>none
def ot(h:aa)(p:PV):Option PV:=
 match p with
 | .agg cs=>(qM h cs).map .agg
 |p=>sP h p
def kL(h:aa):List PV->Option (List PV)
 |[]=>some []
 |c::r=>match ot h c,kL h r with
  |some c',some r'=>some (c'::r')
  |_,_=>none
def rb(h:aa)(p:PV):Option PV:=
 match p with
 | .cT cs=>(kL h cs).map .cT
 |p=>ot h p
def nw(f:PV->Option PV):List PV->Option (List PV)
 |[]=>some []
 |c::r=>match f c,nw f r with
  |some c',some r'=>some (c'::r')
  |_,_=>none
def vX:Nat->aa->PV->Option PV
 |0,_,p=>if aJ p then some p else none
 |n+1,h,p=>match p with
  | .an id ep off len=>match getM h id ep with
   |some o=>if off+len<=o.es.length/\(o.mu=.m\/o.mu=.f)then(nw (vX n h) ((o.es.drop off).take len)).map (.ab false)else none
   |none=>none
  | .agg cs=>(nw (vX n h) cs).map .agg
  | .cT cs=>(nw (vX n h) cs).map .cT
  |p=>if aJ p then some p else none
def sQ(h:aa)(p:PV):Option PV:=match rb h p with |some r=>some r |none=>vX 8 h p
def l8(h:aa)(id:Nat):Option aa:=
 match h[id]? with
 |some o=>if au o.es=true/\(o.mu=.m\/o.mu=.f)then some (h.set id {o with mu:=.f})else none
 |none=>none
def fO(h:aa):List Nat->Option aa
 |[]=>some h
 |id::r=>match l8 h id with
  |some h'=>fO h' r
  |none=>none
def ou(h:aa)(ids:List Nat):Bool:=ids.all λid=>match h[id]? with |some o=>decide (o.mu=.f)&&au o.es |none=>false
def A6:PV->List Nat
 | .an id _ _ _=>[id]
 |_=>[]
def my(ps:List PV):List Nat:=ps.flatMap λp=>(cells p).flatMap A6
def iH(n:Nat):PV->Bool
 | .an id _ _ _=>decide (id<n)
 | .ptr id _ _ _=>decide (id<n)
 |p=>aJ p
def eW(n:Nat):PV->Bool
 | .agg cs=>cs.all (iH n)
 |p=>iH n p
def mM(n:Nat):PV->Bool
 | .cT cs=>cs.all (eW n)
 |p=>eW n p
inductive Mode where
 |no
 |pure
 |opened
 |kX (g:List PV->Option PV)
 |cH (g:List PV->aa->Option (PV×aa))
 |ext (g:List PV->Option PV)
structure bZ where
 P:Program
 mode:FuncId->Mode
abbrev gw:=FuncId->List PV->aa->Option (PV×aa)
def dp(run:gw)(lv:Nat)(f:FuncId)(args:List PV)(h:aa):Option (PV×aa):=
 if au args then
  match run f (ba args) []with
  |some (r,hc)=>match sQ hc r with
   |some r'=>some (cJ r',h)
   |none=>none
  |none=>none
 else match kL h args with
  |some args'=>match run f (ba args') []with
   |some (r,hc)=>match sQ hc r with
    |some r'=>if dI r'||ou h (my args)then some (cJ r',h)
     else if 2<=lv then(fO h (my args)).map (cJ r',·)else none
    |none=>none
   |none=>none
  |none=>match nw (vX 8 h) args with
   |some args'=>match run f (ba args') []with
    |some (r,hc)=>match sQ hc r with
     |some r'=>if dI r' then some (cJ r',h)else none
     |none=>none
    |none=>none
   |none=>none
def bB(o:aC):aC:=match o.mu with | .m=>{o with mu:=.l}|_=>o
def da(run:List PV->aa->Option (PV×aa))(lv:Nat)(args:List PV)(h:aa):Option (PV×aa):=
 if 2<=lv then run args h
 else if 1<=lv then match run args (h.map bB)with
  |some (r,h')=>if(h'.drop h.length).all (λo=>decide (o.mu≠.l))=true then some (r,h++h'.drop h.length)else none
  |none=>none
 else none
def fP(run:gw)(lv:Nat)(f:FuncId)(args:List PV)(h:aa):Option (PV×aa):=
 match da (run f) lv args h with
 |some (r,h')=>if mM h.length r&& (h'.take h.length).all (λo=>o.es.all (eW h.length))then some (r,h'.take h.length)else some (r,h')
 |none=>none
def cM(C:bZ)(run:gw)(lv:Nat)(f:FuncId)(args:List PV)(h:aa):Option (PV×aa):=
 match C.mode f with
 | .no=>none
 | .pure=>dp run lv f args h
 | .opened=>fP run lv f args h
 | .kX g=>if au args then(g (ba args)).map (·,h)else none
 | .cH g=>da g lv args h
 | .ext g=>if au args then(g (ba args)).map (·,h)else none
def fQ(C:bZ)(run:gw)(lv:Nat)(callee:PV)(args:List PV)(h:aa):Option (PV×aa):=
 match callee with
 | .fn f cA=>cM C run lv f (args++cA) h
 | .j4 f k cs=>cM C run lv f (cs.take k++args++cs.drop k) h
 |_=>none
def ak(C:bZ)(run:gw)(lv:Nat)(op:Op)(V:Nat->PV)(h:aa):Option (PV×aa):=
 match op with
 | .call c=>match c.callee with
  | .value f=>fQ C run lv (ev V f) (c.args.toList.map (ev V)) h
  | .builtin b=>aT C.P lv h b c.argTypes.toList (c.args.toList.map (ev V))
  | .invoke _ _=>none
 |op=>aw C.P lv op V h
def cw:Op->Bool
 | .move _ | .assign _ | .pick .. | .binOp .. | .unOp .. | .convert .. | .extract .. | .makeFunc .. | .build .. | .field .. | .index .. | .fieldAddr .. | .nilCheck _=>false
 |_=>true
def yn(o:Oper):List Edge:=o.after.toList.filter (Region.binds .any)
def before(ops:Array Oper):List Nat:=
 ops.toList.foldl (λacc o=>acc++[(yn o).foldl (λs e=>s |||2^e.on |||acc.getD e.on 0) 0]) []
def mN(b:List Nat)(i j:Nat):Bool:=i==j ||(b.getD i 0).testBit j ||(b.getD j 0).testBit i
def level(ops:Array Oper)(b:List Nat)(i:Nat):Nat:=
 if ops.toList.zipIdx.all λ(o,j)=>!cw o.op ||mN b i j then 2 else 1
def aK(ops:Array Oper)(o:Oper)(V:Nat->PV):Option Bool:=
 match o.guard with
 |none=>some true
 |some (j,want)=>match(ops.toList[j]?).bind (·.dst)with
  |none=>some false
  |some d=>match V d with
   | .bool b=>some (b==want)
   | .undef=>some false
   |_=>none
def dS(C:bZ)(run:gw)(ops:Array Oper)(o:Oper)(s:St):Option St:=
 match aK ops o s.V with
 |some true=>match ak C run 2 o.op s.V s.h with
  |some (v,h')=>some ⟨bh s.V o.dst v,h'⟩
  |none=>none
 |some false=>some ⟨bh s.V o.dst .undef,s.h⟩
 |none=>none
def cy(C:bZ)(run:gw)(ops:Array Oper):List Oper->St->Option St
 |[],s=>some s
 |o::r,s=>match dS C run ops o s with
  |some s'=>cy C run ops r s'
  |none=>none
def gQ(o:aC):aC:={o with mu:=.x}
def bX(e:Nat->Bool)(L0:Nat)(own:List Nat)(h:aa):aa:=
 h.take L0++List.zipWith (λo j=>if e j then o else gQ o) (h.drop L0) own
def aI(h:aa)(id:Nat):Bool:=match h[id]? with |some o=>decide (o.mu≠.x)|none=>false
mutual
def br(f:Nat->Bool):PV->Bool
 | .an id _ _ _=>f id
 | .ptr id _ _ _=>f id
 | .fe id=>f id
 | .agg cs=>bM f cs
 | .cT cs=>bM f cs
 | .fn _ cs=>bM f cs
 | .j4 _ _ cs=>bM f cs
 |_=>true
def bM(f:Nat->Bool):List PV->Bool
 |[]=>true
 |c::r=>br f c&&bM f r
end
def aL(h:aa):Bool:=h.all λo=>decide (o.mu=.x)||bM (aI h) o.es
structure qN where
 s:St
 L0:Nat
 own:List Nat
def bS(C:bZ)(run:gw)(ops:Array Oper)(b:List Nat)(i:Nat)(o:Oper)(x:qN):Option qN:=
 match aK ops o x.s.V with
 |some true=>
  if cw o.op=false then match ak C run 1 o.op x.s.V x.s.h with
   |some (r,_)=>some ⟨⟨bh x.s.V o.dst r,x.s.h⟩,x.L0,x.own⟩
   |none=>none
  else if level ops b i=2 then match ak C run 2 o.op x.s.V x.s.h with
   |some (r,h')=>some ⟨⟨bh x.s.V o.dst r,h'⟩,h'.length,[]⟩
   |none=>none
  else
   let M:=bX (b.getD i 0).testBit x.L0 x.own x.s.h
   if aL M=true/\(o.op.operands.toList.all λy=>br (aI M) (ev x.s.V y))=true then
    match ak C run 1 o.op x.s.V M with
    |some (r,h')=>if(h'.drop x.s.h.length).all (λo=>decide (o.mu≠.l))=true then
      some ⟨⟨bh x.s.V o.dst r,x.s.h++h'.drop x.s.h.length⟩,x.L0,x.own++List.replicate (h'.drop x.s.h.length).length i⟩else none
    |none=>none
   else none
 |some false=>some ⟨⟨bh x.s.V o.dst .undef,x.s.h⟩,x.L0,x.own⟩
 |none=>none
def cB(C:bZ)(run:gw)(ops:Array Oper)(b:List Nat):Nat->List Oper->qN->Option qN
 |_,[],x=>some x
 |i,o::r,x=>match bS C run ops b i o x with
  |some x'=>cB C run ops b (i+1) r x'
  |none=>none
def eU:Op->Bool
 | .load .. | .indexAddr ..=>true
 |_=>false
def gz:Op->Bool
 | .buildSlice ..=>true
 |_=>false
def Ai(o:Oper):Option Operand:=match o.op,o.dst,o.guard with
 | .store _ a _,none,none=>some a
 |_,_,_=>none
def sinks(ops:Array Oper)(b:List Nat):Option (Operand×Operand):=
 if 2<=ops.size/\mN b (ops.size - 2) (ops.size - 1)=false then
  match(ops.toList[ops.size - 2]?).bind Ai,(ops.toList[ops.size - 1]?).bind Ai with
  |some x,some y=>some (x,y)
  |_,_=>none
 else none
def fR(ops:Array Oper)(b:List Nat)(i:Nat)(bs:Bool):Bool:=ops.toList.zipIdx.all λ(o,j)=>!(cw o.op&& !eU o.op&& (bs || !gz o.op))||mN b i j ||((sinks ops b).isSome&&decide (ops.size<=i+2)&&decide (ops.size<=j+2))
def iI(ops:Array Oper)(b:List Nat)(i:Nat):Bool:=ops.toList.zipIdx.all λ(o,j)=>!(cw o.op&& !eU o.op&& !gz o.op)||mN b i j ||((sinks ops b).isSome&&decide (ops.size<=j+2))
def jL(h h':aa):aa:=List.zipWith (λo o'=>if o.mu=.m then o' else o) h h'++h'.drop h.length
def mO(h:aa)(id:Nat):Bool:=match h[id]? with
 |some o=>decide (o.mu≠.m)
 |none=>false
def p9(op:Op)(V:Nat->PV):Option Nat:=match op with
 | .load _ x=>match ev V x with
  | .ptr id _ _ _=>some id
  |_=>none
 | .indexAddr _ x _=>match ev V x with
  | .an id _ _ _=>some id
  |_=>none
 |_=>none
def yo(ops:Array Oper)(V:Nat->PV)(x:Operand)(id:Nat):Bool:=(match x with | .tmp t=>!ops.toList.any (λo=>o.dst==some t)|_=>true)&& (match ev V x with | .ptr j _ _ _=>decide (j≠id)|_=>false)
def uT(ops:Array Oper)(b:List Nat)(i:Nat)(V:Nat->PV)(id:Nat):Bool:=match sinks ops b with
 |none=>true
 |some (x,y)=>(mN b i (ops.size - 2)||yo ops V x id)&& (mN b i (ops.size - 1)||yo ops V y id)
def jA(ops:Array Oper)(b:List Nat)(h0:aa)(i:Nat)(V:Nat->PV)(op:Op):Bool:=match p9 op V with
 |none=>true
 |some id=>mO h0 id ||(iI ops b i&&uT ops b i V id)
def b8(C:bZ)(run:gw)(ops:Array Oper)(b:List Nat)(h0:aa)(i:Nat)(o:Oper)(s:St):Option St:=
 match aK ops o s.V with
 |some true=>
  if cw o.op=false then match ak C run 1 o.op s.V s.h with
   |some (r,_)=>some ⟨bh s.V o.dst r,s.h⟩
   |none=>none
  else if eU o.op=true then(if jA ops b h0 i s.V o.op=true then match aw C.P 1 o.op s.V s.h with
     |some (r,_)=>some ⟨bh s.V o.dst r,s.h⟩
     |none=>none
    else none)
  else match(if gz o.op then aw C.P 1 o.op s.V s.h else none)with
   |some (r,_)=>some ⟨bh s.V o.dst r,s.h⟩
   |none=>if fR ops b i (gz o.op)=true then match ak C run 2 o.op s.V s.h with
     |some (r,h')=>if s.h.length<=h'.length then some ⟨bh s.V o.dst r,jL s.h h'⟩else none
     |none=>none
    else none
 |some false=>some ⟨bh s.V o.dst .undef,s.h⟩
 |none=>none
def bD(C:bZ)(run:gw)(ops:Array Oper)(b:List Nat)(h0:aa):Nat->List Oper->St->Option St
 |_,[],s=>some s
 |i,o::r,s=>match b8 C run ops b h0 i o s with
  |some s'=>bD C run ops b h0 (i+1) r s'
  |none=>none
def fo(ops:Array Oper)(b:List Nat)(V:Nat->PV):List Nat:=ops.toList.zipIdx.flatMap λ(o,i)=>match o.op with
 | .load _ (.tmp t)=>if ops.toList.any (λo=>o.dst==some t)||iI ops b i then[]else match V t with
  | .ptr id _ _ _=>[id]
  |_=>[]
 |_=>[]
def dj(ids:List Nat)(h:aa):aa:=h.zipIdx.map λ(o,i)=>if ids.contains i then bB o else o
def eB(ids:List Nat)(h h':aa):aa:=h'.zipIdx.map λ(o,i)=>if ids.contains i then(match h[i]? with |some o'=>o'|none=>o)else o
def ov(ids:List Nat)(h h':aa):Bool:=h'.zipIdx.all λ(o,i)=>decide (o.mu≠.l)||(ids.contains i&&decide (i<h.length))||(match h[i]? with |some o'=>decide (o'.mu=.l)|none=>false)
def ow(ops:Array Oper)(b:List Nat)(V:Nat->PV):Bool:=match sinks ops b with
 |none=>true
 |some (x,y)=>match ev V x,ev V y with
  | .ptr i _ _ _,.ptr j _ _ _=>decide (i≠j)
  |_,_=>false
def gR(C:bZ)(run:gw)(ops:Array Oper)(s:St):Option St:=
 match bD C run ops (before ops) (dj (fo ops (before ops) s.V) s.h) 0 ops.toList ⟨s.V,dj (fo ops (before ops) s.V) s.h⟩with
 |some s'=>if ov (fo ops (before ops) s.V) s.h s'.h=true/\ow ops (before ops) s'.V=true then some ⟨s'.V,eB (fo ops (before ops) s.V) s.h s'.h⟩else none
 |none=>none
def Ft(ops:Array Oper)(o:Oper):Bool:=match o.op with
 | .call ⟨.builtin .append,args,_⟩=>match args.toList with
  | .tmp t::_=>ops.toList.any λo'=>o'.dst==some t&& (match o'.op with | .call ⟨.value _,_,_⟩=>true |_=>false)
  |_=>false
 |_=>false
def CN(ops:Array Oper):Bool:=ops.toList.zipIdx.any λ(o,i)=>match o.op,o.dst with
 | .call ⟨.builtin .append,_,_⟩,some d=>!(level ops (before ops) i==2)&&ops.toList.any λo'=>match o'.op with
  | .call ⟨.builtin .append,args,_⟩=>(match args.toList with
   | .tmp t::_=>t==d
   |_=>false)
  |_=>false
 |_,_=>false
def kY(ops:Array Oper):Bool:=(ops.toList.zipIdx.any λ(o,i)=>Ft ops o&& !(level ops (before ops) i==2))||(sinks ops (before ops)).isSome ||CN ops
inductive Ex where
 |normal
 |exit (id:Nat)
 |ret
 deriving DecidableEq
def iter(body:St->Option (Ex×St)):Nat->St->Option (Ex×St)
 |0,_=>none
 |n+1,s=>match body s with
  |some (.normal,s')=>iter body n s'
  |r=>r
def aV(C:bZ)(run:gw)(N:Nat):Code->St->Option (Ex×St)
 | .skip,s=>some (.normal,s)
 | .region _ ops draw,s=>match(if draw then(if kY ops then gR C run ops s else(cB C run ops (before ops) 0 ops.toList ⟨s,s.h.length,[]⟩).map (·.s))else cy C run ops ops.toList s)with
  |some s'=>some (.normal,s')
  |none=>none
 | .seq a b,s=>match aV C run N a s with
  |some (.normal,s')=>aV C run N b s'
  |r=>r
 | .cond c a b,s=>match ev s.V c with
  | .bool true=>aV C run N a s
  | .bool false=>aV C run N b s
  |_=>none
 | .block id c,s=>match aV C run N c s with
  |some (.exit cz,s')=>if cz=id then some (.normal,s')else some (.exit cz,s')
  |r=>r
 | .loop c,s=>iter (aV C run N c) N s
 | .exit id,s=>some (.exit id,s)
 | .label _,s=>some (.normal,s)
 | .scope c,s=>aV C run N c s
 | .ret,s=>some (.ret,s)
 |_,_=>none
def jm(args:List PV):Nat->PV:=λt=>args.getD t .undef
def cd(P:Program)(h:aa)(V:Nat->PV):List ResultVar->Option (List PV)
 |[]=>some []
 |r::rest=>match(match r with | .tmp t=>some (V t)| .cell a t=>fC P h t (V a)),cd P h V rest with
  |some v,some vs=>some (v::vs)
  |_,_=>none
def aQ:List PV->PV
 |[v]=>v
 |vs=>.cT vs
def kZ(C:bZ)(run:gw)(n:Nat):gw:=λf args h=>
 match C.P.funcs[f]? with
 |some fn=>match fn.body with
  |some c=>match aV C run n c ⟨jm args,h⟩with
   |some (.normal,s)|some (.ret,s)=>match cd C.P s.h s.V fn.results.toList with
    |some vs=>some (aQ vs,s.h)
    |none=>none
   |_=>none
  |none=>none
 |none=>none
def cN(C:bZ)(n:Nat):gw:=Nat.rec (λ_ _ _=>none) (λn r=>kZ C r n) n
def k9(C:bZ)(n:Nat)(f:FuncId)(args:List PV):Option PV:=
 match cN C n f args []with
 |some (r,h)=>(sQ h r).map cJ
 |none=>none
def al:List (Nat×PV)->(Nat->PV)->Nat->PV
 |[],V,t=>V t
 |(k,v)::L,V,t=>if t=k then v else al L V t
theorem DJ(V:Nat->PV):∀(L:List (Nat×PV)),(∀x∈L,V x.1=x.2)->al L V=V
 |[],_=>by funext t;rfl
 |(k,v)::L,h=>by
  funext t
  simp only[al]
  split
  ·rename_i hk;rw[hk];exact(h (k,v) (by simp)).symm
  rw[DJ V L (λx hx=>h x (by simp[hx]))]
def Ev(C:bZ)(c:Code)(s:St)(Q:Ex->St->Prop):Prop:=
 ∃ex s',Q ex s'/\∃n0,∀n m,n0<=n->n0<=m->aV C (cN C n) m c s=some (ex,s')
def ag(C:bZ)(ops:Array Oper)(l:List Oper)(s:St)(Q:St->Prop):Prop:=
 ∃s',Q s'/\∃n0,∀n,n0<=n->cy C (cN C n) ops l s=some s'
def ai(C:bZ)(lv:Nat)(f:FuncId)(args:List PV)(h:aa)(Q:PV->aa->Prop):Prop:=
 ∃r h',Q r h'/\∃n0,∀n,n0<=n->cM C (cN C n) lv f args h=some (r,h')
def aD(C:bZ)(f:FuncId)(args:List PV)(h:aa)(Q:PV->aa->Prop):Prop:=
 ∃r h',Q r h'/\∃n0,∀n,n0<=n->cN C n f args h=some (r,h')
variable{C:bZ}
theorem aD.mono{f:FuncId}{args:List PV}{h:aa}{Q Q':PV->aa->Prop}(a:aD C f args h Q)(hq:∀r h,Q r h->Q' r h):aD C f args h Q':=by
 obtain⟨r,h',q,e⟩:=a;exact⟨r,h',hq _ _ q,e⟩
theorem Ev.skip{s:St}{Q:Ex->St->Prop}(h:Q .normal s):Ev C .skip s Q:=⟨_,_,h,0,λ_ _ _ _=>rfl⟩
theorem Ev.label{l:Nat}{s:St}{Q:Ex->St->Prop}(h:Q .normal s):Ev C (.label l) s Q:=⟨_,_,h,0,λ_ _ _ _=>rfl⟩
theorem Ev.exit{id:Nat}{s:St}{Q:Ex->St->Prop}(h:Q (.exit id) s):Ev C (.exit id) s Q:=⟨_,_,h,0,λ_ _ _ _=>rfl⟩
theorem Ev.ret{s:St}{Q:Ex->St->Prop}(h:Q .ret s):Ev C .ret s Q:=⟨_,_,h,0,λ_ _ _ _=>rfl⟩
theorem Ev.scope{c:Code}{s:St}{Q:Ex->St->Prop}(h:Ev C c s Q):Ev C (.scope c) s Q:=by
 obtain⟨ex,s',q,n0,hn⟩:=h;exact⟨ex,s',q,n0,λn m h1 h2=>by simpa[aV]using hn n m h1 h2⟩
def aA(C:bZ)(b:Code)(Q:Ex->St->Prop):Ex->St->Prop
 | .normal,s=>Ev C b s Q
 |ex,s=>Q ex s
theorem Ev.seq{a b:Code}{s:St}{Q:Ex->St->Prop}(h:Ev C a s (aA C b Q)):Ev C (.seq a b) s Q:=by
 obtain⟨ex,s',q,n0,hn⟩:=h
 cases ex with
 |normal=>
  obtain⟨IM,s2,q2,n1,zc⟩:=q;exact⟨IM,s2,q2,max n0 n1,λn m h1 h2=>by simp only[aV,hn n m (by omega) (by omega),zc n m (by omega) (by omega)]⟩
 |exit id=>exact⟨_,_,q,n0,λn m h1 h2=>by simp only[aV,hn n m h1 h2]⟩
 |ret=>exact⟨_,_,q,n0,λn m h1 h2=>by simp only[aV,hn n m h1 h2]⟩
theorem Ev.AG{c:Operand}{a b:Code}{s:St}{Q:Ex->St->Prop}(hc:ev s.V c=.bool true)(h:Ev C a s Q):Ev C (.cond c a b) s Q:=by
 obtain⟨ex,s',q,n0,hn⟩:=h;exact⟨ex,s',q,n0,λn m h1 h2=>by simp only[aV,hc,hn n m h1 h2]⟩
theorem Ev.AH{c:Operand}{a b:Code}{s:St}{Q:Ex->St->Prop}(hc:ev s.V c=.bool false)(h:Ev C b s Q):Ev C (.cond c a b) s Q:=by
 obtain⟨ex,s',q,n0,hn⟩:=h;exact⟨ex,s',q,n0,λn m h1 h2=>by simp only[aV,hc,hn n m h1 h2]⟩
def az(id:Nat)(Q:Ex->St->Prop):Ex->St->Prop
 | .exit cz,s=>if cz=id then Q .normal s else Q (.exit cz) s
 |ex,s=>Q ex s
theorem Ev.block{id:Nat}{c:Code}{s:St}{Q:Ex->St->Prop}(h:Ev C c s (az id Q)):Ev C (.block id c) s Q:=by
 obtain⟨ex,s',q,n0,hn⟩:=h
 cases ex with
 |normal=>exact⟨_,_,q,n0,λn m h1 h2=>by simp only[aV,hn n m h1 h2]⟩
 |exit cz=>
  simp only[az]at q
  by_cases bE:cz=id
  ·rw[if_pos bE]at q;exact⟨_,_,q,n0,λn m h1 h2=>by simp only[aV,hn n m h1 h2,if_pos bE]⟩
  ·rw[if_neg bE]at q;exact⟨_,_,q,n0,λn m h1 h2=>by simp only[aV,hn n m h1 h2,if_neg bE]⟩
 |ret=>exact⟨_,_,q,n0,λn m h1 h2=>by simp only[aV,hn n m h1 h2]⟩
def aH(I:St->Prop)(Q:Ex->St->Prop):Ex->St->Prop
 | .normal,s=>I s
 |ex,s=>Q ex s
theorem Ev.loop{c:Code}{s:St}{Q:Ex->St->Prop}(I:Nat->St->Prop)(k:Nat)(h0:I k s)(step:∀k s,I k s->Ev C c s (aH (λs'=>∃j,j<k/\I j s') Q)):Ev C (.loop c) s Q:=by
 have key:∀(k:Nat) (s:St),I k s->∃ex s',Q ex s'/\∃n0,∀n m j,n0<=n->n0<=m->n0<=j->iter (aV C (cN C n) m c) j s=some (ex,s'):=by
  intro k
  induction k using Nat.strongRecOn with
  |ind k ih=>
   intro s hs
   obtain⟨ex,s',q,n0,hn⟩:=step k s hs
   cases ex with
   |normal=>
    obtain⟨j,hj,hI⟩:=q;obtain⟨IM,s2,q2,n1,zc⟩:=ih j hj s' hI;refine⟨IM,s2,q2,max n0 n1+1,λn m i h1 h2 h3=>?_⟩;obtain⟨i,rfl⟩:∃i',i=i'+1:=⟨i - 1,by omega⟩;simp only[iter,hn n m (by omega) (by omega),zc n m i (by omega) (by omega) (by omega)]
   |exit id=>
    refine⟨_,_,q,n0+1,λn m i h1 h2 h3=>?_⟩;obtain⟨i,rfl⟩:∃i',i=i'+1:=⟨i - 1,by omega⟩;simp only[iter,hn n m (by omega) (by omega)]
   |ret=>
    refine⟨_,_,q,n0+1,λn m i h1 h2 h3=>?_⟩;obtain⟨i,rfl⟩:∃i',i=i'+1:=⟨i - 1,by omega⟩;simp only[iter,hn n m (by omega) (by omega)]
 obtain⟨ex,s',q,n0,hn⟩:=key k s h0;exact⟨ex,s',q,n0,λn m h1 h2=>by simp only[aV,hn n m m h1 h2 h2]⟩
theorem Ev.region{id:Nat}{ops:Array Oper}{s:St}{Q:Ex->St->Prop}(h:ag C ops ops.toList s (Q .normal)):Ev C (.region id ops false) s Q:=by
 obtain⟨s',q,n0,hn⟩:=h;exact⟨.normal,s',q,n0,λn m h1 h2=>by simp only[aV,TR,if_false,hn n h1]⟩
theorem ag.nil{ops:Array Oper}{s:St}{Q:St->Prop}(h:Q s):ag C ops [] s Q:=⟨s,h,0,λ_ _=>rfl⟩
theorem ag.step{ops:Array Oper}{o:Oper}{r:List Oper}{s s1:St}{Q:St->Prop}(e:∀run,dS C run ops o s=some s1)(h:ag C ops r s1 Q):ag C ops (o::r) s Q:=by
 obtain⟨s',q,n0,hn⟩:=h;exact⟨s',q,n0,λn h1=>by simp only[cy,e,hn n h1]⟩
theorem ag.call{ops:Array Oper}{o:Oper}{r:List Oper}{s:St}{Q:St->Prop}{c:Call}{x:Operand}{f:FuncId}{cA args:List PV}(hw:aK ops o s.V=some true)(ho:o.op=.call c)(hx:c.callee=.value x)(hf:ev s.V x=.fn f cA)
  (ha:c.args.toList.map (ev s.V)++cA=args) (hc:ai C 2 f args s.h (λv h'=>ag C ops r ⟨bh s.V o.dst v,h'⟩ Q)):ag C ops (o::r) s Q:=by
 obtain⟨v,h',⟨s',q,n1,zc⟩,n0,hn⟩:=hc;refine⟨s',q,max n0 n1,λn h1=>?_⟩
 have:ak C (cN C n) 2 o.op s.V s.h=some (v,h'):=by
  rw[ho];simp only[ak,hx,fQ,hf,ha];exact hn n (by omega)
 simp only[cy,dS,hw,this,zc n (by omega)]
theorem aD.body{f:FuncId}{fn:Func}{c:Code}{args:List PV}{h:aa}{Q:PV->aa->Prop}(hf:C.P.funcs[f]?=some fn)(hb:fn.body=some c)
  (e:Ev C c ⟨jm args,h⟩ (λex s=>(ex=.normal\/ex=.ret)/\∃vs,cd C.P s.h s.V fn.results.toList=some vs/\Q (aQ vs) s.h)):aD C f args h Q:=by
 obtain⟨ex,s,⟨hex,vs,hr,q⟩,n0,hn⟩:=e;refine⟨_,_,q,n0+1,λn h1=>?_⟩;obtain⟨n,rfl⟩:∃i',n=i'+1:=⟨n - 1,by omega⟩;show kZ C (cN C n) n f args h=_;unfold kZ;rw[hf];simp only[hb,hn n n (by omega) (by omega)];rcases hex with rfl |rfl <;>simp only[hr]
def aW(C:bZ)(f:FuncId)(args:List PV)(r:PV):Prop:=∃n0,∀n,n0<=n->∃r0 hc r1,cN C n f args []=some (r0,hc)/\sQ hc r0=some r1/\cJ r1=r
theorem IN{h:aa}{p r:PV}(e:rb h p=some r):sQ h p=some r:=by unfold sQ;rw[e]
theorem aW.of{f:FuncId}{args:List PV}{r:PV}(e:aD C f args [] (λr0 hc=>∃r1,rb hc r0=some r1/\cJ r1=r)):aW C f args r:=by
 obtain⟨r0,hc,⟨r1,h1,h2⟩,n0,hn⟩:=e;exact⟨n0,λn h=>⟨r0,hc,r1,hn n h,IN h1,h2⟩⟩
theorem aW.k9{f:FuncId}{args:List PV}{r:PV}(a:aW C f args r):∃n,k9 C n f args=some r:=by
 obtain⟨n0,hn⟩:=a;obtain⟨r0,hc,r1,h1,h2,h3⟩:=hn n0 (TI _);exact⟨n0,by unfold Pm.k9;rw[h1];simp[h2,h3]⟩
theorem ai.pure{lv:Nat}{f:FuncId}{args:List PV}{r:PV}{h:aa}{Q:PV->aa->Prop}(hm:C.mode f=.pure)(hv:au args=true)(a:aW C f (ba args) r)(q:Q r h):ai C lv f args h Q:=by
 obtain⟨n0,hn⟩:=a;refine⟨r,h,q,n0,λn h1=>?_⟩;obtain⟨r0,hc,r1,e1,e2,e3⟩:=hn n h1;unfold cM;rw[hm];simp only[dp,hv,if_true,e1,e2,e3]
theorem ai.opened{f:FuncId}{args:List PV}{h:aa}{Q:PV->aa->Prop}(hm:C.mode f=.opened)
  (a:aD C f args h (λr h'=>Q r (if mM h.length r&& (h'.take h.length).all (λo=>o.es.all (eW h.length))then h'.take h.length else h'))):ai C 2 f args h Q:=by
 obtain⟨r,h',q,n0,hn⟩:=a;refine⟨r,_,q,n0,λn h1=>?_⟩;unfold cM;rw[hm];simp only[fP,da,TI,if_true,hn n h1]
 split <;>rfl
theorem ai.ext{lv:Nat}{f:FuncId}{g:List PV->Option PV}{args:List PV}{r:PV}{h:aa}{Q:PV->aa->Prop}(hm:C.mode f=.ext g)(hv:au args=true)(a:g (ba args)=some r)(q:Q r h):ai C lv f args h Q:=by
 refine⟨r,h,q,0,λn h1=>?_⟩;unfold cM;rw[hm];simp only[hv,if_true,a,TO]
section
variable{ops:Array Oper}{d:Option Nat}{ty:TypeId}{pos:String}{af:Array Edge}{g:Option (Nat×Bool)}{r:List Oper}{V:Nat->PV}{h:aa}{Q:St->Prop}
theorem ag.val{op:Op}{v:PV}{h':aa}(hw:aK ops ⟨d,op,ty,pos,af,g⟩ V=some true)(hc:∀run,ak C run 2 op V h=some (v,h'))(k:ag C ops r ⟨bh V d v,h'⟩ Q):ag C ops (⟨d,op,ty,pos,af,g⟩::r) ⟨V,h⟩ Q:=
 ag.step (s1:=⟨bh V d v,h'⟩) (λrun=>by simp only[dS,hw,hc]) k
theorem ag.off{op:Op}(hw:aK ops ⟨d,op,ty,pos,af,g⟩ V=some false)(k:ag C ops r ⟨bh V d .undef,h⟩ Q):ag C ops (⟨d,op,ty,pos,af,g⟩::r) ⟨V,h⟩ Q:=
 ag.step (s1:=⟨bh V d .undef,h⟩) (λrun=>by simp only[dS,hw]) k
def Gc:BinOp->Int->Int->Option Prop
 | .eql,a,b=>some (a=b)
 | .neq,a,b=>some (a≠b)
 | .lss,a,b=>some (a<b)
 | .leq,a,b=>some (a<=b)
 | .gtr,a,b=>some (b<a)
 | .geq,a,b=>some (b<=a)
 |_,_,_=>none
theorem ag.cmp{sW:BinOp}{t yt:TypeId}{x y:Operand}{k:IntKind}{a b:Int}{p:Prop}(hw:aK ops ⟨d,.binOp sW t x y yt,ty,pos,af,g⟩ V=some true)(hx:ev V x=.int k a)(hy:ev V y=.int k b)(hp:Gc sW a b=some p)
  (k1:p->ag C ops r ⟨bh V d (.bool true),h⟩ Q) (k2:¬p->ag C ops r ⟨bh V d (.bool false),h⟩ Q):ag C ops (⟨d,.binOp sW t x y yt,ty,pos,af,g⟩::r) ⟨V,h⟩ Q:=by
 by_cases Ks:p
 ·refine ag.val (v:=.bool true) (h':=h) hw (λrun=>?_) (k1 Ks);simp only[ak,aw,hx,hy]
  cases sW <;>simp only[Gc,Ue,reduceCtorEq]at hp <;>subst hp <;>simp[dY,fE,Ks]
 ·refine ag.val (v:=.bool false) (h':=h) hw (λrun=>?_) (k2 Ks);simp only[ak,aw,hx,hy]
  cases sW <;>simp only[Gc,Ue,reduceCtorEq]at hp <;>subst hp <;>simp[dY,fE,Ks] <;>omega
theorem ag.LA{c:Call}{x:Operand}{f:FuncId}{cA args:List PV}(hw:aK ops ⟨d,.call c,ty,pos,af,g⟩ V=some true)(hx:c.callee=.value x)(hf:ev V x=.fn f cA)
  (ha:c.args.toList.map (ev V)++cA=args) (hc:ai C 2 f args h (λv h'=>ag C ops r ⟨bh V d v,h'⟩ Q)):ag C ops (⟨d,.call c,ty,pos,af,g⟩::r) ⟨V,h⟩ Q:=
 ag.call hw rfl hx hf ha hc
end
end Go.Pm
namespace Go.Pm
inductive Kd where
 |str
 |bool
 |int (k:IntKind)
 |sl (e:TypeId)
 |arr (n:Nat) (e:TypeId)
 |st (offs:List (Nat×TypeId))
 |mp (k e:TypeId)
 |other
def kQ:TypeDesc->Kd
 | .string=>.str
 | .bool=>.bool
 | .int k=>.int k
 | .slice e=>.sl e
 | .array n e=>.arr n e
 | .struct fs=>.st (fs.toList.map λf=>(f.offset,f.type))
 | .map k e=>.mp k e
 |_=>.other
structure kM(P:Program) where
 ts:Nat->Option Nat
 ta:Nat->Option Bool
 tz:Nat->Option PV
 tb:Nat->Option Nat
 kd:Nat->Option Kd
 dF:∀t n,ts t=some n->bI P t=some n
 En:∀t n,ta t=some n->A5 P t=some n
 mC:∀t n,tz t=some n->gv P t=some n
 tT:∀t n,tb t=some n->jz P t=some n
 cI:∀t n,kd t=some n->(P.underlying t).map kQ=some n
variable{C:bZ}(T:kM C.P)
variable{ops:Array Oper}{d:Nat}{ty:TypeId}{pos:String}{af:Array Edge}{r:List Oper}{V:Nat->PV}{L:List (Nat×PV)}{h:aa}{Q:St->Prop}
theorem kx{P:Program}{t:TypeId}{k:Kd}(e:(P.underlying t).map kQ=some k):∃u,P.underlying t=some u/\kQ u=k:=by
 cases hu:P.underlying t with
 |none=>rw[hu]at e;simp at e
 |some u=>rw[hu]at e;exact⟨u,rfl,TF e⟩
theorem jE{P:Program}{t:TypeId}(e:(P.underlying t).map kQ=some .str):P.underlying t=some .string:=by
 obtain⟨u,h1,h2⟩:=kx e
 cases u <;>simp[kQ]at h2;exact h1
theorem vw{P:Program}{t:TypeId}(e:(P.underlying t).map kQ=some .bool):P.underlying t=some .bool:=by
 obtain⟨u,h1,h2⟩:=kx e
 cases u <;>simp[kQ]at h2;exact h1
theorem AW{P:Program}{t k el:TypeId}(e:(P.underlying t).map kQ=some (.mp k el)):P.underlying t=some (.map k el):=by
 obtain⟨u,h1,h2⟩:=kx e
 cases u <;>simp[kQ]at h2
 rw[h1,h2.1,h2.2]
theorem aY{P:Program}{t el:TypeId}(e:(P.underlying t).map kQ=some (.sl el)):P.underlying t=some (.slice el):=by
 obtain⟨u,h1,h2⟩:=kx e
 cases u <;>simp[kQ]at h2;subst h2;exact h1
theorem Eo{P:Program}{t el:TypeId}{n:Nat}(e:(P.underlying t).map kQ=some (.arr n el)):P.underlying t=some (.array n el):=by
 obtain⟨u,h1,h2⟩:=kx e
 cases u <;>simp[kQ]at h2;obtain⟨rfl,rfl⟩:=h2;exact h1
theorem nb{P:Program}{t:TypeId}{k:IntKind}(e:(P.underlying t).map kQ=some (.int k)):P.underlying t=some (.int k):=by
 obtain⟨u,h1,h2⟩:=kx e
 cases u <;>simp[kQ]at h2;subst h2;exact h1
theorem xK{P:Program}{t:TypeId}{os:List (Nat×TypeId)}(e:(P.underlying t).map kQ=some (.st os)):∃fs,P.underlying t=some (.struct fs)/\fs.toList.map (λf=>(f.offset,f.type))=os:=by
 obtain⟨u,h1,h2⟩:=kx e
 cases u <;>simp[kQ]at h2;exact⟨_,h1,h2⟩
def lk:List (Nat×PV)->Nat->Option PV
 |[],_=>none
 |(k,v)::L,t=>if t=k then some v else lk L t
def dn(L:List (Nat×PV)):Operand->Option PV
 | .tmp t=>lk L t
 | .const (.int k n)=>some (.int k n)
 | .const (.bool b)=>some (.bool b)
 | .const (.string s)=>some (.str s)
 | .const (.slice none 0 0)=>some (.ab true [])
 | .const (.pointer none)=>some .c9
 | .const .nilFunc=>some .ay
 | .const (.map none)=>some .eK
 | .const v=>some (cv v)
 | .func f=>some (.fn f [])
 | .global g=>(qI g).map λp=>.cU [p]
def vL(L:List (Nat×PV)):List Operand->Option (List PV)
 |[]=>some []
 |x::xs=>match dn L x,vL L xs with
  |some v,some vs=>some (v::vs)
  |_,_=>none
theorem cC{L:List (Nat×PV)}{t:Nat}{v:PV}(e:lk L t=some v)(V:Nat->PV):al L V t=v:=by
 induction L with
 |nil=>cases e
 |cons x L ih=>
  obtain⟨k,u⟩:=x;simp only[lk]at e;simp only[al]
  split at e
  ·rename_i hk;rw[if_pos hk];exact TF e
  ·rename_i hk;rw[if_neg hk];exact ih e
theorem ah{L:List (Nat×PV)}{x:Operand}{v:PV}(e:dn L x=some v)(V:Nat->PV):ev (al L V) x=v:=by
 unfold dn at e
 split at e <;>first
  |exact cC e V
  |(cases e;done)
  |(obtain rfl:=TF e;rfl)
  |(rename_i g;cases hg:qI g with
    |none=>rw[hg]at e;cases e
    |some p=>rw[hg]at e;cases e;simp[ev,hg])
theorem gn{L:List (Nat×PV)}{V:Nat->PV}:∀{xs:List Operand} {vs:List PV},vL L xs=some vs->xs.map (ev (al L V))=vs
 |[],vs,e=>by simp[vL]at e;subst e;rfl
 |x::xs,vs,e=>by
  simp only[vL]at e
  split at e
  ·rename_i v zC h1 h2
   obtain rfl:=TF e;simp[ah h1,gn h2]
  cases e
theorem bd(d:Nat)(v:PV)(L:List (Nat×PV))(V:Nat->PV):bh (al L V) (some d) v=al ((d,v)::L) V:=by
 funext t
 simp only[bh,kS,al]
theorem ag.fj{op:Op}{v:PV}{h':aa}(hc:∀run,ak C run 2 op (al L V) h=some (v,h'))(k:ag C ops r ⟨al ((d,v)::L) V,h'⟩ Q):ag C ops (⟨some d,op,ty,pos,af,none⟩::r) ⟨al L V,h⟩ Q:=
 ag.val rfl hc (by rw[bd];exact k)
theorem R.ve{op:Op}{j d':Nat}{want b:Bool}(hd:(ops.toList[j]?).bind (·.dst)=some d')(hb:lk L d'=some (.bool b))(he:(b==want)=true)(k:ag C ops (⟨some d,op,ty,pos,af,none⟩::r) ⟨al L V,h⟩ Q):
  ag C ops (⟨some d,op,ty,pos,af,some (j,want)⟩::r) ⟨al L V,h⟩ Q:=by
 obtain⟨s',q,n0,hn⟩:=k;refine⟨s',q,n0,λn h1=>?_⟩;rw[<-hn n h1];simp only[cy,dS,aK,hd,cC hb,he]
theorem R.mU{op:Op}{j d':Nat}{want b:Bool}(hd:(ops.toList[j]?).bind (·.dst)=some d')(hb:lk L d'=some (.bool b))(he:(b==want)=false)(k:ag C ops r ⟨al ((d,.undef)::L) V,h⟩ Q):
  ag C ops (⟨some d,op,ty,pos,af,some (j,want)⟩::r) ⟨al L V,h⟩ Q:=ag.off (by simp only[aK,hd,cC hb,he]) (by rw[bd];exact k)
theorem R.Jz{op:Op}{j d':Nat}{want:Bool}(hd:(ops.toList[j]?).bind (·.dst)=some d')(hb:lk L d'=some .undef)(k:ag C ops r ⟨al ((d,.undef)::L) V,h⟩ Q):
  ag C ops (⟨some d,op,ty,pos,af,some (j,want)⟩::r) ⟨al L V,h⟩ Q:=ag.off (by simp only[aK,hd,cC hb]) (by rw[bd];exact k)
theorem R.move{x:Operand}{v:PV}(hx:dn L x=some (v))(k:ag C ops r ⟨al ((d,v)::L) V,h⟩ Q):ag C ops (⟨some d,.move x,ty,pos,af,none⟩::r) ⟨al L V,h⟩ Q:=
 ag.fj (λrun=>by simp only[ak,aw,ah hx]) k
theorem R.assign{x:Operand}{v:PV}(hx:dn L x=some (v))(k:ag C ops r ⟨al ((d,v)::L) V,h⟩ Q):ag C ops (⟨some d,.assign x,ty,pos,af,none⟩::r) ⟨al L V,h⟩ Q:=
 ag.fj (λrun=>by simp only[ak,aw,ah hx]) k
theorem R.gx{c x y:Operand}{v:PV}(hc:dn L c=some (.bool true))(hx:dn L x=some (v))(k:ag C ops r ⟨al ((d,v)::L) V,h⟩ Q):ag C ops (⟨some d,.pick c x y,ty,pos,af,none⟩::r) ⟨al L V,h⟩ Q:=
 ag.fj (λrun=>by simp only[ak,aw,ah hc,ah hx,if_true]) k
theorem R.ir{c x y:Operand}{v:PV}(hc:dn L c=some (.bool false))(hx:dn L y=some (v))(k:ag C ops r ⟨al ((d,v)::L) V,h⟩ Q):ag C ops (⟨some d,.pick c x y,ty,pos,af,none⟩::r) ⟨al L V,h⟩ Q:=
 ag.fj (λrun=>by simp only[ak,aw,ah hc,ah hx,TR,if_false]) k
inductive zG(o:aC):aa->aa->Nat->Prop
 |nil:zG o [] [o] 0
 |cons {x:aC} {l l':aa} {n:Nat}:zG o l l' n->zG o (x::l) (x::l') (n+1)
theorem zG.eq{o:aC}{l l':aa}{n:Nat}(a:zG o l l' n):l'=l++[o]/\n=l.length:=by
 induction a with
 |nil=>exact⟨rfl,rfl⟩
 |cons _ ih=>obtain⟨rfl,rfl⟩:=ih;exact⟨rfl,rfl⟩
theorem R.box{t:TypeId}{x:Operand}{v:PV}{n id:Nat}{h':aa}(hx:dn L x=some (v))(h1:(cells v).all aZ=true)(hl:(cells v).length=n+1)(ha:zG ⟨.m,0,n+1,[v]⟩ h h' id)(k:ag C ops r ⟨al ((d,(.ptr id 0 0 0))::L) V,h'⟩ Q):
  ag C ops (⟨some d,.box t x,ty,pos,af,none⟩::r) ⟨al L V,h⟩ Q:=by
 obtain⟨rfl,rfl⟩:=ha.eq;exact ag.fj (λrun=>by simp[ak,aw,ah hx,h1,hl,newObj]) k
theorem R.alloc{t:TypeId}{z:PV}{n id:Nat}{h':aa}(hz:T.tz t=some z)(h1:(cells z).all aZ=true)(hl:(cells z).length=n+1)(ha:zG ⟨.m,0,n+1,[z]⟩ h h' id)(k:ag C ops r ⟨al ((d,(.ptr id 0 0 0))::L) V,h'⟩ Q):
  ag C ops (⟨some d,.alloc t,ty,pos,af,none⟩::r) ⟨al L V,h⟩ Q:=by
 obtain⟨rfl,rfl⟩:=ha.eq;exact ag.fj (λrun=>by simp[ak,aw,T.mC _ _ hz,h1,hl,newObj]) k
theorem R.gZ{t:TypeId}{x:Operand}{p c:PV}{cs:List PV}{sz:Nat}(hx:dn L x=some (p))(hs:T.ts t=some sz)(ht:T.ta t=some false)(hp:cV h p=some (c::cs))(k:ag C ops r ⟨al ((d,c)::L) V,h⟩ Q):
  ag C ops (⟨some d,.load t x,ty,pos,af,none⟩::r) ⟨al L V,h⟩ Q:=
 ag.fj (λrun=>by simp[ak,aw,ah hx,fC,T.dF _ _ hs,T.En _ _ ht,hp]) k
inductive pT:Nat->List PV->List PV->Prop
 |zero {l:List PV}:pT 0 l []
 |succ {n:Nat} {x:PV} {l l':List PV}:pT n l l'->pT (n+1) (x::l) (x::l')
theorem pT.eq{n:Nat}{l l':List PV}(a:pT n l l'):l'=l.take n/\n<=l.length:=by
 induction a with
 |zero=>simp
 |succ _ ih=>obtain⟨rfl,h⟩:=ih;simp;omega
theorem R.pU{t:TypeId}{x:Operand}{p:PV}{cs iw:List PV}{sz:Nat}(hx:dn L x=some (p))(hs:T.ts t=some (sz+1))(ht:T.ta t=some true)(hp:cV h p=some cs)(hc:pT (sz+1) cs iw)(k:ag C ops r ⟨al ((d,(.agg iw))::L) V,h⟩ Q):
  ag C ops (⟨some d,.load t x,ty,pos,af,none⟩::r) ⟨al L V,h⟩ Q:=by
 obtain⟨rfl,hle⟩:=hc.eq;exact ag.fj (λrun=>by simp[ak,aw,ah hx,fC,T.dF _ _ hs,T.En _ _ ht,hp,hle]) k
theorem lQ{s:TypeId}{f off:Nat}{ft:TypeId}{os:List (Nat×TypeId)}{sz:Nat}(hk:T.kd s=some (.st os))(hf:os[f]?=some (off,ft))(hs:T.ts ft=some (sz+1)):kV C.P s f=some (off,ft):=by
 obtain⟨fs,h1,h2⟩:=xK (T.cI _ _ hk);rw[<-h2,TS]at hf
 cases JM:fs.toList[f]? with
 |none=>rw[JM]at hf;cases hf
 |some fl=>
  rw[JM]at hf;simp at hf;obtain⟨rfl,rfl⟩:=hf;have:fs[f]?=some fl:=by simpa using JM
  simp[kV,h1,this,T.dF _ _ hs]
theorem R.fieldAddr{s:TypeId}{x:Operand}{f id ep i o off:Nat}{ft:TypeId}{os:List (Nat×TypeId)}{sz:Nat}(hx:dn L x=some (.ptr id ep i o))(hk:T.kd s=some (.st os))(hf:os[f]?=some (off,ft))(hs:T.ts ft=some (sz+1))
  (k:ag C ops r ⟨al ((d,(.ptr id ep i (o+off)))::L) V,h⟩ Q):ag C ops (⟨some d,.fieldAddr s x f,ty,pos,af,none⟩::r) ⟨al L V,h⟩ Q:=
 ag.fj (λrun=>by simp[ak,aw,ah hx,fu,lQ T hk hf hs]) k
theorem R.cmp{sW:BinOp}{t yt:TypeId}{x y:Operand}{k:IntKind}{a b:Int}{p:Prop}(hx:dn L x=some (.int k a))(hy:dn L y=some (.int k b))(hp:Gc sW a b=some p)
  (k1:p->ag C ops r ⟨al ((d,(.bool true))::L) V,h⟩ Q) (k2:¬p->ag C ops r ⟨al ((d,(.bool false))::L) V,h⟩ Q):ag C ops (⟨some d,.binOp sW t x y yt,ty,pos,af,none⟩::r) ⟨al L V,h⟩ Q:=ag.cmp rfl (ah hx V) (ah hy V) hp (λhh=>by rw[bd];exact k1 hh) (λhh=>by rw[bd];exact k2 hh)
def arith:BinOp->Int->Int->Option Int
 | .add,a,b=>some (a+b)
 | .sub,a,b=>some (a - b)
 | .mul,a,b=>some (a * b)
 |_,_,_=>none
theorem R.arith{sW:BinOp}{t yt:TypeId}{x y:Operand}{k:IntKind}{a b c c':Int}(hx:dn L x=some (.int k a))(hy:dn L y=some (.int k b))(hp:Pm.arith sW a b=some c)(hw:k.wrap c=c')(kk:ag C ops r ⟨al ((d,(.int k c'))::L) V,h⟩ Q):
  ag C ops (⟨some d,.binOp sW t x y yt,ty,pos,af,none⟩::r) ⟨al L V,h⟩ Q:=by
 refine ag.fj (λrun=>?_) kk;simp only[ak,aw,ah hx,ah hy]
 cases sW <;>simp only[Pm.arith,Ue,reduceCtorEq]at hp <;>subst hp <;>simp[dY,fE,hw]
theorem R.Mj{t yt:TypeId}{x y:Operand}{a b:ByteArray}(hx:dn L x=some (.str a))(hy:dn L y=some (.str b))(k1:a.toList=b.toList->ag C ops r ⟨al ((d,(.bool true))::L) V,h⟩ Q)(k2:a.toList≠b.toList->ag C ops r ⟨al ((d,(.bool false))::L) V,h⟩ Q):
  ag C ops (⟨some d,.binOp .eql t x y yt,ty,pos,af,none⟩::r) ⟨al L V,h⟩ Q:=by
 by_cases hh:a.toList=b.toList
 exact ag.fj (λrun=>by simp[ak,aw,ah hx,ah hy,dY,jJ,hh]) (k1 hh);exact ag.fj (λrun=>by simp[ak,aw,ah hx,ah hy,dY,jJ,hh]) (k2 hh)
def Ep:BinOp->ByteArray->ByteArray->Option Bool
 | .lss,a,b=>some (Op.bytesLess a.toList b.toList)
 | .gtr,a,b=>some (!(Op.bytesLess a.toList b.toList ||a.toList==b.toList))
 | .neq,a,b=>some (!(a.toList==b.toList))
 |_,_,_=>none
theorem R.Is{sW:BinOp}{t yt:TypeId}{x y:Operand}{a b:ByteArray}{p:Bool}(hx:dn L x=some (.str a))(hy:dn L y=some (.str b))(hp:Ep sW a b=some p)
  (k1:p=true->ag C ops r ⟨al ((d,.bool true)::L) V,h⟩ Q) (k2:p=false->ag C ops r ⟨al ((d,.bool false)::L) V,h⟩ Q):
  ag C ops (⟨some d,.binOp sW t x y yt,ty,pos,af,none⟩::r) ⟨al L V,h⟩ Q:=by
 have key:∀run,ak C run 2 (.binOp sW t x y yt) (al L V) h=some (.bool p,h):=λrun=>by
  simp only[ak,aw,ah hx,ah hy]
  cases sW <;>simp only[Ep,Ue,reduceCtorEq]at hp <;>subst hp <;>simp[dY,jJ]
 cases p with
 |false=>exact ag.fj key (k2 rfl)
 |true=>exact ag.fj key (k1 rfl)
theorem R.not{t:TypeId}{x:Operand}{b b':Bool}(hx:dn L x=some (.bool b))(hb:(!b)=b')(k:ag C ops r ⟨al ((d,(.bool b'))::L) V,h⟩ Q):ag C ops (⟨some d,.unOp .not t x,ty,pos,af,none⟩::r) ⟨al L V,h⟩ Q:=
 ag.fj (λrun=>by simp[ak,aw,ah hx,HN,hb]) k
theorem R.nilCheck{x:Operand}{id ep i o:Nat}(hx:dn L x=some (.ptr id ep i o))(k:ag C ops r ⟨al ((d,(.ptr id ep i o))::L) V,h⟩ Q):ag C ops (⟨some d,.nilCheck x,ty,pos,af,none⟩::r) ⟨al L V,h⟩ Q:=
 ag.fj (λrun=>by simp[ak,aw,ah hx]) k
theorem R.ic{t el:TypeId}{x ix:Operand}{full:Bool}{es:List PV}{k:IntKind}{i:Nat}{v:PV}{cs:List PV}{sz:Nat}(hx:dn L x=some (.ab full es))(hi:dn L ix=some (.int k (i:Int)))(hk:T.kd t=some (.sl el))(hs:T.ts el=some (sz+1))
  (hv:es[i]?=some v) (hc:cells v=cs) (hl:cs.length=sz+1) (kk:ag C ops r ⟨al ((d,(.cU cs))::L) V,h⟩ Q):ag C ops (⟨some d,.indexAddr t x ix,ty,pos,af,none⟩::r) ⟨al L V,h⟩ Q:=by
 have cx:i<es.length:=by
  rcases T8 i es.length with h |h;exact h;rw[TZ h]at hv;cases hv
 subst hc;have vY:es[i]=v:=by rw[TJ cx]at hv;exact TF hv
 exact ag.fj (λrun=>by simp[ak,aw,ah hx,ah hi,bT,aY (T.cI _ _ hk),T.dF _ _ hs,cx,vY,hl]) kk
theorem R.oV{t:TypeId}{ts:List TypeId}{x:Operand}{xs:List Operand}{s:ByteArray}(hx:dn L x=some (.str s))(hk:T.kd t=some .str)(k:ag C ops r ⟨al ((d,(.int .i64 s.size))::L) V,h⟩ Q):
  ag C ops (⟨some d,.call ⟨.builtin .len,(x::xs).toArray,(t::ts).toArray⟩,ty,pos,af,none⟩::r) ⟨al L V,h⟩ Q:=
 ag.fj (λrun=>by simp[ak,ah hx,aT,mL,jE (T.cI _ _ hk)]) k
theorem R.qc{t el:TypeId}{ts:List TypeId}{x:Operand}{xs:List Operand}{full:Bool}{es:List PV}(hx:dn L x=some (.ab full es))(hk:T.kd t=some (.sl el))(k:ag C ops r ⟨al ((d,(.int .i64 es.length))::L) V,h⟩ Q):
  ag C ops (⟨some d,.call ⟨.builtin .len,(x::xs).toArray,(t::ts).toArray⟩,ty,pos,af,none⟩::r) ⟨al L V,h⟩ Q:=
 ag.fj (λrun=>by simp[ak,ah hx,aT,mL,aY (T.cI _ _ hk)]) k
theorem R.yW{t el:TypeId}{ts:List TypeId}{x:Operand}{xs:List Operand}{id ep off len:Nat}{o:aC}(hx:dn L x=some (.an id ep off len))(hk:T.kd t=some (.sl el))(ho:getM h id ep=some o)(hle:off+len<=o.es.length)(k:ag C ops r ⟨al ((d,(.int .i64 len))::L) V,h⟩ Q):
  ag C ops (⟨some d,.call ⟨.builtin .len,(x::xs).toArray,(t::ts).toArray⟩,ty,pos,af,none⟩::r) ⟨al L V,h⟩ Q:=
 ag.fj (λrun=>by simp[ak,ah hx,aT,mL,aY (T.cI _ _ hk),ho,hle]) k
theorem R.call{x:Operand}{xs:List Operand}{DQ:Array TypeId}{f:FuncId}{cA args:List PV}(hf:dn L x=some (.fn f cA))(ha:vL L xs=some args)
  (hc:ai C 2 f (args++cA) h (λv h'=>ag C ops r ⟨al ((d,v)::L) V,h'⟩ Q)):ag C ops (⟨some d,.call ⟨.value x,xs.toArray,DQ⟩,ty,pos,af,none⟩::r) ⟨al L V,h⟩ Q:=
 ag.LA (args:=args++cA) rfl rfl (ah hf V) (by simp[gn ha]) (by simpa only[bd]using hc)
theorem Ev.ef{c:Operand}{a b:Code}{Q:Ex->St->Prop}{t:Bool}(hc:dn L c=some (.bool t))(k:Ev C (bif t then a else b) ⟨al L V,h⟩ Q):Ev C (.cond c a b) ⟨al L V,h⟩ Q:=by
 cases t
 exact Ev.AH (ah hc V) k;exact Ev.AG (ah hc V) k
theorem mE{n:Int}(h1: -9223372036854775808<=n)(h2:n<=9223372036854775807):IntKind.i64.wrap n=n:=by
 rw[IntKind.wrap_i64];omega
def s9:Nat->List PV->List (Nat×PV)
 |_,[]=>[]
 |n,a::xs=>(n,a)::s9 (n+1) xs
theorem ek(args:List PV):jm args=al (s9 0 args) (λ_=>.undef):=by
 have key:∀(xs:List PV) (n t:Nat),al (s9 n xs) (λ_=>PV.undef) t=if n<=t then xs.getD (t - n) .undef else .undef:=by
  intro xs
  induction xs with
  |nil=>intro n t;simp[s9,al]
  |cons a xs ih=>
   intro n t
   simp only[s9,al,ih]
   by_cases h:t=n
   subst h;simp
   ·rw[if_neg h]
    by_cases h2:n<=t
    rw[if_pos h2,if_pos (by omega),show t - n=(t - (n+1))+1 by omega,Vp];rw[if_neg h2,if_neg (by omega)]
 funext t
 rw[key];simp[jm]
def aF(C:bZ)(fn:Func)(Q:PV->aa->Prop)(ex:Ex)(s:St):Prop:=(ex=.normal\/ex=.ret)/\∃vs,cd C.P s.h s.V fn.results.toList=some vs/\Q (aQ vs) s.h
theorem aD.dD{f:FuncId}{fn:Func}{c:Code}{args:List PV}{h:aa}{Q:PV->aa->Prop}(hf:C.P.funcs[f]?=some fn)(hb:fn.body=some c)
  (e:Ev C c ⟨al (s9 0 args) (λ_=>.undef),h⟩ (aF C fn Q)):aD C f args h Q:=aD.body hf hb (by rw[ek];exact e)
def B3(L:List (Nat×PV)):List ResultVar->Option (List PV)
 |[]=>some []
 | .tmp t::r=>match lk L t,B3 L r with
  |some v,some vs=>some (v::vs)
  |_,_=>none
 |_=>none
theorem cX{P:Program}{L:List (Nat×PV)}{h:aa}{V:Nat->PV}:∀{l:List ResultVar} {vs:List PV},B3 L l=some vs->cd P h (al L V) l=some vs
 |[],vs,e=>by simp[B3]at e;subst e;rfl
 | .tmp t::r,vs,e=>by
  simp only[B3]at e
  split at e
  ·rename_i v zC h1 h2
   obtain rfl:=TF e;simp[cd,cC h1,cX h2]
  cases e
 | .cell _ _::r,vs,e=>by simp[B3]at e
theorem aF.ret{fn:Func}{Q:PV->aa->Prop}{vs:List PV}(hr:B3 L fn.results.toList=some vs)(q:Q (aQ vs) h):aF C fn Q .ret ⟨al L V,h⟩:=⟨.inr rfl,vs,cX hr,q⟩
theorem aA.normal{b:Code}{Q:Ex->St->Prop}{s:St}(k:Ev C b s Q):aA C b Q .normal s:=k
theorem aA.ret{b:Code}{Q:Ex->St->Prop}{s:St}(k:Q .ret s):aA C b Q .ret s:=k
theorem aA.exit{b:Code}{Q:Ex->St->Prop}{s:St}{id:Nat}(k:Q (.exit id) s):aA C b Q (.exit id) s:=k
theorem az.normal{id:Nat}{Q:Ex->St->Prop}{s:St}(k:Q .normal s):az id Q .normal s:=k
theorem az.ret{id:Nat}{Q:Ex->St->Prop}{s:St}(k:Q .ret s):az id Q .ret s:=k
theorem az.KE{id:Nat}{Q:Ex->St->Prop}{s:St}(k:Q .normal s):az id Q (.exit id) s:=by simp only[az,if_true];exact k
theorem az.JN{id cz:Nat}{Q:Ex->St->Prop}{s:St}(h:(cz==id)=false)(k:Q (.exit cz) s):az id Q (.exit cz) s:=by
 have:¬cz=id:=by simpa using h
 simp only[az,if_neg this];exact k
theorem aH.normal{I:St->Prop}{Q:Ex->St->Prop}{s:St}(k:I s):aH I Q .normal s:=k
theorem aH.ret{I:St->Prop}{Q:Ex->St->Prop}{s:St}(k:Q .ret s):aH I Q .ret s:=k
theorem aH.exit{I:St->Prop}{Q:Ex->St->Prop}{s:St}{id:Nat}(k:Q (.exit id) s):aH I Q (.exit id) s:=k
def BA(L:List (Nat×PV)):List (Nat×PV)->Prop
 |[]=>True
 |(k,v)::r=>lk L k=some v/\BA L r
theorem xN{L:List (Nat×PV)}:∀{L':List (Nat×PV)},BA L L'->∀x∈L',lk L x.1=some x.2
 |[],_,x,hx=>by cases hx
 |(k,v)::r,h,x,hx=>by
  rcases TW.1 hx with rfl |hx;exact h.1;exact xN h.2 x hx
theorem St.aB{L L':List (Nat×PV)}{V:Nat->PV}{h:aa}(hh:BA L L'):(⟨al L V,h⟩:St)=⟨al L' (al L V),h⟩:=by
 rw[DJ (al L V) L' (λx hx=>cC (xN hh x hx) V)]
theorem R.Er{t:TypeId}{z:PV}{n:Nat}(hz:T.tz t=some z)(h1:(cells z).all aZ=true)(hl:(cells z).length=n+1)(k:ag C ops r ⟨al ((d,(.ptr h.length 0 0 0))::L) V,h++[⟨.m,0,n+1,[z]⟩]⟩ Q):
  ag C ops (⟨some d,.alloc t,ty,pos,af,none⟩::r) ⟨al L V,h⟩ Q:=
 ag.fj (λrun=>by simp[ak,aw,T.mC _ _ hz,h1,hl,newObj]) k
theorem R.O8{t:TypeId}{x:Operand}{v:PV}{n:Nat}(hx:dn L x=some v)(h1:(cells v).all aZ=true)(hl:(cells v).length=n+1)(k:ag C ops r ⟨al ((d,(.ptr h.length 0 0 0))::L) V,h++[⟨.m,0,n+1,[v]⟩]⟩ Q):
  ag C ops (⟨some d,.box t x,ty,pos,af,none⟩::r) ⟨al L V,h⟩ Q:=
 ag.fj (λrun=>by simp[ak,aw,ah hx,h1,hl,newObj]) k
theorem lR{h:aa}{n:Nat}{es:List PV}:getM (h++[⟨.m,0,n,es⟩]) h.length 0=some ⟨.m,0,n,es⟩:=by simp[getM]
theorem R.Es{t:TypeId}{a x:Operand}{e v:PV}{n:Nat}(ha:dn L a=some (.ptr h.length 0 0 0))(hx:dn L x=some v)(hs:T.ts t=some n)(hl:(cells v).length=n)(h1:(cells v).all aZ=true)(he:(cells e).length=n)
  (k:ag C ops r ⟨al L V,h++[⟨.m,0,n,[v]⟩]⟩ Q):ag C ops (⟨none,.store t a x,ty,pos,af,none⟩::r) ⟨al L V,h++[⟨.m,0,n,[e]⟩]⟩ Q:=by
 have k':ag C ops r ⟨bh (al L V) none .undef,h++[(⟨.m,0,n,[v]⟩:aC)]⟩ Q:=k;refine ag.val (v:=.undef) (h':=h++[(⟨.m,0,n,[v]⟩:aC)]) rfl (λrun=>?_) k';have hr:eF 0 n e v=v:=by unfold eF;rw[if_pos ⟨rfl,he.symm⟩]
 simp[ak,aw,ah ha,ah hx,fq,T.dF _ _ hs,lR,hl,he,hr];simpa using h1
theorem Sn{h:aa}{n:Nat}{e:PV}:cV (h++[⟨.m,0,n,[e]⟩]) (.ptr h.length 0 0 0)=some (cells e):=by simp[cV,lR]
theorem R.zH{t:TypeId}{x:Operand}{e:PV}{iw:List PV}{n sz:Nat}(hx:dn L x=some (.ptr h.length 0 0 0))(hs:T.ts t=some (sz+1))(ht:T.ta t=some true)(hc:pT (sz+1) (cells e) iw)
  (k:ag C ops r ⟨al ((d,(.agg iw))::L) V,h++[⟨.m,0,n,[e]⟩]⟩ Q):ag C ops (⟨some d,.load t x,ty,pos,af,none⟩::r) ⟨al L V,h++[⟨.m,0,n,[e]⟩]⟩ Q:=
 R.pU T hx hs ht Sn hc k
end Go.Pm
namespace Go.Pm
def fm(r r':gw):Prop:=∀f args h x,r f args h=some x->r' f args h=some x
variable{C:bZ}{run run':gw}
theorem jF(L:fm run run'){lv:Nat}{f:FuncId}{args:List PV}{h:aa}{x:PV×aa}(e:dp run lv f args h=some x):dp run' lv f args h=some x:=by
 unfold dp at e ⊢
 split at e
 ·rename_i hv
  rw[if_pos hv]
  cases hr:run f (ba args) []with
  |none=>rw[hr]at e;cases e
  |some y=>rw[hr]at e;rw[L _ _ _ _ hr];exact e
 ·rename_i hv
  rw[if_neg hv]
  cases ha:kL h args with
  |none=>
   rw[ha]at e;simp only at e ⊢
   cases hd:nw (vX 8 h) args with
   |none=>rw[hd]at e;cases e
   |some a=>
    rw[hd]at e;simp only at e ⊢
    cases hr:run f (ba a) []with
    |none=>rw[hr]at e;cases e
    |some y=>rw[hr]at e;rw[L _ _ _ _ hr];exact e
  |some a=>
   rw[ha]at e;simp only at e ⊢
   cases hr:run f (ba a) []with
   |none=>rw[hr]at e;cases e
   |some y=>rw[hr]at e;rw[L _ _ _ _ hr];exact e
theorem gN{g g':List PV->aa->Option (PV×aa)}(L:∀a h x,g a h=some x->g' a h=some x){lv:Nat}{args:List PV}{h:aa}{x:PV×aa}(e:da g lv args h=some x):da g' lv args h=some x:=by
 unfold da at e ⊢
 split at e
 ·rename_i h2;rw[if_pos h2];exact L _ _ _ e
 ·rename_i h2
  rw[if_neg h2]
  split at e
  ·rename_i h1
   rw[if_pos h1]
   cases hr:g args (h.map bB)with
   |none=>rw[hr]at e;cases e
   |some y=>rw[hr]at e;rw[L _ _ _ hr];exact e
  cases e
theorem jG(L:fm run run'){lv:Nat}{f:FuncId}{args:List PV}{h:aa}{x:PV×aa}(e:fP run lv f args h=some x):fP run' lv f args h=some x:=by
 unfold fP at e ⊢
 cases hr:da (run f) lv args h with
 |none=>rw[hr]at e;cases e
 |some y=>rw[hr]at e;rw[gN (λa h x=>L f a h x) hr];exact e
theorem rN(L:fm run run'){lv:Nat}{f:FuncId}{args:List PV}{h:aa}{x:PV×aa}(e:cM C run lv f args h=some x):cM C run' lv f args h=some x:=by
 unfold cM at e ⊢
 cases hm:C.mode f <;>simp only[hm]at e ⊢
 cases e
 exact jF L e;exact jG L e;exact e;exact gN (λ_ _ _ x=>x) e;exact e
theorem gH(L:fm run run'){lv:Nat}{op:Op}{V:Nat->PV}{h:aa}{x:PV×aa}(e:ak C run lv op V h=some x):ak C run' lv op V h=some x:=by
 unfold ak at e ⊢
 split at e
 ·split at e
  ·unfold fQ at e ⊢
   split at e
   exact rN L e;exact rN L e
   cases e
  ·exact e
  ·cases e
 exact e
theorem xz(L:fm run run'){ops:Array Oper}{o:Oper}{s s':St}(e:dS C run ops o s=some s'):dS C run' ops o s=some s':=by
 unfold dS at e ⊢
 split at e
 ·cases hr:ak C run 2 o.op s.V s.h with
  |none=>rw[hr]at e;cases e
  |some y=>rw[hr]at e;rw[gH L hr];exact e
 exact e
 cases e
theorem nU(L:fm run run'){ops:Array Oper}:∀{l:List Oper} {s s':St},cy C run ops l s=some s'->cy C run' ops l s=some s'
 |[],s,s',e=>e
 |o::l,s,s',e=>by
  simp only[cy]at e ⊢
  cases hr:dS C run ops o s with
  |none=>rw[hr]at e;cases e
  |some y=>
   rw[hr]at e;rw[xz L hr];exact nU L e
theorem vA(L:fm run run'){ops:Array Oper}{b:List Nat}{i:Nat}{o:Oper}{s s':qN}(e:bS C run ops b i o s=some s'):bS C run' ops b i o s=some s':=by
 unfold bS at e ⊢
 split at e
 ·split at e
  ·rename_i hh
   rw[if_pos hh]
   cases hr:ak C run 1 o.op s.s.V s.s.h with
   |none=>rw[hr]at e;cases e
   |some y=>rw[hr]at e;rw[gH L hr];exact e
  ·rename_i hh
   rw[if_neg hh]
   split at e
   ·rename_i hl
    rw[if_pos hl]
    cases hr:ak C run 2 o.op s.s.V s.s.h with
    |none=>rw[hr]at e;cases e
    |some y=>rw[hr]at e;rw[gH L hr];exact e
   ·rename_i hl
    rw[if_neg hl];simp only at e ⊢
    split at e
    ·rename_i hc
     rw[if_pos hc]
     cases hr:ak C run 1 o.op s.s.V (bX (b.getD i 0).testBit s.L0 s.own s.s.h)with
     |none=>rw[hr]at e;cases e
     |some y=>rw[hr]at e;rw[gH L hr];exact e
    cases e
 exact e
 cases e
theorem mH(L:fm run run'){ops:Array Oper}{b:List Nat}:∀{l:List Oper} {i:Nat} {s s':qN},cB C run ops b i l s=some s'->cB C run' ops b i l s=some s'
 |[],i,s,s',e=>e
 |o::l,i,s,s',e=>by
  simp only[cB]at e ⊢
  cases hr:bS C run ops b i o s with
  |none=>rw[hr]at e;cases e
  |some y=>
   rw[hr]at e;rw[vA L hr];exact mH L e
theorem vB(L:fm run run'){ops:Array Oper}{b:List Nat}{h0:aa}{i:Nat}{o:Oper}{s s':St}(e:b8 C run ops b h0 i o s=some s'):b8 C run' ops b h0 i o s=some s':=by
 unfold b8 at e ⊢
 split at e
 ·split at e
  ·rename_i hh
   rw[if_pos hh]
   cases hr:ak C run 1 o.op s.V s.h with
   |none=>rw[hr]at e;cases e
   |some y=>rw[hr]at e;rw[gH L hr];exact e
  ·rename_i hh
   rw[if_neg hh]
   split at e
   ·rename_i hl
    rw[if_pos hl];exact e
   ·rename_i hl
    rw[if_neg hl]
    cases hs:(if gz o.op then aw C.P 1 o.op s.V s.h else none)with
    |some y=>rw[hs]at e;exact e
    |none=>
     rw[hs]at e;simp only at e ⊢
     split at e
     ·rename_i hk
      rw[if_pos hk]
      cases hr:ak C run 2 o.op s.V s.h with
      |none=>rw[hr]at e;cases e
      |some y=>rw[hr]at e;rw[gH L hr];exact e
     cases e
 exact e
 cases e
theorem mI(L:fm run run'){ops:Array Oper}{b:List Nat}{h0:aa}:∀{l:List Oper} {i:Nat} {s s':St},bD C run ops b h0 i l s=some s'->bD C run' ops b h0 i l s=some s'
 |[],i,s,s',e=>e
 |o::l,i,s,s',e=>by
  simp only[bD]at e ⊢
  cases hr:b8 C run ops b h0 i o s with
  |none=>rw[hr]at e;cases e
  |some y=>
   rw[hr]at e;rw[vB L hr];exact mI L e
theorem zt(L:fm run run'){ops:Array Oper}{s s':St}(e:gR C run ops s=some s'):gR C run' ops s=some s':=by
 unfold gR at e ⊢
 cases hr:bD C run ops (before ops) (dj (fo ops (before ops) s.V) s.h) 0 ops.toList ⟨s.V,dj (fo ops (before ops) s.V) s.h⟩with
 |none=>rw[hr]at e;cases e
 |some y=>rw[hr]at e;rw[mI L hr];exact e
theorem pg{f f':St->Option (Ex×St)}(L:∀s x,f s=some x->f' s=some x):∀{n m:Nat} {s:St} {x:Ex×St},n<=m->iter f n s=some x->iter f' m s=some x
 |0,m,s,x,_,e=>by simp[iter]at e
 |n+1,m,s,x,hm,e=>by
  obtain⟨m,rfl⟩:∃k,m=k+1:=⟨m - 1,by omega⟩;simp only[iter]at e ⊢
  cases hr:f s with
  |none=>rw[hr]at e;cases e
  |some y=>
   rw[hr]at e;rw[L _ _ hr];obtain⟨ex,s'⟩:=y
   cases ex with
   |normal=>exact pg L (by omega) e
   |exit id=>exact e
   |ret=>exact e
theorem zu(L:fm run run'){n m:Nat}(Jy:n<=m):∀(c:Code) {s:St} {x:Ex×St},aV C run n c s=some x->aV C run' m c s=some x:=by
 intro c
 induction c with
 |region id ops draw=>
  intro s x e
  simp only[aV]at e ⊢
  cases draw with
  |false=>
   simp only[TR,if_false]at e ⊢
   cases hr:cy C run ops ops.toList s with
   |none=>rw[hr]at e;cases e
   |some y=>rw[hr]at e;rw[nU L hr];exact e
  |true=>
   simp only[if_true]at e ⊢
   by_cases hk:kY ops=true
   ·simp only[hk,if_true]at e ⊢
    cases hr:gR C run ops s with
    |none=>rw[hr]at e;cases e
    |some y=>rw[hr]at e;rw[zt L hr];exact e
   ·simp only[hk]at e ⊢
    cases hr:cB C run ops (before ops) 0 ops.toList ⟨s,s.h.length,[]⟩with
    |none=>rw[hr]at e;simp at e
    |some y=>rw[hr]at e;rw[mH L hr];exact e
 |seq a b iha ihb=>
  intro s x e
  simp only[aV]at e ⊢
  cases hr:aV C run n a s with
  |none=>rw[hr]at e;cases e
  |some y=>
   rw[hr]at e;rw[iha hr];obtain⟨ex,s'⟩:=y
   cases ex with
   |normal=>exact ihb e
   |exit id=>exact e
   |ret=>exact e
 |cond c a b iha ihb=>
  intro s x e
  simp only[aV]at e ⊢
  split at e
  exact iha e;exact ihb e
  cases e
 |block id c ih=>
  intro s x e
  simp only[aV]at e ⊢
  cases hr:aV C run n c s with
  |none=>rw[hr]at e;cases e
  |some y=>rw[hr]at e;rw[ih hr];exact e
 |loop c ih=>
  intro s x e
  simp only[aV]at e ⊢;exact pg (λs x=>ih) Jy e
 |scope c ih=>
  intro s x e
  simp only[aV]at e ⊢;exact ih e
 |_=>
  intro s x e
  first
   |exact e
   |(simp[aV]at e;done)
   |(simp only[aV]at e ⊢;exact e)
theorem zw(L:fm run run'){n m:Nat}(Jy:n<=m):fm (kZ C run n) (kZ C run' m):=by
 intro f args h x e
 unfold kZ at e ⊢
 cases hf:C.P.funcs[f]? with
 |none=>rw[hf]at e;cases e
 |some fn=>
  rw[hf]at e;simp only at e ⊢
  cases hb:fn.body with
  |none=>rw[hb]at e;cases e
  |some c=>
   rw[hb]at e;simp only at e ⊢
   cases hr:aV C run n c ⟨jm args,h⟩with
   |none=>rw[hr]at e;cases e
   |some y=>rw[hr]at e;rw[zu L Jy c hr];exact e
theorem uu(C:bZ):∀n,fm (cN C n) (cN C (n+1))
 |0=>λf args h x e=>by cases e
 |n+1=>zw (uu C n) (Vn n)
theorem BK(C:bZ){n m:Nat}(h:n<=m):fm (cN C n) (cN C m):=by
 induction h with
 |refl=>exact λf args h x e=>e
 |step _ ih=>exact λf args h x e=>uu C _ f args h x (ih f args h x e)
theorem aW.qO{f:FuncId}{args:List PV}{r:PV}{n:Nat}(e:Pm.k9 C n f args=some r):aW C f args r:=by
 unfold Pm.k9 at e
 cases hr:cN C n f args []with
 |none=>rw[hr]at e;cases e
 |some y=>
  obtain⟨r0,hc⟩:=y;rw[hr]at e
  cases h2:sQ hc r0 with
  |none=>simp[h2]at e
  |some r1=>
   simp[h2]at e;exact⟨n,λm hm=>⟨r0,hc,r1,BK C hm f args [] _ hr,h2,e⟩⟩
end Go.Pm
namespace Go.Pm
def bw(C:bZ)(ops:Array Oper)(i:Nat)(l:List Oper)(x:qN)(Q:St->Prop):Prop:=
 ∃y:qN,Q y.s/\∃n0,∀n,n0<=n->cB C (cN C n) ops (before ops) i l x=some y
variable{C:bZ}(T:kM C.P)
variable{ops:Array Oper}{i:Nat}{d:Nat}{ty:TypeId}{pos:String}{af:Array Edge}{r:List Oper}{V:Nat->PV}{L:List (Nat×PV)}{h:aa}{L0:Nat}{own:List Nat}{Q:St->Prop}
theorem Ev.js{id:Nat}{Q:Ex->St->Prop}(k:bw C ops 0 ops.toList ⟨⟨al L V,h⟩,h.length,[]⟩ (Q .normal))(hk:kY ops=false:=by rfl):Ev C (.region id ops true) ⟨al L V,h⟩ Q:=by
 obtain⟨y,q,n0,hn⟩:=k;exact⟨.normal,y.s,q,n0,λn m h1 h2=>by simp only[aV,if_true,hk,TR,if_false,hn n h1,TO]⟩
theorem bw.nil{s:St}(k:Q s):bw C ops i [] ⟨s,L0,own⟩ Q:=⟨⟨s,L0,own⟩,k,0,λ_ _=>rfl⟩
theorem bw.step{o:Oper}{x x1:qN}(e:∃n0,∀n,n0<=n->bS C (cN C n) ops (before ops) i o x=some x1)(k:bw C ops (i+1) r x1 Q):bw C ops i (o::r) x Q:=by
 obtain⟨n1,zc⟩:=e;obtain⟨y,q,n0,hn⟩:=k;exact⟨y,q,max n0 n1,λn h1=>by simp only[cB,zc n (by omega),hn n (by omega)]⟩
theorem bw.plain{op:Op}{v:PV}{h':aa}(hh:cw op=false)(hc:∀run,ak C run 1 op (al L V) h=some (v,h'))(k:bw C ops (i+1) r ⟨⟨al ((d,v)::L) V,h⟩,L0,own⟩ Q):
  bw C ops i (⟨some d,op,ty,pos,af,none⟩::r) ⟨⟨al L V,h⟩,L0,own⟩ Q:=by
 refine bw.step ⟨0,λn _=>?_⟩ k;simp only[bS,aK,hh,if_true,hc,bd]
theorem bw.two{op:Op}{v:PV}{h':aa}(hh:cw op=true)(hl:level ops (before ops) i=2)(hc:∃n0,∀n,n0<=n->ak C (cN C n) 2 op (al L V) h=some (v,h'))(k:bw C ops (i+1) r ⟨⟨al ((d,v)::L) V,h'⟩,h'.length,[]⟩ Q):
  bw C ops i (⟨some d,op,ty,pos,af,none⟩::r) ⟨⟨al L V,h⟩,L0,own⟩ Q:=by
 obtain⟨n0,hn⟩:=hc;refine bw.step ⟨n0,λn h1=>?_⟩ k;simp only[bS,aK,hh,Uk,if_false,hl,if_true,hn n h1,bd]
theorem bw.one{op:Op}{v:PV}(hh:cw op=true)(hl:level ops (before ops) i≠2)(eJ:aL h=true)(ls:(op.operands.toList.all λy=>br (aI h) (ev (al L V) y))=true)
  (hc:∃n0,∀n,n0<=n->ak C (cN C n) 1 op (al L V) h=some (v,h)) (k:bw C ops (i+1) r ⟨⟨al ((d,v)::L) V,h⟩,h.length,[]⟩ Q):
  bw C ops i (⟨some d,op,ty,pos,af,none⟩::r) ⟨⟨al L V,h⟩,h.length,[]⟩ Q:=by
 obtain⟨n0,hn⟩:=hc;refine bw.step ⟨n0,λn h1=>?_⟩ k;have hM:bX ((before ops).getD i 0).testBit h.length [] h=h:=by simp[bX]
 simp only[bS,aK,hh,Uk,if_false,hl,hM,eJ,ls,and_self,if_true,hn n h1,bd];simp
theorem jU(f:Nat->Bool)(cs:List PV):bM f cs=cs.all (br f):=by
 induction cs with
 |nil=>rfl
 |cons c r ih=>simp[bM,ih]
theorem bw.read{op:Op}{v:PV}(hh:cw op=true)(eJ:aL h=true)(ls:(op.operands.toList.all λy=>br (aI h) (ev (al L V) y))=true)
  (hc:∃n0,∀n lv,n0<=n->1<=lv->ak C (cN C n) lv op (al L V) h=some (v,h)) (k:bw C ops (i+1) r ⟨⟨al ((d,v)::L) V,h⟩,h.length,[]⟩ Q):
  bw C ops i (⟨some d,op,ty,pos,af,none⟩::r) ⟨⟨al L V,h⟩,h.length,[]⟩ Q:=by
 obtain⟨n0,hn⟩:=hc
 by_cases hl:level ops (before ops) i=2
 exact bw.two hh hl ⟨n0,λn h1=>hn n 2 h1 (by omega)⟩ k;exact bw.one hh hl eJ ls ⟨n0,λn h1=>hn n 1 h1 (TI _)⟩ k
theorem D.move{x:Operand}{v:PV}(hx:dn L x=some v)(k:bw C ops (i+1) r ⟨⟨al ((d,v)::L) V,h⟩,L0,own⟩ Q):bw C ops i (⟨some d,.move x,ty,pos,af,none⟩::r) ⟨⟨al L V,h⟩,L0,own⟩ Q:=
 bw.plain (h':=h) rfl (λrun=>by simp only[ak,aw,ah hx]) k
theorem D.assign{x:Operand}{v:PV}(hx:dn L x=some v)(k:bw C ops (i+1) r ⟨⟨al ((d,v)::L) V,h⟩,L0,own⟩ Q):bw C ops i (⟨some d,.assign x,ty,pos,af,none⟩::r) ⟨⟨al L V,h⟩,L0,own⟩ Q:=
 bw.plain (h':=h) rfl (λrun=>by simp only[ak,aw,ah hx]) k
theorem D.fieldAddr{s:TypeId}{x:Operand}{f id ep j o off:Nat}{ft:TypeId}{os:List (Nat×TypeId)}{sz:Nat}(hx:dn L x=some (.ptr id ep j o))(hk:T.kd s=some (.st os))(hf:os[f]?=some (off,ft))(hs:T.ts ft=some (sz+1))
  (k:bw C ops (i+1) r ⟨⟨al ((d,.ptr id ep j (o+off))::L) V,h⟩,L0,own⟩ Q):bw C ops i (⟨some d,.fieldAddr s x f,ty,pos,af,none⟩::r) ⟨⟨al L V,h⟩,L0,own⟩ Q:=
 bw.plain (h':=h) rfl (λrun=>by simp[ak,aw,ah hx,fu,lQ T hk hf hs]) k
theorem D.gZ{t:TypeId}{x:Operand}{p c:PV}{cs:List PV}{sz:Nat}(eJ:aL h=true)(hx:dn L x=some p)(hv:br (aI h) p=true)(hs:T.ts t=some sz)(ht:T.ta t=some false)(hp:cV h p=some (c::cs))
  (k:bw C ops (i+1) r ⟨⟨al ((d,c)::L) V,h⟩,h.length,[]⟩ Q):bw C ops i (⟨some d,.load t x,ty,pos,af,none⟩::r) ⟨⟨al L V,h⟩,h.length,[]⟩ Q:=
 bw.read rfl eJ (by simp[Op.operands,ah hx,hv]) ⟨0,λn lv _ _=>by simp[ak,aw,ah hx,fC,T.dF _ _ hs,T.En _ _ ht,hp]⟩ k
theorem D.pU{t:TypeId}{x:Operand}{p:PV}{cs iw:List PV}{sz:Nat}(eJ:aL h=true)(hx:dn L x=some p)(hv:br (aI h) p=true)(hs:T.ts t=some (sz+1))(ht:T.ta t=some true)(hp:cV h p=some cs)(hc:pT (sz+1) cs iw)
  (k:bw C ops (i+1) r ⟨⟨al ((d,.agg iw)::L) V,h⟩,h.length,[]⟩ Q):bw C ops i (⟨some d,.load t x,ty,pos,af,none⟩::r) ⟨⟨al L V,h⟩,h.length,[]⟩ Q:=by
 obtain⟨rfl,hle⟩:=hc.eq;exact bw.read rfl eJ (by simp[Op.operands,ah hx,hv]) ⟨0,λn lv _ _=>by simp[ak,aw,ah hx,fC,T.dF _ _ hs,T.En _ _ ht,hp,hle]⟩ k
theorem D.ic{t el:TypeId}{x ix:Operand}{full:Bool}{es:List PV}{k:IntKind}{j:Nat}{v:PV}{cs:List PV}{sz:Nat}(eJ:aL h=true)(hx:dn L x=some (.ab full es))(hi:dn L ix=some (.int k (j:Int)))(hk:T.kd t=some (.sl el))(hs:T.ts el=some (sz+1))
  (hv:es[j]?=some v) (hc:cells v=cs) (hl:cs.length=sz+1) (kk:bw C ops (i+1) r ⟨⟨al ((d,.cU cs)::L) V,h⟩,h.length,[]⟩ Q):bw C ops i (⟨some d,.indexAddr t x ix,ty,pos,af,none⟩::r) ⟨⟨al L V,h⟩,h.length,[]⟩ Q:=by
 have cx:j<es.length:=by
  rcases T8 j es.length with h |h;exact h;rw[TZ h]at hv;cases hv
 subst hc;have vY:es[j]=v:=by rw[TJ cx]at hv;exact TF hv
 exact bw.read rfl eJ (by simp[Op.operands,ah hx,ah hi,br]) ⟨0,λn lv _ _=>by simp[ak,aw,ah hx,ah hi,bT,aY (T.cI _ _ hk),T.dF _ _ hs,cx,vY,hl]⟩ kk
theorem D.pL{x:Operand}{xs:List Operand}{DQ:Array TypeId}{f:FuncId}{cA args:List PV}{v:PV}(eJ:aL h=true)(hf:dn L x=some (.fn f cA))(ha:vL L xs=some args)(hm:C.mode f=.pure)(Dm:au (args++cA)=true)
  (lE:bM (aI h) args=true) (NT:bM (aI h) cA=true) (a:aW C f (ba (args++cA)) v)
  (k:bw C ops (i+1) r ⟨⟨al ((d,v)::L) V,h⟩,h.length,[]⟩ Q):bw C ops i (⟨some d,.call ⟨.value x,xs.toArray,DQ⟩,ty,pos,af,none⟩::r) ⟨⟨al L V,h⟩,h.length,[]⟩ Q:=by
 obtain⟨n0,hn⟩:=a;have he:=gn (V:=V) ha;refine bw.read rfl eJ ?_ ⟨n0,λn lv h1 h2=>?_⟩ k
 ·rw[TH]
  intro y hy
  simp[Op.operands,Call.operands]at hy;rcases hy with rfl |hy;rw[ah hf];simpa[br]using NT
  ·rw[jU]at lE;have:ev (al L V) y∈args:=by rw[<-he];exact U1.2 ⟨y,hy,rfl⟩
   exact TH.1 lE _ this
 ·obtain⟨r0,hc,r1,e1,e2,e3⟩:=hn n h1;simp only[ak,fQ,ah hf];unfold cM;rw[hm];simp only[he,dp,Dm,if_true,e1,e2,e3]
end Go.Pm
namespace Go.Pm
def L2(R:Value->PV->Prop)(vs:List Value)(cs:List PV):Prop:=vs.length=cs.length/\∀j,j<cs.length->R (vs.getD j undef) (cs.getD j .any)
inductive aS(w:World)(A:Nat->Prop):Value->PV->Prop
 |int (k:IntKind) (n:Int):aS w A (.int k n) (.int k n)
 |bool (b:Bool):aS w A (.bool b) (.bool b)
 |str (s:ByteArray):aS w A (.string s) (.str s)
 |c9:aS w A (.pointer none) .c9
 |eK:aS w A (.map none) .eK
 |ay:aS w A .nilFunc .ay
 |agg (vs:List Value) (cs:List PV):vs.length=cs.length->(∀j,j<cs.length->aS w A (vs.getD j undef) (cs.getD j .any))->aS w A (.agg vs.toArray) (.agg cs)
 |cT (vs:List Value) (cs:List PV):vs.length=cs.length->(∀j,j<cs.length->aS w A (vs.getD j undef) (cs.getD j .any))->aS w A (.tuple vs.toArray) (.cT cs)
 |fn (f:FuncId) (vs:List Value) (cs:List PV):vs.length=cs.length->(∀j,j<cs.length->aS w A (vs.getD j undef) (cs.getD j .any))->aS w A (.func (.func f) #[] vs.toArray) (.fn f cs)
 |j4 (f:FuncId) (k:Nat) (vs:List Value) (cs:List PV):vs.length=cs.length->(∀j,j<cs.length->aS w A (vs.getD j undef) (cs.getD j .any))->aS w A (.func (.func f) (vs.take k).toArray (vs.drop k).toArray) (.j4 f k cs)
 |dP (a:Option Addr) (cap:Nat) (full:Bool):(full=true->cap=0)->aS w A (.slice a 0 cap) (.ab full [])
 |ab (b off cap sz:Nat) (full:Bool) (es:List PV) (j0:Nat->Nat->Value):es≠[]->es.length<=cap->(full=true->cap=es.length)->¬A b->0<sz->
   (∀i,i<es.length->(cells (es.getD i .any)).length=sz)->
   (∀i j,i<es.length->j<sz->w.cell? ⟨b,off+(i * sz+j),none⟩=some (j0 i j))->
   (∀i j,i<es.length->j<sz->aS w A (j0 i j) ((cells (es.getD i .any)).getD j .any))->
   aS w A (.slice (some ⟨b,off,none⟩) es.length cap) (.ab full es)
 |cU (b off:Nat) (cs:List PV) (j0:Nat->Value):cs≠[]->¬A b->(∀j,j<cs.length->w.cell? ⟨b,off+j,none⟩=some (j0 j))->
   (∀j,j<cs.length->aS w A (j0 j) (cs.getD j .any))->aS w A (.pointer (some ⟨b,off,none⟩)) (.cU cs)
inductive ar(w:World)(A:Nat->Prop)(Y:List (Nat×Nat))(h:aa):Value->PV->Prop
 |val {v:Value} {p:PV}:aS w A v p->ar w A Y h v p
 |undef:ar w A Y h (.tuple #[]) .undef
 |any (v:Value):ar w A Y h v .any
 |an (v:Value) (id ep off len:Nat) (o:aC) (bc:Nat×Nat):(∃(a:Option Addr) (l c:Nat),v=.slice a l c)->h[id]?=some o->Y[id]?=some bc->o.mu≠.x->(ep<=o.ep/\0<o.aP)->
   (o.ep=ep->off+len<=o.es.length->∃cap,v=.slice (some ⟨bc.1,off * o.aP,none⟩) len cap/\off+cap=bc.2)->
   ar w A Y h v (.an id ep off len)
 |ptr (v:Value) (id ep i off:Nat) (o:aC) (bc:Nat×Nat):(∃a:Addr,v=.pointer (some a))->h[id]?=some o->Y[id]?=some bc->o.mu≠.x->(ep<=o.ep/\0<o.aP)->
   (o.ep=ep->v=.pointer (some ⟨bc.1,i * o.aP+off,none⟩))->
   ar w A Y h v (.ptr id ep i off)
 |fe (v:Value) (id:Nat) (o:aC) (bc:Nat×Nat):(∃r:Nat,v=.map (some r))->h[id]?=some o->Y[id]?=some bc->o.mu≠.x->(o.ep=0->v=.map (some bc.1))->ar w A Y h v (.fe id)
 |agg (vs:List Value) (cs:List PV):vs.length=cs.length->(∀j,j<cs.length->ar w A Y h (vs.getD j Go.undef) (cs.getD j .any))->ar w A Y h (.agg vs.toArray) (.agg cs)
 |cT (vs:List Value) (cs:List PV):vs.length=cs.length->(∀j,j<cs.length->ar w A Y h (vs.getD j Go.undef) (cs.getD j .any))->ar w A Y h (.tuple vs.toArray) (.cT cs)
 |fn (f:FuncId) (vs:List Value) (cs:List PV):vs.length=cs.length->(∀j,j<cs.length->ar w A Y h (vs.getD j Go.undef) (cs.getD j .any))->ar w A Y h (.func (.func f) #[] vs.toArray) (.fn f cs)
 |j4 (f:FuncId) (k:Nat) (vs:List Value) (cs:List PV):vs.length=cs.length->(∀j,j<cs.length->ar w A Y h (vs.getD j Go.undef) (cs.getD j .any))->ar w A Y h (.func (.func f) (vs.take k).toArray (vs.drop k).toArray) (.j4 f k cs)
def Mb(h:aa)(Y:List (Nat×Nat))(b:Nat):Prop:=∃(id:Nat) (o:aC) (bc:Nat×Nat),h[id]?=some o/\Y[id]?=some bc/\o.mu=.m/\bc.1=b
def Av(F:Nat->Prop)(h:aa)(Y:List (Nat×Nat))(b:Nat):Prop:=F b\/Mb h Y b
def Mz(w:World)(A:Nat->Prop)(Y:List (Nat×Nat))(h:aa)(o:aC)(bc:Nat×Nat):Prop:=
 ∃T cs,w.heap[bc.1]?=some (.cells cs T (0,0))/\o.es.length<=bc.2/\bc.2 * o.aP<=cs.size/\0<o.aP/\
  (∀(i:Nat) (e:PV),o.es[i]?=some e->(cells e).length=o.aP/\∀(j:Nat) (p:PV),(cells e)[j]?=some p->∃v:Value,cs[i * o.aP+j]?=some v/\ar w A Y h v p)
def MA(w:World)(A:Nat->Prop)(Y:List (Nat×Nat))(h:aa)(o:aC)(bc:Nat×Nat):Prop:=
 o.aP=0/\∃es clock,w.heap[bc.1]?=some (.map es clock)/\es.size=o.es.length/\
  (∀(i:Nat) (e:PV),o.es[i]?=some e->∃(k v:PV) (m:MapEntry),e=.agg [k,v]/\es[i]?=some m/\ar w A Y h m.key k/\ar w A Y h m.val v)
def gq(w:World)(A:Nat->Prop)(Y:List (Nat×Nat))(h:aa)(o:aC)(bc:Nat×Nat):Prop:=Mz w A Y h o bc\/MA w A Y h o bc
theorem gq.c{w:World}{A:Nat->Prop}{Y:List (Nat×Nat)}{h:aa}{o:aC}{bc:Nat×Nat}(r:gq w A Y h o bc)(hz:0<o.aP):Mz w A Y h o bc:=by
 rcases r with r |r;exact r;have:=r.1;omega
theorem gq.m{w:World}{A:Nat->Prop}{Y:List (Nat×Nat)}{h:aa}{o:aC}{bc:Nat×Nat}(r:gq w A Y h o bc)(hz:o.aP=0):MA w A Y h o bc:=by
 rcases r with⟨_,_,_,_,_,h4,_⟩|r;omega;exact r
theorem gq.lt{w:World}{A:Nat->Prop}{Y:List (Nat×Nat)}{h:aa}{o:aC}{bc:Nat×Nat}(r:gq w A Y h o bc):bc.1<w.heap.size:=by
 rcases r with⟨_,_,h1,_⟩|⟨_,_,_,h1,_⟩ <;>exact(TY.1 h1).1
def cp(w:World)(A:Nat->Prop):Prop:=∀(g:Nat) (p:PV),qI g=some p->¬A g/\∃v:Value,w.cell? ⟨g,0,none⟩=some v/\aS w A v p
structure aG(w:World)(F:Nat->Prop)(Y:List (Nat×Nat))(h:aa):Prop where
 len:Y.length=h.length
 fin:∀b,F b->b<w.heap.size
 obj:∀(id:Nat) (o:aC) (bc:Nat×Nat),h[id]?=some o->Y[id]?=some bc->o.mu≠.x->gq w (Av F h Y) Y h o bc
 eZ:∀(id cz:Nat) (o o':aC) (bc bW:Nat×Nat),id≠cz->h[id]?=some o->h[cz]?=some o'->Y[id]?=some bc->Y[cz]?=some bW->o.mu=.m->o'.mu≠.x->bc.1≠bW.1
 out:∀(id:Nat) (o:aC) (bc:Nat×Nat),h[id]?=some o->Y[id]?=some bc->(o.mu=.m\/o.mu=.f)->¬F bc.1
 di:cp w (Av F h Y)
def yl(h:aa)(Y:List (Nat×Nat))(h':aa)(Y':List (Nat×Nat)):Prop:=
 ∀(id:Nat) (o:aC) (bc:Nat×Nat),h[id]?=some o->Y[id]?=some bc->o.mu≠.x->
  ∃(o':aC) (bW:Nat×Nat),h'[id]?=some o'/\Y'[id]?=some bW/\o'.mu≠.x/\(o.ep<=o'.ep/\(0<o.aP->0<o'.aP))/\(o.ep=o'.ep->o'.aP=o.aP/\(0<o.aP->o'.es.length=o.es.length)/\bW=bc)
theorem yl.refl(h:aa)(Y:List (Nat×Nat)):yl h Y h Y:=λ_ o bc e1 e2 e3=>⟨o,bc,e1,e2,e3,⟨TI _,λh=>h⟩,λ_=>⟨rfl,λ_=>rfl,rfl⟩⟩
theorem yl.trans{h h1 h2:aa}{Y Y1 Y2:List (Nat×Nat)}(a:yl h Y h1 Y1)(b:yl h1 Y1 h2 Y2):yl h Y h2 Y2:=by
 intro id o bc e1 e2 e3
 obtain⟨o1,c1,f1,f2,f3,f4,f5⟩:=a id o bc e1 e2 e3;obtain⟨o2,c2,g1,g2,g3,g4,g5⟩:=b id o1 c1 f1 f2 f3;have f41:=f4.1;have g41:=g4.1;refine⟨o2,c2,g1,g2,g3,⟨T' f4.1 g4.1,λhz=>g4.2 (f4.2 hz)⟩,λe=>?_⟩;obtain⟨p1,p2,p3⟩:=f5 (by omega);obtain⟨q1,q2,q3⟩:=g5 (by omega);exact⟨q1.trans p1,λhz=>(q2 (f4.2 hz)).trans (p2 hz),q3.trans p3⟩
def yG[i:Inhabited Prop]:Prop:=i.default
variable[iD:Inhabited Prop]
structure cP(w:World)(h:aa)(Y:List (Nat×Nat))(w':World)(h':aa)(Y':List (Nat×Nat)):Prop where
 size:w.heap.size<=w'.heap.size
 len:h.length<=h'.length
 aB:∀b,b<w.heap.size->¬Mb h Y b->w'.heap[b]?=w.heap[b]?
 shr:∀b,b<w.heap.size->Mb h' Y' b->Mb h Y b
 refs:yl h Y h' Y'
 Bg:∀(id:Nat) (o:aC),h[id]?=some o->o.mu≠.m->h'[id]?=some o/\Y'[id]?=Y[id]?
 os:w'.os=w.os
 tape:w'.tape=w.tape
 output:w'.output=w.output
 drawn:yG->w.drawn<=w'.drawn
theorem cP.refl(w:World)(h:aa)(Y:List (Nat×Nat)):cP w h Y w h Y where
 size:=TI _
 len:=TI _
 aB _ _ _:=rfl
 shr _ _ m:=m
 refs:=yl.refl h Y
 Bg id o h1 _:=⟨h1,rfl⟩
 os:=rfl
 tape:=rfl
 output:=rfl
 drawn:=λ_=>TI _
theorem cP.trans{w w1 w2:World}{h h1 h2:aa}{Y Y1 Y2:List (Nat×Nat)}(a:cP w h Y w1 h1 Y1)(b:cP w1 h1 Y1 w2 h2 Y2):cP w h Y w2 h2 Y2 where
 size:=T' a.size b.size
 len:=T' a.len b.len
 aB k hk hm:=by
  have h1:¬Mb h1 Y1 k:=λm=>hm (a.shr k hk m)
  rw[b.aB k (T4 hk a.size) h1,a.aB k hk hm]
 shr k hk m:=a.shr k hk (b.shr k (T4 hk a.size) m)
 refs:=a.refs.trans b.refs
 Bg id o e1 e2:=by
  obtain⟨f1,f2⟩:=a.Bg id o e1 e2;obtain⟨g1,g2⟩:=b.Bg id o f1 e2;exact⟨g1,g2.trans f2⟩
 os:=b.os.trans a.os
 tape:=b.tape.trans a.tape
 output:=b.output.trans a.output
 drawn:=λd=>T' (a.drawn d) (b.drawn d)
theorem qB{w:World}{b off:Nat}{v:Value}(h:w.cell? ⟨b,off,none⟩=some v):b<w.heap.size:=block_lt_of_cell h
theorem iE{w w':World}{b off:Nat}(h:w'.heap[b]?=w.heap[b]?):w'.cell? ⟨b,off,none⟩=w.cell? ⟨b,off,none⟩:=by
 simp[World.cell?,h]
theorem aS.mono{w w':World}{A A':Nat->Prop}(hw:∀b,b<w.heap.size->¬A b->w'.heap[b]?=w.heap[b]?)(hA:∀b,b<w.heap.size->¬A b->¬A' b)
  {v:Value} {p:PV} (h:aS w A v p):aS w' A' v p:=by
 induction h with
 |int k n=>exact .int k n
 |bool b=>exact .bool b
 |str s=>exact .str s
 |c9=>exact .c9
 |eK=>exact .eK
 |ay=>exact .ay
 |agg vs cs hl _ ih=>exact .agg vs cs hl ih
 |cT vs cs hl _ ih=>exact .cT vs cs hl ih
 |fn f vs cs hl _ ih=>exact .fn f vs cs hl ih
 |j4 f k vs cs hl _ ih=>exact .j4 f k vs cs hl ih
 |dP a cap full hf=>exact .dP a cap full hf
 |ab b off cap sz full es j0 h1 h2 h3 h4 h5 h6 h7 _ ih=>
  have aU:0<es.length:=Vq.2 h1;have hb:b<w.heap.size:=qB (h7 0 0 aU h5);exact .ab b off cap sz full es j0 h1 h2 h3 (hA b hb h4) h5 h6 (λi j hi hj=>by rw[iE (hw b hb h4)];exact h7 i j hi hj) ih
 |cU b off cs j0 h1 h2 h3 _ ih=>
  have aU:0<cs.length:=Vq.2 h1;have hb:b<w.heap.size:=qB (h3 0 aU);exact .cU b off cs j0 h1 (hA b hb h2) (λj hj=>by rw[iE (hw b hb h2)];exact h3 j hj) ih
theorem aS.ia{w:World}{A A':Nat->Prop}(hA:∀b,A' b->A b){v:Value}{p:PV}(h:aS w A v p):aS w A' v p:=
 h.mono (λ_ _ _=>rfl) (λb _ hn ha=>hn (hA b ha))
theorem Av.mono{w w':World}{h h':aa}{Y Y':List (Nat×Nat)}{F:Nat->Prop}(s:cP w h Y w' h' Y')(b:Nat)(hb:b<w.heap.size)(hn:¬Av F h Y b):¬Av F h' Y' b:=by
 rintro(hf |hm);exact hn (.inl hf);exact hn (.inr (s.shr b hb hm))
theorem ar.F9{w w':World}{h h':aa}{Y Y':List (Nat×Nat)}{A A':Nat->Prop}(f:yl h Y h' Y')(hw:∀b,b<w.heap.size->¬A b->w'.heap[b]?=w.heap[b]?)(hA:∀b,b<w.heap.size->¬A b->¬A' b)
  {v:Value} {p:PV} (hv:ar w A Y h v p):ar w' A' Y' h' v p:=by
 induction hv with
 |val hs=>exact .val (hs.mono hw hA)
 |undef=>exact .undef
 |any v=>exact .any v
 |an v id ep off len o bc h0 h1 h2 h3 h4 h5=>
  obtain⟨o',bW,f1,f2,f3,f4,f5⟩:=f id o bc h1 h2 h3;have Sj:=h4.1;have f41:=f4.1;refine .an v id ep off len o' bW h0 f1 f2 f3 ⟨T' h4.1 f4.1,f4.2 h4.2⟩ (λe1 e2=>?_);obtain⟨g1,g2,g3⟩:=f5 (by omega);have g2:=g2 h4.2;obtain⟨cap,k1,k2⟩:=h5 (by omega) (by omega);exact⟨cap,by rw[k1,g3,g1],by rw[k2,g3]⟩
 |ptr v id ep i off o bc h0 h1 h2 h3 h4 h5=>
  obtain⟨o',bW,f1,f2,f3,f4,f5⟩:=f id o bc h1 h2 h3;have Sj:=h4.1;have f41:=f4.1;refine .ptr v id ep i off o' bW h0 f1 f2 f3 ⟨T' h4.1 f4.1,f4.2 h4.2⟩ (λe1=>?_);obtain⟨g1,g2,g3⟩:=f5 (by omega);rw[h5 (by omega),g3,g1]
 |fe v id o bc h0 h1 h2 h3 h5=>
  obtain⟨o',bW,f1,f2,f3,f4,f5⟩:=f id o bc h1 h2 h3;have f41:=f4.1;refine .fe v id o' bW h0 f1 f2 f3 (λe1=>?_);obtain⟨g1,g2,g3⟩:=f5 (by omega);rw[h5 (by omega),g3]
 |agg vs cs hl _ ih=>exact .agg vs cs hl ih
 |cT vs cs hl _ ih=>exact .cT vs cs hl ih
 |fn f vs cs hl _ ih=>exact .fn f vs cs hl ih
 |j4 f k vs cs hl _ ih=>exact .j4 f k vs cs hl ih
theorem ar.mono{w w':World}{h h':aa}{Y Y':List (Nat×Nat)}{F:Nat->Prop}(s:cP w h Y w' h' Y'){v:Value}{p:PV}(hv:ar w (Av F h Y) Y h v p):
  ar w' (Av F h' Y') Y' h' v p:=hv.F9 s.refs (λb hb hn=>s.aB b hb (λm=>hn (.inr m))) (λb hb hn=>Av.mono s b hb hn)
theorem cp.mono{w w':World}{A A':Nat->Prop}(hw:∀b,b<w.heap.size->¬A b->w'.heap[b]?=w.heap[b]?)(hA:∀b,b<w.heap.size->¬A b->¬A' b)(G:cp w A):cp w' A':=λg p e=>by
 obtain⟨h1,v,h2,h3⟩:=G g p e;have hg:=qB h2;exact⟨hA g hg h1,v,by rw[iE (hw g hg h1)];exact h2,h3.mono hw hA⟩
theorem cp.pG{w w':World}{h h':aa}{Y Y':List (Nat×Nat)}{F:Nat->Prop}(s:cP w h Y w' h' Y')(G:cp w (Av F h Y)):cp w' (Av F h' Y'):=G.mono (λb hb hn=>s.aB b hb (λm=>hn (.inr m))) (λb hb hn=>Av.mono s b hb hn)
theorem cp.ia{w:World}{A A':Nat->Prop}(hA:∀b,A' b->A b)(G:cp w A):cp w A':=λg p e=>by
 obtain⟨h1,v,h2,h3⟩:=G g p e;exact⟨λh=>h1 (hA g h),v,h2,h3.ia hA⟩
theorem cp.rel{w:World}{A:Nat->Prop}(G:cp w A){g:Nat}{p:PV}(e:qI g=some p):aS w A (.pointer (some ⟨g,0,none⟩)) (.cU [p]):=by
 obtain⟨h1,v,h2,h3⟩:=G g p e;refine .cU g 0 [p] (λ_=>v) (by simp) h1 (λj hj=>?_) (λj hj=>?_);simp at hj;subst hj;exact h2;simp at hj;subst hj;exact h3
section
variable{w:World}{A:Nat->Prop}{Y:List (Nat×Nat)}{h:aa}{v:Value}
theorem ar.cr{k:IntKind}{n:Int}(hv:ar w A Y h v (.int k n)):v=.int k n:=by cases hv with |val hs=>cases hs;rfl
theorem ar.dN{b:Bool}(hv:ar w A Y h v (.bool b)):v=.bool b:=by cases hv with |val hs=>cases hs;rfl
theorem ar.gg{s:ByteArray}(hv:ar w A Y h v (.str s)):v=.string s:=by cases hv with |val hs=>cases hs;rfl
theorem ar.Bo(hv:ar w A Y h v .undef):v=.tuple #[]:=by
 cases hv with
 |val hs=>cases hs
 |undef=>rfl
theorem ar.nC{cs:List PV}(hv:ar w A Y h v (.agg cs)):∃vs:List Value,v=.agg vs.toArray/\vs.length=cs.length/\∀j,j<cs.length->ar w A Y h (vs.getD j Go.undef) (cs.getD j .any):=by
 cases hv with
 |val hs=>cases hs with |agg vs _ hl hh=>exact⟨vs,rfl,hl,λj hj=>.val (hh j hj)⟩
 |agg vs _ hl hh=>exact⟨vs,rfl,hl,hh⟩
theorem ar.l9{cs:List PV}(hv:ar w A Y h v (.cT cs)):∃vs:List Value,v=.tuple vs.toArray/\vs.length=cs.length/\∀j,j<cs.length->ar w A Y h (vs.getD j Go.undef) (cs.getD j .any):=by
 cases hv with
 |val hs=>cases hs with |cT vs _ hl hh=>exact⟨vs,rfl,hl,λj hj=>.val (hh j hj)⟩
 |cT vs _ hl hh=>exact⟨vs,rfl,hl,hh⟩
theorem ar.yR{f:FuncId}{cs:List PV}(hv:ar w A Y h v (.fn f cs)):∃vs:List Value,v=.func (.func f) #[] vs.toArray/\vs.length=cs.length/\∀j,j<cs.length->ar w A Y h (vs.getD j Go.undef) (cs.getD j .any):=by
 cases hv with
 |val hs=>cases hs with |fn _ vs _ hl hh=>exact⟨vs,rfl,hl,λj hj=>.val (hh j hj)⟩
 |fn _ vs _ hl hh=>exact⟨vs,rfl,hl,hh⟩
theorem ar.FZ{f:FuncId}{k:Nat}{cs:List PV}(hv:ar w A Y h v (.j4 f k cs)):∃vs:List Value,v=.func (.func f) (vs.take k).toArray (vs.drop k).toArray/\vs.length=cs.length/\∀j,j<cs.length->ar w A Y h (vs.getD j Go.undef) (cs.getD j .any):=by
 cases hv with
 |val hs=>cases hs with |j4 _ _ vs _ hl hh=>exact⟨vs,rfl,hl,λj hj=>.val (hh j hj)⟩
 |j4 _ _ vs _ hl hh=>exact⟨vs,rfl,hl,hh⟩
theorem ar.dM{f:Bool}{es:List PV}(hv:ar w A Y h v (.ab f es)):aS w A v (.ab f es):=by cases hv with |val hs=>exact hs
theorem ar.nZ{cs:List PV}(hv:ar w A Y h v (.cU cs)):aS w A v (.cU cs):=by cases hv with |val hs=>exact hs
theorem ar.cO{id ep off len:Nat}(hv:ar w A Y h v (.an id ep off len)):id<h.length/\(∀o:aC,h[id]?=some o->ep<=o.ep/\0<o.aP)/\
  (∀(o:aC) (bc:Nat×Nat),h[id]?=some o->Y[id]?=some bc->o.mu≠.x->o.ep=ep->off+len<=o.es.length->∃cap,v=.slice (some ⟨bc.1,off * o.aP,none⟩) len cap/\off+cap=bc.2):=by
 cases hv with
 |val hs=>cases hs
 |an _ _ _ _ _ o bc h0 h1 h2 h3 h4 h5=>
  refine⟨?_,λo' e=>?_,λo' bW e1 e2 e3 e4 e5=>?_⟩
  ·rcases T8 id h.length with hh |hh
   ·exact hh
   ·rw[TZ hh]at h1;cases h1
  rw[h1]at e;obtain rfl:=TF e;exact h4
  ·rw[h1]at e1;rw[h2]at e2;obtain rfl:=TF e1;obtain rfl:=TF e2;exact h5 e4 e5
theorem ar.qu{id ep i off:Nat}(hv:ar w A Y h v (.ptr id ep i off)):id<h.length/\(∀o:aC,h[id]?=some o->ep<=o.ep/\0<o.aP)/\
  (∀(o:aC) (bc:Nat×Nat),h[id]?=some o->Y[id]?=some bc->o.mu≠.x->o.ep=ep->v=.pointer (some ⟨bc.1,i * o.aP+off,none⟩)):=by
 cases hv with
 |val hs=>cases hs
 |ptr _ _ _ _ _ o bc h0 h1 h2 h3 h4 h5=>
  refine⟨?_,λo' e=>?_,λo' bW e1 e2 e3 e4=>?_⟩
  ·rcases T8 id h.length with hh |hh
   ·exact hh
   ·rw[TZ hh]at h1;cases h1
  rw[h1]at e;obtain rfl:=TF e;exact h4
  ·rw[h1]at e1;rw[h2]at e2;obtain rfl:=TF e1;obtain rfl:=TF e2;exact h5 e4
theorem ar.xu(hv:ar w A Y h v .eK):v=.map none:=by cases hv with |val hs=>cases hs;rfl
theorem ar.xw{id:Nat}(hv:ar w A Y h v (.fe id)){o:aC}{bc:Nat×Nat}(e1:h[id]?=some o)(e2:Y[id]?=some bc)(e3:o.ep=0):v=.map (some bc.1):=by
 cases hv with
 |val hs=>cases hs
 |fe _ _ o' bW h0 h1 h2 h3 h5=>
  rw[e1]at h1;rw[e2]at h2;obtain rfl:=TF h1;obtain rfl:=TF h2;exact h5 e3
end
theorem ar.yz{w:World}{A:Nat->Prop}{Y:List (Nat×Nat)}{h:aa}{v:Value}{p:PV}(hv:ar w A Y h v p)(hp:aJ p=true):aS w A v p:=by
 have all:∀cs:List PV,au cs=true->∀j,j<cs.length->aJ (cs.getD j .any)=true:=by
  intro cs
  induction cs with
  |nil=>intro _ j hj;simp at hj
  |cons c r ih=>
   intro h j hj
   simp[au]at h
   cases j with
   |zero=>simpa using h.1
   |succ j=>simpa using ih h.2 j (by simpa using hj)
 induction hv with
 |val hs=>exact hs
 |undef=>simp[aJ]at hp
 |any v=>simp[aJ]at hp
 |an=>simp[aJ]at hp
 |ptr=>simp[aJ]at hp
 |fe=>simp[aJ]at hp
 |agg vs cs hl _ ih=>exact .agg vs cs hl λj hj=>ih j hj (all cs (by simpa[aJ]using hp) j hj)
 |cT vs cs hl _ ih=>exact .cT vs cs hl λj hj=>ih j hj (all cs (by simpa[aJ]using hp) j hj)
 |fn f vs cs hl _ ih=>exact .fn f vs cs hl λj hj=>ih j hj (all cs (by simpa[aJ]using hp) j hj)
 |j4 f k vs cs hl _ ih=>exact .j4 f k vs cs hl λj hj=>ih j hj (all cs (by simpa[aJ]using hp) j hj)
theorem aS.cells{w:World}{A:Nat->Prop}{v:Value}{p:PV}(hv:aS w A v p):v.cells.size=(Pm.cells p).length/\∀(j:Nat) (q:PV),(Pm.cells p)[j]?=some q->∃u:Value,v.cells[j]?=some u/\aS w A u q:=by
 have one:∀(v:Value) (p:PV),aS w A v p->v.cells= #[v]->Pm.cells p=[p]->v.cells.size=(Pm.cells p).length/\∀(j:Nat) (q:PV),(Pm.cells p)[j]?=some q->∃u:Value,v.cells[j]?=some u/\aS w A u q:=by
  intro v p h e1 e2
  rw[e1,e2];refine⟨rfl,λj q hq=>?_⟩
  cases j with
  |zero=>simp at hq;subst hq;exact⟨v,rfl,h⟩
  |succ j=>simp at hq
 cases hv with
 |agg vs cs hl hh=>
  refine⟨by simpa[Value.cells,Pm.cells]using hl,λj q hq=>?_⟩
  have hj:j<cs.length:=by
   rcases T8 j cs.length with h |h;exact h;simp[Pm.cells,TZ h]at hq
  have Mo:cs[j]?=some q:=hq;refine⟨vs.getD j undef,?_,?_⟩
  ·simp only[Value.cells];have:j<vs.length:=by omega
   simp[List.getD,this]
  ·have:=hh j hj;rwa[T7 (l:=cs),Mo]at this
 |_=>exact one _ _ (by first |exact .int _ _ |exact .bool _ |exact .str _ |exact .c9 |exact .eK |exact .ay |(rename_i a b;exact .cT _ _ a b)|(rename_i a b;exact .fn _ _ _ a b)|(rename_i a b;exact .j4 _ _ _ _ a b)|(rename_i a;exact .dP _ _ _ a)|(rename_i h1 h2 h3 h4 h5 h6 h7 h8;exact .ab _ _ _ _ _ _ _ h1 h2 h3 h4 h5 h6 h7 h8)|(rename_i h1 h2 h3 h4;exact .cU _ _ _ _ h1 h2 h3 h4)) rfl rfl
end Go.Pm
