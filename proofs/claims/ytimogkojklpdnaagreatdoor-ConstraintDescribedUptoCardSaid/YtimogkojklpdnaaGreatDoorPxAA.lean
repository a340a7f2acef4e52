/-
  Pm, a part. Conditions: none.
-/
import GoSem.Decode
import GoSem.Step
import Derived.Orders
import Derived.Laws.BitsLemmas
import Derived.Laws.AppendOwn
import Derived.Laws.MakeOwn
import Derived.Below
set_option linter.unusedVariables false
set_option linter.unusedSimpArgs false
set_option linter.unnecessarySimpa false
abbrev abi:=@Option.some.inj
abbrev abj:=@List.getElem?_append_left
abbrev abk:=@List.all_eq_true
abbrev abl:=@List.getElem?_set_self
abbrev abm:=@List.getElem?_set_ne
abbrev abn:=@Nat.le_refl
abbrev abo:=@List.getElem?_eq_getElem
abbrev abp:=@List.mem_append
abbrev abq:=@Bool.and_eq_true
abbrev abr:=@List.length_append
abbrev abt:=@List.getElem?_append_right
abbrev abu:=@List.mem_cons
abbrev abv:=@Prod.mk.inj
abbrev abw:=@Option.map_some
abbrev abx:=@List.length_cons
abbrev aby:=@List.mem_of_getElem?
abbrev abz:=@Bool.false_eq_true
abbrev abA:=@List.eq_nil_of_length_eq_zero
abbrev abB:=@List.getElem?_map
abbrev abC:=@List.getElem?_eq_none
abbrev abD:=@List.map_cons
abbrev abE:=@Nat.zero_add
abbrev abF:=@List.getElem?_take
abbrev abG:=@List.pairwise_cons
abbrev abH:=@List.cons_append
abbrev abI:=@List.append_assoc
abbrev abJ:=@List.append_nil
abbrev abK:=@List.getD_eq_getElem?_getD
abbrev abL:=@Array.getElem?_eq_some_iff
abbrev abM:=@List.map_nil
abbrev abN:=@Bool.or_eq_true
abbrev abO:=@List.take_of_length_le
abbrev abP:=@List.mem_singleton
abbrev abQ:=@Array.getElem?_toList
abbrev abR:=@List.drop_eq_nil_of_le
abbrev abS:=@List.getElem?_drop
abbrev abT:=@List.nil_append
abbrev abU:=@Option.some.injEq
abbrev abV:=@List.getElem_mem
abbrev abW:=@List.take_append_of_le_length
abbrev abX:=@List.length_nil
abbrev abY:=@Nat.mul_le_mul_right
abbrev abZ:=@List.mem_map
abbrev ab0:=@Nat.lt_or_ge
abbrev ab1:=@List.getElem?_take_of_lt
abbrev ab2:=@Bool.true_eq_false
abbrev ab3:=@List.mem_of_mem_take
abbrev ab4:=@List.mem_of_mem_drop
abbrev ab5:=@Nat.lt_of_lt_of_le
abbrev ab6:=@List.map_append
abbrev ab7:=@List.length_take
abbrev ab8:=@Nat.eq_of_beq_eq_true
abbrev ab9:=@Nat.add_mul
abbrev aca:=@Option.map_eq_some_iff
abbrev acb:=@Nat.le_trans
abbrev acd:=@Ne.symm
abbrev ace:=@List.all_cons
abbrev acf:=@List.mem_filter
abbrev acg:=@List.eq_of_mem_replicate
abbrev ach:=@List.map_congr_left
abbrev aci:=@List.any_eq_true
abbrev acj:=@List.all_append
abbrev ack:=@List.take_length
abbrev acm:=@List.length_filter_le
abbrev acn:=@List.set_set
abbrev aco:=@List.getElem?_of_mem
abbrev acp:=@List.mem_flatMap
abbrev acq:=@List.drop_append_of_le_length
abbrev acr:=@List.ext_getElem?
abbrev acs:=@Bool.true_and
abbrev acu:=@Nat.le_of_ble_eq_true
abbrev acv:=@List.drop_zero
abbrev acw:=@Nat.sub_self
abbrev acx:=@UInt8.lt_iff_toNat_lt
abbrev acy:=@List.length_map
abbrev acz:=@Array.getElem?_eq_getElem
abbrev acA:=@List.set_append_right
abbrev acB:=@List.not_mem_nil
abbrev acC:=@List.append_of_mem
abbrev acD:=@Bool.false_or
abbrev acE:=@List.take_take
abbrev acF:=@Int.eq_ofNat_of_zero_le
abbrev acG:=@Bool.not_eq_true'
abbrev acH:=@List.any_eq_false
abbrev acI:=@Int.toNat_natCast
abbrev acJ:=@List.flatMap_cons
abbrev acK:=@Array.getD_eq_getD_getElem?
abbrev acL:=@Array.length_toList
abbrev acM:=@Nat.zero_le
abbrev acN:=@Bool.and_true
abbrev acO:=@List.countP_cons
abbrev acP:=@List.getElem?_zipWith
abbrev acQ:=@List.length_replicate
abbrev acR:=@List.mem_or_eq_of_mem_set
abbrev acS:=@List.all_nil
abbrev acT:=@Array.ext'
abbrev acU:=@List.pairwise_append
abbrev acV:=@Nat.lt_trichotomy
abbrev acW:=@Nat.add_assoc
abbrev acX:=@List.length_drop
abbrev acY:=@Nat.add_zero
abbrev acZ:=@List.mem_iff_getElem?
abbrev ac0:=@List.take_append_drop
abbrev ac1:=@List.getElem?_toArray
abbrev ac2:=@List.all_eq_false
abbrev ac3:=@List.drop_eq_getElem_cons
abbrev ac4:=@List.getElem?_eq_some_iff
abbrev ac5:=@Bool.or_eq_false_iff
abbrev ac6:=@Nat.zero_mul
abbrev ac7:=@List.length_pos_iff
abbrev ac8:=@List.mem_replicate
abbrev ac9:=@Nat.min_eq_left
abbrev ada:=@List.filter_append
abbrev adb:=@List.cons.injEq
abbrev ade:=@Nat.le_succ
abbrev adf:=@Array.getElem?_eq_none
abbrev adg:=@Array.mem_of_getElem?
abbrev adh:=@List.map_map
abbrev adi:=@Nat.mul_le_mul
abbrev adj:=@Array.getElem?_modify
abbrev adk:=@Array.getElem?_append
abbrev adl:=@List.eq_nil_or_concat
abbrev adm:=@List.getElem?_concat_length
abbrev adn:=@List.getElem?_zipIdx
abbrev ado:=@Nat.mod_lt
abbrev adp:=@Bool.not_true
abbrev adq:=@List.take_succ_cons
abbrev adr:=@List.getD_cons_zero
abbrev ads:=@List.getD_cons_succ
abbrev adt:=@Classical.byContradiction
abbrev adu:=@Option.map_none
abbrev adw:=@List.findIdx?_eq_none_iff
abbrev adx:=@Option.isSome_iff_exists
abbrev ady:=@Bool.true_or
abbrev adz:=@Array.getElem?_replicate
abbrev adA:=@List.countP_append
abbrev adB:=@Bool.not_false
abbrev adC:=@Option.map_id'
abbrev adD:=@List.mem_range
abbrev adE:=@List.size_toArray
abbrev adF:=@List.range_succ_eq_map
abbrev adG:=@Bool.and_self
abbrev adH:=@List.any_cons
abbrev adI:=@List.set_getElem_self
abbrev adJ:=@List.countP_mono_left
abbrev adK:=@Array.mem_toList_iff
abbrev adL:=@List.length_set
abbrev adM:=@List.mem_cons_of_mem
abbrev adN:=@Nat.mul_comm
abbrev adO:=@List.getElem_of_mem
abbrev adP:=@List.getElem?_range
abbrev adQ:=@Int.toNat_of_nonneg
abbrev adR:=@Option.map_map
abbrev adS:=@List.drop_take
abbrev adT:=@List.take_zero
abbrev adU:=@List.sum_cons
abbrev adV:=@Prod.mk.injEq
structure Wq(Q:Prop):Prop where
 o:Q
theorem wA {P Q0:Prop} (q0:Q0) (h:Wq Q0->P:=by
  intro q0
  repeat' (first |(refine Rn.go ?_;conv=>whnf)|refine .mk ?_ |refine .tt ?_ |refine .ff ?_ |refine .m2 ?_ |refine .m3 ?_ |fail)
  exact q0.1):P:=h ⟨q0⟩
theorem wB {P Q0:Prop} (q0:Q0) (h:Wq Q0->P:=by
  intro q0
  repeat' (first |refine ah.nil ?_ |(apply R.xy;exact rfl;exact rfl;exact rfl)|(apply R.oH;exact rfl;exact rfl;exact rfl)|(apply R.TP;exact rfl;exact rfl)|(apply R.move;exact rfl)|(apply R.assign;exact rfl)|(apply R.iY;exact rfl;exact rfl)|(apply R.iW;exact rfl;exact rfl)|(apply R.gD T6;exact rfl;exact rfl;exact rfl;exact rfl)|(apply R.pn T6;exact rfl;exact rfl;exact rfl;exact rfl;exact(by repeat constructor))|(apply R.fieldAddr T6;exact rfl;exact rfl;exact rfl;exact rfl)|(apply R.zn T6;exact rfl;exact rfl;exact rfl;exact rfl;exact rfl)|(apply R.arith;exact rfl;exact rfl;exact rfl;exact(mI (by omega) (by omega)))|(apply R.max;exact rfl;exact rfl)|(apply R.neg;exact rfl;exact(mI (by omega) (by omega)))|(apply R.build T6;exact rfl;exact rfl;exact rfl;exact rfl;exact rfl;exact rfl)|(apply R.buildSlice T6;exact rfl;exact rfl;exact rfl;exact rfl;exact(by decide);exact rfl;exact rfl;exact rfl;exact rfl;exact rfl)|(apply R.O0;exact rfl;exact rfl;exact(by assumption))|(apply R.O1;exact rfl;exact rfl;exact(by assumption))|(apply R.not;exact rfl;exact rfl)|(apply R.rV T6;exact rfl;exact rfl)|(apply R.extract;exact rfl;exact rfl)|(apply R.box;exact rfl;exact rfl;exact rfl;exact .nil)|(apply R.box;exact rfl;exact rfl;exact rfl;exact(.cons .nil))|(apply R.aaJ;exact rfl;exact rfl;exact rfl)|(apply R.alloc T6;exact rfl;exact rfl;exact rfl;exact .nil)|(apply R.alloc T6;exact rfl;exact rfl;exact rfl;exact(.cons .nil))|(apply R.alloc T6;exact rfl;exact rfl;exact rfl;exact(.cons (.cons .nil)))|(apply R.OY T6;exact rfl;exact rfl;exact rfl)|(apply R.OZ T6;exact rfl;exact rfl;exact rfl;exact rfl;exact rfl;exact rfl)|(apply R.rX T6;exact rfl;exact rfl;exact rfl;exact(by assumption);exact rfl)|(apply R.CU T6;exact rfl;exact rfl;exact rfl;exact(by assumption);exact(by repeat constructor))|(apply R.CT T6;exact rfl;exact rfl;exact rfl;exact(by repeat constructor))|(apply R.nilCheck;exact rfl)|refine Ev.seq ?_ |refine Ev.region ?_ |refine Ev.mJ ?_ |refine aY.nil ?_ |(apply D.move;exact rfl)|(apply D.assign;exact rfl)|(apply D.xy;exact rfl;exact rfl;exact rfl;exact rfl)|(apply D.arith;exact rfl;exact rfl;exact rfl;exact(mI (by omega) (by omega)))|(apply D.zn T6;exact rfl;exact rfl;exact rfl;exact rfl;exact rfl)|(apply D.build T6;exact rfl;exact rfl;exact rfl;exact rfl;exact rfl;exact rfl)|(apply D.fieldAddr T6;exact rfl;exact rfl;exact rfl;exact rfl)|(apply D.gD T6;exact(by first |exact rfl |assumption);exact rfl;exact rfl;exact rfl;exact rfl;exact rfl)|(apply D.pn T6;exact(by first |exact rfl |assumption);exact rfl;exact rfl;exact rfl;exact rfl;exact rfl;exact(by repeat constructor))|(apply Ev.fJ;exact rfl)|refine Ev.ret ?_ |refine Ev.skip ?_ |refine Ev.block ?_ |refine aD.normal ?_ |refine aD.ret ?_ |refine az.normal ?_ |refine az.ret ?_ |refine aL.normal ?_ |refine aL.ret ?_ |(apply aJ.ret;exact rfl)|(apply aJ.aaL T6;exact rfl)|(apply D.rX T6;exact(by assumption);exact rfl;exact rfl;exact rfl;exact(by assumption);exact rfl)|(apply D.CU T6;exact(by assumption);exact rfl;exact rfl;exact rfl;exact(by assumption);exact(by repeat constructor))|(apply D.CT T6;exact(by first |exact rfl |assumption);exact rfl;exact rfl;exact rfl;exact(by repeat constructor))|fail)
  exact q0.1):P:=h ⟨q0⟩
theorem wC {P Q0 Q1:Prop} (q0:Q0) (q1:Q1) (h:Wq Q0->Wq Q1->P:=by
  intro q0 q1
  repeat' (first |(refine Rn.go ?_;conv=>whnf)|refine .mk ?_ |refine .tt ?_ |refine .ff ?_ |refine .m3 ?_ |refine .mk (λhc=>?_) λhc=>?_ |fail)
  ·revert hc;exact q0.1
  ·revert hc;exact q1.1):P:=h ⟨q0⟩ ⟨q1⟩
theorem wD {P Q0:Prop} (q0:Q0) (h:Wq Q0->P:=by
  intro q0
  repeat' (first |refine ah.nil ?_ |(apply R.xy;exact rfl;exact rfl;exact rfl)|(apply R.oH;exact rfl;exact rfl;exact rfl)|(apply R.TP;exact rfl;exact rfl)|(apply R.move;exact rfl)|(apply R.assign;exact rfl)|(apply R.iY;exact rfl;exact rfl)|(apply R.iW;exact rfl;exact rfl)|(apply R.pn T6;exact rfl;exact rfl;exact rfl;exact rfl;exact(by repeat constructor))|(apply R.arith;exact rfl;exact rfl;exact rfl;exact(mI (by omega) (by omega)))|(apply R.build T6;exact rfl;exact rfl;exact rfl;exact rfl;exact rfl;exact rfl)|(apply R.buildSlice T6;exact rfl;exact rfl;exact rfl;exact rfl;exact(by decide);exact rfl;exact rfl;exact rfl;exact rfl;exact rfl)|(apply R.not;exact rfl;exact rfl)|(apply R.rV T6;exact rfl;exact rfl)|(apply R.alloc T6;exact rfl;exact rfl;exact rfl;exact(.cons .nil))|refine Ev.seq ?_ |refine Ev.region ?_ |refine Ev.mJ ?_ |refine aY.nil ?_ |(apply D.move;exact rfl)|(apply D.assign;exact rfl)|(apply D.arith;exact rfl;exact rfl;exact rfl;exact(mI (by omega) (by omega)))|(apply Ev.fJ;exact rfl)|refine Ev.ret ?_ |refine Ev.skip ?_ |refine Ev.block ?_ |refine aD.normal ?_ |refine aD.ret ?_ |refine az.normal ?_ |refine aL.normal ?_ |(apply aJ.ret;exact rfl)|fail)
  exact q0.1):P:=h ⟨q0⟩
theorem wE {P Q0 Q1:Prop} (q0:Q0) (q1:Q1) (h:Wq Q0->Wq Q1->P:=by
  intro q0 q1
  repeat' (first |refine ah.nil ?_ |(apply R.xy;exact rfl;exact rfl;exact rfl)|(apply R.oH;exact rfl;exact rfl;exact rfl)|(apply R.TP;exact rfl;exact rfl)|(apply R.move;exact rfl)|(apply R.assign;exact rfl)|(apply R.iY;exact rfl;exact rfl)|(apply R.iW;exact rfl;exact rfl)|(apply R.gD T6;exact rfl;exact rfl;exact rfl;exact rfl)|(apply R.pn T6;exact rfl;exact rfl;exact rfl;exact rfl;exact(by repeat constructor))|(apply R.fieldAddr T6;exact rfl;exact rfl;exact rfl;exact rfl)|(apply R.cmp;exact rfl;exact rfl;exact rfl;all_goals intro hc)|(apply R.arith;exact rfl;exact rfl;exact rfl;exact(mI (by omega) (by omega)))|(apply R.neg;exact rfl;exact(mI (by omega) (by omega)))|(apply R.build T6;exact rfl;exact rfl;exact rfl;exact rfl;exact rfl;exact rfl)|(apply R.O0;exact rfl;exact rfl;exact(by assumption))|(apply R.O1;exact rfl;exact rfl;exact(by assumption))|(apply R.not;exact rfl;exact rfl)|(apply R.yT T6;exact rfl;exact rfl)|(apply R.rV T6;exact rfl;exact rfl)|(apply R.rX T6;exact rfl;exact rfl;exact rfl;exact(by assumption);exact rfl)|(apply R.CU T6;exact rfl;exact rfl;exact rfl;exact(by assumption);exact(by repeat constructor))|(apply R.CT T6;exact rfl;exact rfl;exact rfl;exact(by repeat constructor))|refine Ev.seq ?_ |refine Ev.region ?_ |refine Ev.mJ ?_ |refine aY.nil ?_ |(apply D.move;exact rfl)|(apply D.assign;exact rfl)|(apply D.xy;exact rfl;exact rfl;exact rfl;exact rfl)|(apply D.iY;exact rfl;exact rfl)|(apply D.cmp;exact rfl;exact rfl;exact rfl;all_goals intro hc)|(apply D.fieldAddr T6;exact rfl;exact rfl;exact rfl;exact rfl)|(apply D.gD T6;exact(by first |exact rfl |assumption);exact rfl;exact rfl;exact rfl;exact rfl;exact rfl)|(apply D.pn T6;exact(by first |exact rfl |assumption);exact rfl;exact rfl;exact rfl;exact rfl;exact rfl;exact(by repeat constructor))|(apply Ev.fJ;exact rfl)|refine Ev.ret ?_ |refine Ev.skip ?_ |refine Ev.exit ?_ |refine Ev.block ?_ |refine aD.normal ?_ |refine aD.ret ?_ |refine aD.exit ?_ |refine az.normal ?_ |refine az.ret ?_ |refine az.Mm ?_ |refine aL.normal ?_ |refine aL.ret ?_ |refine aL.exit ?_ |(apply aJ.ret;exact rfl)|fail)
  ·revert hc;exact q0.1
  ·revert hc;exact q1.1):P:=h ⟨q0⟩ ⟨q1⟩
theorem wF {P Q0:Prop} (q0:Q0) (h:Wq Q0->P:=by
  intro q0
  repeat' (first |refine ah.nil ?_ |(apply R.xy;exact rfl;exact rfl;exact rfl)|(apply R.move;exact rfl)|(apply R.assign;exact rfl)|(apply R.iY;exact rfl;exact rfl)|(apply R.pn T6;exact rfl;exact rfl;exact rfl;exact rfl;exact(by repeat constructor))|(apply R.fieldAddr T6;exact rfl;exact rfl;exact rfl;exact rfl)|(apply R.cmp;exact rfl;exact rfl;exact rfl;all_goals intro hc;all_goals(try(exfalso;omega)))|(apply R.arith;exact rfl;exact rfl;exact rfl;exact(mI (by omega) (by omega)))|(apply R.build T6;exact rfl;exact rfl;exact rfl;exact rfl;exact rfl;exact rfl)|(apply R.buildSlice T6;exact rfl;exact rfl;exact rfl;exact rfl;exact(by decide);exact rfl;exact rfl;exact rfl;exact rfl;exact rfl)|(apply R.not;exact rfl;exact rfl)|(apply R.rV T6;exact rfl;exact rfl)|(apply R.OY T6;exact rfl;exact rfl;exact rfl)|(apply R.OZ T6;exact rfl;exact rfl;exact rfl;exact rfl;exact rfl;exact rfl)|(apply R.Jc T6;exact rfl;exact rfl;exact rfl;exact rfl)|refine Ev.seq ?_ |refine Ev.region ?_ |refine aY.nil ?_ |(apply D.assign;exact rfl)|(apply Ev.fJ;exact rfl)|refine Ev.ret ?_ |refine Ev.skip ?_ |refine Ev.exit ?_ |refine Ev.block ?_ |refine aD.normal ?_ |refine aD.exit ?_ |refine az.normal ?_ |refine az.Mm ?_ |refine aL.normal ?_ |refine aL.exit ?_ |(apply aJ.ret;exact rfl)|fail)
  revert hc;exact q0.1):P:=h ⟨q0⟩
theorem wG {P Q0:Prop} (q0:Q0) (h:Wq Q0->P:=by
  intro q0
  repeat' (first |(refine Rn.go ?_;conv=>whnf)|refine .mk ?_ |refine .tt ?_ |refine .ff ?_ |refine .m2 ?_ |refine .lp λv H lp=>?_ |fail)
  revert lp;revert H;revert v;exact q0.1):P:=h ⟨q0⟩
theorem wH {P Q0:Prop} (q0:Q0) (h:Wq Q0->P:=by
  intro q0
  repeat' (first |(refine Rn.go ?_;conv=>whnf)|((fail_if_success (show Tj _ _ _ _ _));refine .mk ?_)|refine .tt ?_ |refine .ff ?_ |fail)
  exact q0.1):P:=h ⟨q0⟩
theorem wI {P Q0 Q1 Q2:Prop} (q0:Q0) (q1:Q1) (q2:Q2) (h:Wq Q0->Wq Q1->Wq Q2->P:=by
  intro q0 q1 q2
  repeat' (first |(refine Rn.go ?_;conv=>whnf)|refine .mk ?_ |refine .tt ?_ |refine .ff ?_ |refine .mk (λhc=>?_) λhc=>?_ |fail)
  ·revert hc;exact q0.1
  ·revert hc;revert hc;exact q1.1
  ·revert hc;revert hc;exact q2.1):P:=h ⟨q0⟩ ⟨q1⟩ ⟨q2⟩
theorem wJ {P Q0 Q1 Q2:Prop} (q0:Q0) (q1:Q1) (q2:Q2) (h:Wq Q0->Wq Q1->Wq Q2->P:=by
  intro q0 q1 q2
  repeat' (first |(refine Rn.go ?_;conv=>whnf)|refine .mk ?_ |refine .tt ?_ |refine .mk (λhc=>?_) λhc=>?_ |fail)
  ·revert hc;revert hc;exact q0.1
  ·revert hc;revert hc;exact q1.1
  ·revert hc;exact q2.1):P:=h ⟨q0⟩ ⟨q1⟩ ⟨q2⟩
theorem wK {P Q0 Q1:Prop} (q0:Q0) (q1:Q1) (h:Wq Q0->Wq Q1->P:=by
  intro q0 q1
  repeat' (first |(refine Rn.go ?_;conv=>whnf)|refine .mk ?_ |refine .tt ?_ |refine .mk (λhc=>?_) λhc=>?_ |refine .lp λv H lp=>?_ |fail)
  ·revert lp;revert H;revert v;revert hc;exact q0.1
  ·revert hc;exact q1.1):P:=h ⟨q0⟩ ⟨q1⟩
theorem wL {P Q0 Q1 Q2 Q3 Q4 Q5 Q6:Prop} (q0:Q0) (q1:Q1) (q2:Q2) (q3:Q3) (q4:Q4) (q5:Q5) (q6:Q6) (h:Wq Q0->Wq Q1->Wq Q2->Wq Q3->Wq Q4->Wq Q5->Wq Q6->P:=by
  intro q0 q1 q2 q3 q4 q5 q6
  repeat' (first |(refine Rn.go ?_;conv=>whnf)|refine .mk ?_ |refine .mk (λhc=>?_) λhc=>?_ |fail)
  ·revert hc;exact q0.1
  ·revert hc;revert hc;exact q1.1
  ·revert hc;revert hc;revert hc;exact q2.1
  ·revert hc;revert hc;revert hc;revert hc;exact q3.1
  ·revert hc;revert hc;revert hc;revert hc;revert hc;exact q4.1
  ·revert hc;revert hc;revert hc;revert hc;revert hc;revert hc;exact q5.1
  ·revert hc;revert hc;revert hc;revert hc;revert hc;revert hc;exact q6.1):P:=h ⟨q0⟩ ⟨q1⟩ ⟨q2⟩ ⟨q3⟩ ⟨q4⟩ ⟨q5⟩ ⟨q6⟩
theorem lenE{α:Type}{l p q:List α}{x:α}(e:l=p++x::q):l.length=p.length+(q.length+1):=by
 rw[e,abr,abx]
namespace Go.Pm
inductive PV where
 |int (k:IntKind) (n:Int)
 |bool (b:Bool)
 |str (s:ByteArray)
 |agg (cs:List PV)
 |ct (vs:List PV)
 |aa (full:Bool) (es:List PV)
 |ak (id ep off len:Nat)
 |ptr (id ep i off:Nat)
 |eQ (cs:List PV)
 |cD (id:Nat)
 |gN
 |eE
 |aG
 |fn (f:FuncId) (dn:List PV)
 |ou (f:FuncId) (k:Nat) (cs:List PV)
 |undef
 |any
 deriving Inhabited
inductive Mu where
 |m |l |f |x
 deriving DecidableEq,Inhabited
structure aw where
 mu:Mu
 ep:Nat
 bM:Nat
 es:List PV
 deriving Inhabited
abbrev ab:=List aw
structure St where
 ρ:Nat->PV
 h:ab
def pj(ρ:Nat->PV)(d:Nat)(v:PV):Nat->PV:=λt=>if t=d then v else ρ t
def cd(ρ:Nat->PV)(d:Option Nat)(v:PV):Nat->PV:=
 match d with
 |some d=>pj ρ d v
 |none=>ρ
def cells:PV->List PV
 | .agg cs=>cs
 |v=>[v]
def bH:PV->Bool
 | .agg _ | .ct _ | .undef | .any=>false
 |_=>true
mutual
def aW:PV->Bool
 | .int .. | .bool _ | .str _ | .eE | .aG | .gN | .aa .. | .eQ _=>true
 | .agg cs=>ar cs
 | .ct cs=>ar cs
 | .fn _ cs=>ar cs
 | .ou _ _ cs=>ar cs
 | .ak .. | .ptr .. | .cD _ | .undef | .any=>false
def ar:List PV->Bool
 |[]=>true
 |c::r=>aW c&&ar r
end
mutual
def dO:PV->Bool
 | .int .. | .bool _ | .str _ | .eE | .aG | .gN=>true
 | .agg cs=>pC cs
 | .ct cs=>pC cs
 |_=>false
def pC:List PV->Bool
 |[]=>true
 |c::r=>dO c&&pC r
end
mutual
def b9:PV->PV
 | .aa _ es=>.aa false (aR es)
 | .agg cs=>.agg (aR cs)
 | .ct cs=>.ct (aR cs)
 | .fn f cs=>.fn f (aR cs)
 | .ou f k cs=>.ou f k (aR cs)
 | .eQ cs=>.eQ (aR cs)
 |p=>p
def aR:List PV->List PV
 |[]=>[]
 |c::r=>b9 c::aR r
end
def Xl:Value->PV
 | .int k n=>.int k n
 | .bool b=>.bool b
 | .string s=>.str s
 | .slice none 0 0=>.aa true []
 | .pointer none=>.eE
 | .nilFunc=>.aG
 | .map none=>.gN
 |_=>.any
def cv:Value->PV
 | .agg cs=>.agg (cs.toList.map Xl)
 |v=>Xl v
def ev(ρ:Nat->PV):Operand->PV
 | .tmp t=>ρ t
 | .const v=>cv v
 | .func f=>.fn f []
 | .global _=>.any
def cA(P:Program)(t:TypeId):Option Nat:=(P.info? t).map (·.size)
def mW(P:Program)(t:TypeId):Option Nat:=(P.info? t).map (·.bytes)
def jq(P:Program)(t:TypeId):Option PV:=((P.info? t).bind (·.zero)).map cv
def Jx(P:Program)(t:TypeId):Option Bool:=(P.underlying t).map λ| .struct _ | .array _ _=>true |_=>false
def getM(h:ab)(id ep:Nat):Option aw:=
 match h[id]? with
 |some o=>if o.ep=ep/\o.mu≠.x then some o else none
 |none=>none
def cu(h:ab):PV->Option (List PV)
 | .aa _ es=>some es
 | .ak id ep off len=>match getM h id ep with
  |some o=>if off+len<=o.es.length then some ((o.es.drop off).take len)else none
  |none=>none
 |_=>none
def cN(h:ab):PV->Option (List PV)
 | .eQ cs=>some cs
 | .ptr id ep i off=>match getM h id ep with
  |some o=>match o.es[i]? with
   |some e=>some ((cells e).drop off)
   |none=>none
  |none=>none
 |_=>none
def iU(P:Program)(h:ab)(t:TypeId)(p:PV):Option PV:=
 match cA P t,Jx P t,cN h p with
 |some sz,some true,some cs=>if 0<sz/\sz<=cs.length then some (.agg (cs.take sz))else none
 |some _,some false,some cs=>match cs with
  |c::_=>some c
  |[]=>none
 |_,_,_=>none
def eR(off sz:Nat)(e v:PV):PV:=
 if off=0/\sz=(cells e).length then v else .agg ((cells e).take off++cells v++(cells e).drop (off+sz))
def hZ(P:Program)(h:ab)(t:TypeId)(p v:PV):Option ab:=
 match p,cA P t with
 | .ptr id ep i off,some sz=>match getM h id ep with
  |some o=>match o.es[i]? with
   |some e=>if o.mu=.m/\(cells v).length=sz/\(cells v).all bH=true/\off+sz<=(cells e).length then
     some (h.set id {o with es:=o.es.set i (eR off sz e v)})else none
   |none=>none
  |none=>none
 |_,_=>none
def newObj(h:ab)(bM:Nat)(es:List PV):ab:=h++[{mu:=.m,ep:=0,bM,es}]
def sD(cs:List PV)(off:Nat)(vs:List PV):List PV:=cs.take off++vs++cs.drop (off+vs.length)
def kC(place:Nat->Option (Nat×Nat))(cs:List PV):List (Nat×PV)->Option (List PV)
 |[]=>some cs
 |(i,v)::rest=>match place i with
  |none=>none
  |some (off,size)=>
   if(cells v).length=size/\(cells v).all bH=true/\off+size<=cs.length then kC place (sD cs off (cells v)) rest else none
def iV(P:Program)(fs:Array Field)(i:Nat):Option (Nat×Nat):=
 match fs[i]? with
 |some f=>(cA P f.type).map λs=>(f.offset,s)
 |none=>none
def xp(P:Program)(t:TypeId)(parts:List (Nat×PV)):Option PV:=
 match jq P t,P.underlying t with
 |some z,some (.struct fs)=>if fs.toList.all (λf=>(cA P f.type).isSome)=true/\(cells z).all bH=true then(kC (iV P fs) (cells z) parts).map .agg else none
 |some z,some (.array _ e)=>match cA P e with
  |some size=>if(cells z).all bH=true then(kC (λi=>some (i * size,size)) (cells z) parts).map .agg else none
  |none=>none
 |_,_=>none
def zS(z:PV)(n:Nat)(parts:List (Nat×PV)):List PV:=parts.foldl (λes x=>es.set x.1 x.2) (List.replicate n z)
def dB(P:Program)(lv:Nat)(h:ab)(t:TypeId)(len:Nat)(parts:List (Nat×PV)):Option (PV×ab):=
 match P.underlying t with
 |some (.slice e)=>match cA P e,jq P e with
  |some size,some z=>
   if 0<size/\len * size<=16777216/\(cells z).length=size/\(cells z).all bH=true/\parts.all (λp=>decide ((cells p.2).length=size)&& (cells p.2).all bH&&decide (p.1<len))=true then
    if ar (zS z len parts)then some (.aa true (zS z len parts),h)
    else if 2<=lv then some (.ak h.length 0 0 len,newObj h size (zS z len parts))else none
   else none
  |_,_=>none
 |_=>none
def gW(op:BinOp)(k:IntKind)(a b:Int):Option PV:=
 match op with
 | .add=>some (.int k (k.wrap (a+b)))
 | .sub=>some (.int k (k.wrap (a - b)))
 | .mul=>some (.int k (k.wrap (a * b)))
 | .quo=>if b=0 then none else some (.int k (k.wrap (a.tdiv b)))
 | .rem=>if b=0 then none else some (.int k (a.tmod b))
 | .eql=>some (.bool (a==b))
 | .neq=>some (.bool (a !=b))
 | .lss=>some (.bool (decide (a<b)))
 | .leq=>some (.bool (decide (a<=b)))
 | .gtr=>some (.bool (decide (a>b)))
 | .geq=>some (.bool (decide (a>=b)))
 | .and=>some (.int k (k.wrap (BitVec.ofInt k.bits a&&&BitVec.ofInt k.bits b).toNat))
 | .or=>some (.int k (k.wrap (BitVec.ofInt k.bits a |||BitVec.ofInt k.bits b).toNat))
 | .xor=>some (.int k (k.wrap (BitVec.ofInt k.bits a^^^BitVec.ofInt k.bits b).toNat))
 |_=>none
def qB(op:BinOp)(k:IntKind)(x y:Int):Option PV:=
 if y<0 then none else
 match op with
 | .shl=>some (.int k (k.wrap (x * 2^ (min y.toNat k.bits))))
 | .shr=>some (.int k (x.fdiv (2^ (min y.toNat k.bits))))
 |_=>none
def mE(op:BinOp)(x y:ByteArray):Option PV:=
 match op with
 | .add=>if((x.size+y.size:Nat):Int)>IntKind.i64.max then none else some (.str (x++y))
 | .eql=>some (.bool (x.toList==y.toList))
 | .neq=>some (.bool !(x.toList==y.toList))
 | .lss=>some (.bool (Op.bytesLess x.toList y.toList))
 | .leq=>some (.bool (Op.bytesLess x.toList y.toList ||x.toList==y.toList))
 | .gtr=>some (.bool !(Op.bytesLess x.toList y.toList ||x.toList==y.toList))
 | .geq=>some (.bool !(Op.bytesLess x.toList y.toList))
 |_=>none
def fE(P:Program)(op:BinOp)(t:TypeId)(x y:PV):Option PV:=
 match x,y with
 | .int k a,.int k' b=>match op with
  | .shl | .shr=>qB op k a b
  |_=>if k=k' then gW op k a b else none
 | .str a,.str b=>mE op a b
 | .bool a,.bool b=>match P.underlying t with
  |some .bool=>match op with
   | .eql=>some (.bool (a==b))
   | .neq=>some (.bool !(a==b))
   |_=>none
  |_=>none
 |_,_=>none
def SQ(op:UnOp)(x:PV):Option PV:=
 match op,x with
 | .neg,.int k n=>some (.int k (k.wrap (0 - n)))
 | .not,.bool b=>some (.bool !b)
 |_,_=>none
def Me:PV->Option Int
 | .int .u8 n=>some n
 |_=>none
def ov:List PV->Option (List Int)
 |[]=>some []
 |c::r=>match Me c with
  |some n=>match ov r with
   |some l=>some (n::l)
   |none=>none
  |none=>none
def uc(xs:List Int):ByteArray:=⟨(xs.map λn=>UInt8.ofNat n.toNat).toArray⟩
def xq(P:Program)(src dst:TypeId)(x:PV):Option PV:=
 match P.underlying src,P.underlying dst,x with
 |some _,some (.int k),.int _ n=>some (.int k (k.wrap n))
 |some _,some .string,.str s=>some (.str s)
 |some (.slice e),some .string,.aa _ es=>match P.underlying e,ov es with
  |some (.int .u8),some l=>some (.str (uc l))
  |_,_=>none
 |_,_,_=>none
def cJ(x:Option PV)(dflt top:Nat):Option Nat:=
 match x with
 |none=>some dflt
 |some (.int _ i)=>if 0<=i/\i<=(top:Int)then some i.toNat else none
 |some _=>none
def beyond(mx hi:Option PV)(len top:Nat):Option Nat:=
 match mx,hi with
 |none,some (.int k i)=>if(len:Int)<i then cJ (some (.int k i)) 0 top else none
 |_,_=>none
def cf(P:Program)(h:ab)(t:TypeId)(x:PV)(lo hi mx:Option PV):Option PV:=
 match P.underlying t,x with
 |some .string,.str s=>if mx.isSome then none else
  match cJ hi s.size s.size with
  |some b=>match cJ lo 0 b with
   |some a=>some (.str (s.extract a b))
   |none=>none
  |none=>none
 |some (.slice e),.aa full es=>match cA P e with
  |some sz=>match cJ mx es.length es.length with
   |some m=>match cJ hi es.length m with
    |some b=>match cJ lo 0 b with
     |some a=>if(mx.isSome&&hi.isNone)=false/\(es[a]?).all (λv=>(cells v).length==sz)=true then some (.aa (if mx.isSome then m==b else full&&b==es.length) ((es.drop a).take (b - a)))else none
     |none=>none
    |none=>none
   |none=>none
  |none=>none
 |some (.slice e),.ak id ep off len=>match cA P e,getM h id ep with
  |some sz,some o=>if sz=o.bM/\off+len<=o.es.length then
    match beyond mx hi len (o.es.length - off)with
    |some b=>match cJ lo 0 b with
     |some a=>if a=0 then some (.ak id ep off b)else if b - a=0 then some (.aa false [])else some (.ak id ep (off+a) (b - a))
     |none=>none
    |none=>
    match cJ mx len len with
    |some m=>match cJ hi len m with
     |some b=>match cJ lo 0 b with
      |some a=>if(mx.isSome&&hi.isNone)=false then
        (if mx.isSome then(if m=a then some (.aa true [])else some .any)
         else if a=0 then some (.ak id ep off b)else if b - a=0 then some (.aa false [])else some (.ak id ep (off+a) (b - a)))
       else none
      |none=>none
     |none=>none
    |none=>none
   else none
  |_,_=>none
 |_,_=>none
def pD(P:Program)(s:TypeId)(f:Nat):Option (Nat×TypeId):=
 match P.underlying s with
 |some (.struct fs)=>match fs[f]? with
  |some fl=>match cA P fl.type with
   |some sz=>if sz=0 then none else some (fl.offset,fl.type)
   |none=>none
  |none=>none
 |_=>none
def gy(P:Program)(s:TypeId)(p:PV)(f:Nat):Option PV:=
 match pD P s f,p with
 |some (off,_),.eQ cs=>if off<cs.length then some (.eQ (cs.drop off))else none
 |some (off,_),.ptr id ep i o=>some (.ptr id ep i (o+off))
 |_,_=>none
def xr(P:Program)(t:TypeId)(cs:List PV)(off:Nat):Option PV:=
 match Jx P t,cA P t with
 |some true,some sz=>if off+sz<=cs.length then some (.agg ((cs.drop off).take sz))else none
 |some false,some _=>match cs[off]? with
  |some c=>some c
  |none=>none
 |_,_=>none
def BW(P:Program)(s:TypeId)(x:PV)(f:Nat):Option PV:=
 match P.underlying s,x with
 |some (.struct fs),.agg cs=>match fs[f]? with
  |some fl=>xr P fl.type cs fl.offset
  |none=>none
 |_,_=>none
def cE(P:Program)(h:ab)(t:TypeId)(x ix:PV):Option PV:=
 match P.underlying t,x,ix with
 |some (.slice e),.aa _ es,.int _ i=>match cA P e with
  |some sz=>if 0<=i/\i<(es.length:Int)then
    match es[i.toNat]? with
    |some v=>if 0<sz/\(cells v).length=sz then some (.eQ (cells v))else none
    |none=>none
   else none
  |none=>none
 |some (.slice e),.ak id ep off len,.int _ i=>match cA P e,getM h id ep with
  |some sz,some o=>if 0<=i/\i<(len:Int)/\sz=o.bM/\off+len<=o.es.length then some (.ptr id ep (off+i.toNat) 0)else none
  |_,_=>none
 |some (.array n e),.eQ cs,.int _ i=>match cA P e with
  |some sz=>if 0<=i/\i<(n:Int)/\i.toNat * sz<cs.length then some (.eQ (cs.drop (i.toNat * sz)))else none
  |none=>none
 |some (.array n e),.ptr id ep k o,.int _ i=>match cA P e with
  |some sz=>if 0<=i/\i<(n:Int)then some (.ptr id ep k (o+i.toNat * sz))else none
  |none=>none
 |_,_,_=>none
def xu(P:Program)(t:TypeId)(x ix:PV):Option PV:=
 match P.underlying t,x,ix with
 |some (.array n e),.agg cs,.int _ i=>match cA P e with
  |some sz=>if 0<=i/\i<(n:Int)then xr P e cs (i.toNat * sz)else none
  |none=>none
 |some .string,.str s,.int _ i=>if 0<=i then
   match s[i.toNat]? with
   |some b=>some (.int .u8 b.toNat)
   |none=>none
  else none
 |_,_,_=>none
def Da(h:ab)(id:Nat):Option aw:=
 match getM h id 0 with
 |some o=>if o.bM=0 then some o else none
 |none=>none
def ve:PV->PV->Option Bool
 | .int k a,.int k' b=>if k=k' then some (a==b)else none
 | .str a,.str b=>some (a==b)
 | .bool a,.bool b=>some (a==b)
 |_,_=>none
def ru(k:PV):List PV->Nat->Option (Option (Nat×PV))
 |[],_=>some none
 |e::es,i=>match e with
  | .agg [k',v]=>match ve k k' with
   |some true=>some (some (i,v))
   |some false=>ru k es (i+1)
   |none=>none
  |_=>none
def zT(P:Program)(t:TypeId)(k:PV):Bool:=
 match P.underlying t,k with
 |some (.int k),.int k' _=>decide (k'=k)
 |some .string,.str _ |some .bool,.bool _=>true
 |_,_=>false
def fI(ok:Bool)(v:PV)(b:Bool):PV:=if ok then .ct [v,.bool b]else v
def oz(P:Program)(h:ab)(t:TypeId)(m k:PV)(ok:Bool):Option PV:=
 match P.underlying t with
 |some (.map kt et)=>match jq P et with
  |some z=>if zT P kt k=true then
    match m with
    | .gN=>some (fI ok z false)
    | .cD id=>match Da h id with
     |some o=>match ru k o.es 0 with
      |some (some (_,v))=>some (fI ok v true)
      |some none=>some (fI ok z false)
      |none=>none
     |none=>none
    |_=>none
   else none
  |none=>none
 |_=>none
def Mf(k v:PV)(es:List PV):Option (List PV):=
 match ru k es 0 with
 |some (some (i,_))=>some (es.set i (.agg [k,v]))
 |some none=>some (es++[.agg [k,v]])
 |none=>none
def oA(P:Program)(h:ab)(t:TypeId)(m k v:PV):Option ab:=
 match P.underlying t,m with
 |some (.map kt _),.cD id=>match Da h id with
  |some o=>if zT P kt k=true/\o.mu=.m then
    match Mf k v o.es with
    |some es=>some (h.set id {o with es})
    |none=>none
   else none
  |none=>none
 |_,_=>none
def nu(P:Program)(lv:Nat)(h:ab)(t:TypeId)(r:Option PV):Option (PV×ab):=
 if 1<=lv then
  match r,P.underlying t with
  |none,_=>some (.cD h.length,newObj h 0 [])
  |some (.int _ _),some (.map _ _)=>some (.cD h.length,newObj h 0 [])
  |_,_=>none
 else none
def pE(P:Program)(h:ab)(t:TypeId)(x:PV):Option PV:=
 match P.underlying t,x with
 |some .string,.str s=>some (.int .i64 s.size)
 |some (.array n _),_=>some (.int .i64 n)
 |some (.slice _),.aa _ es=>some (.int .i64 es.length)
 |some (.map _ _),.gN=>some (.int .i64 0)
 |some (.map _ _),.cD id=>match Da h id with
  |some o=>some (.int .i64 o.es.length)
  |none=>none
 |some (.slice _),.ak id ep off len=>match getM h id ep with
  |some o=>if off+len<=o.es.length then some (.int .i64 len)else none
  |none=>none
 |_,_=>none
def cC(P:Program)(h:ab)(z:PV)(xt:TypeId)(x:PV):Option (List PV):=
 match P.underlying xt,x with
 |some (.int _),.int _ n=>if 0<=n/\n<=1073741824 then some (List.replicate n.toNat z)else none
 |some (.slice _),x=>cu h x
 |_,_=>none
def roomy(n bytes:Nat):Bool:=decide (n * bytes<=17592186044416)&&decide (n<=17592186044416)
def iH(id:Nat):PV->Bool
 | .ak i _ _ _=>i==id
 |_=>false
def bP(P:Program)(lv:Nat)(h:ab)(st xt:TypeId)(s x:PV):Option (PV×ab):=
 match P.underlying st with
 |some (.slice e)=>match cA P e,mW P e,jq P e with
  |some sz,some bytes,some z=>match cC P h z xt x with
   |some ys=>
    if 0<sz/\bytes<=65536/\((cells z).length=sz/\(cells z).all bH=true)/\ys.all (λv=>decide ((cells v).length=sz)&& (cells v).all bH)=true then
     match s with
     | .aa full es=>
      if ys.isEmpty then some (s,h)
      else if full=true/\1<=lv/\roomy (es.length+ys.length) bytes=true/\es.all (λv=>decide ((cells v).length=sz)&& (cells v).all bH)=true then
       some (.ak h.length 0 0 (es.length+ys.length),newObj h sz (es++ys))
      else none
     | .ak id ep off len=>match getM h id ep with
      |some o=>
       if off+len<=o.es.length/\sz=o.bM then
        if ys.isEmpty then some (s,h)
        else if off=0/\2<=lv/\o.mu=.m/\iH id x=true/\len+ys.length<=o.es.length then
         some (.ak id ep 0 (len+ys.length),h.set id {o with es:=o.es.take len++ys++o.es.drop (len+ys.length)})
        else if off=0/\2<=lv/\o.mu=.m/\roomy (len+ys.length) bytes=true then
         some (.ak id (ep+1) 0 (len+ys.length),h.set id {o with ep:=ep+1,es:=o.es.take len++ys})
        else none
       else none
      |none=>none
     |_=>none
    else none
   |none=>none
  |_,_,_=>none
 |_=>none
def AF(P:Program)(lv:Nat)(h:ab)(dt:TypeId)(d x:PV):Option (PV×ab):=
 match P.underlying dt,d,cu h x with
 |some (.slice e),.ak id ep off len,some ys=>match cA P e,getM h id ep with
  |some sz,some o=>
   if 2<=lv/\o.mu=.m/\sz=o.bM/\off+len<=o.es.length/\ys.all (λv=>decide ((cells v).length=sz))=true/\(ys.take (min ys.length len)).all (λv=>decide ((cells v).length=sz)&& (cells v).all bH)=true then
    let n:=min ys.length len
    some (.int .i64 n,h.set id {o with es:=o.es.take off++ys.take n++o.es.drop (off+n)})
   else none
  |_,_=>none
 |_,_,_=>none
def mX(P:Program)(lv:Nat)(h:ab)(t:TypeId)(x:PV):Option (PV×ab):=
 match P.underlying t,x with
 |some (.slice e),.ak id ep off len=>match cA P e,jq P e,getM h id ep with
  |some sz,some z,some o=>
   if 2<=lv/\o.mu=.m/\sz=o.bM/\off+len<=o.es.length/\(cells z).length=sz/\(cells z).all bH=true then
    some (.ct [],h.set id {o with es:=o.es.take off++List.replicate len z++o.es.drop (off+len)})
   else none
  |_,_,_=>none
 |some (.slice _),.aa _ []=>some (.ct [],h)
 |_,_=>none
def T2(P:Program)(t:TypeId)(x:PV):Option PV:=
 match P.underlying t,x with
 |some (.slice _),.aa true es=>some (.int .i64 es.length)
 |_,_=>none
def Mg:List PV->Option PV
 |[.int k a,.int _ b]=>some (.int k (if b>a then b else a))
 |_=>none
def P7:List PV->Option PV
 |[.int k a,.int _ b]=>some (.int k (if b<a then b else a))
 |_=>none
def jM(P:Program)(lv:Nat)(h:ab)(t:TypeId)(len cap:PV):Option (PV×ab):=
 match P.underlying t,len,cap with
 |some (.slice e),.int _ n,.int _ c=>match cA P e,mW P e,jq P e with
  |some sz,some bytes,some z=>
   if 1<=lv/\0<=n/\n<=c/\c<=1073741824/\0<sz/\bytes<=65536/\(cells z).length=sz/\(cells z).all bH=true then
    some (.ak h.length 0 0 n.toNat,newObj h sz (List.replicate n.toNat z))
   else none
  |_,_,_=>none
 |_,_,_=>none
def bt(P:Program)(lv:Nat)(h:ab)(b:Builtin)(ts:List TypeId)(args:List PV):Option (PV×ab):=
 match b,ts,args with
 | .len,t::_,x::_=>(pE P h t x).map (·,h)
 | .append,st::xt::_,s::x::_=>bP P lv h st xt s x
 | .copy,dt::_,d::x::_=>AF P lv h dt d x
 | .clear,t::_,x::_=>mX P lv h t x
 | .cap,t::_,x::_=>(T2 P t x).map (·,h)
 | .max,_,xs=>(Mg xs).map (·,h)
 | .min,_,xs=>(P7 xs).map (·,h)
 |_,_,_=>none
def aC(P:Program)(lv:Nat)(op:Op)(ρ:Nat->PV)(h:ab):Option (PV×ab):=
 match op with
 | .move x | .assign x=>some (ev ρ x,h)
 | .pick c a b=>match ev ρ c with
  | .bool t=>some (if t then ev ρ a else ev ρ b,h)
  |_=>none
 | .alloc t=>match jq P t with
  |some z=>if 1<=lv/\(cells z).all bH=true/\0<(cells z).length then some (.ptr h.length 0 0 0,newObj h (cells z).length [z])else none
  |none=>none
 | .box _ x=>if 1<=lv/\(cells (ev ρ x)).all bH=true/\0<(cells (ev ρ x)).length then some (.ptr h.length 0 0 0,newObj h (cells (ev ρ x)).length [ev ρ x])else none
 | .build t parts=>(xp P t (parts.toList.map λ(i,x)=>(i,ev ρ x))).map (·,h)
 | .buildSlice t n parts=>dB P lv h t n (parts.toList.map λ(i,x)=>(i,ev ρ x))
 | .load t a=>(iU P h t (ev ρ a)).map (·,h)
 | .store t a x=>if 2<=lv then(hZ P h t (ev ρ a) (ev ρ x)).map (.undef,·)else none
 | .nilCheck x=>match ev ρ x with
  | .ptr id ep i o=>some (.ptr id ep i o,h)
  | .eQ cs=>some (.eQ cs,h)
  | .fn f cs=>some (.fn f cs,h)
  |_=>none
 | .binOp op t x y _=>(fE P op t (ev ρ x) (ev ρ y)).map (·,h)
 | .unOp op _ x=>(SQ op (ev ρ x)).map (·,h)
 | .convert s d x=>(xq P s d (ev ρ x)).map (·,h)
 | .makeFunc (.func f) first dn=>if first.isEmpty then some (.fn f (dn.toList.map (ev ρ)),h)else some (.ou f first.size ((first.toList++dn.toList).map (ev ρ)),h)
 | .makeSlice t l c=>jM P lv h t (ev ρ l) (ev ρ c)
 | .slice t x lo hi mx=>(cf P h t (ev ρ x) (lo.map (ev ρ)) (hi.map (ev ρ)) (mx.map (ev ρ))).map (·,h)
 | .fieldAddr s x f=>(gy P s (ev ρ x) f).map (·,h)
 | .field s x f=>(BW P s (ev ρ x) f).map (·,h)
 | .indexAddr t x ix=>(cE P h t (ev ρ x) (ev ρ ix)).map (·,h)
 | .index t x ix=>(xu P t (ev ρ x) (ev ρ ix)).map (·,h)
 | .makeMap t r=>nu P lv h t (r.map (ev ρ))
 | .lookup t x k ok=>(oz P h t (ev ρ x) (ev ρ k) ok).map (·,h)
 | .mapUpdate t m k v | .insert t m k v=>if 2<=lv then(oA P h t (ev ρ m) (ev ρ k) (ev ρ v)).map (.undef,·)else none
 | .extract x i=>match ev ρ x with
  | .ct vs=>match vs[i]? with
   |some v=>some (v,h)
   |none=>none
  |_=>none
 |_=>none
def oB(h:ab)(p:PV):Option PV:=
 match p with
 | .ak id ep off len=>match getM h id ep with
  |some o=>if off+len<=o.es.length/\(o.mu=.m\/o.mu=.f)/\ar ((o.es.drop off).take len)=true then some (.aa false ((o.es.drop off).take len))else none
  |none=>none
 |p=>if aW p then some p else none
def nw(h:ab):List PV->Option (List PV)
 |[]=>some []
 |c::r=>match oB h c,nw h r with
  |some c',some r'=>some (c'::r')
  |_,_=>none
def ke(h:ab)(p:PV):Option PV:=
 match p with
 | .agg cs=>(nw h cs).map .agg
 |p=>oB h p
def gz(h:ab):List PV->Option (List PV)
 |[]=>some []
 |c::r=>match ke h c,gz h r with
  |some c',some r'=>some (c'::r')
  |_,_=>none
def rb(h:ab)(p:PV):Option PV:=
 match p with
 | .ct cs=>(gz h cs).map .ct
 |p=>ke h p
def gA(f:PV->Option PV):List PV->Option (List PV)
 |[]=>some []
 |c::r=>match f c,gA f r with
  |some c',some r'=>some (c'::r')
  |_,_=>none
def qC:Nat->ab->PV->Option PV
 |0,_,p=>if aW p then some p else none
 |n+1,h,p=>match p with
  | .ak id ep off len=>match getM h id ep with
   |some o=>if off+len<=o.es.length/\(o.mu=.m\/o.mu=.f)then(gA (qC n h) ((o.es.drop off).take len)).map (.aa false)else none
   |none=>none
  | .agg cs=>(gA (qC n h) cs).map .agg
  | .ct cs=>(gA (qC n h) cs).map .ct
  |p=>if aW p then some p else none
def AG(h:ab)(p:PV):Option PV:=match rb h p with |some r=>some r |none=>qC 8 h p
def kg(h:ab)(id:Nat):Option ab:=
 match h[id]? with
 |some o=>if ar o.es=true/\(o.mu=.m\/o.mu=.f)then some (h.set id {o with mu:=.f})else none
 |none=>none
def eZ(h:ab):List Nat->Option ab
 |[]=>some h
 |id::r=>match kg h id with
  |some h'=>eZ h' r
  |none=>none
def lC(h:ab)(ids:List Nat):Bool:=ids.all λid=>match h[id]? with |some o=>decide (o.mu=.f)&&ar o.es |none=>false
def zU:PV->List Nat
 | .ak id _ _ _=>[id]
 |_=>[]
def jK(ps:List PV):List Nat:=ps.flatMap λp=>(cells p).flatMap zU
def dY(n:Nat):PV->Bool
 | .ak id _ _ _=>decide (id<n)
 | .ptr id _ _ _=>decide (id<n)
 |p=>aW p
def cK(n:Nat):PV->Bool
 | .agg cs=>cs.all (dY n)
 |p=>dY n p
def dZ(n:Nat):PV->Bool
 | .ct cs=>cs.all (cK n)
 |p=>cK n p
inductive Mode where
 |no
 |pure
 |opened
 |sF (g:List PV->Option PV)
 |cS (g:List PV->ab->Option (PV×ab))
 |ext (g:List PV->Option PV)
structure cR where
 P:Program
 mode:FuncId->Mode
abbrev iI:=FuncId->List PV->ab->Option (PV×ab)
def dp(run:iI)(lv:Nat)(f:FuncId)(args:List PV)(h:ab):Option (PV×ab):=
 if ar args then
  match run f (aR args) []with
  |some (r,hc)=>match AG hc r with
   |some r'=>some (b9 r',h)
   |none=>none
  |none=>none
 else match gz h args with
  |some args'=>match run f (aR args') []with
   |some (r,hc)=>match AG hc r with
    |some r'=>if dO r'||lC h (jK args)then some (b9 r',h)
     else if 2<=lv then(eZ h (jK args)).map (b9 r',·)else none
    |none=>none
   |none=>none
  |none=>match gA (qC 8 h) args with
   |some args'=>match run f (aR args') []with
    |some (r,hc)=>match AG hc r with
     |some r'=>if dO r' then some (b9 r',h)else none
     |none=>none
    |none=>none
   |none=>none
def bS(o:aw):aw:=match o.mu with | .m=>{o with mu:=.l}|_=>o
def ek(run:List PV->ab->Option (PV×ab))(lv:Nat)(args:List PV)(h:ab):Option (PV×ab):=
 if 2<=lv then run args h
 else if 1<=lv then match run args (h.map bS)with
  |some (r,h')=>if(h'.drop h.length).all (λo=>decide (o.mu≠.l))=true then some (r,h++h'.drop h.length)else none
  |none=>none
 else none
def ir(run:iI)(lv:Nat)(f:FuncId)(args:List PV)(h:ab):Option (PV×ab):=
 match ek (run f) lv args h with
 |some (r,h')=>if dZ h.length r&& (h'.take h.length).all (λo=>o.es.all (cK h.length))then some (r,h'.take h.length)else some (r,h')
 |none=>none
def dg(C:cR)(run:iI)(lv:Nat)(f:FuncId)(args:List PV)(h:ab):Option (PV×ab):=
 match C.mode f with
 | .no=>none
 | .pure=>dp run lv f args h
 | .opened=>ir run lv f args h
 | .sF g=>if ar args then(g (aR args)).map (·,h)else none
 | .cS g=>ek g lv args h
 | .ext g=>if ar args then(g (aR args)).map (·,h)else none
def gr(C:cR)(run:iI)(lv:Nat)(callee:PV)(args:List PV)(h:ab):Option (PV×ab):=
 match callee with
 | .fn f dn=>dg C run lv f (args++dn) h
 | .ou f k cs=>dg C run lv f (cs.take k++args++cs.drop k) h
 |_=>none
def au(C:cR)(run:iI)(lv:Nat)(op:Op)(ρ:Nat->PV)(h:ab):Option (PV×ab):=
 match op with
 | .call c=>match c.callee with
  | .value f=>gr C run lv (ev ρ f) (c.args.toList.map (ev ρ)) h
  | .builtin b=>bt C.P lv h b c.argTypes.toList (c.args.toList.map (ev ρ))
  | .invoke _ _=>none
 |op=>aC C.P lv op ρ h
def cZ:Op->Bool
 | .move _ | .assign _ | .pick .. | .binOp .. | .unOp .. | .convert .. | .extract .. | .makeFunc .. | .build .. | .field .. | .index .. | .fieldAddr .. | .nilCheck _=>false
 |_=>true
def Jy(o:Oper):List Edge:=o.after.toList.filter (Region.binds .any)
def before(ops:Array Oper):List Nat:=
 ops.toList.foldl (λacc o=>acc++[(Jy o).foldl (λs e=>s |||2^e.on |||acc.getD e.on 0) 0]) []
def rM(b:List Nat)(i j:Nat):Bool:=i==j ||(b.getD i 0).testBit j ||(b.getD j 0).testBit i
def level(ops:Array Oper)(b:List Nat)(i:Nat):Nat:=
 if ops.toList.zipIdx.all λ(o,j)=>!cZ o.op ||rM b i j then 2 else 1
def bA(ops:Array Oper)(o:Oper)(ρ:Nat->PV):Option Bool:=
 match o.guard with
 |none=>some true
 |some (j,want)=>match(ops.toList[j]?).bind (·.dst)with
  |none=>some false
  |some d=>match ρ d with
   | .bool b=>some (b==want)
   | .undef=>some false
   |_=>none
def fU(C:cR)(run:iI)(ops:Array Oper)(o:Oper)(s:St):Option St:=
 match bA ops o s.ρ with
 |some true=>match au C run 2 o.op s.ρ s.h with
  |some (v,h')=>some ⟨cd s.ρ o.dst v,h'⟩
  |none=>none
 |some false=>some ⟨cd s.ρ o.dst .undef,s.h⟩
 |none=>none
def dE(C:cR)(run:iI)(ops:Array Oper):List Oper->St->Option St
 |[],s=>some s
 |o::r,s=>match fU C run ops o s with
  |some s'=>dE C run ops r s'
  |none=>none
def eT(o:aw):aw:={o with mu:=.x}
def cy(e:Nat->Bool)(L0:Nat)(own:List Nat)(h:ab):ab:=
 h.take L0++List.zipWith (λo j=>if e j then o else eT o) (h.drop L0) own
def aQ(h:ab)(id:Nat):Bool:=match h[id]? with |some o=>decide (o.mu≠.x)|none=>false
mutual
def bq(f:Nat->Bool):PV->Bool
 | .ak id _ _ _=>f id
 | .ptr id _ _ _=>f id
 | .cD id=>f id
 | .agg cs=>bw f cs
 | .ct cs=>bw f cs
 | .fn _ cs=>bw f cs
 | .ou _ _ cs=>bw f cs
 |_=>true
def bw(f:Nat->Bool):List PV->Bool
 |[]=>true
 |c::r=>bq f c&&bw f r
end
def aV(h:ab):Bool:=h.all λo=>decide (o.mu=.x)||bw (aQ h) o.es
structure wP where
 s:St
 L0:Nat
 own:List Nat
def cz(C:cR)(run:iI)(ops:Array Oper)(b:List Nat)(i:Nat)(o:Oper)(x:wP):Option wP:=
 match bA ops o x.s.ρ with
 |some true=>
  if cZ o.op=false then match au C run 1 o.op x.s.ρ x.s.h with
   |some (r,_)=>some ⟨⟨cd x.s.ρ o.dst r,x.s.h⟩,x.L0,x.own⟩
   |none=>none
  else if level ops b i=2 then match au C run 2 o.op x.s.ρ x.s.h with
   |some (r,h')=>some ⟨⟨cd x.s.ρ o.dst r,h'⟩,h'.length,[]⟩
   |none=>none
  else
   let M:=cy (b.getD i 0).testBit x.L0 x.own x.s.h
   if aV M=true/\(o.op.operands.toList.all λy=>bq (aQ M) (ev x.s.ρ y))=true then
    match au C run 1 o.op x.s.ρ M with
    |some (r,h')=>if(h'.drop x.s.h.length).all (λo=>decide (o.mu≠.l))=true then
      some ⟨⟨cd x.s.ρ o.dst r,x.s.h++h'.drop x.s.h.length⟩,x.L0,x.own++List.replicate (h'.drop x.s.h.length).length i⟩else none
    |none=>none
   else none
 |some false=>some ⟨⟨cd x.s.ρ o.dst .undef,x.s.h⟩,x.L0,x.own⟩
 |none=>none
def dF(C:cR)(run:iI)(ops:Array Oper)(b:List Nat):Nat->List Oper->wP->Option wP
 |_,[],x=>some x
 |i,o::r,x=>match cz C run ops b i o x with
  |some x'=>dF C run ops b (i+1) r x'
  |none=>none
def gX:Op->Bool
 | .load .. | .indexAddr ..=>true
 |_=>false
def jN:Op->Bool
 | .buildSlice ..=>true
 |_=>false
def Ii(o:Oper):Option Operand:=match o.op,o.dst,o.guard with
 | .store _ a _,none,none=>some a
 |_,_,_=>none
def sinks(ops:Array Oper)(b:List Nat):Option (Operand×Operand):=
 if 2<=ops.size/\rM b (ops.size - 2) (ops.size - 1)=false then
  match(ops.toList[ops.size - 2]?).bind Ii,(ops.toList[ops.size - 1]?).bind Ii with
  |some x,some y=>some (x,y)
  |_,_=>none
 else none
def jr(ops:Array Oper)(b:List Nat)(i:Nat)(bs:Bool):Bool:=ops.toList.zipIdx.all λ(o,j)=>!(cZ o.op&& !gX o.op&& (bs || !jN o.op))||rM b i j ||((sinks ops b).isSome&&decide (ops.size<=i+2)&&decide (ops.size<=j+2))
def lL(ops:Array Oper)(b:List Nat)(i:Nat):Bool:=ops.toList.zipIdx.all λ(o,j)=>!(cZ o.op&& !gX o.op&& !jN o.op)||rM b i j ||((sinks ops b).isSome&&decide (ops.size<=j+2))
def nA(h h':ab):ab:=List.zipWith (λo o'=>if o.mu=.m then o' else o) h h'++h'.drop h.length
def pF(h:ab)(id:Nat):Bool:=match h[id]? with
 |some o=>decide (o.mu≠.m)
 |none=>false
def sG(op:Op)(ρ:Nat->PV):Option Nat:=match op with
 | .load _ x=>match ev ρ x with
  | .ptr id _ _ _=>some id
  |_=>none
 | .indexAddr _ x _=>match ev ρ x with
  | .ak id _ _ _=>some id
  |_=>none
 |_=>none
def FP(ops:Array Oper)(ρ:Nat->PV)(x:Operand)(id:Nat):Bool:=(match x with | .tmp t=>!ops.toList.any (λo=>o.dst==some t)|_=>true)&& (match ev ρ x with | .ptr j _ _ _=>decide (j≠id)|_=>false)
def BX(ops:Array Oper)(b:List Nat)(i:Nat)(ρ:Nat->PV)(id:Nat):Bool:=match sinks ops b with
 |none=>true
 |some (x,y)=>(rM b i (ops.size - 2)||FP ops ρ x id)&& (rM b i (ops.size - 1)||FP ops ρ y id)
def lM(ops:Array Oper)(b:List Nat)(h0:ab)(i:Nat)(ρ:Nat->PV)(op:Op):Bool:=match sG op ρ with
 |none=>true
 |some id=>pF h0 id ||(lL ops b i&&BX ops b i ρ id)
def cY(C:cR)(run:iI)(ops:Array Oper)(b:List Nat)(h0:ab)(i:Nat)(o:Oper)(s:St):Option St:=
 match bA ops o s.ρ with
 |some true=>
  if cZ o.op=false then match au C run 1 o.op s.ρ s.h with
   |some (r,_)=>some ⟨cd s.ρ o.dst r,s.h⟩
   |none=>none
  else if gX o.op=true then(if lM ops b h0 i s.ρ o.op=true then match aC C.P 1 o.op s.ρ s.h with
     |some (r,_)=>some ⟨cd s.ρ o.dst r,s.h⟩
     |none=>none
    else none)
  else match(if jN o.op then aC C.P 1 o.op s.ρ s.h else none)with
   |some (r,_)=>some ⟨cd s.ρ o.dst r,s.h⟩
   |none=>if jr ops b i (jN o.op)=true then match au C run 2 o.op s.ρ s.h with
     |some (r,h')=>if s.h.length<=h'.length then some ⟨cd s.ρ o.dst r,nA s.h h'⟩else none
     |none=>none
    else none
 |some false=>some ⟨cd s.ρ o.dst .undef,s.h⟩
 |none=>none
def ck(C:cR)(run:iI)(ops:Array Oper)(b:List Nat)(h0:ab):Nat->List Oper->St->Option St
 |_,[],s=>some s
 |i,o::r,s=>match cY C run ops b h0 i o s with
  |some s'=>ck C run ops b h0 (i+1) r s'
  |none=>none
def gO(ops:Array Oper)(b:List Nat)(ρ:Nat->PV):List Nat:=ops.toList.zipIdx.flatMap λ(o,i)=>match o.op with
 | .load _ (.tmp t)=>if ops.toList.any (λo=>o.dst==some t)||lL ops b i then[]else match ρ t with
  | .ptr id _ _ _=>[id]
  |_=>[]
 |_=>[]
def cF(ids:List Nat)(h:ab):ab:=h.zipIdx.map λ(o,i)=>if ids.contains i then bS o else o
def ez(ids:List Nat)(h h':ab):ab:=h'.zipIdx.map λ(o,i)=>if ids.contains i then(match h[i]? with |some o'=>o'|none=>o)else o
def rN(ids:List Nat)(h h':ab):Bool:=h'.zipIdx.all λ(o,i)=>decide (o.mu≠.l)||(ids.contains i&&decide (i<h.length))||(match h[i]? with |some o'=>decide (o'.mu=.l)|none=>false)
def rO(ops:Array Oper)(b:List Nat)(ρ:Nat->PV):Bool:=match sinks ops b with
 |none=>true
 |some (x,y)=>match ev ρ x,ev ρ y with
  | .ptr i _ _ _,.ptr j _ _ _=>decide (i≠j)
  |_,_=>false
def js(C:cR)(run:iI)(ops:Array Oper)(s:St):Option St:=
 match ck C run ops (before ops) (cF (gO ops (before ops) s.ρ) s.h) 0 ops.toList ⟨s.ρ,cF (gO ops (before ops) s.ρ) s.h⟩with
 |some s'=>if rN (gO ops (before ops) s.ρ) s.h s'.h=true/\rO ops (before ops) s'.ρ=true then some ⟨s'.ρ,ez (gO ops (before ops) s.ρ) s.h s'.h⟩else none
 |none=>none
def P8(ops:Array Oper)(o:Oper):Bool:=match o.op with
 | .call ⟨.builtin .append,args,_⟩=>match args.toList with
  | .tmp t::_=>ops.toList.any λo'=>o'.dst==some t&& (match o'.op with | .call ⟨.value _,_,_⟩=>true |_=>false)
  |_=>false
 |_=>false
def Mh(ops:Array Oper):Bool:=ops.toList.zipIdx.any λ(o,i)=>match o.op,o.dst with
 | .call ⟨.builtin .append,_,_⟩,some d=>!(level ops (before ops) i==2)&&ops.toList.any λo'=>match o'.op with
  | .call ⟨.builtin .append,args,_⟩=>(match args.toList with
   | .tmp t::_=>t==d
   |_=>false)
  |_=>false
 |_,_=>false
def sH(ops:Array Oper):Bool:=(ops.toList.zipIdx.any λ(o,i)=>P8 ops o&& !(level ops (before ops) i==2))||(sinks ops (before ops)).isSome ||Mh ops
inductive Ex where
 |normal
 |exit (id:Nat)
 |ret
 deriving DecidableEq
def iter(body:St->Option (Ex×St)):Nat->St->Option (Ex×St)
 |0,_=>none
 |n+1,s=>match body s with
  |some (.normal,s')=>iter body n s'
  |r=>r
def bR(C:cR)(run:iI)(N:Nat):Code->St->Option (Ex×St)
 | .skip,s=>some (.normal,s)
 | .region _ ops draw,s=>match(if draw then(if sH ops then js C run ops s else(dF C run ops (before ops) 0 ops.toList ⟨s,s.h.length,[]⟩).map (·.s))else dE C run ops ops.toList s)with
  |some s'=>some (.normal,s')
  |none=>none
 | .seq a b,s=>match bR C run N a s with
  |some (.normal,s')=>bR C run N b s'
  |r=>r
 | .cond c a b,s=>match ev s.ρ c with
  | .bool true=>bR C run N a s
  | .bool false=>bR C run N b s
  |_=>none
 | .block id c,s=>match bR C run N c s with
  |some (.exit eA,s')=>if eA=id then some (.normal,s')else some (.exit eA,s')
  |r=>r
 | .loop c,s=>iter (bR C run N c) N s
 | .exit id,s=>some (.exit id,s)
 | .label _,s=>some (.normal,s)
 | .scope c,s=>bR C run N c s
 | .ret,s=>some (.ret,s)
 |_,_=>none
def nB(args:List PV):Nat->PV:=λt=>args.getD t .undef
def dq(P:Program)(h:ab)(ρ:Nat->PV):List ResultVar->Option (List PV)
 |[]=>some []
 |r::rest=>match(match r with | .tmp t=>some (ρ t)| .cell a t=>iU P h t (ρ a)),dq P h ρ rest with
  |some v,some vs=>some (v::vs)
  |_,_=>none
def aO:List PV->PV
 |[v]=>v
 |vs=>.ct vs
def pG(C:cR)(run:iI)(n:Nat):iI:=λf args h=>
 match C.P.funcs[f]? with
 |some fn=>match fn.body with
  |some c=>match bR C run n c ⟨nB args,h⟩with
   |some (.normal,s)|some (.ret,s)=>match dq C.P s.h s.ρ fn.results.toList with
    |some vs=>some (aO vs,s.h)
    |none=>none
   |_=>none
  |none=>none
 |none=>none
def fo(C:cR)(n:Nat):iI:=Nat.rec (λ_ _ _=>none) (λn r=>pG C r n) n
def pH(C:cR)(n:Nat)(f:FuncId)(args:List PV):Option PV:=
 match fo C n f args []with
 |some (r,h)=>(AG h r).map b9
 |none=>none
def al:List (Nat×PV)->(Nat->PV)->Nat->PV
 |[],ρ,t=>ρ t
 |(k,v)::L,ρ,t=>if t=k then v else al L ρ t
theorem Nh(ρ:Nat->PV):∀(L:List (Nat×PV)),(∀x∈L,ρ x.1=x.2)->al L ρ=ρ
 |[],_=>by funext t;rfl
 |(k,v)::L,h=>by
  funext t
  simp only[al]
  split
  ·rename_i hk;rw[hk];exact(h (k,v) (by simp)).symm
  ·rw[Nh ρ L (λx hx=>h x (by simp[hx]))]
def Ev(C:cR)(c:Code)(s:St)(Q:Ex->St->Prop):Prop:=
 ∃ex s',Q ex s'/\∃n0,∀n m,n0<=n->n0<=m->bR C (fo C n) m c s=some (ex,s')
def ah(C:cR)(ops:Array Oper)(l:List Oper)(s:St)(Q:St->Prop):Prop:=
 ∃s',Q s'/\∃n0,∀n,n0<=n->dE C (fo C n) ops l s=some s'
def aj(C:cR)(lv:Nat)(f:FuncId)(args:List PV)(h:ab)(Q:PV->ab->Prop):Prop:=
 ∃r h',Q r h'/\∃n0,∀n,n0<=n->dg C (fo C n) lv f args h=some (r,h')
def ay(C:cR)(f:FuncId)(args:List PV)(h:ab)(Q:PV->ab->Prop):Prop:=
 ∃r h',Q r h'/\∃n0,∀n,n0<=n->fo C n f args h=some (r,h')
variable{C:cR}
theorem ay.mono{f:FuncId}{args:List PV}{h:ab}{Q Q':PV->ab->Prop}(a:ay C f args h Q)(hq:∀r h,Q r h->Q' r h):ay C f args h Q':=by
 obtain⟨r,h',q,e⟩:=a;exact⟨r,h',hq _ _ q,e⟩
theorem Ev.skip{s:St}{Q:Ex->St->Prop}(h:Q .normal s):Ev C .skip s Q:=⟨_,_,h,0,λ_ _ _ _=>rfl⟩
theorem Ev.label{l:Nat}{s:St}{Q:Ex->St->Prop}(h:Q .normal s):Ev C (.label l) s Q:=⟨_,_,h,0,λ_ _ _ _=>rfl⟩
theorem Ev.exit{id:Nat}{s:St}{Q:Ex->St->Prop}(h:Q (.exit id) s):Ev C (.exit id) s Q:=⟨_,_,h,0,λ_ _ _ _=>rfl⟩
theorem Ev.ret{s:St}{Q:Ex->St->Prop}(h:Q .ret s):Ev C .ret s Q:=⟨_,_,h,0,λ_ _ _ _=>rfl⟩
theorem Ev.scope{c:Code}{s:St}{Q:Ex->St->Prop}(h:Ev C c s Q):Ev C (.scope c) s Q:=by
 obtain⟨ex,s',q,n0,hn⟩:=h;exact⟨ex,s',q,n0,λn m h1 h2=>by simpa[bR]using hn n m h1 h2⟩
def aD(C:cR)(b:Code)(Q:Ex->St->Prop):Ex->St->Prop
 | .normal,s=>Ev C b s Q
 |ex,s=>Q ex s
theorem Ev.seq{a b:Code}{s:St}{Q:Ex->St->Prop}(h:Ev C a s (aD C b Q)):Ev C (.seq a b) s Q:=by
 obtain⟨ex,s',q,n0,hn⟩:=h
 cases ex with
 |normal=>
  obtain⟨Xy,s2,q2,n1,FA⟩:=q;exact⟨Xy,s2,q2,max n0 n1,λn m h1 h2=>by simp only[bR,hn n m (by omega) (by omega),FA n m (by omega) (by omega)]⟩
 |exit id=>exact⟨_,_,q,n0,λn m h1 h2=>by simp only[bR,hn n m h1 h2]⟩
 |ret=>exact⟨_,_,q,n0,λn m h1 h2=>by simp only[bR,hn n m h1 h2]⟩
theorem Ev.Tu{c:Operand}{a b:Code}{s:St}{Q:Ex->St->Prop}(hc:ev s.ρ c=.bool true)(h:Ev C a s Q):Ev C (.cond c a b) s Q:=by
 obtain⟨ex,s',q,n0,hn⟩:=h;exact⟨ex,s',q,n0,λn m h1 h2=>by simp only[bR,hc,hn n m h1 h2]⟩
theorem Ev.Tv{c:Operand}{a b:Code}{s:St}{Q:Ex->St->Prop}(hc:ev s.ρ c=.bool false)(h:Ev C b s Q):Ev C (.cond c a b) s Q:=by
 obtain⟨ex,s',q,n0,hn⟩:=h;exact⟨ex,s',q,n0,λn m h1 h2=>by simp only[bR,hc,hn n m h1 h2]⟩
def az(id:Nat)(Q:Ex->St->Prop):Ex->St->Prop
 | .exit eA,s=>if eA=id then Q .normal s else Q (.exit eA) s
 |ex,s=>Q ex s
theorem Ev.block{id:Nat}{c:Code}{s:St}{Q:Ex->St->Prop}(h:Ev C c s (az id Q)):Ev C (.block id c) s Q:=by
 obtain⟨ex,s',q,n0,hn⟩:=h
 cases ex with
 |normal=>exact⟨_,_,q,n0,λn m h1 h2=>by simp only[bR,hn n m h1 h2]⟩
 |exit eA=>
  simp only[az]at q
  by_cases bW:eA=id
  ·rw[if_pos bW]at q;exact⟨_,_,q,n0,λn m h1 h2=>by simp only[bR,hn n m h1 h2,if_pos bW]⟩
  ·rw[if_neg bW]at q;exact⟨_,_,q,n0,λn m h1 h2=>by simp only[bR,hn n m h1 h2,if_neg bW]⟩
 |ret=>exact⟨_,_,q,n0,λn m h1 h2=>by simp only[bR,hn n m h1 h2]⟩
def aL(I:St->Prop)(Q:Ex->St->Prop):Ex->St->Prop
 | .normal,s=>I s
 |ex,s=>Q ex s
theorem Ev.loop{c:Code}{s:St}{Q:Ex->St->Prop}(I:Nat->St->Prop)(k:Nat)(h0:I k s)(step:∀k s,I k s->Ev C c s (aL (λs'=>∃j,j<k/\I j s') Q)):Ev C (.loop c) s Q:=by
 have key:∀(k:Nat) (s:St),I k s->∃ex s',Q ex s'/\∃n0,∀n m j,n0<=n->n0<=m->n0<=j->iter (bR C (fo C n) m c) j s=some (ex,s'):=by
  intro k
  induction k using Nat.strongRecOn with
  |ind k ih=>
   intro s hs
   obtain⟨ex,s',q,n0,hn⟩:=step k s hs
   cases ex with
   |normal=>
    obtain⟨j,hj,hI⟩:=q;obtain⟨Xy,s2,q2,n1,FA⟩:=ih j hj s' hI;refine⟨Xy,s2,q2,max n0 n1+1,λn m i h1 h2 h3=>?_⟩;obtain⟨i,rfl⟩:∃i',i=i'+1:=⟨i - 1,by omega⟩;simp only[iter,hn n m (by omega) (by omega),FA n m i (by omega) (by omega) (by omega)]
   |exit id=>
    refine⟨_,_,q,n0+1,λn m i h1 h2 h3=>?_⟩;obtain⟨i,rfl⟩:∃i',i=i'+1:=⟨i - 1,by omega⟩;simp only[iter,hn n m (by omega) (by omega)]
   |ret=>
    refine⟨_,_,q,n0+1,λn m i h1 h2 h3=>?_⟩;obtain⟨i,rfl⟩:∃i',i=i'+1:=⟨i - 1,by omega⟩;simp only[iter,hn n m (by omega) (by omega)]
 obtain⟨ex,s',q,n0,hn⟩:=key k s h0;exact⟨ex,s',q,n0,λn m h1 h2=>by simp only[bR,hn n m m h1 h2 h2]⟩
theorem Ev.region{id:Nat}{ops:Array Oper}{s:St}{Q:Ex->St->Prop}(h:ah C ops ops.toList s (Q .normal)):Ev C (.region id ops false) s Q:=by
 obtain⟨s',q,n0,hn⟩:=h;exact⟨.normal,s',q,n0,λn m h1 h2=>by simp only[bR,abz,if_false,hn n h1]⟩
theorem ah.nil{ops:Array Oper}{s:St}{Q:St->Prop}(h:Q s):ah C ops [] s Q:=⟨s,h,0,λ_ _=>rfl⟩
theorem ah.step{ops:Array Oper}{o:Oper}{r:List Oper}{s s1:St}{Q:St->Prop}(e:∀run,fU C run ops o s=some s1)(h:ah C ops r s1 Q):ah C ops (o::r) s Q:=by
 obtain⟨s',q,n0,hn⟩:=h;exact⟨s',q,n0,λn h1=>by simp only[dE,e,hn n h1]⟩
theorem ah.call{ops:Array Oper}{o:Oper}{r:List Oper}{s:St}{Q:St->Prop}{c:Call}{x:Operand}{f:FuncId}{dn args:List PV}(hw:bA ops o s.ρ=some true)(ho:o.op=.call c)(hx:c.callee=.value x)(hf:ev s.ρ x=.fn f dn)
  (ha:c.args.toList.map (ev s.ρ)++dn=args) (hc:aj C 2 f args s.h (λv h'=>ah C ops r ⟨cd s.ρ o.dst v,h'⟩ Q)):ah C ops (o::r) s Q:=by
 obtain⟨v,h',⟨s',q,n1,FA⟩,n0,hn⟩:=hc;refine⟨s',q,max n0 n1,λn h1=>?_⟩
 have:au C (fo C n) 2 o.op s.ρ s.h=some (v,h'):=by
  rw[ho];simp only[au,hx,gr,hf,ha];exact hn n (by omega)
 simp only[dE,fU,hw,this,FA n (by omega)]
theorem ay.body{f:FuncId}{fn:Func}{c:Code}{args:List PV}{h:ab}{Q:PV->ab->Prop}(hf:C.P.funcs[f]?=some fn)(hb:fn.body=some c)
  (e:Ev C c ⟨nB args,h⟩ (λex s=>(ex=.normal\/ex=.ret)/\∃vs,dq C.P s.h s.ρ fn.results.toList=some vs/\Q (aO vs) s.h)):ay C f args h Q:=by
 obtain⟨ex,s,⟨hex,vs,hr,q⟩,n0,hn⟩:=e;refine⟨_,_,q,n0+1,λn h1=>?_⟩;obtain⟨n,rfl⟩:∃i',n=i'+1:=⟨n - 1,by omega⟩;show pG C (fo C n) n f args h=_;unfold pG;rw[hf];simp only[hb,hn n n (by omega) (by omega)];rcases hex with rfl |rfl <;>simp only[hr]
def aI(C:cR)(f:FuncId)(args:List PV)(r:PV):Prop:=∃n0,∀n,n0<=n->∃r0 hc r1,fo C n f args []=some (r0,hc)/\AG hc r0=some r1/\b9 r1=r
theorem UK{h:ab}{p r:PV}(e:rb h p=some r):AG h p=some r:=by unfold AG;rw[e]
theorem aI.ofX{f:FuncId}{args:List PV}{r:PV}(e:ay C f args [] (λr0 hc=>∃r1,AG hc r0=some r1/\b9 r1=r)):aI C f args r:=by
 obtain⟨r0,hc,⟨r1,h1,h2⟩,n0,hn⟩:=e;exact⟨n0,λn h=>⟨r0,hc,r1,hn n h,h1,h2⟩⟩
theorem aI.of{f:FuncId}{args:List PV}{r:PV}(e:ay C f args [] (λr0 hc=>∃r1,rb hc r0=some r1/\b9 r1=r)):aI C f args r:=by
 obtain⟨r0,hc,⟨r1,h1,h2⟩,n0,hn⟩:=e;exact⟨n0,λn h=>⟨r0,hc,r1,hn n h,UK h1,h2⟩⟩
theorem aI.pH{f:FuncId}{args:List PV}{r:PV}(a:aI C f args r):∃n,pH C n f args=some r:=by
 obtain⟨n0,hn⟩:=a;obtain⟨r0,hc,r1,h1,h2,h3⟩:=hn n0 (abn _);exact⟨n0,by unfold Pm.pH;rw[h1];simp[h2,h3]⟩
theorem aj.pure{lv:Nat}{f:FuncId}{args:List PV}{r:PV}{h:ab}{Q:PV->ab->Prop}(hm:C.mode f=.pure)(hv:ar args=true)(a:aI C f (aR args) r)(q:Q r h):aj C lv f args h Q:=by
 obtain⟨n0,hn⟩:=a;refine⟨r,h,q,n0,λn h1=>?_⟩;obtain⟨r0,hc,r1,e1,e2,e3⟩:=hn n h1;unfold dg;rw[hm];simp only[dp,hv,if_true,e1,e2,e3]
theorem aj.opened{f:FuncId}{args:List PV}{h:ab}{Q:PV->ab->Prop}(hm:C.mode f=.opened)
  (a:ay C f args h (λr h'=>Q r (if dZ h.length r&& (h'.take h.length).all (λo=>o.es.all (cK h.length))then h'.take h.length else h'))):aj C 2 f args h Q:=by
 obtain⟨r,h',q,n0,hn⟩:=a;refine⟨r,_,q,n0,λn h1=>?_⟩;unfold dg;rw[hm];simp only[ir,ek,abn,if_true,hn n h1]
 split <;>rfl
theorem aj.ext{lv:Nat}{f:FuncId}{g:List PV->Option PV}{args:List PV}{r:PV}{h:ab}{Q:PV->ab->Prop}(hm:C.mode f=.ext g)(hv:ar args=true)(a:g (aR args)=some r)(q:Q r h):aj C lv f args h Q:=by
 refine⟨r,h,q,0,λn h1=>?_⟩;unfold dg;rw[hm];simp only[hv,if_true,a,abw]
section
variable{ops:Array Oper}{d:Option Nat}{ty:TypeId}{pos:String}{af:Array Edge}{g:Option (Nat×Bool)}{r:List Oper}{ρ:Nat->PV}{h:ab}{Q:St->Prop}
theorem ah.val{op:Op}{v:PV}{h':ab}(hw:bA ops ⟨d,op,ty,pos,af,g⟩ ρ=some true)(hc:∀run,au C run 2 op ρ h=some (v,h'))(k:ah C ops r ⟨cd ρ d v,h'⟩ Q):ah C ops (⟨d,op,ty,pos,af,g⟩::r) ⟨ρ,h⟩ Q:=
 ah.step (s1:=⟨cd ρ d v,h'⟩) (λrun=>by simp only[fU,hw,hc]) k
theorem ah.off{op:Op}(hw:bA ops ⟨d,op,ty,pos,af,g⟩ ρ=some false)(k:ah C ops r ⟨cd ρ d .undef,h⟩ Q):ah C ops (⟨d,op,ty,pos,af,g⟩::r) ⟨ρ,h⟩ Q:=
 ah.step (s1:=⟨cd ρ d .undef,h⟩) (λrun=>by simp only[fU,hw]) k
def Gu:BinOp->Int->Int->Option Prop
 | .eql,a,b=>some (a=b)
 | .neq,a,b=>some (a≠b)
 | .lss,a,b=>some (a<b)
 | .leq,a,b=>some (a<=b)
 | .gtr,a,b=>some (b<a)
 | .geq,a,b=>some (b<=a)
 |_,_,_=>none
theorem ah.cmp{vB:BinOp}{t yt:TypeId}{x y:Operand}{k:IntKind}{a b:Int}{p:Prop}(hw:bA ops ⟨d,.binOp vB t x y yt,ty,pos,af,g⟩ ρ=some true)(hx:ev ρ x=.int k a)(hy:ev ρ y=.int k b)(hp:Gu vB a b=some p)
  (k1:p->ah C ops r ⟨cd ρ d (.bool true),h⟩ Q) (k2:¬p->ah C ops r ⟨cd ρ d (.bool false),h⟩ Q):ah C ops (⟨d,.binOp vB t x y yt,ty,pos,af,g⟩::r) ⟨ρ,h⟩ Q:=by
 by_cases LV:p
 ·refine ah.val (v:=.bool true) (h':=h) hw (λrun=>?_) (k1 LV);simp only[au,aC,hx,hy]
  cases vB <;>simp only[Gu,abU,reduceCtorEq]at hp <;>subst hp <;>simp[fE,gW,LV]
 ·refine ah.val (v:=.bool false) (h':=h) hw (λrun=>?_) (k2 LV);simp only[au,aC,hx,hy]
  cases vB <;>simp only[Gu,abU,reduceCtorEq]at hp <;>subst hp <;>simp[fE,gW,LV] <;>omega
theorem ah.X0{c:Call}{x:Operand}{f:FuncId}{dn args:List PV}(hw:bA ops ⟨d,.call c,ty,pos,af,g⟩ ρ=some true)(hx:c.callee=.value x)(hf:ev ρ x=.fn f dn)
  (ha:c.args.toList.map (ev ρ)++dn=args) (hc:aj C 2 f args h (λv h'=>ah C ops r ⟨cd ρ d v,h'⟩ Q)):ah C ops (⟨d,.call c,ty,pos,af,g⟩::r) ⟨ρ,h⟩ Q:=
 ah.call hw rfl hx hf ha hc
end
end Go.Pm
namespace Go.Pm
inductive Kd where
 |str
 |bool
 |int (k:IntKind)
 |sl (e:TypeId)
 |arr (n:Nat) (e:TypeId)
 |st (offs:List (Nat×TypeId))
 |mp (k e:TypeId)
 |other
def pA:TypeDesc->Kd
 | .string=>.str
 | .bool=>.bool
 | .int k=>.int k
 | .slice e=>.sl e
 | .array n e=>.arr n e
 | .struct fs=>.st (fs.toList.map λf=>(f.offset,f.type))
 | .map k e=>.mp k e
 |_=>.other
structure lQ(P:Program) where
 ts:Nat->Option Nat
 ta:Nat->Option Bool
 tz:Nat->Option PV
 tb:Nat->Option Nat
 kd:Nat->Option Kd
 dV:∀t n,ts t=some n->cA P t=some n
 OU:∀t n,ta t=some n->Jx P t=some n
 nt:∀t n,tz t=some n->jq P t=some n
 rU:∀t n,tb t=some n->mW P t=some n
 cT:∀t n,kd t=some n->(P.underlying t).map pA=some n
variable{C:cR}(T:lQ C.P)
variable{ops:Array Oper}{d:Nat}{ty:TypeId}{pos:String}{af:Array Edge}{r:List Oper}{ρ:Nat->PV}{L:List (Nat×PV)}{h:ab}{Q:St->Prop}
theorem mY{P:Program}{t:TypeId}{k:Kd}(e:(P.underlying t).map pA=some k):∃u,P.underlying t=some u/\pA u=k:=by
 cases hu:P.underlying t with
 |none=>rw[hu]at e;simp at e
 |some u=>rw[hu]at e;exact⟨u,rfl,abi e⟩
theorem qo{P:Program}{t:TypeId}(e:(P.underlying t).map pA=some .str):P.underlying t=some .string:=by
 obtain⟨u,h1,h2⟩:=mY e
 cases u <;>simp[pA]at h2;exact h1
theorem CB{P:Program}{t:TypeId}(e:(P.underlying t).map pA=some .bool):P.underlying t=some .bool:=by
 obtain⟨u,h1,h2⟩:=mY e
 cases u <;>simp[pA]at h2;exact h1
theorem Jn{P:Program}{t k el:TypeId}(e:(P.underlying t).map pA=some (.mp k el)):P.underlying t=some (.map k el):=by
 obtain⟨u,h1,h2⟩:=mY e
 cases u <;>simp[pA]at h2
 rw[h1,h2.1,h2.2]
theorem bz{P:Program}{t el:TypeId}(e:(P.underlying t).map pA=some (.sl el)):P.underlying t=some (.slice el):=by
 obtain⟨u,h1,h2⟩:=mY e
 cases u <;>simp[pA]at h2;subst h2;exact h1
theorem OV{P:Program}{t el:TypeId}{n:Nat}(e:(P.underlying t).map pA=some (.arr n el)):P.underlying t=some (.array n el):=by
 obtain⟨u,h1,h2⟩:=mY e
 cases u <;>simp[pA]at h2;obtain⟨rfl,rfl⟩:=h2;exact h1
theorem pK{P:Program}{t:TypeId}{k:IntKind}(e:(P.underlying t).map pA=some (.int k)):P.underlying t=some (.int k):=by
 obtain⟨u,h1,h2⟩:=mY e
 cases u <;>simp[pA]at h2;subst h2;exact h1
theorem OW{P:Program}{t:TypeId}{os:List (Nat×TypeId)}(e:(P.underlying t).map pA=some (.st os)):∃fs,P.underlying t=some (.struct fs)/\fs.toList.map (λf=>(f.offset,f.type))=os:=by
 obtain⟨u,h1,h2⟩:=mY e
 cases u <;>simp[pA]at h2;exact⟨_,h1,h2⟩
def lk:List (Nat×PV)->Nat->Option PV
 |[],_=>none
 |(k,v)::L,t=>if t=k then some v else lk L t
def cM(L:List (Nat×PV)):Operand->Option PV
 | .tmp t=>lk L t
 | .const (.int k n)=>some (.int k n)
 | .const (.bool b)=>some (.bool b)
 | .const (.string s)=>some (.str s)
 | .const (.slice none 0 0)=>some (.aa true [])
 | .const (.pointer none)=>some .eE
 | .const .nilFunc=>some .aG
 | .const (.map none)=>some .gN
 | .const v=>some (cv v)
 | .func f=>some (.fn f [])
 | .global _=>none
def zl(L:List (Nat×PV)):List Operand->Option (List PV)
 |[]=>some []
 |x::xs=>match cM L x,zl L xs with
  |some v,some vs=>some (v::vs)
  |_,_=>none
theorem dC{L:List (Nat×PV)}{t:Nat}{v:PV}(e:lk L t=some v)(ρ:Nat->PV):al L ρ t=v:=by
 induction L with
 |nil=>cases e
 |cons x L ih=>
  obtain⟨k,u⟩:=x;simp only[lk]at e;simp only[al]
  split at e
  ·rename_i hk;rw[if_pos hk];exact abi e
  ·rename_i hk;rw[if_neg hk];exact ih e
theorem an{L:List (Nat×PV)}{x:Operand}{v:PV}(e:cM L x=some v)(ρ:Nat->PV):ev (al L ρ) x=v:=by
 unfold cM at e
 split at e <;>first
  |exact dC e ρ
  |(cases e;done)
  |(obtain rfl:=abi e;rfl)
theorem gV{L:List (Nat×PV)}{ρ:Nat->PV}:∀{xs:List Operand} {vs:List PV},zl L xs=some vs->xs.map (ev (al L ρ))=vs
 |[],vs,e=>by simp[zl]at e;subst e;rfl
 |x::xs,vs,e=>by
  simp only[zl]at e
  split at e
  ·rename_i v Hu h1 h2
   obtain rfl:=abi e;simp[an h1,gV h2]
  ·cases e
theorem cj(d:Nat)(v:PV)(L:List (Nat×PV))(ρ:Nat->PV):cd (al L ρ) (some d) v=al ((d,v)::L) ρ:=by
 funext t
 simp only[cd,pj,al]
theorem ah.fe{op:Op}{v:PV}{h':ab}(hc:∀run,au C run 2 op (al L ρ) h=some (v,h'))(k:ah C ops r ⟨al ((d,v)::L) ρ,h'⟩ Q):ah C ops (⟨some d,op,ty,pos,af,none⟩::r) ⟨al L ρ,h⟩ Q:=
 ah.val rfl hc (by rw[cj];exact k)
theorem R.xy{op:Op}{j d':Nat}{want b:Bool}(hd:(ops.toList[j]?).bind (·.dst)=some d')(hb:lk L d'=some (.bool b))(he:(b==want)=true)(k:ah C ops (⟨some d,op,ty,pos,af,none⟩::r) ⟨al L ρ,h⟩ Q):
  ah C ops (⟨some d,op,ty,pos,af,some (j,want)⟩::r) ⟨al L ρ,h⟩ Q:=by
 obtain⟨s',q,n0,hn⟩:=k;refine⟨s',q,n0,λn h1=>?_⟩;rw[<-hn n h1];simp only[dE,fU,bA,hd,dC hb,he]
theorem R.oH{op:Op}{j d':Nat}{want b:Bool}(hd:(ops.toList[j]?).bind (·.dst)=some d')(hb:lk L d'=some (.bool b))(he:(b==want)=false)(k:ah C ops r ⟨al ((d,.undef)::L) ρ,h⟩ Q):
  ah C ops (⟨some d,op,ty,pos,af,some (j,want)⟩::r) ⟨al L ρ,h⟩ Q:=ah.off (by simp only[bA,hd,dC hb,he]) (by rw[cj];exact k)
theorem R.TP{op:Op}{j d':Nat}{want:Bool}(hd:(ops.toList[j]?).bind (·.dst)=some d')(hb:lk L d'=some .undef)(k:ah C ops r ⟨al ((d,.undef)::L) ρ,h⟩ Q):
  ah C ops (⟨some d,op,ty,pos,af,some (j,want)⟩::r) ⟨al L ρ,h⟩ Q:=ah.off (by simp only[bA,hd,dC hb]) (by rw[cj];exact k)
theorem R.move{x:Operand}{v:PV}(hx:cM L x=some (v))(k:ah C ops r ⟨al ((d,v)::L) ρ,h⟩ Q):ah C ops (⟨some d,.move x,ty,pos,af,none⟩::r) ⟨al L ρ,h⟩ Q:=
 ah.fe (λrun=>by simp only[au,aC,an hx]) k
theorem R.assign{x:Operand}{v:PV}(hx:cM L x=some (v))(k:ah C ops r ⟨al ((d,v)::L) ρ,h⟩ Q):ah C ops (⟨some d,.assign x,ty,pos,af,none⟩::r) ⟨al L ρ,h⟩ Q:=
 ah.fe (λrun=>by simp only[au,aC,an hx]) k
theorem R.iY{c x y:Operand}{v:PV}(hc:cM L c=some (.bool true))(hx:cM L x=some (v))(k:ah C ops r ⟨al ((d,v)::L) ρ,h⟩ Q):ah C ops (⟨some d,.pick c x y,ty,pos,af,none⟩::r) ⟨al L ρ,h⟩ Q:=
 ah.fe (λrun=>by simp only[au,aC,an hc,an hx,if_true]) k
theorem R.iW{c x y:Operand}{v:PV}(hc:cM L c=some (.bool false))(hx:cM L y=some (v))(k:ah C ops r ⟨al ((d,v)::L) ρ,h⟩ Q):ah C ops (⟨some d,.pick c x y,ty,pos,af,none⟩::r) ⟨al L ρ,h⟩ Q:=
 ah.fe (λrun=>by simp only[au,aC,an hc,an hx,abz,if_false]) k
inductive HG(o:aw):ab->ab->Nat->Prop
 |nil:HG o [] [o] 0
 |cons {x:aw} {l l':ab} {n:Nat}:HG o l l' n->HG o (x::l) (x::l') (n+1)
theorem HG.eq{o:aw}{l l':ab}{n:Nat}(a:HG o l l' n):l'=l++[o]/\n=l.length:=by
 induction a with
 |nil=>exact⟨rfl,rfl⟩
 |cons _ ih=>obtain⟨rfl,rfl⟩:=ih;exact⟨rfl,rfl⟩
theorem R.box{t:TypeId}{x:Operand}{v:PV}{n id:Nat}{h':ab}(hx:cM L x=some (v))(h1:(cells v).all bH=true)(hl:(cells v).length=n+1)(ha:HG ⟨.m,0,n+1,[v]⟩ h h' id)(k:ah C ops r ⟨al ((d,(.ptr id 0 0 0))::L) ρ,h'⟩ Q):
  ah C ops (⟨some d,.box t x,ty,pos,af,none⟩::r) ⟨al L ρ,h⟩ Q:=by
 obtain⟨rfl,rfl⟩:=ha.eq;exact ah.fe (λrun=>by simp[au,aC,an hx,h1,hl,newObj]) k
theorem R.alloc{t:TypeId}{z:PV}{n id:Nat}{h':ab}(hz:T.tz t=some z)(h1:(cells z).all bH=true)(hl:(cells z).length=n+1)(ha:HG ⟨.m,0,n+1,[z]⟩ h h' id)(k:ah C ops r ⟨al ((d,(.ptr id 0 0 0))::L) ρ,h'⟩ Q):
  ah C ops (⟨some d,.alloc t,ty,pos,af,none⟩::r) ⟨al L ρ,h⟩ Q:=by
 obtain⟨rfl,rfl⟩:=ha.eq;exact ah.fe (λrun=>by simp[au,aC,T.nt _ _ hz,h1,hl,newObj]) k
theorem R.gD{t:TypeId}{x:Operand}{p c:PV}{cs:List PV}{sz:Nat}(hx:cM L x=some (p))(hs:T.ts t=some sz)(ht:T.ta t=some false)(hp:cN h p=some (c::cs))(k:ah C ops r ⟨al ((d,c)::L) ρ,h⟩ Q):
  ah C ops (⟨some d,.load t x,ty,pos,af,none⟩::r) ⟨al L ρ,h⟩ Q:=
 ah.fe (λrun=>by simp[au,aC,an hx,iU,T.dV _ _ hs,T.OU _ _ ht,hp]) k
inductive qp:Nat->List PV->List PV->Prop
 |zero {l:List PV}:qp 0 l []
 |succ {n:Nat} {x:PV} {l l':List PV}:qp n l l'->qp (n+1) (x::l) (x::l')
theorem qp.eq{n:Nat}{l l':List PV}(a:qp n l l'):l'=l.take n/\n<=l.length:=by
 induction a with
 |zero=>simp
 |succ _ ih=>obtain⟨rfl,h⟩:=ih;simp;omega
theorem R.pn{t:TypeId}{x:Operand}{p:PV}{cs jH:List PV}{sz:Nat}(hx:cM L x=some (p))(hs:T.ts t=some (sz+1))(ht:T.ta t=some true)(hp:cN h p=some cs)(hc:qp (sz+1) cs jH)(k:ah C ops r ⟨al ((d,(.agg jH))::L) ρ,h⟩ Q):
  ah C ops (⟨some d,.load t x,ty,pos,af,none⟩::r) ⟨al L ρ,h⟩ Q:=by
 obtain⟨rfl,hle⟩:=hc.eq;exact ah.fe (λrun=>by simp[au,aC,an hx,iU,T.dV _ _ hs,T.OU _ _ ht,hp,hle]) k
theorem mV{s:TypeId}{f off:Nat}{ft:TypeId}{os:List (Nat×TypeId)}{sz:Nat}(hk:T.kd s=some (.st os))(hf:os[f]?=some (off,ft))(hs:T.ts ft=some (sz+1)):pD C.P s f=some (off,ft):=by
 obtain⟨fs,h1,h2⟩:=OW (T.cT _ _ hk);rw[<-h2,abB]at hf
 cases Wl:fs.toList[f]? with
 |none=>rw[Wl]at hf;cases hf
 |some fl=>
  rw[Wl]at hf;simp at hf;obtain⟨rfl,rfl⟩:=hf;have:fs[f]?=some fl:=by simpa using Wl
  simp[pD,h1,this,T.dV _ _ hs]
theorem R.fieldAddr{s:TypeId}{x:Operand}{f id ep i o off:Nat}{ft:TypeId}{os:List (Nat×TypeId)}{sz:Nat}(hx:cM L x=some (.ptr id ep i o))(hk:T.kd s=some (.st os))(hf:os[f]?=some (off,ft))(hs:T.ts ft=some (sz+1))
  (k:ah C ops r ⟨al ((d,(.ptr id ep i (o+off)))::L) ρ,h⟩ Q):ah C ops (⟨some d,.fieldAddr s x f,ty,pos,af,none⟩::r) ⟨al L ρ,h⟩ Q:=
 ah.fe (λrun=>by simp[au,aC,an hx,gy,mV T hk hf hs]) k
theorem R.cmp{vB:BinOp}{t yt:TypeId}{x y:Operand}{k:IntKind}{a b:Int}{p:Prop}(hx:cM L x=some (.int k a))(hy:cM L y=some (.int k b))(hp:Gu vB a b=some p)
  (k1:p->ah C ops r ⟨al ((d,(.bool true))::L) ρ,h⟩ Q) (k2:¬p->ah C ops r ⟨al ((d,(.bool false))::L) ρ,h⟩ Q):ah C ops (⟨some d,.binOp vB t x y yt,ty,pos,af,none⟩::r) ⟨al L ρ,h⟩ Q:=ah.cmp rfl (an hx ρ) (an hy ρ) hp (λhh=>by rw[cj];exact k1 hh) (λhh=>by rw[cj];exact k2 hh)
def arith:BinOp->Int->Int->Option Int
 | .add,a,b=>some (a+b)
 | .sub,a,b=>some (a - b)
 | .mul,a,b=>some (a * b)
 |_,_,_=>none
theorem R.arith{vB:BinOp}{t yt:TypeId}{x y:Operand}{k:IntKind}{a b c c':Int}(hx:cM L x=some (.int k a))(hy:cM L y=some (.int k b))(hp:Pm.arith vB a b=some c)(hw:k.wrap c=c')(kk:ah C ops r ⟨al ((d,(.int k c'))::L) ρ,h⟩ Q):
  ah C ops (⟨some d,.binOp vB t x y yt,ty,pos,af,none⟩::r) ⟨al L ρ,h⟩ Q:=by
 refine ah.fe (λrun=>?_) kk;simp only[au,aC,an hx,an hy]
 cases vB <;>simp only[Pm.arith,abU,reduceCtorEq]at hp <;>subst hp <;>simp[fE,gW,hw]
theorem R.TR{t yt:TypeId}{x y:Operand}{a b:ByteArray}(hx:cM L x=some (.str a))(hy:cM L y=some (.str b))(k1:a.toList=b.toList->ah C ops r ⟨al ((d,(.bool true))::L) ρ,h⟩ Q)(k2:a.toList≠b.toList->ah C ops r ⟨al ((d,(.bool false))::L) ρ,h⟩ Q):
  ah C ops (⟨some d,.binOp .eql t x y yt,ty,pos,af,none⟩::r) ⟨al L ρ,h⟩ Q:=by
 by_cases hh:a.toList=b.toList
 ·exact ah.fe (λrun=>by simp[au,aC,an hx,an hy,fE,mE,hh]) (k1 hh)
 ·exact ah.fe (λrun=>by simp[au,aC,an hx,an hy,fE,mE,hh]) (k2 hh)
def OX:BinOp->ByteArray->ByteArray->Option Bool
 | .lss,a,b=>some (Op.bytesLess a.toList b.toList)
 | .gtr,a,b=>some (!(Op.bytesLess a.toList b.toList ||a.toList==b.toList))
 | .neq,a,b=>some (!(a.toList==b.toList))
 |_,_,_=>none
theorem R.Up{vB:BinOp}{t yt:TypeId}{x y:Operand}{a b:ByteArray}{p:Bool}(hx:cM L x=some (.str a))(hy:cM L y=some (.str b))(hp:OX vB a b=some p)
  (k1:p=true->ah C ops r ⟨al ((d,.bool true)::L) ρ,h⟩ Q) (k2:p=false->ah C ops r ⟨al ((d,.bool false)::L) ρ,h⟩ Q):
  ah C ops (⟨some d,.binOp vB t x y yt,ty,pos,af,none⟩::r) ⟨al L ρ,h⟩ Q:=by
 have key:∀run,au C run 2 (.binOp vB t x y yt) (al L ρ) h=some (.bool p,h):=λrun=>by
  simp only[au,aC,an hx,an hy]
  cases vB <;>simp only[OX,abU,reduceCtorEq]at hp <;>subst hp <;>simp[fE,mE]
 cases p with
 |false=>exact ah.fe key (k2 rfl)
 |true=>exact ah.fe key (k1 rfl)
theorem R.not{t:TypeId}{x:Operand}{b b':Bool}(hx:cM L x=some (.bool b))(hb:(!b)=b')(k:ah C ops r ⟨al ((d,(.bool b'))::L) ρ,h⟩ Q):ah C ops (⟨some d,.unOp .not t x,ty,pos,af,none⟩::r) ⟨al L ρ,h⟩ Q:=
 ah.fe (λrun=>by simp[au,aC,an hx,SQ,hb]) k
theorem R.nilCheck{x:Operand}{id ep i o:Nat}(hx:cM L x=some (.ptr id ep i o))(k:ah C ops r ⟨al ((d,(.ptr id ep i o))::L) ρ,h⟩ Q):ah C ops (⟨some d,.nilCheck x,ty,pos,af,none⟩::r) ⟨al L ρ,h⟩ Q:=
 ah.fe (λrun=>by simp[au,aC,an hx]) k
theorem R.extract{x:Operand}{i:Nat}{vs:List PV}{v:PV}(hx:cM L x=some (.ct vs))(hv:vs[i]?=some v)(k:ah C ops r ⟨al ((d,v)::L) ρ,h⟩ Q):ah C ops (⟨some d,.extract x i,ty,pos,af,none⟩::r) ⟨al L ρ,h⟩ Q:=
 ah.fe (λrun=>by simp[au,aC,an hx,hv]) k
theorem R.ie{t el:TypeId}{x ix:Operand}{full:Bool}{es:List PV}{k:IntKind}{i:Nat}{v:PV}{cs:List PV}{sz:Nat}(hx:cM L x=some (.aa full es))(hi:cM L ix=some (.int k (i:Int)))(hk:T.kd t=some (.sl el))(hs:T.ts el=some (sz+1))
  (hv:es[i]?=some v) (hc:cells v=cs) (hl:cs.length=sz+1) (kk:ah C ops r ⟨al ((d,(.eQ cs))::L) ρ,h⟩ Q):ah C ops (⟨some d,.indexAddr t x ix,ty,pos,af,none⟩::r) ⟨al L ρ,h⟩ Q:=by
 have cG:i<es.length:=by
  rcases ab0 i es.length with h |h
  ·exact h
  ·rw[abC h]at hv;cases hv
 subst hc;have C5:es[i]=v:=by rw[abo cG]at hv;exact abi hv
 exact ah.fe (λrun=>by simp[au,aC,an hx,an hi,cE,bz (T.cT _ _ hk),T.dV _ _ hs,cG,C5,hl]) kk
theorem R.rW{t el:TypeId}{x ix:Operand}{id ep off len:Nat}{k:IntKind}{i:Nat}{o:aw}(hx:cM L x=some (.ak id ep off len))(hi:cM L ix=some (.int k (i:Int)))(hk:T.kd t=some (.sl el))(ho:getM h id ep=some o)(hs:T.ts el=some o.bM)(cG:i<len)(hle:off+len<=o.es.length)
  (kk:ah C ops r ⟨al ((d,(.ptr id ep (off+i) 0))::L) ρ,h⟩ Q):ah C ops (⟨some d,.indexAddr t x ix,ty,pos,af,none⟩::r) ⟨al L ρ,h⟩ Q:=
 ah.fe (λrun=>by simp[au,aC,an hx,an hi,cE,bz (T.cT _ _ hk),T.dV _ _ hs,ho,cG,hle]) kk
theorem R.yT{t:TypeId}{ts:List TypeId}{x:Operand}{xs:List Operand}{s:ByteArray}(hx:cM L x=some (.str s))(hk:T.kd t=some .str)(k:ah C ops r ⟨al ((d,(.int .i64 s.size))::L) ρ,h⟩ Q):
  ah C ops (⟨some d,.call ⟨.builtin .len,(x::xs).toArray,(t::ts).toArray⟩,ty,pos,af,none⟩::r) ⟨al L ρ,h⟩ Q:=
 ah.fe (λrun=>by simp[au,an hx,bt,pE,qo (T.cT _ _ hk)]) k
theorem R.rV{t el:TypeId}{ts:List TypeId}{x:Operand}{xs:List Operand}{full:Bool}{es:List PV}(hx:cM L x=some (.aa full es))(hk:T.kd t=some (.sl el))(k:ah C ops r ⟨al ((d,(.int .i64 es.length))::L) ρ,h⟩ Q):
  ah C ops (⟨some d,.call ⟨.builtin .len,(x::xs).toArray,(t::ts).toArray⟩,ty,pos,af,none⟩::r) ⟨al L ρ,h⟩ Q:=
 ah.fe (λrun=>by simp[au,an hx,bt,pE,bz (T.cT _ _ hk)]) k
theorem R.zZ{t el:TypeId}{ts:List TypeId}{x:Operand}{xs:List Operand}{id ep off len:Nat}{o:aw}(hx:cM L x=some (.ak id ep off len))(hk:T.kd t=some (.sl el))(ho:getM h id ep=some o)(hle:off+len<=o.es.length)(k:ah C ops r ⟨al ((d,(.int .i64 len))::L) ρ,h⟩ Q):
  ah C ops (⟨some d,.call ⟨.builtin .len,(x::xs).toArray,(t::ts).toArray⟩,ty,pos,af,none⟩::r) ⟨al L ρ,h⟩ Q:=
 ah.fe (λrun=>by simp[au,an hx,bt,pE,bz (T.cT _ _ hk),ho,hle]) k
theorem R.call{x:Operand}{xs:List Operand}{Bh:Array TypeId}{f:FuncId}{dn args:List PV}(hf:cM L x=some (.fn f dn))(ha:zl L xs=some args)
  (hc:aj C 2 f (args++dn) h (λv h'=>ah C ops r ⟨al ((d,v)::L) ρ,h'⟩ Q)):ah C ops (⟨some d,.call ⟨.value x,xs.toArray,Bh⟩,ty,pos,af,none⟩::r) ⟨al L ρ,h⟩ Q:=
 ah.X0 (args:=args++dn) rfl rfl (an hf ρ) (by simp[gV ha]) (by simpa only[cj]using hc)
theorem Ev.fJ{c:Operand}{a b:Code}{Q:Ex->St->Prop}{t:Bool}(hc:cM L c=some (.bool t))(k:Ev C (bif t then a else b) ⟨al L ρ,h⟩ Q):Ev C (.cond c a b) ⟨al L ρ,h⟩ Q:=by
 cases t
 ·exact Ev.Tv (an hc ρ) k
 ·exact Ev.Tu (an hc ρ) k
theorem mI{n:Int}(h1: -9223372036854775808<=n)(h2:n<=9223372036854775807):IntKind.i64.wrap n=n:=by
 rw[IntKind.wrap_i64];omega
def CS:Nat->List PV->List (Nat×PV)
 |_,[]=>[]
 |n,a::xs=>(n,a)::CS (n+1) xs
theorem iB(args:List PV):nB args=al (CS 0 args) (λ_=>.undef):=by
 have key:∀(xs:List PV) (n t:Nat),al (CS n xs) (λ_=>PV.undef) t=if n<=t then xs.getD (t - n) .undef else .undef:=by
  intro xs
  induction xs with
  |nil=>intro n t;simp[CS,al]
  |cons a xs ih=>
   intro n t
   simp only[CS,al,ih]
   by_cases h:t=n
   ·subst h;simp
   ·rw[if_neg h]
    by_cases h2:n<=t
    ·rw[if_pos h2,if_pos (by omega),show t - n=(t - (n+1))+1 by omega,ads]
    ·rw[if_neg h2,if_neg (by omega)]
 funext t
 rw[key];simp[nB]
def aJ(C:cR)(fn:Func)(Q:PV->ab->Prop)(ex:Ex)(s:St):Prop:=(ex=.normal\/ex=.ret)/\∃vs,dq C.P s.h s.ρ fn.results.toList=some vs/\Q (aO vs) s.h
theorem ay.dG{f:FuncId}{fn:Func}{c:Code}{args:List PV}{h:ab}{Q:PV->ab->Prop}(hf:C.P.funcs[f]?=some fn)(hb:fn.body=some c)
  (e:Ev C c ⟨al (CS 0 args) (λ_=>.undef),h⟩ (aJ C fn Q)):ay C f args h Q:=ay.body hf hb (by rw[iB];exact e)
def Lc(L:List (Nat×PV)):List ResultVar->Option (List PV)
 |[]=>some []
 | .tmp t::r=>match lk L t,Lc L r with
  |some v,some vs=>some (v::vs)
  |_,_=>none
 |_=>none
theorem eF{P:Program}{L:List (Nat×PV)}{h:ab}{ρ:Nat->PV}:∀{l:List ResultVar} {vs:List PV},Lc L l=some vs->dq P h (al L ρ) l=some vs
 |[],vs,e=>by simp[Lc]at e;subst e;rfl
 | .tmp t::r,vs,e=>by
  simp only[Lc]at e
  split at e
  ·rename_i v Hu h1 h2
   obtain rfl:=abi e;simp[dq,dC h1,eF h2]
  ·cases e
 | .cell _ _::r,vs,e=>by simp[Lc]at e
theorem aJ.ret{fn:Func}{Q:PV->ab->Prop}{vs:List PV}(hr:Lc L fn.results.toList=some vs)(q:Q (aO vs) h):aJ C fn Q .ret ⟨al L ρ,h⟩:=⟨.inr rfl,vs,eF hr,q⟩
theorem aD.normal{b:Code}{Q:Ex->St->Prop}{s:St}(k:Ev C b s Q):aD C b Q .normal s:=k
theorem aD.ret{b:Code}{Q:Ex->St->Prop}{s:St}(k:Q .ret s):aD C b Q .ret s:=k
theorem aD.exit{b:Code}{Q:Ex->St->Prop}{s:St}{id:Nat}(k:Q (.exit id) s):aD C b Q (.exit id) s:=k
theorem az.normal{id:Nat}{Q:Ex->St->Prop}{s:St}(k:Q .normal s):az id Q .normal s:=k
theorem az.ret{id:Nat}{Q:Ex->St->Prop}{s:St}(k:Q .ret s):az id Q .ret s:=k
theorem az.Mm{id:Nat}{Q:Ex->St->Prop}{s:St}(k:Q .normal s):az id Q (.exit id) s:=by simp only[az,if_true];exact k
theorem az.RK{id eA:Nat}{Q:Ex->St->Prop}{s:St}(h:(eA==id)=false)(k:Q (.exit eA) s):az id Q (.exit eA) s:=by
 have:¬eA=id:=by simpa using h
 simp only[az,if_neg this];exact k
theorem aL.normal{I:St->Prop}{Q:Ex->St->Prop}{s:St}(k:I s):aL I Q .normal s:=k
theorem aL.ret{I:St->Prop}{Q:Ex->St->Prop}{s:St}(k:Q .ret s):aL I Q .ret s:=k
theorem aL.exit{I:St->Prop}{Q:Ex->St->Prop}{s:St}{id:Nat}(k:Q (.exit id) s):aL I Q (.exit id) s:=k
def Sh(L:List (Nat×PV)):List (Nat×PV)->Prop
 |[]=>True
 |(k,v)::r=>lk L k=some v/\Sh L r
theorem Fe{L:List (Nat×PV)}:∀{L':List (Nat×PV)},Sh L L'->∀x∈L',lk L x.1=some x.2
 |[],_,x,hx=>by cases hx
 |(k,v)::r,h,x,hx=>by
  rcases abu.1 hx with rfl |hx
  ·exact h.1
  ·exact Fe h.2 x hx
theorem St.aU{L L':List (Nat×PV)}{ρ:Nat->PV}{h:ab}(hh:Sh L L'):(⟨al L ρ,h⟩:St)=⟨al L' (al L ρ),h⟩:=by
 rw[Nh (al L ρ) L' (λx hx=>dC (Fe hh x hx) ρ)]
theorem R.OY{t:TypeId}{z:PV}{n:Nat}(hz:T.tz t=some z)(h1:(cells z).all bH=true)(hl:(cells z).length=n+1)(k:ah C ops r ⟨al ((d,(.ptr h.length 0 0 0))::L) ρ,h++[⟨.m,0,n+1,[z]⟩]⟩ Q):
  ah C ops (⟨some d,.alloc t,ty,pos,af,none⟩::r) ⟨al L ρ,h⟩ Q:=
 ah.fe (λrun=>by simp[au,aC,T.nt _ _ hz,h1,hl,newObj]) k
theorem R.aaJ{t:TypeId}{x:Operand}{v:PV}{n:Nat}(hx:cM L x=some v)(h1:(cells v).all bH=true)(hl:(cells v).length=n+1)(k:ah C ops r ⟨al ((d,(.ptr h.length 0 0 0))::L) ρ,h++[⟨.m,0,n+1,[v]⟩]⟩ Q):
  ah C ops (⟨some d,.box t x,ty,pos,af,none⟩::r) ⟨al L ρ,h⟩ Q:=
 ah.fe (λrun=>by simp[au,aC,an hx,h1,hl,newObj]) k
theorem lT{h:ab}{n:Nat}{es:List PV}:getM (h++[⟨.m,0,n,es⟩]) h.length 0=some ⟨.m,0,n,es⟩:=by simp[getM]
theorem R.OZ{t:TypeId}{a x:Operand}{e v:PV}{n:Nat}(ha:cM L a=some (.ptr h.length 0 0 0))(hx:cM L x=some v)(hs:T.ts t=some n)(hl:(cells v).length=n)(h1:(cells v).all bH=true)(he:(cells e).length=n)
  (k:ah C ops r ⟨al L ρ,h++[⟨.m,0,n,[v]⟩]⟩ Q):ah C ops (⟨none,.store t a x,ty,pos,af,none⟩::r) ⟨al L ρ,h++[⟨.m,0,n,[e]⟩]⟩ Q:=by
 have k':ah C ops r ⟨cd (al L ρ) none .undef,h++[(⟨.m,0,n,[v]⟩:aw)]⟩ Q:=k;refine ah.val (v:=.undef) (h':=h++[(⟨.m,0,n,[v]⟩:aw)]) rfl (λrun=>?_) k';have hr:eR 0 n e v=v:=by unfold eR;rw[if_pos ⟨rfl,he.symm⟩]
 simp[au,aC,an ha,an hx,hZ,T.dV _ _ hs,lT,hl,he,hr];simpa using h1
theorem pcN{h:ab}{n:Nat}{e:PV}:cN (h++[⟨.m,0,n,[e]⟩]) (.ptr h.length 0 0 0)=some (cells e):=by simp[cN,lT]
theorem aaK{h:ab}{n off:Nat}{e:PV}:cN (h++[⟨.m,0,n,[e]⟩]) (.ptr h.length 0 0 off)=some ((cells e).drop off):=by simp[cN,lT]
theorem R.CT{t:TypeId}{x:Operand}{e:PV}{jH:List PV}{n sz:Nat}(hx:cM L x=some (.ptr h.length 0 0 0))(hs:T.ts t=some (sz+1))(ht:T.ta t=some true)(hc:qp (sz+1) (cells e) jH)
  (k:ah C ops r ⟨al ((d,(.agg jH))::L) ρ,h++[⟨.m,0,n,[e]⟩]⟩ Q):ah C ops (⟨some d,.load t x,ty,pos,af,none⟩::r) ⟨al L ρ,h++[⟨.m,0,n,[e]⟩]⟩ Q:=
 R.pn T hx hs ht pcN hc k
end Go.Pm
namespace Go.Pm
def iG(r r':iI):Prop:=∀f args h x,r f args h=some x->r' f args h=some x
variable{C:cR}{run run':iI}
theorem np(L:iG run run'){lv:Nat}{f:FuncId}{args:List PV}{h:ab}{x:PV×ab}(e:dp run lv f args h=some x):dp run' lv f args h=some x:=by
 unfold dp at e ⊢
 split at e
 ·rename_i hv
  rw[if_pos hv]
  cases hr:run f (aR args) []with
  |none=>rw[hr]at e;cases e
  |some y=>rw[hr]at e;rw[L _ _ _ _ hr];exact e
 ·rename_i hv
  rw[if_neg hv]
  cases ha:gz h args with
  |none=>
   rw[ha]at e;simp only at e ⊢
   cases hd:gA (qC 8 h) args with
   |none=>rw[hd]at e;cases e
   |some a=>
    rw[hd]at e;simp only at e ⊢
    cases hr:run f (aR a) []with
    |none=>rw[hr]at e;cases e
    |some y=>rw[hr]at e;rw[L _ _ _ _ hr];exact e
  |some a=>
   rw[ha]at e;simp only at e ⊢
   cases hr:run f (aR a) []with
   |none=>rw[hr]at e;cases e
   |some y=>rw[hr]at e;rw[L _ _ _ _ hr];exact e
theorem ko{g g':List PV->ab->Option (PV×ab)}(L:∀a h x,g a h=some x->g' a h=some x){lv:Nat}{args:List PV}{h:ab}{x:PV×ab}(e:ek g lv args h=some x):ek g' lv args h=some x:=by
 unfold ek at e ⊢
 split at e
 ·rename_i h2;rw[if_pos h2];exact L _ _ _ e
 ·rename_i h2
  rw[if_neg h2]
  split at e
  ·rename_i h1
   rw[if_pos h1]
   cases hr:g args (h.map bS)with
   |none=>rw[hr]at e;cases e
   |some y=>rw[hr]at e;rw[L _ _ _ hr];exact e
  ·cases e
theorem nq(L:iG run run'){lv:Nat}{f:FuncId}{args:List PV}{h:ab}{x:PV×ab}(e:ir run lv f args h=some x):ir run' lv f args h=some x:=by
 unfold ir at e ⊢
 cases hr:ek (run f) lv args h with
 |none=>rw[hr]at e;cases e
 |some y=>rw[hr]at e;rw[ko (λa h x=>L f a h x) hr];exact e
theorem yP(L:iG run run'){lv:Nat}{f:FuncId}{args:List PV}{h:ab}{x:PV×ab}(e:dg C run lv f args h=some x):dg C run' lv f args h=some x:=by
 unfold dg at e ⊢
 cases hm:C.mode f <;>simp only[hm]at e ⊢
 ·cases e
 ·exact np L e
 ·exact nq L e
 ·exact e
 ·exact ko (λ_ _ _ x=>x) e
 ·exact e
theorem j4(L:iG run run'){lv:Nat}{op:Op}{ρ:Nat->PV}{h:ab}{x:PV×ab}(e:au C run lv op ρ h=some x):au C run' lv op ρ h=some x:=by
 unfold au at e ⊢
 split at e
 ·split at e
  ·unfold gr at e ⊢
   split at e
   ·exact yP L e
   ·exact yP L e
   ·cases e
  ·exact e
  ·cases e
 ·exact e
theorem EN(L:iG run run'){ops:Array Oper}{o:Oper}{s s':St}(e:fU C run ops o s=some s'):fU C run' ops o s=some s':=by
 unfold fU at e ⊢
 split at e
 ·cases hr:au C run 2 o.op s.ρ s.h with
  |none=>rw[hr]at e;cases e
  |some y=>rw[hr]at e;rw[j4 L hr];exact e
 ·exact e
 ·cases e
theorem tE(L:iG run run'){ops:Array Oper}:∀{l:List Oper} {s s':St},dE C run ops l s=some s'->dE C run' ops l s=some s'
 |[],s,s',e=>e
 |o::l,s,s',e=>by
  simp only[dE]at e ⊢
  cases hr:fU C run ops o s with
  |none=>rw[hr]at e;cases e
  |some y=>
   rw[hr]at e;rw[EN L hr];exact tE L e
theorem CD(L:iG run run'){ops:Array Oper}{b:List Nat}{i:Nat}{o:Oper}{s s':wP}(e:cz C run ops b i o s=some s'):cz C run' ops b i o s=some s':=by
 unfold cz at e ⊢
 split at e
 ·split at e
  ·rename_i hh
   rw[if_pos hh]
   cases hr:au C run 1 o.op s.s.ρ s.s.h with
   |none=>rw[hr]at e;cases e
   |some y=>rw[hr]at e;rw[j4 L hr];exact e
  ·rename_i hh
   rw[if_neg hh]
   split at e
   ·rename_i hl
    rw[if_pos hl]
    cases hr:au C run 2 o.op s.s.ρ s.s.h with
    |none=>rw[hr]at e;cases e
    |some y=>rw[hr]at e;rw[j4 L hr];exact e
   ·rename_i hl
    rw[if_neg hl];simp only at e ⊢
    split at e
    ·rename_i hc
     rw[if_pos hc]
     cases hr:au C run 1 o.op s.s.ρ (cy (b.getD i 0).testBit s.L0 s.own s.s.h)with
     |none=>rw[hr]at e;cases e
     |some y=>rw[hr]at e;rw[j4 L hr];exact e
    ·cases e
 ·exact e
 ·cases e
theorem rG(L:iG run run'){ops:Array Oper}{b:List Nat}:∀{l:List Oper} {i:Nat} {s s':wP},dF C run ops b i l s=some s'->dF C run' ops b i l s=some s'
 |[],i,s,s',e=>e
 |o::l,i,s,s',e=>by
  simp only[dF]at e ⊢
  cases hr:cz C run ops b i o s with
  |none=>rw[hr]at e;cases e
  |some y=>
   rw[hr]at e;rw[CD L hr];exact rG L e
theorem CE(L:iG run run'){ops:Array Oper}{b:List Nat}{h0:ab}{i:Nat}{o:Oper}{s s':St}(e:cY C run ops b h0 i o s=some s'):cY C run' ops b h0 i o s=some s':=by
 unfold cY at e ⊢
 split at e
 ·split at e
  ·rename_i hh
   rw[if_pos hh]
   cases hr:au C run 1 o.op s.ρ s.h with
   |none=>rw[hr]at e;cases e
   |some y=>rw[hr]at e;rw[j4 L hr];exact e
  ·rename_i hh
   rw[if_neg hh]
   split at e
   ·rename_i hl
    rw[if_pos hl];exact e
   ·rename_i hl
    rw[if_neg hl]
    cases hs:(if jN o.op then aC C.P 1 o.op s.ρ s.h else none)with
    |some y=>rw[hs]at e;exact e
    |none=>
     rw[hs]at e;simp only at e ⊢
     split at e
     ·rename_i hk
      rw[if_pos hk]
      cases hr:au C run 2 o.op s.ρ s.h with
      |none=>rw[hr]at e;cases e
      |some y=>rw[hr]at e;rw[j4 L hr];exact e
     ·cases e
 ·exact e
 ·cases e
theorem rH(L:iG run run'){ops:Array Oper}{b:List Nat}{h0:ab}:∀{l:List Oper} {i:Nat} {s s':St},ck C run ops b h0 i l s=some s'->ck C run' ops b h0 i l s=some s'
 |[],i,s,s',e=>e
 |o::l,i,s,s',e=>by
  simp only[ck]at e ⊢
  cases hr:cY C run ops b h0 i o s with
  |none=>rw[hr]at e;cases e
  |some y=>
   rw[hr]at e;rw[CE L hr];exact rH L e
theorem Hl(L:iG run run'){ops:Array Oper}{s s':St}(e:js C run ops s=some s'):js C run' ops s=some s':=by
 unfold js at e ⊢
 cases hr:ck C run ops (before ops) (cF (gO ops (before ops) s.ρ) s.h) 0 ops.toList ⟨s.ρ,cF (gO ops (before ops) s.ρ) s.h⟩with
 |none=>rw[hr]at e;cases e
 |some y=>rw[hr]at e;rw[rH L hr];exact e
theorem qE{f f':St->Option (Ex×St)}(L:∀s x,f s=some x->f' s=some x):∀{n m:Nat} {s:St} {x:Ex×St},n<=m->iter f n s=some x->iter f' m s=some x
 |0,m,s,x,_,e=>by simp[iter]at e
 |n+1,m,s,x,hm,e=>by
  obtain⟨m,rfl⟩:∃k,m=k+1:=⟨m - 1,by omega⟩;simp only[iter]at e ⊢
  cases hr:f s with
  |none=>rw[hr]at e;cases e
  |some y=>
   rw[hr]at e;rw[L _ _ hr];obtain⟨ex,s'⟩:=y
   cases ex with
   |normal=>exact qE L (by omega) e
   |exit id=>exact e
   |ret=>exact e
theorem xK(L:iG run run'){n m:Nat}(Qy:n<=m):∀(c:Code) {s:St} {x:Ex×St},bR C run n c s=some x->bR C run' m c s=some x:=by
 intro c
 induction c with
 |region id ops draw=>
  intro s x e
  simp only[bR]at e ⊢
  cases draw with
  |false=>
   simp only[abz,if_false]at e ⊢
   cases hr:dE C run ops ops.toList s with
   |none=>rw[hr]at e;cases e
   |some y=>rw[hr]at e;rw[tE L hr];exact e
  |true=>
   simp only[if_true]at e ⊢
   by_cases hk:sH ops=true
   ·simp only[hk,if_true]at e ⊢
    cases hr:js C run ops s with
    |none=>rw[hr]at e;cases e
    |some y=>rw[hr]at e;rw[Hl L hr];exact e
   ·simp only[hk]at e ⊢
    cases hr:dF C run ops (before ops) 0 ops.toList ⟨s,s.h.length,[]⟩with
    |none=>rw[hr]at e;simp at e
    |some y=>rw[hr]at e;rw[rG L hr];exact e
 |seq a b iha ihb=>
  intro s x e
  simp only[bR]at e ⊢
  cases hr:bR C run n a s with
  |none=>rw[hr]at e;cases e
  |some y=>
   rw[hr]at e;rw[iha hr];obtain⟨ex,s'⟩:=y
   cases ex with
   |normal=>exact ihb e
   |exit id=>exact e
   |ret=>exact e
 |cond c a b iha ihb=>
  intro s x e
  simp only[bR]at e ⊢
  split at e
  ·exact iha e
  ·exact ihb e
  ·cases e
 |block id c ih=>
  intro s x e
  simp only[bR]at e ⊢
  cases hr:bR C run n c s with
  |none=>rw[hr]at e;cases e
  |some y=>rw[hr]at e;rw[ih hr];exact e
 |loop c ih=>
  intro s x e
  simp only[bR]at e ⊢;exact qE (λs x=>ih) Qy e
 |scope c ih=>
  intro s x e
  simp only[bR]at e ⊢;exact ih e
 |_=>
  intro s x e
  first
   |exact e
   |(simp[bR]at e;done)
   |(simp only[bR]at e ⊢;exact e)
theorem Hm(L:iG run run'){n m:Nat}(Qy:n<=m):iG (pG C run n) (pG C run' m):=by
 intro f args h x e
 unfold pG at e ⊢
 cases hf:C.P.funcs[f]? with
 |none=>rw[hf]at e;cases e
 |some fn=>
  rw[hf]at e;simp only at e ⊢
  cases hb:fn.body with
  |none=>rw[hb]at e;cases e
  |some c=>
   rw[hb]at e;simp only at e ⊢
   cases hr:bR C run n c ⟨nB args,h⟩with
   |none=>rw[hr]at e;cases e
   |some y=>rw[hr]at e;rw[xK L Qy c hr];exact e
theorem BB(C:cR):∀n,iG (fo C n) (fo C (n+1))
 |0=>λf args h x e=>by cases e
 |n+1=>Hm (BB C n) (ade n)
theorem Bk(C:cR){n m:Nat}(h:n<=m):iG (fo C n) (fo C m):=by
 induction h with
 |refl=>exact λf args h x e=>e
 |step _ ih=>exact λf args h x e=>BB C _ f args h x (ih f args h x e)
theorem aI.oF{f:FuncId}{args:List PV}{r:PV}{n:Nat}(e:Pm.pH C n f args=some r):aI C f args r:=by
 unfold Pm.pH at e
 cases hr:fo C n f args []with
 |none=>rw[hr]at e;cases e
 |some y=>
  obtain⟨r0,hc⟩:=y;rw[hr]at e
  cases h2:AG hc r0 with
  |none=>simp[h2]at e
  |some r1=>
   simp[h2]at e;exact⟨n,λm hm=>⟨r0,hc,r1,Bk C hm f args [] _ hr,h2,e⟩⟩
end Go.Pm
namespace Go.Pm
def aY(C:cR)(ops:Array Oper)(i:Nat)(l:List Oper)(x:wP)(Q:St->Prop):Prop:=
 ∃y:wP,Q y.s/\∃n0,∀n,n0<=n->dF C (fo C n) ops (before ops) i l x=some y
variable{C:cR}(T:lQ C.P)
variable{ops:Array Oper}{i:Nat}{d:Nat}{ty:TypeId}{pos:String}{af:Array Edge}{r:List Oper}{ρ:Nat->PV}{L:List (Nat×PV)}{h:ab}{L0:Nat}{own:List Nat}{Q:St->Prop}
theorem Ev.mJ{id:Nat}{Q:Ex->St->Prop}(k:aY C ops 0 ops.toList ⟨⟨al L ρ,h⟩,h.length,[]⟩ (Q .normal))(hk:sH ops=false:=by rfl):Ev C (.region id ops true) ⟨al L ρ,h⟩ Q:=by
 obtain⟨y,q,n0,hn⟩:=k;exact⟨.normal,y.s,q,n0,λn m h1 h2=>by simp only[bR,if_true,hk,abz,if_false,hn n h1,abw]⟩
theorem aY.nil{s:St}(k:Q s):aY C ops i [] ⟨s,L0,own⟩ Q:=⟨⟨s,L0,own⟩,k,0,λ_ _=>rfl⟩
theorem aY.step{o:Oper}{x x1:wP}(e:∃n0,∀n,n0<=n->cz C (fo C n) ops (before ops) i o x=some x1)(k:aY C ops (i+1) r x1 Q):aY C ops i (o::r) x Q:=by
 obtain⟨n1,FA⟩:=e;obtain⟨y,q,n0,hn⟩:=k;exact⟨y,q,max n0 n1,λn h1=>by simp only[dF,FA n (by omega),hn n (by omega)]⟩
theorem aY.plain{op:Op}{v:PV}{h':ab}(hh:cZ op=false)(hc:∀run,au C run 1 op (al L ρ) h=some (v,h'))(k:aY C ops (i+1) r ⟨⟨al ((d,v)::L) ρ,h⟩,L0,own⟩ Q):
  aY C ops i (⟨some d,op,ty,pos,af,none⟩::r) ⟨⟨al L ρ,h⟩,L0,own⟩ Q:=by
 refine aY.step ⟨0,λn _=>?_⟩ k;simp only[cz,bA,hh,if_true,hc,cj]
theorem aY.two{op:Op}{v:PV}{h':ab}(hh:cZ op=true)(hl:level ops (before ops) i=2)(hc:∃n0,∀n,n0<=n->au C (fo C n) 2 op (al L ρ) h=some (v,h'))(k:aY C ops (i+1) r ⟨⟨al ((d,v)::L) ρ,h'⟩,h'.length,[]⟩ Q):
  aY C ops i (⟨some d,op,ty,pos,af,none⟩::r) ⟨⟨al L ρ,h⟩,L0,own⟩ Q:=by
 obtain⟨n0,hn⟩:=hc;refine aY.step ⟨n0,λn h1=>?_⟩ k;simp only[cz,bA,hh,ab2,if_false,hl,if_true,hn n h1,cj]
theorem aY.one{op:Op}{v:PV}(hh:cZ op=true)(hl:level ops (before ops) i≠2)(dw:aV h=true)(kU:(op.operands.toList.all λy=>bq (aQ h) (ev (al L ρ) y))=true)
  (hc:∃n0,∀n,n0<=n->au C (fo C n) 1 op (al L ρ) h=some (v,h)) (k:aY C ops (i+1) r ⟨⟨al ((d,v)::L) ρ,h⟩,h.length,[]⟩ Q):
  aY C ops i (⟨some d,op,ty,pos,af,none⟩::r) ⟨⟨al L ρ,h⟩,h.length,[]⟩ Q:=by
 obtain⟨n0,hn⟩:=hc;refine aY.step ⟨n0,λn h1=>?_⟩ k;have hM:cy ((before ops).getD i 0).testBit h.length [] h=h:=by simp[cy]
 simp only[cz,bA,hh,ab2,if_false,hl,hM,dw,kU,and_self,if_true,hn n h1,cj];simp
theorem gj(f:Nat->Bool)(cs:List PV):bw f cs=cs.all (bq f):=by
 induction cs with
 |nil=>rfl
 |cons c r ih=>simp[bw,ih]
theorem aY.read{op:Op}{v:PV}(hh:cZ op=true)(dw:aV h=true)(kU:(op.operands.toList.all λy=>bq (aQ h) (ev (al L ρ) y))=true)
  (hc:∃n0,∀n lv,n0<=n->1<=lv->au C (fo C n) lv op (al L ρ) h=some (v,h)) (k:aY C ops (i+1) r ⟨⟨al ((d,v)::L) ρ,h⟩,h.length,[]⟩ Q):
  aY C ops i (⟨some d,op,ty,pos,af,none⟩::r) ⟨⟨al L ρ,h⟩,h.length,[]⟩ Q:=by
 obtain⟨n0,hn⟩:=hc
 by_cases hl:level ops (before ops) i=2
 ·exact aY.two hh hl ⟨n0,λn h1=>hn n 2 h1 (by omega)⟩ k
 ·exact aY.one hh hl dw kU ⟨n0,λn h1=>hn n 1 h1 (abn _)⟩ k
theorem D.move{x:Operand}{v:PV}(hx:cM L x=some v)(k:aY C ops (i+1) r ⟨⟨al ((d,v)::L) ρ,h⟩,L0,own⟩ Q):aY C ops i (⟨some d,.move x,ty,pos,af,none⟩::r) ⟨⟨al L ρ,h⟩,L0,own⟩ Q:=
 aY.plain (h':=h) rfl (λrun=>by simp only[au,aC,an hx]) k
theorem D.assign{x:Operand}{v:PV}(hx:cM L x=some v)(k:aY C ops (i+1) r ⟨⟨al ((d,v)::L) ρ,h⟩,L0,own⟩ Q):aY C ops i (⟨some d,.assign x,ty,pos,af,none⟩::r) ⟨⟨al L ρ,h⟩,L0,own⟩ Q:=
 aY.plain (h':=h) rfl (λrun=>by simp only[au,aC,an hx]) k
theorem D.fieldAddr{s:TypeId}{x:Operand}{f id ep j o off:Nat}{ft:TypeId}{os:List (Nat×TypeId)}{sz:Nat}(hx:cM L x=some (.ptr id ep j o))(hk:T.kd s=some (.st os))(hf:os[f]?=some (off,ft))(hs:T.ts ft=some (sz+1))
  (k:aY C ops (i+1) r ⟨⟨al ((d,.ptr id ep j (o+off))::L) ρ,h⟩,L0,own⟩ Q):aY C ops i (⟨some d,.fieldAddr s x f,ty,pos,af,none⟩::r) ⟨⟨al L ρ,h⟩,L0,own⟩ Q:=
 aY.plain (h':=h) rfl (λrun=>by simp[au,aC,an hx,gy,mV T hk hf hs]) k
theorem D.gD{t:TypeId}{x:Operand}{p c:PV}{cs:List PV}{sz:Nat}(dw:aV h=true)(hx:cM L x=some p)(hv:bq (aQ h) p=true)(hs:T.ts t=some sz)(ht:T.ta t=some false)(hp:cN h p=some (c::cs))
  (k:aY C ops (i+1) r ⟨⟨al ((d,c)::L) ρ,h⟩,h.length,[]⟩ Q):aY C ops i (⟨some d,.load t x,ty,pos,af,none⟩::r) ⟨⟨al L ρ,h⟩,h.length,[]⟩ Q:=
 aY.read rfl dw (by simp[Op.operands,an hx,hv]) ⟨0,λn lv _ _=>by simp[au,aC,an hx,iU,T.dV _ _ hs,T.OU _ _ ht,hp]⟩ k
theorem D.pn{t:TypeId}{x:Operand}{p:PV}{cs jH:List PV}{sz:Nat}(dw:aV h=true)(hx:cM L x=some p)(hv:bq (aQ h) p=true)(hs:T.ts t=some (sz+1))(ht:T.ta t=some true)(hp:cN h p=some cs)(hc:qp (sz+1) cs jH)
  (k:aY C ops (i+1) r ⟨⟨al ((d,.agg jH)::L) ρ,h⟩,h.length,[]⟩ Q):aY C ops i (⟨some d,.load t x,ty,pos,af,none⟩::r) ⟨⟨al L ρ,h⟩,h.length,[]⟩ Q:=by
 obtain⟨rfl,hle⟩:=hc.eq;exact aY.read rfl dw (by simp[Op.operands,an hx,hv]) ⟨0,λn lv _ _=>by simp[au,aC,an hx,iU,T.dV _ _ hs,T.OU _ _ ht,hp,hle]⟩ k
theorem D.ie{t el:TypeId}{x ix:Operand}{full:Bool}{es:List PV}{k:IntKind}{j:Nat}{v:PV}{cs:List PV}{sz:Nat}(dw:aV h=true)(hx:cM L x=some (.aa full es))(hi:cM L ix=some (.int k (j:Int)))(hk:T.kd t=some (.sl el))(hs:T.ts el=some (sz+1))
  (hv:es[j]?=some v) (hc:cells v=cs) (hl:cs.length=sz+1) (kk:aY C ops (i+1) r ⟨⟨al ((d,.eQ cs)::L) ρ,h⟩,h.length,[]⟩ Q):aY C ops i (⟨some d,.indexAddr t x ix,ty,pos,af,none⟩::r) ⟨⟨al L ρ,h⟩,h.length,[]⟩ Q:=by
 have cG:j<es.length:=by
  rcases ab0 j es.length with h |h
  ·exact h
  ·rw[abC h]at hv;cases hv
 subst hc;have C5:es[j]=v:=by rw[abo cG]at hv;exact abi hv
 exact aY.read rfl dw (by simp[Op.operands,an hx,an hi,bq]) ⟨0,λn lv _ _=>by simp[au,aC,an hx,an hi,cE,bz (T.cT _ _ hk),T.dV _ _ hs,cG,C5,hl]⟩ kk
theorem D.kD{x:Operand}{xs:List Operand}{Bh:Array TypeId}{f:FuncId}{dn args:List PV}{v:PV}(dw:aV h=true)(hf:cM L x=some (.fn f dn))(ha:zl L xs=some args)(hm:C.mode f=.pure)(Ab:ar (args++dn)=true)
  (ij:bw (aQ h) args=true) (hcv:bw (aQ h) dn=true) (a:aI C f (aR (args++dn)) v)
  (k:aY C ops (i+1) r ⟨⟨al ((d,v)::L) ρ,h⟩,h.length,[]⟩ Q):aY C ops i (⟨some d,.call ⟨.value x,xs.toArray,Bh⟩,ty,pos,af,none⟩::r) ⟨⟨al L ρ,h⟩,h.length,[]⟩ Q:=by
 obtain⟨n0,hn⟩:=a;have he:=gV (ρ:=ρ) ha;refine aY.read rfl dw ?_ ⟨n0,λn lv h1 h2=>?_⟩ k
 ·rw[abk]
  intro y hy
  simp[Op.operands,Call.operands]at hy;rcases hy with rfl |hy
  ·rw[an hf];simpa[bq]using hcv
  ·rw[gj]at ij;have:ev (al L ρ) y∈args:=by rw[<-he];exact abZ.2 ⟨y,hy,rfl⟩
   exact abk.1 ij _ this
 ·obtain⟨r0,hc,r1,e1,e2,e3⟩:=hn n h1;simp only[au,gr,an hf];unfold dg;rw[hm];simp only[he,dp,Ab,if_true,e1,e2,e3]
end Go.Pm
namespace Go.Pm
def L2(R:Value->PV->Prop)(vs:List Value)(cs:List PV):Prop:=vs.length=cs.length/\∀j,j<cs.length->R (vs.getD j undef) (cs.getD j .any)
inductive ch(w:World)(A:Nat->Prop):Value->PV->Prop
 |int (k:IntKind) (n:Int):ch w A (.int k n) (.int k n)
 |bool (b:Bool):ch w A (.bool b) (.bool b)
 |str (s:ByteArray):ch w A (.string s) (.str s)
 |eE:ch w A (.pointer none) .eE
 |gN:ch w A (.map none) .gN
 |aG:ch w A .nilFunc .aG
 |agg (vs:List Value) (cs:List PV):vs.length=cs.length->(∀j,j<cs.length->ch w A (vs.getD j undef) (cs.getD j .any))->ch w A (.agg vs.toArray) (.agg cs)
 |ct (vs:List Value) (cs:List PV):vs.length=cs.length->(∀j,j<cs.length->ch w A (vs.getD j undef) (cs.getD j .any))->ch w A (.tuple vs.toArray) (.ct cs)
 |fn (f:FuncId) (vs:List Value) (cs:List PV):vs.length=cs.length->(∀j,j<cs.length->ch w A (vs.getD j undef) (cs.getD j .any))->ch w A (.func (.func f) #[] vs.toArray) (.fn f cs)
 |ou (f:FuncId) (k:Nat) (vs:List Value) (cs:List PV):vs.length=cs.length->(∀j,j<cs.length->ch w A (vs.getD j undef) (cs.getD j .any))->ch w A (.func (.func f) (vs.take k).toArray (vs.drop k).toArray) (.ou f k cs)
 |gY (a:Option Addr) (cap:Nat) (full:Bool):(full=true->cap=0)->ch w A (.slice a 0 cap) (.aa full [])
 |aa (b off cap sz:Nat) (full:Bool) (es:List PV) (pN:Nat->Nat->Value):es≠[]->es.length<=cap->(full=true->cap=es.length)->¬A b->0<sz->
   (∀i,i<es.length->(cells (es.getD i .any)).length=sz)->
   (∀i j,i<es.length->j<sz->w.cell? ⟨b,off+(i * sz+j),none⟩=some (pN i j))->
   (∀i j,i<es.length->j<sz->ch w A (pN i j) ((cells (es.getD i .any)).getD j .any))->
   ch w A (.slice (some ⟨b,off,none⟩) es.length cap) (.aa full es)
 |eQ (b off:Nat) (cs:List PV) (pN:Nat->Value):cs≠[]->¬A b->(∀j,j<cs.length->w.cell? ⟨b,off+j,none⟩=some (pN j))->
   (∀j,j<cs.length->ch w A (pN j) (cs.getD j .any))->ch w A (.pointer (some ⟨b,off,none⟩)) (.eQ cs)
inductive aE(w:World)(A:Nat->Prop)(β:List (Nat×Nat))(h:ab):Value->PV->Prop
 |val {v:Value} {p:PV}:ch w A v p->aE w A β h v p
 |undef:aE w A β h (.tuple #[]) .undef
 |any (v:Value):aE w A β h v .any
 |ak (v:Value) (id ep off len:Nat) (o:aw) (bc:Nat×Nat):(∃(a:Option Addr) (l c:Nat),v=.slice a l c)->h[id]?=some o->β[id]?=some bc->o.mu≠.x->(ep<=o.ep/\0<o.bM)->
   (o.ep=ep->off+len<=o.es.length->∃cap,v=.slice (some ⟨bc.1,off * o.bM,none⟩) len cap/\off+cap=bc.2)->
   aE w A β h v (.ak id ep off len)
 |ptr (v:Value) (id ep i off:Nat) (o:aw) (bc:Nat×Nat):(∃a:Addr,v=.pointer (some a))->h[id]?=some o->β[id]?=some bc->o.mu≠.x->(ep<=o.ep/\0<o.bM)->
   (o.ep=ep->v=.pointer (some ⟨bc.1,i * o.bM+off,none⟩))->
   aE w A β h v (.ptr id ep i off)
 |cD (v:Value) (id:Nat) (o:aw) (bc:Nat×Nat):(∃r:Nat,v=.map (some r))->h[id]?=some o->β[id]?=some bc->o.mu≠.x->(o.ep=0->v=.map (some bc.1))->aE w A β h v (.cD id)
 |agg (vs:List Value) (cs:List PV):vs.length=cs.length->(∀j,j<cs.length->aE w A β h (vs.getD j Go.undef) (cs.getD j .any))->aE w A β h (.agg vs.toArray) (.agg cs)
 |ct (vs:List Value) (cs:List PV):vs.length=cs.length->(∀j,j<cs.length->aE w A β h (vs.getD j Go.undef) (cs.getD j .any))->aE w A β h (.tuple vs.toArray) (.ct cs)
 |fn (f:FuncId) (vs:List Value) (cs:List PV):vs.length=cs.length->(∀j,j<cs.length->aE w A β h (vs.getD j Go.undef) (cs.getD j .any))->aE w A β h (.func (.func f) #[] vs.toArray) (.fn f cs)
 |ou (f:FuncId) (k:Nat) (vs:List Value) (cs:List PV):vs.length=cs.length->(∀j,j<cs.length->aE w A β h (vs.getD j Go.undef) (cs.getD j .any))->aE w A β h (.func (.func f) (vs.take k).toArray (vs.drop k).toArray) (.ou f k cs)
def Mb(h:ab)(β:List (Nat×Nat))(b:Nat):Prop:=∃(id:Nat) (o:aw) (bc:Nat×Nat),h[id]?=some o/\β[id]?=some bc/\o.mu=.m/\bc.1=b
def Av(F:Nat->Prop)(h:ab)(β:List (Nat×Nat))(b:Nat):Prop:=F b\/Mb h β b
def Zm(w:World)(A:Nat->Prop)(β:List (Nat×Nat))(h:ab)(o:aw)(bc:Nat×Nat):Prop:=
 ∃T cs,w.heap[bc.1]?=some (.cells cs T (0,0))/\o.es.length<=bc.2/\bc.2 * o.bM<=cs.size/\0<o.bM/\
  (∀(i:Nat) (e:PV),o.es[i]?=some e->(cells e).length=o.bM/\∀(j:Nat) (p:PV),(cells e)[j]?=some p->∃v:Value,cs[i * o.bM+j]?=some v/\aE w A β h v p)
def Zn(w:World)(A:Nat->Prop)(β:List (Nat×Nat))(h:ab)(o:aw)(bc:Nat×Nat):Prop:=
 o.bM=0/\∃es clock,w.heap[bc.1]?=some (.map es clock)/\es.size=o.es.length/\
  (∀(i:Nat) (e:PV),o.es[i]?=some e->∃(k v:PV) (m:MapEntry),e=.agg [k,v]/\es[i]?=some m/\aE w A β h m.key k/\aE w A β h m.val v)
def kY(w:World)(A:Nat->Prop)(β:List (Nat×Nat))(h:ab)(o:aw)(bc:Nat×Nat):Prop:=Zm w A β h o bc\/Zn w A β h o bc
theorem kY.c{w:World}{A:Nat->Prop}{β:List (Nat×Nat)}{h:ab}{o:aw}{bc:Nat×Nat}(r:kY w A β h o bc)(hz:0<o.bM):Zm w A β h o bc:=by
 rcases r with r |r
 ·exact r
 ·have:=r.1;omega
theorem kY.m{w:World}{A:Nat->Prop}{β:List (Nat×Nat)}{h:ab}{o:aw}{bc:Nat×Nat}(r:kY w A β h o bc)(hz:o.bM=0):Zn w A β h o bc:=by
 rcases r with⟨_,_,_,_,_,h4,_⟩|r
 ·omega
 ·exact r
theorem kY.lt{w:World}{A:Nat->Prop}{β:List (Nat×Nat)}{h:ab}{o:aw}{bc:Nat×Nat}(r:kY w A β h o bc):bc.1<w.heap.size:=by
 rcases r with⟨_,_,h1,_⟩|⟨_,_,_,h1,_⟩ <;>exact(abL.1 h1).1
structure bm(w:World)(F:Nat->Prop)(β:List (Nat×Nat))(h:ab):Prop where
 len:β.length=h.length
 fin:∀b,F b->b<w.heap.size
 obj:∀(id:Nat) (o:aw) (bc:Nat×Nat),h[id]?=some o->β[id]?=some bc->o.mu≠.x->kY w (Av F h β) β h o bc
 iL:∀(id eA:Nat) (o o':aw) (bc dm:Nat×Nat),id≠eA->h[id]?=some o->h[eA]?=some o'->β[id]?=some bc->β[eA]?=some dm->o.mu=.m->o'.mu≠.x->bc.1≠dm.1
 out:∀(id:Nat) (o:aw) (bc:Nat×Nat),h[id]?=some o->β[id]?=some bc->(o.mu=.m\/o.mu=.f)->¬F bc.1
def IK(h:ab)(β:List (Nat×Nat))(h':ab)(β':List (Nat×Nat)):Prop:=
 ∀(id:Nat) (o:aw) (bc:Nat×Nat),h[id]?=some o->β[id]?=some bc->o.mu≠.x->
  ∃(o':aw) (dm:Nat×Nat),h'[id]?=some o'/\β'[id]?=some dm/\o'.mu≠.x/\(o.ep<=o'.ep/\(0<o.bM->0<o'.bM))/\(o.ep=o'.ep->o'.bM=o.bM/\(0<o.bM->o'.es.length=o.es.length)/\dm=bc)
theorem IK.refl(h:ab)(β:List (Nat×Nat)):IK h β h β:=λ_ o bc e1 e2 e3=>⟨o,bc,e1,e2,e3,⟨abn _,λh=>h⟩,λ_=>⟨rfl,λ_=>rfl,rfl⟩⟩
theorem IK.trans{h h1 h2:ab}{β β1 β2:List (Nat×Nat)}(a:IK h β h1 β1)(b:IK h1 β1 h2 β2):IK h β h2 β2:=by
 intro id o bc e1 e2 e3
 obtain⟨o1,c1,f1,f2,f3,f4,f5⟩:=a id o bc e1 e2 e3;obtain⟨o2,c2,g1,g2,g3,g4,g5⟩:=b id o1 c1 f1 f2 f3;have f41:=f4.1;have g41:=g4.1;refine⟨o2,c2,g1,g2,g3,⟨acb f4.1 g4.1,λhz=>g4.2 (f4.2 hz)⟩,λe=>?_⟩;obtain⟨p1,p2,p3⟩:=f5 (by omega);obtain⟨q1,q2,q3⟩:=g5 (by omega);exact⟨q1.trans p1,λhz=>(q2 (f4.2 hz)).trans (p2 hz),q3.trans p3⟩
structure eg(w:World)(h:ab)(β:List (Nat×Nat))(w':World)(h':ab)(β':List (Nat×Nat)):Prop where
 size:w.heap.size<=w'.heap.size
 len:h.length<=h'.length
 aU:∀b,b<w.heap.size->¬Mb h β b->w'.heap[b]?=w.heap[b]?
 shr:∀b,b<w.heap.size->Mb h' β' b->Mb h β b
 refs:IK h β h' β'
 LN:∀(id:Nat) (o:aw),h[id]?=some o->o.mu≠.m->h'[id]?=some o/\β'[id]?=β[id]?
 os:w'.os=w.os
 tape:w'.tape=w.tape
 output:w'.output=w.output
 drawn:w.drawn<=w'.drawn
theorem eg.refl(w:World)(h:ab)(β:List (Nat×Nat)):eg w h β w h β where
 size:=abn _
 len:=abn _
 aU _ _ _:=rfl
 shr _ _ m:=m
 refs:=IK.refl h β
 LN id o h1 _:=⟨h1,rfl⟩
 os:=rfl
 tape:=rfl
 output:=rfl
 drawn:=abn _
theorem eg.trans{w w1 w2:World}{h h1 h2:ab}{β β1 β2:List (Nat×Nat)}(a:eg w h β w1 h1 β1)(b:eg w1 h1 β1 w2 h2 β2):eg w h β w2 h2 β2 where
 size:=acb a.size b.size
 len:=acb a.len b.len
 aU k hk hm:=by
  have h1:¬Mb h1 β1 k:=λm=>hm (a.shr k hk m)
  rw[b.aU k (ab5 hk a.size) h1,a.aU k hk hm]
 shr k hk m:=a.shr k hk (b.shr k (ab5 hk a.size) m)
 refs:=a.refs.trans b.refs
 LN id o e1 e2:=by
  obtain⟨f1,f2⟩:=a.LN id o e1 e2;obtain⟨g1,g2⟩:=b.LN id o f1 e2;exact⟨g1,g2.trans f2⟩
 os:=b.os.trans a.os
 tape:=b.tape.trans a.tape
 output:=b.output.trans a.output
 drawn:=acb a.drawn b.drawn
theorem Jm{w:World}{b off:Nat}{v:Value}(h:w.cell? ⟨b,off,none⟩=some v):b<w.heap.size:=block_lt_of_cell h
theorem nZ{w w':World}{b off:Nat}(h:w'.heap[b]?=w.heap[b]?):w'.cell? ⟨b,off,none⟩=w.cell? ⟨b,off,none⟩:=by
 simp[World.cell?,h]
theorem ch.mono{w w':World}{A A':Nat->Prop}(hw:∀b,b<w.heap.size->¬A b->w'.heap[b]?=w.heap[b]?)(hA:∀b,b<w.heap.size->¬A b->¬A' b)
  {v:Value} {p:PV} (h:ch w A v p):ch w' A' v p:=by
 induction h with
 |int k n=>exact .int k n
 |bool b=>exact .bool b
 |str s=>exact .str s
 |eE=>exact .eE
 |gN=>exact .gN
 |aG=>exact .aG
 |agg vs cs hl _ ih=>exact .agg vs cs hl ih
 |ct vs cs hl _ ih=>exact .ct vs cs hl ih
 |fn f vs cs hl _ ih=>exact .fn f vs cs hl ih
 |ou f k vs cs hl _ ih=>exact .ou f k vs cs hl ih
 |gY a cap full hf=>exact .gY a cap full hf
 |aa b off cap sz full es pN h1 h2 h3 h4 h5 h6 h7 _ ih=>
  have bN:0<es.length:=ac7.2 h1;have hb:b<w.heap.size:=Jm (h7 0 0 bN h5);exact .aa b off cap sz full es pN h1 h2 h3 (hA b hb h4) h5 h6 (λi j hi hj=>by rw[nZ (hw b hb h4)];exact h7 i j hi hj) ih
 |eQ b off cs pN h1 h2 h3 _ ih=>
  have bN:0<cs.length:=ac7.2 h1;have hb:b<w.heap.size:=Jm (h3 0 bN);exact .eQ b off cs pN h1 (hA b hb h2) (λj hj=>by rw[nZ (hw b hb h2)];exact h3 j hj) ih
theorem ch.wc{w:World}{A A':Nat->Prop}(hA:∀b,A' b->A b){v:Value}{p:PV}(h:ch w A v p):ch w A' v p:=
 h.mono (λ_ _ _=>rfl) (λb _ hn ha=>hn (hA b ha))
theorem Av.mono{w w':World}{h h':ab}{β β':List (Nat×Nat)}{F:Nat->Prop}(s:eg w h β w' h' β')(b:Nat)(hb:b<w.heap.size)(hn:¬Av F h β b):¬Av F h' β' b:=by
 rintro(hf |hm)
 ·exact hn (.inl hf)
 ·exact hn (.inr (s.shr b hb hm))
theorem aE.UF{w w':World}{h h':ab}{β β':List (Nat×Nat)}{A A':Nat->Prop}(f:IK h β h' β')(hw:∀b,b<w.heap.size->¬A b->w'.heap[b]?=w.heap[b]?)(hA:∀b,b<w.heap.size->¬A b->¬A' b)
  {v:Value} {p:PV} (hv:aE w A β h v p):aE w' A' β' h' v p:=by
 induction hv with
 |val hs=>exact .val (hs.mono hw hA)
 |undef=>exact .undef
 |any v=>exact .any v
 |ak v id ep off len o bc h0 h1 h2 h3 h4 h5=>
  obtain⟨o',dm,f1,f2,f3,f4,f5⟩:=f id o bc h1 h2 h3;have h41:=h4.1;have f41:=f4.1;refine .ak v id ep off len o' dm h0 f1 f2 f3 ⟨acb h4.1 f4.1,f4.2 h4.2⟩ (λe1 e2=>?_);obtain⟨g1,g2,g3⟩:=f5 (by omega);have g2:=g2 h4.2;obtain⟨cap,k1,k2⟩:=h5 (by omega) (by omega);exact⟨cap,by rw[k1,g3,g1],by rw[k2,g3]⟩
 |ptr v id ep i off o bc h0 h1 h2 h3 h4 h5=>
  obtain⟨o',dm,f1,f2,f3,f4,f5⟩:=f id o bc h1 h2 h3;have h41:=h4.1;have f41:=f4.1;refine .ptr v id ep i off o' dm h0 f1 f2 f3 ⟨acb h4.1 f4.1,f4.2 h4.2⟩ (λe1=>?_);obtain⟨g1,g2,g3⟩:=f5 (by omega);rw[h5 (by omega),g3,g1]
 |cD v id o bc h0 h1 h2 h3 h5=>
  obtain⟨o',dm,f1,f2,f3,f4,f5⟩:=f id o bc h1 h2 h3;have f41:=f4.1;refine .cD v id o' dm h0 f1 f2 f3 (λe1=>?_);obtain⟨g1,g2,g3⟩:=f5 (by omega);rw[h5 (by omega),g3]
 |agg vs cs hl _ ih=>exact .agg vs cs hl ih
 |ct vs cs hl _ ih=>exact .ct vs cs hl ih
 |fn f vs cs hl _ ih=>exact .fn f vs cs hl ih
 |ou f k vs cs hl _ ih=>exact .ou f k vs cs hl ih
theorem aE.mono{w w':World}{h h':ab}{β β':List (Nat×Nat)}{F:Nat->Prop}(s:eg w h β w' h' β'){v:Value}{p:PV}(hv:aE w (Av F h β) β h v p):
  aE w' (Av F h' β') β' h' v p:=hv.UF s.refs (λb hb hn=>s.aU b hb (λm=>hn (.inr m))) (λb hb hn=>Av.mono s b hb hn)
section
variable{w:World}{A:Nat->Prop}{β:List (Nat×Nat)}{h:ab}{v:Value}
theorem aE.dN{k:IntKind}{n:Int}(hv:aE w A β h v (.int k n)):v=.int k n:=by cases hv with |val hs=>cases hs;rfl
theorem aE.gG{b:Bool}(hv:aE w A β h v (.bool b)):v=.bool b:=by cases hv with |val hs=>cases hs;rfl
theorem aE.mT{s:ByteArray}(hv:aE w A β h v (.str s)):v=.string s:=by cases hv with |val hs=>cases hs;rfl
theorem aE.JQ(hv:aE w A β h v .undef):v=.tuple #[]:=by
 cases hv with
 |val hs=>cases hs
 |undef=>rfl
theorem aE.sM{cs:List PV}(hv:aE w A β h v (.agg cs)):∃vs:List Value,v=.agg vs.toArray/\vs.length=cs.length/\∀j,j<cs.length->aE w A β h (vs.getD j Go.undef) (cs.getD j .any):=by
 cases hv with
 |val hs=>cases hs with |agg vs _ hl hh=>exact⟨vs,rfl,hl,λj hj=>.val (hh j hj)⟩
 |agg vs _ hl hh=>exact⟨vs,rfl,hl,hh⟩
theorem aE.wS{cs:List PV}(hv:aE w A β h v (.ct cs)):∃vs:List Value,v=.tuple vs.toArray/\vs.length=cs.length/\∀j,j<cs.length->aE w A β h (vs.getD j Go.undef) (cs.getD j .any):=by
 cases hv with
 |val hs=>cases hs with |ct vs _ hl hh=>exact⟨vs,rfl,hl,λj hj=>.val (hh j hj)⟩
 |ct vs _ hl hh=>exact⟨vs,rfl,hl,hh⟩
theorem aE.F9{f:FuncId}{cs:List PV}(hv:aE w A β h v (.fn f cs)):∃vs:List Value,v=.func (.func f) #[] vs.toArray/\vs.length=cs.length/\∀j,j<cs.length->aE w A β h (vs.getD j Go.undef) (cs.getD j .any):=by
 cases hv with
 |val hs=>cases hs with |fn _ vs _ hl hh=>exact⟨vs,rfl,hl,λj hj=>.val (hh j hj)⟩
 |fn _ vs _ hl hh=>exact⟨vs,rfl,hl,hh⟩
theorem aE.Qv{f:FuncId}{k:Nat}{cs:List PV}(hv:aE w A β h v (.ou f k cs)):∃vs:List Value,v=.func (.func f) (vs.take k).toArray (vs.drop k).toArray/\vs.length=cs.length/\∀j,j<cs.length->aE w A β h (vs.getD j Go.undef) (cs.getD j .any):=by
 cases hv with
 |val hs=>cases hs with |ou _ _ vs _ hl hh=>exact⟨vs,rfl,hl,λj hj=>.val (hh j hj)⟩
 |ou _ _ vs _ hl hh=>exact⟨vs,rfl,hl,hh⟩
theorem aE.fN{f:Bool}{es:List PV}(hv:aE w A β h v (.aa f es)):ch w A v (.aa f es):=by cases hv with |val hs=>exact hs
theorem aE.tJ{cs:List PV}(hv:aE w A β h v (.eQ cs)):ch w A v (.eQ cs):=by cases hv with |val hs=>exact hs
theorem aE.dP{id ep off len:Nat}(hv:aE w A β h v (.ak id ep off len)):id<h.length/\(∀o:aw,h[id]?=some o->ep<=o.ep/\0<o.bM)/\
  (∀(o:aw) (bc:Nat×Nat),h[id]?=some o->β[id]?=some bc->o.mu≠.x->o.ep=ep->off+len<=o.es.length->∃cap,v=.slice (some ⟨bc.1,off * o.bM,none⟩) len cap/\off+cap=bc.2):=by
 cases hv with
 |val hs=>cases hs
 |ak _ _ _ _ _ o bc h0 h1 h2 h3 h4 h5=>
  refine⟨?_,λo' e=>?_,λo' dm e1 e2 e3 e4 e5=>?_⟩
  ·rcases ab0 id h.length with hh |hh
   ·exact hh
   ·rw[abC hh]at h1;cases h1
  ·rw[h1]at e;obtain rfl:=abi e;exact h4
  ·rw[h1]at e1;rw[h2]at e2;obtain rfl:=abi e1;obtain rfl:=abi e2;exact h5 e4 e5
theorem aE.B1{id ep i off:Nat}(hv:aE w A β h v (.ptr id ep i off)):id<h.length/\(∀o:aw,h[id]?=some o->ep<=o.ep/\0<o.bM)/\
  (∀(o:aw) (bc:Nat×Nat),h[id]?=some o->β[id]?=some bc->o.mu≠.x->o.ep=ep->v=.pointer (some ⟨bc.1,i * o.bM+off,none⟩)):=by
 cases hv with
 |val hs=>cases hs
 |ptr _ _ _ _ _ o bc h0 h1 h2 h3 h4 h5=>
  refine⟨?_,λo' e=>?_,λo' dm e1 e2 e3 e4=>?_⟩
  ·rcases ab0 id h.length with hh |hh
   ·exact hh
   ·rw[abC hh]at h1;cases h1
  ·rw[h1]at e;obtain rfl:=abi e;exact h4
  ·rw[h1]at e1;rw[h2]at e2;obtain rfl:=abi e1;obtain rfl:=abi e2;exact h5 e4
theorem aE.EJ(hv:aE w A β h v .gN):v=.map none:=by cases hv with |val hs=>cases hs;rfl
theorem aE.EL{id:Nat}(hv:aE w A β h v (.cD id)){o:aw}{bc:Nat×Nat}(e1:h[id]?=some o)(e2:β[id]?=some bc)(e3:o.ep=0):v=.map (some bc.1):=by
 cases hv with
 |val hs=>cases hs
 |cD _ _ o' dm h0 h1 h2 h3 h5=>
  rw[e1]at h1;rw[e2]at h2;obtain rfl:=abi h1;obtain rfl:=abi h2;exact h5 e3
end
theorem aE.JE{w:World}{A:Nat->Prop}{β:List (Nat×Nat)}{h:ab}{v:Value}{p:PV}(hv:aE w A β h v p)(hp:aW p=true):ch w A v p:=by
 have all:∀cs:List PV,ar cs=true->∀j,j<cs.length->aW (cs.getD j .any)=true:=by
  intro cs
  induction cs with
  |nil=>intro _ j hj;simp at hj
  |cons c r ih=>
   intro h j hj
   simp[ar]at h
   cases j with
   |zero=>simpa using h.1
   |succ j=>simpa using ih h.2 j (by simpa using hj)
 induction hv with
 |val hs=>exact hs
 |undef=>simp[aW]at hp
 |any v=>simp[aW]at hp
 |ak=>simp[aW]at hp
 |ptr=>simp[aW]at hp
 |cD=>simp[aW]at hp
 |agg vs cs hl _ ih=>exact .agg vs cs hl λj hj=>ih j hj (all cs (by simpa[aW]using hp) j hj)
 |ct vs cs hl _ ih=>exact .ct vs cs hl λj hj=>ih j hj (all cs (by simpa[aW]using hp) j hj)
 |fn f vs cs hl _ ih=>exact .fn f vs cs hl λj hj=>ih j hj (all cs (by simpa[aW]using hp) j hj)
 |ou f k vs cs hl _ ih=>exact .ou f k vs cs hl λj hj=>ih j hj (all cs (by simpa[aW]using hp) j hj)
theorem ch.cells{w:World}{A:Nat->Prop}{v:Value}{p:PV}(hv:ch w A v p):v.cells.size=(Pm.cells p).length/\∀(j:Nat) (q:PV),(Pm.cells p)[j]?=some q->∃u:Value,v.cells[j]?=some u/\ch w A u q:=by
 have one:∀(v:Value) (p:PV),ch w A v p->v.cells= #[v]->Pm.cells p=[p]->v.cells.size=(Pm.cells p).length/\∀(j:Nat) (q:PV),(Pm.cells p)[j]?=some q->∃u:Value,v.cells[j]?=some u/\ch w A u q:=by
  intro v p h e1 e2
  rw[e1,e2];refine⟨rfl,λj q hq=>?_⟩
  cases j with
  |zero=>simp at hq;subst hq;exact⟨v,rfl,h⟩
  |succ j=>simp at hq
 cases hv with
 |agg vs cs hl hh=>
  refine⟨by simpa[Value.cells,Pm.cells]using hl,λj q hq=>?_⟩
  have hj:j<cs.length:=by
   rcases ab0 j cs.length with h |h
   ·exact h
   ·simp[Pm.cells,abC h]at hq
  have hq':cs[j]?=some q:=hq;refine⟨vs.getD j undef,?_,?_⟩
  ·simp only[Value.cells];have:j<vs.length:=by omega
   simp[List.getD,this]
  ·have:=hh j hj;rwa[abK (l:=cs),hq']at this
 |_=>exact one _ _ (by first |exact .int _ _ |exact .bool _ |exact .str _ |exact .eE |exact .gN |exact .aG |(rename_i a b;exact .ct _ _ a b)|(rename_i a b;exact .fn _ _ _ a b)|(rename_i a b;exact .ou _ _ _ _ a b)|(rename_i a;exact .gY _ _ _ a)|(rename_i h1 h2 h3 h4 h5 h6 h7 h8;exact .aa _ _ _ _ _ _ _ h1 h2 h3 h4 h5 h6 h7 h8)|(rename_i h1 h2 h3 h4;exact .eQ _ _ _ _ h1 h2 h3 h4)) rfl rfl
end Go.Pm
