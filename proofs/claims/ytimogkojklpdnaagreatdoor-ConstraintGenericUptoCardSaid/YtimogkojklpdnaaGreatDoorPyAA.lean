/-
  Pm, a part. Conditions: none.
-/
import GoSem.Decode
import GoSem.Step
import Derived.Orders
import Derived.Laws.BitsLemmas
import Derived.Laws.AppendOwn
import Derived.Laws.MakeOwn
import Derived.Below
set_option linter.unusedVariables false
set_option linter.unusedSimpArgs false
set_option linter.unnecessarySimpa false
set_option linter.unusedSectionVars false
abbrev aa2:=@Option.some.inj
abbrev aa3:=@List.getElem?_append_left
abbrev aa4:=@List.all_eq_true
abbrev aa5:=@Nat.le_refl
abbrev aa6:=@List.getElem?_eq_getElem
abbrev aa7:=@List.getElem?_set_self
abbrev aa8:=@List.getElem?_set_ne
abbrev aa9:=@List.mem_append
abbrev aba:=@List.length_append
abbrev abb:=@Bool.and_eq_true
abbrev abc:=@List.mem_cons
abbrev abd:=@List.getElem?_append_right
abbrev abe:=@Prod.mk.inj
abbrev abf:=@Option.map_some
abbrev abg:=@List.length_cons
abbrev abh:=@List.mem_of_getElem?
abbrev abi:=@Bool.false_eq_true
abbrev abj:=@List.eq_nil_of_length_eq_zero
abbrev abk:=@List.map_cons
abbrev abl:=@List.getElem?_eq_none
abbrev abm:=@List.getElem?_map
abbrev abn:=@List.getElem?_take
abbrev abo:=@List.take_of_length_le
abbrev abp:=@Nat.zero_add
abbrev abq:=@List.take_append_of_le_length
abbrev abr:=@List.pairwise_cons
abbrev abt:=@List.getD_eq_getElem?_getD
abbrev abu:=@List.append_assoc
abbrev abv:=@List.append_nil
abbrev abw:=@Option.some.injEq
abbrev abx:=@List.map_nil
abbrev aby:=@Array.getElem?_eq_some_iff
abbrev abz:=@List.cons_append
abbrev abA:=@Bool.or_eq_true
abbrev abB:=@List.mem_map
abbrev abC:=@List.mem_singleton
abbrev abD:=@Array.getElem?_toList
abbrev abE:=@List.getElem?_take_of_lt
abbrev abF:=@List.getElem_mem
abbrev abG:=@List.drop_eq_nil_of_le
abbrev abH:=@List.length_nil
abbrev abI:=@List.getElem?_drop
abbrev abJ:=@Nat.lt_or_ge
abbrev abK:=@List.nil_append
abbrev abL:=@Bool.true_eq_false
abbrev abM:=@List.mem_of_mem_drop
abbrev abN:=@Nat.mul_le_mul_right
abbrev abO:=@Nat.lt_of_lt_of_le
abbrev abP:=@List.mem_of_mem_take
abbrev abQ:=@Nat.le_trans
abbrev abR:=@Nat.eq_of_beq_eq_true
abbrev abS:=@Option.map_eq_some_iff
abbrev abT:=@List.map_append
abbrev abU:=@List.eq_of_mem_replicate
abbrev abV:=@List.mem_filter
abbrev abW:=@Ne.symm
abbrev abX:=@Nat.add_mul
abbrev abY:=@List.mem_flatMap
abbrev abZ:=@List.all_cons
abbrev ab0:=@List.getElem?_cons_zero
abbrev ab1:=@List.drop_append_of_le_length
abbrev ab2:=@List.take_length
abbrev ab3:=@List.any_eq_true
abbrev ab4:=@List.set_set
abbrev ab5:=@List.all_append
abbrev ab6:=@List.getElem?_of_mem
abbrev ab7:=@List.length_take
abbrev ab8:=@List.ext_getElem?
abbrev ab9:=@List.any_eq_false
abbrev aca:=@Nat.le_of_ble_eq_true
abbrev acb:=@List.drop_zero
abbrev acd:=@UInt8.lt_iff_toNat_lt
abbrev ace:=@List.length_map
abbrev acf:=@List.getElem?_cons_succ
abbrev acg:=@List.map_congr_left
abbrev ach:=@Array.length_toList
abbrev aci:=@Array.getElem?_eq_getElem
abbrev acj:=@List.length_replicate
abbrev ack:=@List.set_append_right
abbrev acm:=@List.length_filter_le
abbrev acn:=@List.not_mem_nil
abbrev aco:=@Bool.true_and
abbrev acp:=@List.take_take
abbrev acq:=@Int.eq_ofNat_of_zero_le
abbrev acr:=@Int.toNat_natCast
abbrev acs:=@Array.getD_eq_getD_getElem?
abbrev acu:=@Nat.zero_le
abbrev acv:=@List.getElem?_zipWith
abbrev acw:=@List.filter_append
abbrev acx:=@List.mem_or_eq_of_mem_set
abbrev acy:=@Array.ext'
abbrev acz:=@Nat.sub_self
abbrev acA:=@Nat.add_zero
abbrev acB:=@List.eq_nil_iff_forall_not_mem
abbrev acC:=@List.mem_cons_of_mem
abbrev acD:=@Bool.not_eq_true'
abbrev acE:=@Nat.lt_trichotomy
abbrev acF:=@Nat.add_assoc
abbrev acG:=@Bool.false_or
abbrev acH:=@List.all_nil
abbrev acI:=@List.mem_iff_getElem?
abbrev acJ:=@List.take_append_drop
abbrev acK:=@List.getElem?_toArray
abbrev acL:=@List.any_cons
abbrev acM:=@List.flatMap_cons
abbrev acN:=@List.all_eq_false
abbrev acO:=@List.drop_eq_getElem_cons
abbrev acP:=@List.mem_nil_iff
abbrev acQ:=@List.countP_cons
abbrev acR:=@Nat.zero_mul
abbrev acS:=@List.take_succ_cons
abbrev acT:=@List.length_pos_iff
abbrev acU:=@Bool.and_true
abbrev acV:=@List.mem_replicate
abbrev acW:=@Nat.min_eq_left
abbrev acX:=@Nat.le_succ
abbrev acY:=@Array.getElem?_eq_none
abbrev acZ:=@Array.mem_of_getElem?
abbrev ac0:=@Array.getElem?_modify
abbrev ac1:=@Array.getElem?_append
abbrev ac2:=@List.getElem?_zipIdx
abbrev ac3:=@List.length_drop
abbrev ac4:=@Bool.not_true
abbrev ac5:=@List.filter_eq_self
abbrev ac6:=@List.getD_cons_zero
abbrev ac7:=@List.getD_cons_succ
abbrev ac8:=@Classical.byContradiction
abbrev ac9:=@Option.map_none
abbrev ada:=@List.findIdx?_eq_none_iff
abbrev adb:=@Option.isSome_iff_exists
abbrev ade:=@Bool.true_or
abbrev adf:=@List.map_map
abbrev adg:=@Array.getElem?_replicate
abbrev adh:=@Bool.not_false
abbrev adi:=@Option.map_id'
abbrev adj:=@List.mem_range
abbrev adk:=@List.take_zero
abbrev adl:=@Nat.mul_le_mul
abbrev adm:=@List.size_toArray
abbrev adn:=@List.range_succ_eq_map
abbrev ado:=@List.findIdx?_eq_some_iff_getElem
abbrev adp:=@Bool.and_self
abbrev adq:=@List.sum_cons
abbrev adr:=@Prod.mk.injEq
abbrev ads:=@List.filter_cons
abbrev adt:=@List.set_getElem_self
abbrev adu:=@List.eq_nil_or_concat
abbrev adw:=@Array.mem_toList_iff
abbrev adx:=@List.length_set
abbrev ady:=@Bool.or_eq_false_iff
abbrev adz:=@Nat.mod_lt
abbrev adA:=@Nat.mul_comm
abbrev adB:=@List.pairwise_append
abbrev adC:=@List.getElem_of_mem
abbrev adD:=@List.getElem?_range
abbrev adE:=@Int.toNat_of_nonneg
abbrev adF:=@Option.map_map
abbrev adG:=@List.drop_take
abbrev adH:=@List.append_of_mem
structure Wq(Q:Prop):Prop where
 o:Q
theorem wA {P Q0:Prop} (q0:Q0) (h:Wq Q0->P:=by
  intro q0
  repeat' (first |(refine Rn.go ?_;conv=>whnf)|refine .mk ?_ |refine .tt ?_ |refine .ff ?_ |refine .m2 ?_ |refine .m3 ?_ |fail)
  exact q0.1):P:=h ⟨q0⟩
theorem wB {P Q0:Prop} (q0:Q0) (h:Wq Q0->P:=by
  intro q0
  repeat' (first |refine ah.nil ?_ |(apply R.wv;exact rfl;exact rfl;exact rfl)|(apply R.nU;exact rfl;exact rfl;exact rfl)|(apply R.TI;exact rfl;exact rfl)|(apply R.move;exact rfl)|(apply R.assign;exact rfl)|(apply R.iO;exact rfl;exact rfl)|(apply R.iM;exact rfl;exact rfl)|(apply R.gB T6;exact rfl;exact rfl;exact rfl;exact rfl)|(apply R.oG T6;exact rfl;exact rfl;exact rfl;exact rfl;exact(by repeat constructor))|(apply R.fieldAddr T6;exact rfl;exact rfl;exact rfl;exact rfl)|(apply R.yF T6;exact rfl;exact rfl;exact rfl;exact rfl;exact rfl)|(apply R.arith;exact rfl;exact rfl;exact rfl;exact(mf (by omega) (by omega)))|(apply R.max;exact rfl;exact rfl)|(apply R.neg;exact rfl;exact(mf (by omega) (by omega)))|(apply R.build T6;exact rfl;exact rfl;exact rfl;exact rfl;exact rfl;exact rfl)|(apply R.buildSlice T6;exact rfl;exact rfl;exact rfl;exact rfl;exact(by decide);exact rfl;exact rfl;exact rfl;exact rfl;exact rfl)|(apply R.OO;exact rfl;exact rfl;exact(by assumption))|(apply R.OP;exact rfl;exact rfl;exact(by assumption))|(apply R.not;exact rfl;exact rfl)|(apply R.rk T6;exact rfl;exact rfl)|(apply R.extract;exact rfl;exact rfl)|(apply R.box;exact rfl;exact rfl;exact rfl;exact .nil)|(apply R.box;exact rfl;exact rfl;exact rfl;exact(.cons .nil))|(apply R.aaw;exact rfl;exact rfl;exact rfl)|(apply R.alloc T6;exact rfl;exact rfl;exact rfl;exact .nil)|(apply R.alloc T6;exact rfl;exact rfl;exact rfl;exact(.cons .nil))|(apply R.alloc T6;exact rfl;exact rfl;exact rfl;exact(.cons (.cons .nil)))|(apply R.OM T6;exact rfl;exact rfl;exact rfl)|(apply R.ON T6;exact rfl;exact rfl;exact rfl;exact rfl;exact rfl;exact rfl)|(apply R.rn T6;exact rfl;exact rfl;exact rfl;exact(by assumption);exact rfl)|(apply R.Cp T6;exact rfl;exact rfl;exact rfl;exact(by assumption);exact(by repeat constructor))|(apply R.Co T6;exact rfl;exact rfl;exact rfl;exact(by repeat constructor))|(apply R.nilCheck;exact rfl)|refine Ev.seq ?_ |refine Ev.region ?_ |refine Ev.mg ?_ |refine aZ.nil ?_ |(apply D.move;exact rfl)|(apply D.assign;exact rfl)|(apply D.wv;exact rfl;exact rfl;exact rfl;exact rfl)|(apply D.arith;exact rfl;exact rfl;exact rfl;exact(mf (by omega) (by omega)))|(apply D.yF T6;exact rfl;exact rfl;exact rfl;exact rfl;exact rfl)|(apply D.build T6;exact rfl;exact rfl;exact rfl;exact rfl;exact rfl;exact rfl)|(apply D.fieldAddr T6;exact rfl;exact rfl;exact rfl;exact rfl)|(apply D.gB T6;exact(by first |exact rfl |assumption);exact rfl;exact rfl;exact rfl;exact rfl;exact rfl)|(apply D.oG T6;exact(by first |exact rfl |assumption);exact rfl;exact rfl;exact rfl;exact rfl;exact rfl;exact(by repeat constructor))|(apply Ev.fI;exact rfl)|refine Ev.ret ?_ |refine Ev.skip ?_ |refine Ev.block ?_ |refine aD.normal ?_ |refine aD.ret ?_ |refine ay.normal ?_ |refine ay.ret ?_ |refine aJ.normal ?_ |refine aJ.ret ?_ |(apply aG.ret;exact rfl)|(apply aG.aay T6;exact rfl)|(apply D.rn T6;exact(by assumption);exact rfl;exact rfl;exact rfl;exact(by assumption);exact rfl)|(apply D.Cp T6;exact(by assumption);exact rfl;exact rfl;exact rfl;exact(by assumption);exact(by repeat constructor))|(apply D.Co T6;exact(by first |exact rfl |assumption);exact rfl;exact rfl;exact rfl;exact(by repeat constructor))|fail)
  exact q0.1):P:=h ⟨q0⟩
theorem wC {P Q0 Q1:Prop} (q0:Q0) (q1:Q1) (h:Wq Q0->Wq Q1->P:=by
  intro q0 q1
  repeat' (first |(refine Rn.go ?_;conv=>whnf)|refine .mk ?_ |refine .tt ?_ |refine .ff ?_ |refine .m2 ?_ |refine .m3 ?_ |refine .mk (λhc=>?_) λhc=>?_ |fail)
  ·revert hc;exact q0.1
  ·revert hc;exact q1.1):P:=h ⟨q0⟩ ⟨q1⟩
theorem wD {P Q0:Prop} (q0:Q0) (h:Wq Q0->P:=by
  intro q0
  repeat' (first |refine ah.nil ?_ |(apply R.wv;exact rfl;exact rfl;exact rfl)|(apply R.nU;exact rfl;exact rfl;exact rfl)|(apply R.TI;exact rfl;exact rfl)|(apply R.move;exact rfl)|(apply R.assign;exact rfl)|(apply R.iO;exact rfl;exact rfl)|(apply R.iM;exact rfl;exact rfl)|(apply R.oG T6;exact rfl;exact rfl;exact rfl;exact rfl;exact(by repeat constructor))|(apply R.arith;exact rfl;exact rfl;exact rfl;exact(mf (by omega) (by omega)))|(apply R.build T6;exact rfl;exact rfl;exact rfl;exact rfl;exact rfl;exact rfl)|(apply R.buildSlice T6;exact rfl;exact rfl;exact rfl;exact rfl;exact(by decide);exact rfl;exact rfl;exact rfl;exact rfl;exact rfl)|(apply R.not;exact rfl;exact rfl)|(apply R.rk T6;exact rfl;exact rfl)|(apply R.alloc T6;exact rfl;exact rfl;exact rfl;exact(.cons .nil))|refine Ev.seq ?_ |refine Ev.region ?_ |refine Ev.mg ?_ |refine aZ.nil ?_ |(apply D.move;exact rfl)|(apply D.assign;exact rfl)|(apply D.arith;exact rfl;exact rfl;exact rfl;exact(mf (by omega) (by omega)))|(apply Ev.fI;exact rfl)|refine Ev.ret ?_ |refine Ev.skip ?_ |refine Ev.block ?_ |refine aD.normal ?_ |refine aD.ret ?_ |refine ay.normal ?_ |refine aJ.normal ?_ |(apply aG.ret;exact rfl)|fail)
  exact q0.1):P:=h ⟨q0⟩
theorem wE {P Q0 Q1:Prop} (q0:Q0) (q1:Q1) (h:Wq Q0->Wq Q1->P:=by
  intro q0 q1
  repeat' (first |refine ah.nil ?_ |(apply R.wv;exact rfl;exact rfl;exact rfl)|(apply R.nU;exact rfl;exact rfl;exact rfl)|(apply R.TI;exact rfl;exact rfl)|(apply R.move;exact rfl)|(apply R.assign;exact rfl)|(apply R.iO;exact rfl;exact rfl)|(apply R.iM;exact rfl;exact rfl)|(apply R.gB T6;exact rfl;exact rfl;exact rfl;exact rfl)|(apply R.oG T6;exact rfl;exact rfl;exact rfl;exact rfl;exact(by repeat constructor))|(apply R.fieldAddr T6;exact rfl;exact rfl;exact rfl;exact rfl)|(apply R.cmp;exact rfl;exact rfl;exact rfl;all_goals intro hc)|(apply R.arith;exact rfl;exact rfl;exact rfl;exact(mf (by omega) (by omega)))|(apply R.neg;exact rfl;exact(mf (by omega) (by omega)))|(apply R.build T6;exact rfl;exact rfl;exact rfl;exact rfl;exact rfl;exact rfl)|(apply R.OO;exact rfl;exact rfl;exact(by assumption))|(apply R.OP;exact rfl;exact rfl;exact(by assumption))|(apply R.not;exact rfl;exact rfl)|(apply R.ym T6;exact rfl;exact rfl)|(apply R.rk T6;exact rfl;exact rfl)|(apply R.rn T6;exact rfl;exact rfl;exact rfl;exact(by assumption);exact rfl)|(apply R.Cp T6;exact rfl;exact rfl;exact rfl;exact(by assumption);exact(by repeat constructor))|(apply R.Co T6;exact rfl;exact rfl;exact rfl;exact(by repeat constructor))|refine Ev.seq ?_ |refine Ev.region ?_ |refine Ev.mg ?_ |refine aZ.nil ?_ |(apply D.move;exact rfl)|(apply D.assign;exact rfl)|(apply D.wv;exact rfl;exact rfl;exact rfl;exact rfl)|(apply D.iO;exact rfl;exact rfl)|(apply D.cmp;exact rfl;exact rfl;exact rfl;all_goals intro hc)|(apply D.fieldAddr T6;exact rfl;exact rfl;exact rfl;exact rfl)|(apply D.gB T6;exact(by first |exact rfl |assumption);exact rfl;exact rfl;exact rfl;exact rfl;exact rfl)|(apply D.oG T6;exact(by first |exact rfl |assumption);exact rfl;exact rfl;exact rfl;exact rfl;exact rfl;exact(by repeat constructor))|(apply Ev.fI;exact rfl)|refine Ev.ret ?_ |refine Ev.skip ?_ |refine Ev.exit ?_ |refine Ev.block ?_ |refine aD.normal ?_ |refine aD.ret ?_ |refine aD.exit ?_ |refine ay.normal ?_ |refine ay.ret ?_ |refine ay.hit ?_ |refine aJ.normal ?_ |refine aJ.ret ?_ |refine aJ.exit ?_ |(apply aG.ret;exact rfl)|fail)
  ·revert hc;exact q0.1
  ·revert hc;exact q1.1):P:=h ⟨q0⟩ ⟨q1⟩
theorem wF {P Q0:Prop} (q0:Q0) (h:Wq Q0->P:=by
  intro q0
  repeat' (first |refine ah.nil ?_ |(apply R.wv;exact rfl;exact rfl;exact rfl)|(apply R.move;exact rfl)|(apply R.assign;exact rfl)|(apply R.iO;exact rfl;exact rfl)|(apply R.oG T6;exact rfl;exact rfl;exact rfl;exact rfl;exact(by repeat constructor))|(apply R.fieldAddr T6;exact rfl;exact rfl;exact rfl;exact rfl)|(apply R.cmp;exact rfl;exact rfl;exact rfl;all_goals intro hc;all_goals(try(exfalso;omega)))|(apply R.arith;exact rfl;exact rfl;exact rfl;exact(mf (by omega) (by omega)))|(apply R.build T6;exact rfl;exact rfl;exact rfl;exact rfl;exact rfl;exact rfl)|(apply R.buildSlice T6;exact rfl;exact rfl;exact rfl;exact rfl;exact(by decide);exact rfl;exact rfl;exact rfl;exact rfl;exact rfl)|(apply R.not;exact rfl;exact rfl)|(apply R.rk T6;exact rfl;exact rfl)|(apply R.OM T6;exact rfl;exact rfl;exact rfl)|(apply R.ON T6;exact rfl;exact rfl;exact rfl;exact rfl;exact rfl;exact rfl)|(apply R.IH T6;exact rfl;exact rfl;exact rfl;exact rfl)|refine Ev.seq ?_ |refine Ev.region ?_ |refine aZ.nil ?_ |(apply D.assign;exact rfl)|(apply Ev.fI;exact rfl)|refine Ev.ret ?_ |refine Ev.skip ?_ |refine Ev.exit ?_ |refine Ev.block ?_ |refine aD.normal ?_ |refine aD.exit ?_ |refine ay.normal ?_ |refine ay.hit ?_ |refine aJ.normal ?_ |refine aJ.exit ?_ |(apply aG.ret;exact rfl)|fail)
  revert hc;exact q0.1):P:=h ⟨q0⟩
theorem wG {P Q0:Prop} (q0:Q0) (h:Wq Q0->P:=by
  intro q0
  repeat' (first |(refine Rn.go ?_;conv=>whnf)|((fail_if_success (show SY _ _ _ _ _));refine .mk ?_)|refine .tt ?_ |refine .ff ?_ |fail)
  exact q0.1):P:=h ⟨q0⟩
theorem wH {P Q0:Prop} (q0:Q0) (h:Wq Q0->P:=by
  intro q0
  repeat' (first |(refine Rn.go ?_;conv=>whnf)|refine .mk ?_ |refine .tt ?_ |refine .ff ?_ |refine .m2 ?_ |refine .lp λv H lp=>?_ |fail)
  revert lp;revert H;revert v;exact q0.1):P:=h ⟨q0⟩
theorem wI {P Q0 Q1 Q2:Prop} (q0:Q0) (q1:Q1) (q2:Q2) (h:Wq Q0->Wq Q1->Wq Q2->P:=by
  intro q0 q1 q2
  repeat' (first |(refine Rn.go ?_;conv=>whnf)|refine .mk ?_ |refine .tt ?_ |refine .ff ?_ |refine .mk (λhc=>?_) λhc=>?_ |fail)
  ·revert hc;exact q0.1
  ·revert hc;revert hc;exact q1.1
  ·revert hc;revert hc;exact q2.1):P:=h ⟨q0⟩ ⟨q1⟩ ⟨q2⟩
theorem wJ {P Q0 Q1 Q2:Prop} (q0:Q0) (q1:Q1) (q2:Q2) (h:Wq Q0->Wq Q1->Wq Q2->P:=by
  intro q0 q1 q2
  repeat' (first |(refine Rn.go ?_;conv=>whnf)|refine .mk ?_ |refine .tt ?_ |refine .mk (λhc=>?_) λhc=>?_ |fail)
  ·revert hc;revert hc;exact q0.1
  ·revert hc;revert hc;exact q1.1
  ·revert hc;exact q2.1):P:=h ⟨q0⟩ ⟨q1⟩ ⟨q2⟩
theorem wK {P Q0 Q1:Prop} (q0:Q0) (q1:Q1) (h:Wq Q0->Wq Q1->P:=by
  intro q0 q1
  repeat' (first |(refine Rn.go ?_;conv=>whnf)|refine .mk ?_ |refine .tt ?_ |refine .mk (λhc=>?_) λhc=>?_ |refine .lp λv H lp=>?_ |fail)
  ·revert lp;revert H;revert v;revert hc;exact q0.1
  ·revert hc;exact q1.1):P:=h ⟨q0⟩ ⟨q1⟩
theorem wL {P Q0 Q1 Q2 Q3 Q4 Q5 Q6:Prop} (q0:Q0) (q1:Q1) (q2:Q2) (q3:Q3) (q4:Q4) (q5:Q5) (q6:Q6) (h:Wq Q0->Wq Q1->Wq Q2->Wq Q3->Wq Q4->Wq Q5->Wq Q6->P:=by
  intro q0 q1 q2 q3 q4 q5 q6
  repeat' (first |(refine Rn.go ?_;conv=>whnf)|refine .mk ?_ |refine .mk (λhc=>?_) λhc=>?_ |fail)
  ·revert hc;exact q0.1
  ·revert hc;revert hc;exact q1.1
  ·revert hc;revert hc;revert hc;exact q2.1
  ·revert hc;revert hc;revert hc;revert hc;exact q3.1
  ·revert hc;revert hc;revert hc;revert hc;revert hc;exact q4.1
  ·revert hc;revert hc;revert hc;revert hc;revert hc;revert hc;exact q5.1
  ·revert hc;revert hc;revert hc;revert hc;revert hc;revert hc;exact q6.1):P:=h ⟨q0⟩ ⟨q1⟩ ⟨q2⟩ ⟨q3⟩ ⟨q4⟩ ⟨q5⟩ ⟨q6⟩
theorem lenE{α:Type}{l p q:List α}{x:α}(e:l=p++x::q):l.length=p.length+(q.length+1):=by
 rw[e,aba,abg]
namespace Go.Pm
inductive PV where
 |int (k:IntKind) (n:Int)
 |bool (b:Bool)
 |str (s:ByteArray)
 |agg (cs:List PV)
 |cy (vs:List PV)
 |aa (full:Bool) (es:List PV)
 |aj (id ep off len:Nat)
 |ptr (id ep i off:Nat)
 |eg (cs:List PV)
 |cM (id:Nat)
 |gL
 |eJ
 |aI
 |fn (f:FuncId) (dy:List PV)
 |nK (f:FuncId) (k:Nat) (cs:List PV)
 |undef
 |any
 deriving Inhabited
inductive Mu where
 |m |l |f |x
 deriving DecidableEq,Inhabited
structure au where
 mu:Mu
 ep:Nat
 bA:Nat
 es:List PV
 deriving Inhabited
abbrev ab:=List au
structure St where
 Y:Nat->PV
 h:ab
def nL(Y:Nat->PV)(d:Nat)(v:PV):Nat->PV:=λt=>if t=d then v else Y t
def bY(Y:Nat->PV)(d:Option Nat)(v:PV):Nat->PV:=
 match d with
 |some d=>nL Y d v
 |none=>Y
def cells:PV->List PV
 | .agg cs=>cs
 |v=>[v]
def bC:PV->Bool
 | .agg _ | .cy _ | .undef | .any=>false
 |_=>true
mutual
def aV:PV->Bool
 | .int .. | .bool _ | .str _ | .eJ | .aI | .gL | .aa .. | .eg _=>true
 | .agg cs=>ao cs
 | .cy cs=>ao cs
 | .fn _ cs=>ao cs
 | .nK _ _ cs=>ao cs
 | .aj .. | .ptr .. | .cM _ | .undef | .any=>false
def ao:List PV->Bool
 |[]=>true
 |c::r=>aV c&&ao r
end
mutual
def eT:PV->Bool
 | .int .. | .bool _ | .str _ | .eJ | .aI | .gL=>true
 | .agg cs=>o9 cs
 | .cy cs=>o9 cs
 |_=>false
def o9:List PV->Bool
 |[]=>true
 |c::r=>eT c&&o9 r
end
mutual
def bW:PV->PV
 | .aa _ es=>.aa false (aU es)
 | .agg cs=>.agg (aU cs)
 | .cy cs=>.cy (aU cs)
 | .fn f cs=>.fn f (aU cs)
 | .nK f k cs=>.nK f k (aU cs)
 | .eg cs=>.eg (aU cs)
 |p=>p
def aU:List PV->List PV
 |[]=>[]
 |c::r=>bW c::aU r
end
def Xc:Value->PV
 | .int k n=>.int k n
 | .bool b=>.bool b
 | .string s=>.str s
 | .slice none 0 0=>.aa true []
 | .pointer none=>.eJ
 | .nilFunc=>.aI
 | .map none=>.gL
 |_=>.any
def cv:Value->PV
 | .agg cs=>.agg (cs.toList.map Xc)
 |v=>Xc v
def zJ(g:Nat):Option PV:=none
def ev(Y:Nat->PV):Operand->PV
 | .tmp t=>Y t
 | .const v=>cv v
 | .func f=>.fn f []
 | .global g=>match zJ g with
  |some p=>.eg [p]
  |none=>.any
def cw(P:Program)(t:TypeId):Option Nat:=(P.info? t).map (·.size)
def mA(P:Program)(t:TypeId):Option Nat:=(P.info? t).map (·.bytes)
def je(P:Program)(t:TypeId):Option PV:=((P.info? t).bind (·.zero)).map cv
def IV(P:Program)(t:TypeId):Option Bool:=(P.underlying t).map λ| .struct _ | .array _ _=>true |_=>false
def getM(h:ab)(id ep:Nat):Option au:=
 match h[id]? with
 |some o=>if o.ep=ep/\o.mu≠.x then some o else none
 |none=>none
def cf(h:ab):PV->Option (List PV)
 | .aa _ es=>some es
 | .aj id ep off len=>match getM h id ep with
  |some o=>if off+len<=o.es.length then some ((o.es.drop off).take len)else none
  |none=>none
 |_=>none
def cR(h:ab):PV->Option (List PV)
 | .eg cs=>some cs
 | .ptr id ep i off=>match getM h id ep with
  |some o=>match o.es[i]? with
   |some e=>some ((cells e).drop off)
   |none=>none
  |none=>none
 |_=>none
def iK(P:Program)(h:ab)(t:TypeId)(p:PV):Option PV:=
 match cw P t,IV P t,cR h p with
 |some sz,some true,some cs=>if 0<sz/\sz<=cs.length then some (.agg (cs.take sz))else none
 |some _,some false,some cs=>match cs with
  |c::_=>some c
  |[]=>none
 |_,_,_=>none
def eZ(off sz:Nat)(e v:PV):PV:=
 if off=0/\sz=(cells e).length then v else .agg ((cells e).take off++cells v++(cells e).drop (off+sz))
def gV(P:Program)(h:ab)(t:TypeId)(p v:PV):Option ab:=
 match p,cw P t with
 | .ptr id ep i off,some sz=>match getM h id ep with
  |some o=>match o.es[i]? with
   |some e=>if o.mu=.m/\(cells v).length=sz/\(cells v).all bC=true/\off+sz<=(cells e).length then
     some (h.set id {o with es:=o.es.set i (eZ off sz e v)})else none
   |none=>none
  |none=>none
 |_,_=>none
def newObj(h:ab)(bA:Nat)(es:List PV):ab:=h++[{mu:=.m,ep:=0,bA,es}]
def rV(cs:List PV)(off:Nat)(vs:List PV):List PV:=cs.take off++vs++cs.drop (off+vs.length)
def kc(place:Nat->Option (Nat×Nat))(cs:List PV):List (Nat×PV)->Option (List PV)
 |[]=>some cs
 |(i,v)::rest=>match place i with
  |none=>none
  |some (off,size)=>
   if(cells v).length=size/\(cells v).all bC=true/\off+size<=cs.length then kc place (rV cs off (cells v)) rest else none
def iL(P:Program)(fs:Array Field)(i:Nat):Option (Nat×Nat):=
 match fs[i]? with
 |some f=>(cw P f.type).map λs=>(f.offset,s)
 |none=>none
def wj(P:Program)(t:TypeId)(parts:List (Nat×PV)):Option PV:=
 match je P t,P.underlying t with
 |some z,some (.struct fs)=>if fs.toList.all (λf=>(cw P f.type).isSome)=true/\(cells z).all bC=true then(kc (iL P fs) (cells z) parts).map .agg else none
 |some z,some (.array _ e)=>match cw P e with
  |some size=>if(cells z).all bC=true then(kc (λi=>some (i * size,size)) (cells z) parts).map .agg else none
  |none=>none
 |_,_=>none
def zh(z:PV)(n:Nat)(parts:List (Nat×PV)):List PV:=parts.foldl (λes x=>es.set x.1 x.2) (List.replicate n z)
def dE(P:Program)(lv:Nat)(h:ab)(t:TypeId)(len:Nat)(parts:List (Nat×PV)):Option (PV×ab):=
 match P.underlying t with
 |some (.slice e)=>match cw P e,je P e with
  |some size,some z=>
   if 0<size/\len * size<=16777216/\(cells z).length=size/\(cells z).all bC=true/\parts.all (λp=>decide ((cells p.2).length=size)&& (cells p.2).all bC&&decide (p.1<len))=true then
    if ao (zh z len parts)then some (.aa true (zh z len parts),h)
    else if 2<=lv then some (.aj h.length 0 0 len,newObj h size (zh z len parts))else none
   else none
  |_,_=>none
 |_=>none
def gT(op:BinOp)(k:IntKind)(a b:Int):Option PV:=
 match op with
 | .add=>some (.int k (k.wrap (a+b)))
 | .sub=>some (.int k (k.wrap (a - b)))
 | .mul=>some (.int k (k.wrap (a * b)))
 | .quo=>if b=0 then none else some (.int k (k.wrap (a.tdiv b)))
 | .rem=>if b=0 then none else some (.int k (a.tmod b))
 | .eql=>some (.bool (a==b))
 | .neq=>some (.bool (a !=b))
 | .lss=>some (.bool (decide (a<b)))
 | .leq=>some (.bool (decide (a<=b)))
 | .gtr=>some (.bool (decide (a>b)))
 | .geq=>some (.bool (decide (a>=b)))
 | .and=>some (.int k (k.wrap (BitVec.ofInt k.bits a&&&BitVec.ofInt k.bits b).toNat))
 | .or=>some (.int k (k.wrap (BitVec.ofInt k.bits a |||BitVec.ofInt k.bits b).toNat))
 | .xor=>some (.int k (k.wrap (BitVec.ofInt k.bits a^^^BitVec.ofInt k.bits b).toNat))
 |_=>none
def qj(op:BinOp)(k:IntKind)(x y:Int):Option PV:=
 if y<0 then none else
 match op with
 | .shl=>some (.int k (k.wrap (x * 2^ (min y.toNat k.bits))))
 | .shr=>some (.int k (x.fdiv (2^ (min y.toNat k.bits))))
 |_=>none
def l8(op:BinOp)(x y:ByteArray):Option PV:=
 match op with
 | .add=>if((x.size+y.size:Nat):Int)>IntKind.i64.max then none else some (.str (x++y))
 | .eql=>some (.bool (x.toList==y.toList))
 | .neq=>some (.bool !(x.toList==y.toList))
 | .lss=>some (.bool (Op.bytesLess x.toList y.toList))
 | .leq=>some (.bool (Op.bytesLess x.toList y.toList ||x.toList==y.toList))
 | .gtr=>some (.bool !(Op.bytesLess x.toList y.toList ||x.toList==y.toList))
 | .geq=>some (.bool !(Op.bytesLess x.toList y.toList))
 |_=>none
def fF(P:Program)(op:BinOp)(t:TypeId)(x y:PV):Option PV:=
 match x,y with
 | .int k a,.int k' b=>match op with
  | .shl | .shr=>qj op k a b
  |_=>if k=k' then gT op k a b else none
 | .str a,.str b=>l8 op a b
 | .bool a,.bool b=>match P.underlying t with
  |some .bool=>match op with
   | .eql=>some (.bool (a==b))
   | .neq=>some (.bool !(a==b))
   |_=>none
  |_=>none
 |_,_=>none
def SH(op:UnOp)(x:PV):Option PV:=
 match op,x with
 | .neg,.int k n=>some (.int k (k.wrap (0 - n)))
 | .not,.bool b=>some (.bool !b)
 |_,_=>none
def Lu:PV->Option Int
 | .int .u8 n=>some n
 |_=>none
def nM:List PV->Option (List Int)
 |[]=>some []
 |c::r=>match Lu c with
  |some n=>match nM r with
   |some l=>some (n::l)
   |none=>none
  |none=>none
def TU(xs:List Int):ByteArray:=⟨(xs.map λn=>UInt8.ofNat n.toNat).toArray⟩
def wk(P:Program)(src dst:TypeId)(x:PV):Option PV:=
 match P.underlying src,P.underlying dst,x with
 |some _,some (.int k),.int _ n=>some (.int k (k.wrap n))
 |some _,some .string,.str s=>some (.str s)
 |some (.slice e),some .string,.aa _ es=>match P.underlying e,nM es with
  |some (.int .u8),some l=>some (.str (TU l))
  |_,_=>none
 |_,_,_=>none
def cN(x:Option PV)(dflt top:Nat):Option Nat:=
 match x with
 |none=>some dflt
 |some (.int _ i)=>if 0<=i/\i<=(top:Int)then some i.toNat else none
 |some _=>none
def beyond(mx hi:Option PV)(len top:Nat):Option Nat:=
 match mx,hi with
 |none,some (.int k i)=>if(len:Int)<i then cN (some (.int k i)) 0 top else none
 |_,_=>none
def cd(P:Program)(h:ab)(t:TypeId)(x:PV)(lo hi mx:Option PV):Option PV:=
 match P.underlying t,x with
 |some .string,.str s=>if mx.isSome then none else
  match cN hi s.size s.size with
  |some b=>match cN lo 0 b with
   |some a=>some (.str (s.extract a b))
   |none=>none
  |none=>none
 |some (.slice e),.aa full es=>match cw P e with
  |some sz=>match cN mx es.length es.length with
   |some m=>match cN hi es.length m with
    |some b=>match cN lo 0 b with
     |some a=>if(mx.isSome&&hi.isNone)=false/\(es[a]?).all (λv=>(cells v).length==sz)=true then some (.aa (if mx.isSome then m==b else full&&b==es.length) ((es.drop a).take (b - a)))else none
     |none=>none
    |none=>none
   |none=>none
  |none=>none
 |some (.slice e),.aj id ep off len=>match cw P e,getM h id ep with
  |some sz,some o=>if sz=o.bA/\off+len<=o.es.length then
    match beyond mx hi len (o.es.length - off)with
    |some b=>match cN lo 0 b with
     |some a=>if a=0 then some (.aj id ep off b)else if b - a=0 then some (.aa false [])else some (.aj id ep (off+a) (b - a))
     |none=>none
    |none=>
    match cN mx len len with
    |some m=>match cN hi len m with
     |some b=>match cN lo 0 b with
      |some a=>if(mx.isSome&&hi.isNone)=false then
        (if mx.isSome then(if m=a then some (.aa true [])else some .any)
         else if a=0 then some (.aj id ep off b)else if b - a=0 then some (.aa false [])else some (.aj id ep (off+a) (b - a)))
       else none
      |none=>none
     |none=>none
    |none=>none
   else none
  |_,_=>none
 |_,_=>none
def pd(P:Program)(s:TypeId)(f:Nat):Option (Nat×TypeId):=
 match P.underlying s with
 |some (.struct fs)=>match fs[f]? with
  |some fl=>match cw P fl.type with
   |some sz=>if sz=0 then none else some (fl.offset,fl.type)
   |none=>none
  |none=>none
 |_=>none
def gu(P:Program)(s:TypeId)(p:PV)(f:Nat):Option PV:=
 match pd P s f,p with
 |some (off,_),.eg cs=>if off<cs.length then some (.eg (cs.drop off))else none
 |some (off,_),.ptr id ep i o=>some (.ptr id ep i (o+off))
 |_,_=>none
def wm(P:Program)(t:TypeId)(cs:List PV)(off:Nat):Option PV:=
 match IV P t,cw P t with
 |some true,some sz=>if off+sz<=cs.length then some (.agg ((cs.drop off).take sz))else none
 |some false,some _=>match cs[off]? with
  |some c=>some c
  |none=>none
 |_,_=>none
def Bl(P:Program)(s:TypeId)(x:PV)(f:Nat):Option PV:=
 match P.underlying s,x with
 |some (.struct fs),.agg cs=>match fs[f]? with
  |some fl=>wm P fl.type cs fl.offset
  |none=>none
 |_,_=>none
def cF(P:Program)(h:ab)(t:TypeId)(x ix:PV):Option PV:=
 match P.underlying t,x,ix with
 |some (.slice e),.aa _ es,.int _ i=>match cw P e with
  |some sz=>if 0<=i/\i<(es.length:Int)then
    match es[i.toNat]? with
    |some v=>if 0<sz/\(cells v).length=sz then some (.eg (cells v))else none
    |none=>none
   else none
  |none=>none
 |some (.slice e),.aj id ep off len,.int _ i=>match cw P e,getM h id ep with
  |some sz,some o=>if 0<=i/\i<(len:Int)/\sz=o.bA/\off+len<=o.es.length then some (.ptr id ep (off+i.toNat) 0)else none
  |_,_=>none
 |some (.array n e),.eg cs,.int _ i=>match cw P e with
  |some sz=>if 0<=i/\i<(n:Int)/\i.toNat * sz<cs.length then some (.eg (cs.drop (i.toNat * sz)))else none
  |none=>none
 |some (.array n e),.ptr id ep k o,.int _ i=>match cw P e with
  |some sz=>if 0<=i/\i<(n:Int)then some (.ptr id ep k (o+i.toNat * sz))else none
  |none=>none
 |_,_,_=>none
def wo(P:Program)(t:TypeId)(x ix:PV):Option PV:=
 match P.underlying t,x,ix with
 |some (.array n e),.agg cs,.int _ i=>match cw P e with
  |some sz=>if 0<=i/\i<(n:Int)then wm P e cs (i.toNat * sz)else none
  |none=>none
 |some .string,.str s,.int _ i=>if 0<=i then
   match s[i.toNat]? with
   |some b=>some (.int .u8 b.toNat)
   |none=>none
  else none
 |_,_,_=>none
def CL(h:ab)(id:Nat):Option au:=
 match getM h id 0 with
 |some o=>if o.bA=0 then some o else none
 |none=>none
def rW:PV->PV->Option Bool
 | .int k a,.int k' b=>if k=k' then some (a==b)else none
 | .str a,.str b=>some (a==b)
 | .bool a,.bool b=>some (a==b)
 |_,_=>none
def mN(k:PV):List PV->Nat->Option (Option (Nat×PV))
 |[],_=>some none
 |e::es,i=>match e with
  | .agg [k',v]=>match rW k k' with
   |some true=>some (some (i,v))
   |some false=>mN k es (i+1)
   |none=>none
  |_=>none
def zj(P:Program)(t:TypeId)(k:PV):Bool:=
 match P.underlying t,k with
 |some (.int k),.int k' _=>decide (k'=k)
 |some .string,.str _ |some .bool,.bool _=>true
 |_,_=>false
def gd(ok:Bool)(v:PV)(b:Bool):PV:=if ok then .cy [v,.bool b]else v
def nN(P:Program)(h:ab)(t:TypeId)(m k:PV)(ok:Bool):Option PV:=
 match P.underlying t with
 |some (.map kt et)=>match je P et with
  |some z=>if zj P kt k=true then
    match m with
    | .gL=>some (gd ok z false)
    | .cM id=>match CL h id with
     |some o=>match mN k o.es 0 with
      |some (some (_,v))=>some (gd ok v true)
      |some none=>some (gd ok z false)
      |none=>none
     |none=>none
    |_=>none
   else none
  |none=>none
 |_=>none
def Lv(k v:PV)(es:List PV):Option (List PV):=
 match mN k es 0 with
 |some (some (i,_))=>some (es.set i (.agg [k,v]))
 |some none=>some (es++[.agg [k,v]])
 |none=>none
def nO(P:Program)(h:ab)(t:TypeId)(m k v:PV):Option ab:=
 match P.underlying t,m with
 |some (.map kt _),.cM id=>match CL h id with
  |some o=>if zj P kt k=true/\o.mu=.m then
    match Lv k v o.es with
    |some es=>some (h.set id {o with es})
    |none=>none
   else none
  |none=>none
 |_,_=>none
def mO(P:Program)(lv:Nat)(h:ab)(t:TypeId)(r:Option PV):Option (PV×ab):=
 if 1<=lv then
  match r,P.underlying t with
  |none,_=>some (.cM h.length,newObj h 0 [])
  |some (.int _ _),some (.map _ _)=>some (.cM h.length,newObj h 0 [])
  |_,_=>none
 else none
def pe(P:Program)(h:ab)(t:TypeId)(x:PV):Option PV:=
 match P.underlying t,x with
 |some .string,.str s=>some (.int .i64 s.size)
 |some (.array n _),_=>some (.int .i64 n)
 |some (.slice _),.aa _ es=>some (.int .i64 es.length)
 |some (.map _ _),.gL=>some (.int .i64 0)
 |some (.map _ _),.cM id=>match CL h id with
  |some o=>some (.int .i64 o.es.length)
  |none=>none
 |some (.slice _),.aj id ep off len=>match getM h id ep with
  |some o=>if off+len<=o.es.length then some (.int .i64 len)else none
  |none=>none
 |_,_=>none
def cA(P:Program)(h:ab)(z:PV)(xt:TypeId)(x:PV):Option (List PV):=
 match P.underlying xt,x with
 |some (.int _),.int _ n=>if 0<=n/\n<=1073741824 then some (List.replicate n.toNat z)else none
 |some (.slice _),x=>cf h x
 |_,_=>none
def roomy(n bytes:Nat):Bool:=decide (n * bytes<=17592186044416)&&decide (n<=17592186044416)
def j3(id:Nat):PV->Bool
 | .aj i _ _ _=>i==id
 |_=>false
def bJ(P:Program)(lv:Nat)(h:ab)(st xt:TypeId)(s x:PV):Option (PV×ab):=
 match P.underlying st with
 |some (.slice e)=>match cw P e,mA P e,je P e with
  |some sz,some bytes,some z=>match cA P h z xt x with
   |some ys=>
    if 0<sz/\bytes<=65536/\((cells z).length=sz/\(cells z).all bC=true)/\ys.all (λv=>decide ((cells v).length=sz)&& (cells v).all bC)=true then
     match s with
     | .aa full es=>
      if ys.isEmpty then some (s,h)
      else if full=true/\1<=lv/\roomy (es.length+ys.length) bytes=true/\es.all (λv=>decide ((cells v).length=sz)&& (cells v).all bC)=true then
       some (.aj h.length 0 0 (es.length+ys.length),newObj h sz (es++ys))
      else none
     | .aj id ep off len=>match getM h id ep with
      |some o=>
       if off+len<=o.es.length/\sz=o.bA then
        if ys.isEmpty then some (s,h)
        else if off=0/\2<=lv/\o.mu=.m/\j3 id x=true/\len+ys.length<=o.es.length then
         some (.aj id ep 0 (len+ys.length),h.set id {o with es:=o.es.take len++ys++o.es.drop (len+ys.length)})
        else if off=0/\2<=lv/\o.mu=.m/\roomy (len+ys.length) bytes=true then
         some (.aj id (ep+1) 0 (len+ys.length),h.set id {o with ep:=ep+1,es:=o.es.take len++ys})
        else none
       else none
      |none=>none
     |_=>none
    else none
   |none=>none
  |_,_,_=>none
 |_=>none
def zL(P:Program)(lv:Nat)(h:ab)(dt:TypeId)(d x:PV):Option (PV×ab):=
 match P.underlying dt,d,cf h x with
 |some (.slice e),.aj id ep off len,some ys=>match cw P e,getM h id ep with
  |some sz,some o=>
   if 2<=lv/\o.mu=.m/\sz=o.bA/\off+len<=o.es.length/\ys.all (λv=>decide ((cells v).length=sz))=true/\(ys.take (min ys.length len)).all (λv=>decide ((cells v).length=sz)&& (cells v).all bC)=true then
    let n:=min ys.length len
    some (.int .i64 n,h.set id {o with es:=o.es.take off++ys.take n++o.es.drop (off+n)})
   else none
  |_,_=>none
 |_,_,_=>none
def mB(P:Program)(lv:Nat)(h:ab)(t:TypeId)(x:PV):Option (PV×ab):=
 match P.underlying t,x with
 |some (.slice e),.aj id ep off len=>match cw P e,je P e,getM h id ep with
  |some sz,some z,some o=>
   if 2<=lv/\o.mu=.m/\sz=o.bA/\off+len<=o.es.length/\(cells z).length=sz/\(cells z).all bC=true then
    some (.cy [],h.set id {o with es:=o.es.take off++List.replicate len z++o.es.drop (off+len)})
   else none
  |_,_,_=>none
 |some (.slice _),.aa _ []=>some (.cy [],h)
 |_,_=>none
def TW(P:Program)(t:TypeId)(x:PV):Option PV:=
 match P.underlying t,x with
 |some (.slice _),.aa true es=>some (.int .i64 es.length)
 |_,_=>none
def Lw:List PV->Option PV
 |[.int k a,.int _ b]=>some (.int k (if b>a then b else a))
 |_=>none
def PJ:List PV->Option PV
 |[.int k a,.int _ b]=>some (.int k (if b<a then b else a))
 |_=>none
def jE(P:Program)(lv:Nat)(h:ab)(t:TypeId)(len cap:PV):Option (PV×ab):=
 match P.underlying t,len,cap with
 |some (.slice e),.int _ n,.int _ c=>match cw P e,mA P e,je P e with
  |some sz,some bytes,some z=>
   if 1<=lv/\0<=n/\n<=c/\c<=1073741824/\0<sz/\bytes<=65536/\(cells z).length=sz/\(cells z).all bC=true then
    some (.aj h.length 0 0 n.toNat,newObj h sz (List.replicate n.toNat z))
   else none
  |_,_,_=>none
 |_,_,_=>none
def br(P:Program)(lv:Nat)(h:ab)(b:Builtin)(ts:List TypeId)(args:List PV):Option (PV×ab):=
 match b,ts,args with
 | .len,t::_,x::_=>(pe P h t x).map (·,h)
 | .append,st::xt::_,s::x::_=>bJ P lv h st xt s x
 | .copy,dt::_,d::x::_=>zL P lv h dt d x
 | .clear,t::_,x::_=>mB P lv h t x
 | .cap,t::_,x::_=>(TW P t x).map (·,h)
 | .max,_,xs=>(Lw xs).map (·,h)
 | .min,_,xs=>(PJ xs).map (·,h)
 |_,_,_=>none
def aC(P:Program)(lv:Nat)(op:Op)(Y:Nat->PV)(h:ab):Option (PV×ab):=
 match op with
 | .move x | .assign x=>some (ev Y x,h)
 | .pick c a b=>match ev Y c with
  | .bool t=>some (if t then ev Y a else ev Y b,h)
  |_=>none
 | .alloc t=>match je P t with
  |some z=>if 1<=lv/\(cells z).all bC=true/\0<(cells z).length then some (.ptr h.length 0 0 0,newObj h (cells z).length [z])else none
  |none=>none
 | .box _ x=>if 1<=lv/\(cells (ev Y x)).all bC=true/\0<(cells (ev Y x)).length then some (.ptr h.length 0 0 0,newObj h (cells (ev Y x)).length [ev Y x])else none
 | .build t parts=>(wj P t (parts.toList.map λ(i,x)=>(i,ev Y x))).map (·,h)
 | .buildSlice t n parts=>dE P lv h t n (parts.toList.map λ(i,x)=>(i,ev Y x))
 | .load t a=>(iK P h t (ev Y a)).map (·,h)
 | .store t a x=>if 2<=lv then(gV P h t (ev Y a) (ev Y x)).map (.undef,·)else none
 | .nilCheck x=>match ev Y x with
  | .ptr id ep i o=>some (.ptr id ep i o,h)
  | .eg cs=>some (.eg cs,h)
  | .fn f cs=>some (.fn f cs,h)
  |_=>none
 | .binOp op t x y _=>(fF P op t (ev Y x) (ev Y y)).map (·,h)
 | .unOp op _ x=>(SH op (ev Y x)).map (·,h)
 | .convert s d x=>(wk P s d (ev Y x)).map (·,h)
 | .makeFunc (.func f) first dy=>if first.isEmpty then some (.fn f (dy.toList.map (ev Y)),h)else some (.nK f first.size ((first.toList++dy.toList).map (ev Y)),h)
 | .makeSlice t l c=>jE P lv h t (ev Y l) (ev Y c)
 | .slice t x lo hi mx=>(cd P h t (ev Y x) (lo.map (ev Y)) (hi.map (ev Y)) (mx.map (ev Y))).map (·,h)
 | .fieldAddr s x f=>(gu P s (ev Y x) f).map (·,h)
 | .field s x f=>(Bl P s (ev Y x) f).map (·,h)
 | .indexAddr t x ix=>(cF P h t (ev Y x) (ev Y ix)).map (·,h)
 | .index t x ix=>(wo P t (ev Y x) (ev Y ix)).map (·,h)
 | .makeMap t r=>mO P lv h t (r.map (ev Y))
 | .lookup t x k ok=>(nN P h t (ev Y x) (ev Y k) ok).map (·,h)
 | .mapUpdate t m k v | .insert t m k v=>if 2<=lv then(nO P h t (ev Y m) (ev Y k) (ev Y v)).map (.undef,·)else none
 | .extract x i=>match ev Y x with
  | .cy vs=>match vs[i]? with
   |some v=>some (v,h)
   |none=>none
  |_=>none
 |_=>none
def oE(h:ab)(p:PV):Option PV:=
 match p with
 | .aj id ep off len=>match getM h id ep with
  |some o=>if off+len<=o.es.length/\(o.mu=.m\/o.mu=.f)/\ao ((o.es.drop off).take len)=true then some (.aa false ((o.es.drop off).take len))else none
  |none=>none
 |p=>if aV p then some p else none
def nP(h:ab):List PV->Option (List PV)
 |[]=>some []
 |c::r=>match oE h c,nP h r with
  |some c',some r'=>some (c'::r')
  |_,_=>none
def kY(h:ab)(p:PV):Option PV:=
 match p with
 | .agg cs=>(nP h cs).map .agg
 |p=>oE h p
def ie(h:ab):List PV->Option (List PV)
 |[]=>some []
 |c::r=>match kY h c,ie h r with
  |some c',some r'=>some (c'::r')
  |_,_=>none
def rb(h:ab)(p:PV):Option PV:=
 match p with
 | .cy cs=>(ie h cs).map .cy
 |p=>kY h p
def gv(f:PV->Option PV):List PV->Option (List PV)
 |[]=>some []
 |c::r=>match f c,gv f r with
  |some c',some r'=>some (c'::r')
  |_,_=>none
def qk:Nat->ab->PV->Option PV
 |0,_,p=>if aV p then some p else none
 |n+1,h,p=>match p with
  | .aj id ep off len=>match getM h id ep with
   |some o=>if off+len<=o.es.length/\(o.mu=.m\/o.mu=.f)then(gv (qk n h) ((o.es.drop off).take len)).map (.aa false)else none
   |none=>none
  | .agg cs=>(gv (qk n h) cs).map .agg
  | .cy cs=>(gv (qk n h) cs).map .cy
  |p=>if aV p then some p else none
def Bm(h:ab)(p:PV):Option PV:=match rb h p with |some r=>some r |none=>qk 8 h p
def kU(h:ab)(id:Nat):Option ab:=
 match h[id]? with
 |some o=>if ao o.es=true/\(o.mu=.m\/o.mu=.f)then some (h.set id {o with mu:=.f})else none
 |none=>none
def fG(h:ab):List Nat->Option ab
 |[]=>some h
 |id::r=>match kU h id with
  |some h'=>fG h' r
  |none=>none
def ql(h:ab)(ids:List Nat):Bool:=ids.all λid=>match h[id]? with |some o=>decide (o.mu=.f)&&ao o.es |none=>false
def rX:PV->List Nat
 | .aj id _ _ _=>[id]
 |_=>[]
def jA(ps:List PV):List Nat:=ps.flatMap λp=>(cells p).flatMap rX
def eK(n:Nat):PV->Bool
 | .aj id _ _ _=>decide (id<n)
 | .ptr id _ _ _=>decide (id<n)
 |p=>aV p
def cS(n:Nat):PV->Bool
 | .agg cs=>cs.all (eK n)
 |p=>eK n p
def eL(n:Nat):PV->Bool
 | .cy cs=>cs.all (cS n)
 |p=>cS n p
inductive Mode where
 |no
 |pure
 |opened
 |pf (g:List PV->Option PV)
 |cD (g:List PV->ab->Option (PV×ab))
 |ext (g:List PV->Option PV)
structure cG where
 P:Program
 mode:FuncId->Mode
abbrev gW:=FuncId->List PV->ab->Option (PV×ab)
def dV(run:gW)(lv:Nat)(f:FuncId)(args:List PV)(h:ab):Option (PV×ab):=
 if ao args then
  match run f (aU args) []with
  |some (r,hc)=>match Bm hc r with
   |some r'=>some (bW r',h)
   |none=>none
  |none=>none
 else match ie h args with
  |some args'=>match run f (aU args') []with
   |some (r,hc)=>match Bm hc r with
    |some r'=>if eT r'||ql h (jA args)then some (bW r',h)
     else if 2<=lv then(fG h (jA args)).map (bW r',·)else none
    |none=>none
   |none=>none
  |none=>match gv (qk 8 h) args with
   |some args'=>match run f (aU args') []with
    |some (r,hc)=>match Bm hc r with
     |some r'=>if eT r' then some (bW r',h)else none
     |none=>none
    |none=>none
   |none=>none
def bI(o:au):au:=match o.mu with | .m=>{o with mu:=.l}|_=>o
def dI(run:List PV->ab->Option (PV×ab))(lv:Nat)(args:List PV)(h:ab):Option (PV×ab):=
 if 2<=lv then run args h
 else if 1<=lv then match run args (h.map bI)with
  |some (r,h')=>if(h'.drop h.length).all (λo=>decide (o.mu≠.l))=true then some (r,h++h'.drop h.length)else none
  |none=>none
 else none
def ig(run:gW)(lv:Nat)(f:FuncId)(args:List PV)(h:ab):Option (PV×ab):=
 match dI (run f) lv args h with
 |some (r,h')=>if eL h.length r&& (h'.take h.length).all (λo=>o.es.all (cS h.length))then some (r,h'.take h.length)else some (r,h')
 |none=>none
def di(C:cG)(run:gW)(lv:Nat)(f:FuncId)(args:List PV)(h:ab):Option (PV×ab):=
 match C.mode f with
 | .no=>none
 | .pure=>dV run lv f args h
 | .opened=>ig run lv f args h
 | .pf g=>if ao args then(g (aU args)).map (·,h)else none
 | .cD g=>dI g lv args h
 | .ext g=>if ao args then(g (aU args)).map (·,h)else none
def fQ(C:cG)(run:gW)(lv:Nat)(callee:PV)(args:List PV)(h:ab):Option (PV×ab):=
 match callee with
 | .fn f dy=>di C run lv f (args++dy) h
 | .nK f k cs=>di C run lv f (cs.take k++args++cs.drop k) h
 |_=>none
def ar(C:cG)(run:gW)(lv:Nat)(op:Op)(Y:Nat->PV)(h:ab):Option (PV×ab):=
 match op with
 | .call c=>match c.callee with
  | .value f=>fQ C run lv (ev Y f) (c.args.toList.map (ev Y)) h
  | .builtin b=>br C.P lv h b c.argTypes.toList (c.args.toList.map (ev Y))
  | .invoke _ _=>none
 |op=>aC C.P lv op Y h
def c9:Op->Bool
 | .move _ | .assign _ | .pick .. | .binOp .. | .unOp .. | .convert .. | .extract .. | .makeFunc .. | .build .. | .field .. | .index .. | .fieldAddr .. | .nilCheck _=>false
 |_=>true
def IW(o:Oper):List Edge:=o.after.toList.filter (Region.binds .any)
def before(ops:Array Oper):List Nat:=
 ops.toList.foldl (λacc o=>acc++[(IW o).foldl (λs e=>s |||2^e.on |||acc.getD e.on 0) 0]) []
def q8(b:List Nat)(i j:Nat):Bool:=i==j ||(b.getD i 0).testBit j ||(b.getD j 0).testBit i
def level(ops:Array Oper)(b:List Nat)(i:Nat):Nat:=
 if ops.toList.zipIdx.all λ(o,j)=>!c9 o.op ||q8 b i j then 2 else 1
def bu(ops:Array Oper)(o:Oper)(Y:Nat->PV):Option Bool:=
 match o.guard with
 |none=>some true
 |some (j,want)=>match(ops.toList[j]?).bind (·.dst)with
  |none=>some false
  |some d=>match Y d with
   | .bool b=>some (b==want)
   | .undef=>some false
   |_=>none
def fR(C:cG)(run:gW)(ops:Array Oper)(o:Oper)(s:St):Option St:=
 match bu ops o s.Y with
 |some true=>match ar C run 2 o.op s.Y s.h with
  |some (v,h')=>some ⟨bY s.Y o.dst v,h'⟩
  |none=>none
 |some false=>some ⟨bY s.Y o.dst .undef,s.h⟩
 |none=>none
def dH(C:cG)(run:gW)(ops:Array Oper):List Oper->St->Option St
 |[],s=>some s
 |o::r,s=>match fR C run ops o s with
  |some s'=>dH C run ops r s'
  |none=>none
def ez(o:au):au:={o with mu:=.x}
def cB(e:Nat->Bool)(L0:Nat)(own:List Nat)(h:ab):ab:=
 h.take L0++List.zipWith (λo j=>if e j then o else ez o) (h.drop L0) own
def aO(h:ab)(id:Nat):Bool:=match h[id]? with |some o=>decide (o.mu≠.x)|none=>false
mutual
def bw(f:Nat->Bool):PV->Bool
 | .aj id _ _ _=>f id
 | .ptr id _ _ _=>f id
 | .cM id=>f id
 | .agg cs=>bL f cs
 | .cy cs=>bL f cs
 | .fn _ cs=>bL f cs
 | .nK _ _ cs=>bL f cs
 |_=>true
def bL(f:Nat->Bool):List PV->Bool
 |[]=>true
 |c::r=>bw f c&&bL f r
end
def aY(h:ab):Bool:=h.all λo=>decide (o.mu=.x)||bL (aO h) o.es
structure vO where
 s:St
 L0:Nat
 own:List Nat
def ct(C:cG)(run:gW)(ops:Array Oper)(b:List Nat)(i:Nat)(o:Oper)(x:vO):Option vO:=
 match bu ops o x.s.Y with
 |some true=>
  if c9 o.op=false then match ar C run 1 o.op x.s.Y x.s.h with
   |some (r,_)=>some ⟨⟨bY x.s.Y o.dst r,x.s.h⟩,x.L0,x.own⟩
   |none=>none
  else if level ops b i=2 then match ar C run 2 o.op x.s.Y x.s.h with
   |some (r,h')=>some ⟨⟨bY x.s.Y o.dst r,h'⟩,h'.length,[]⟩
   |none=>none
  else
   let M:=cB (b.getD i 0).testBit x.L0 x.own x.s.h
   if aY M=true/\(o.op.operands.toList.all λy=>bw (aO M) (ev x.s.Y y))=true then
    match ar C run 1 o.op x.s.Y M with
    |some (r,h')=>if(h'.drop x.s.h.length).all (λo=>decide (o.mu≠.l))=true then
      some ⟨⟨bY x.s.Y o.dst r,x.s.h++h'.drop x.s.h.length⟩,x.L0,x.own++List.replicate (h'.drop x.s.h.length).length i⟩else none
    |none=>none
   else none
 |some false=>some ⟨⟨bY x.s.Y o.dst .undef,x.s.h⟩,x.L0,x.own⟩
 |none=>none
def dJ(C:cG)(run:gW)(ops:Array Oper)(b:List Nat):Nat->List Oper->vO->Option vO
 |_,[],x=>some x
 |i,o::r,x=>match ct C run ops b i o x with
  |some x'=>dJ C run ops b (i+1) r x'
  |none=>none
def gU:Op->Bool
 | .load .. | .indexAddr ..=>true
 |_=>false
def jF:Op->Bool
 | .buildSlice ..=>true
 |_=>false
def Hu(o:Oper):Option Operand:=match o.op,o.dst,o.guard with
 | .store _ a _,none,none=>some a
 |_,_,_=>none
def sinks(ops:Array Oper)(b:List Nat):Option (Operand×Operand):=
 if 2<=ops.size/\q8 b (ops.size - 2) (ops.size - 1)=false then
  match(ops.toList[ops.size - 2]?).bind Hu,(ops.toList[ops.size - 1]?).bind Hu with
  |some x,some y=>some (x,y)
  |_,_=>none
 else none
def jf(ops:Array Oper)(b:List Nat)(i:Nat)(bs:Bool):Bool:=ops.toList.zipIdx.all λ(o,j)=>!(c9 o.op&& !gU o.op&& (bs || !jF o.op))||q8 b i j ||((sinks ops b).isSome&&decide (ops.size<=i+2)&&decide (ops.size<=j+2))
def ll(ops:Array Oper)(b:List Nat)(i:Nat):Bool:=ops.toList.zipIdx.all λ(o,j)=>!(c9 o.op&& !gU o.op&& !jF o.op)||q8 b i j ||((sinks ops b).isSome&&decide (ops.size<=j+2))
def mP(h h':ab):ab:=List.zipWith (λo o'=>if o.mu=.m then o' else o) h h'++h'.drop h.length
def nQ(h:ab)(id:Nat):Bool:=match h[id]? with
 |some o=>decide (o.mu≠.m)
 |none=>false
def qJ(op:Op)(Y:Nat->PV):Option Nat:=match op with
 | .load _ x=>match ev Y x with
  | .ptr id _ _ _=>some id
  |_=>none
 | .indexAddr _ x _=>match ev Y x with
  | .aj id _ _ _=>some id
  |_=>none
 |_=>none
def E8(ops:Array Oper)(Y:Nat->PV)(x:Operand)(id:Nat):Bool:=(match x with | .tmp t=>!ops.toList.any (λo=>o.dst==some t)|_=>true)&& (match ev Y x with | .ptr j _ _ _=>decide (j≠id)|_=>false)
def Bn(ops:Array Oper)(b:List Nat)(i:Nat)(Y:Nat->PV)(id:Nat):Bool:=match sinks ops b with
 |none=>true
 |some (x,y)=>(q8 b i (ops.size - 2)||E8 ops Y x id)&& (q8 b i (ops.size - 1)||E8 ops Y y id)
def kG(ops:Array Oper)(b:List Nat)(h0:ab)(i:Nat)(Y:Nat->PV)(op:Op):Bool:=match qJ op Y with
 |none=>true
 |some id=>nQ h0 id ||(ll ops b i&&Bn ops b i Y id)
def cT(C:cG)(run:gW)(ops:Array Oper)(b:List Nat)(h0:ab)(i:Nat)(o:Oper)(s:St):Option St:=
 match bu ops o s.Y with
 |some true=>
  if c9 o.op=false then match ar C run 1 o.op s.Y s.h with
   |some (r,_)=>some ⟨bY s.Y o.dst r,s.h⟩
   |none=>none
  else if gU o.op=true then(if kG ops b h0 i s.Y o.op=true then match aC C.P 1 o.op s.Y s.h with
     |some (r,_)=>some ⟨bY s.Y o.dst r,s.h⟩
     |none=>none
    else none)
  else match(if jF o.op then aC C.P 1 o.op s.Y s.h else none)with
   |some (r,_)=>some ⟨bY s.Y o.dst r,s.h⟩
   |none=>if jf ops b i (jF o.op)=true then match ar C run 2 o.op s.Y s.h with
     |some (r,h')=>if s.h.length<=h'.length then some ⟨bY s.Y o.dst r,mP s.h h'⟩else none
     |none=>none
    else none
 |some false=>some ⟨bY s.Y o.dst .undef,s.h⟩
 |none=>none
def ch(C:cG)(run:gW)(ops:Array Oper)(b:List Nat)(h0:ab):Nat->List Oper->St->Option St
 |_,[],s=>some s
 |i,o::r,s=>match cT C run ops b h0 i o s with
  |some s'=>ch C run ops b h0 (i+1) r s'
  |none=>none
def gM(ops:Array Oper)(b:List Nat)(Y:Nat->PV):List Nat:=ops.toList.zipIdx.flatMap λ(o,i)=>match o.op with
 | .load _ (.tmp t)=>if ll ops b i then[]else match ops.toList.find? (λo=>o.dst==some t)with
  |none=>(match Y t with
   | .ptr id _ _ _=>[id]
   |_=>[])
  |some o=>match o.op with
   | .fieldAddr _ (.tmp u) _=>if ops.toList.any (λo=>o.dst==some u)then[]else(match Y u with
    | .ptr id _ _ _=>[id]
    |_=>[])
   |_=>[]
 |_=>[]
def cE(ids:List Nat)(h:ab):ab:=h.zipIdx.map λ(o,i)=>if ids.contains i then bI o else o
def dW(ids:List Nat)(h h':ab):ab:=h'.zipIdx.map λ(o,i)=>if ids.contains i then(match h[i]? with |some o'=>o'|none=>o)else o
def q9(ids:List Nat)(h h':ab):Bool:=h'.zipIdx.all λ(o,i)=>decide (o.mu≠.l)||(ids.contains i&&decide (i<h.length))||(match h[i]? with |some o'=>decide (o'.mu=.l)|none=>false)
def ra(ops:Array Oper)(b:List Nat)(Y:Nat->PV):Bool:=match sinks ops b with
 |none=>true
 |some (x,y)=>match ev Y x,ev Y y with
  | .ptr i _ _ _,.ptr j _ _ _=>decide (i≠j)
  |_,_=>false
def jg(C:cG)(run:gW)(ops:Array Oper)(s:St):Option St:=
 match ch C run ops (before ops) (cE (gM ops (before ops) s.Y) s.h) 0 ops.toList ⟨s.Y,cE (gM ops (before ops) s.Y) s.h⟩with
 |some s'=>if q9 (gM ops (before ops) s.Y) s.h s'.h=true/\ra ops (before ops) s'.Y=true then some ⟨s'.Y,dW (gM ops (before ops) s.Y) s.h s'.h⟩else none
 |none=>none
def PK(ops:Array Oper)(o:Oper):Bool:=match o.op with
 | .call ⟨.builtin .append,args,_⟩=>match args.toList with
  | .tmp t::_=>ops.toList.any λo'=>o'.dst==some t&& (match o'.op with | .call ⟨.value _,_,_⟩=>true |_=>false)
  |_=>false
 |_=>false
def Lx(ops:Array Oper):Bool:=ops.toList.zipIdx.any λ(o,i)=>match o.op,o.dst with
 | .call ⟨.builtin .append,_,_⟩,some d=>!(level ops (before ops) i==2)&&ops.toList.any λo'=>match o'.op with
  | .call ⟨.builtin .append,args,_⟩=>(match args.toList with
   | .tmp t::_=>t==d
   |_=>false)
  |_=>false
 |_,_=>false
def rY(ops:Array Oper):Bool:=(ops.toList.zipIdx.any λ(o,i)=>PK ops o&& !(level ops (before ops) i==2))||(sinks ops (before ops)).isSome ||Lx ops
inductive Ex where
 |normal
 |exit (id:Nat)
 |ret
 deriving DecidableEq
def iter(body:St->Option (Ex×St)):Nat->St->Option (Ex×St)
 |0,_=>none
 |n+1,s=>match body s with
  |some (.normal,s')=>iter body n s'
  |r=>r
def bS(C:cG)(run:gW)(N:Nat):Code->St->Option (Ex×St)
 | .skip,s=>some (.normal,s)
 | .region _ ops draw,s=>match(if draw then(if rY ops then jg C run ops s else(dJ C run ops (before ops) 0 ops.toList ⟨s,s.h.length,[]⟩).map (·.s))else dH C run ops ops.toList s)with
  |some s'=>some (.normal,s')
  |none=>none
 | .seq a b,s=>match bS C run N a s with
  |some (.normal,s')=>bS C run N b s'
  |r=>r
 | .cond c a b,s=>match ev s.Y c with
  | .bool true=>bS C run N a s
  | .bool false=>bS C run N b s
  |_=>none
 | .block id c,s=>match bS C run N c s with
  |some (.exit dF,s')=>if dF=id then some (.normal,s')else some (.exit dF,s')
  |r=>r
 | .loop c,s=>iter (bS C run N c) N s
 | .exit id,s=>some (.exit id,s)
 | .label _,s=>some (.normal,s)
 | .scope c,s=>bS C run N c s
 | .ret,s=>some (.ret,s)
 |_,_=>none
def mQ(args:List PV):Nat->PV:=λt=>args.getD t .undef
def dz(P:Program)(h:ab)(Y:Nat->PV):List ResultVar->Option (List PV)
 |[]=>some []
 |r::rest=>match(match r with | .tmp t=>some (Y t)| .cell a t=>iK P h t (Y a)),dz P h Y rest with
  |some v,some vs=>some (v::vs)
  |_,_=>none
def aT:List PV->PV
 |[v]=>v
 |vs=>.cy vs
def oF(C:cG)(run:gW)(n:Nat):gW:=λf args h=>
 match C.P.funcs[f]? with
 |some fn=>match fn.body with
  |some c=>match bS C run n c ⟨mQ args,h⟩with
   |some (.normal,s)|some (.ret,s)=>match dz C.P s.h s.Y fn.results.toList with
    |some vs=>some (aT vs,s.h)
    |none=>none
   |_=>none
  |none=>none
 |none=>none
def fa(C:cG)(n:Nat):gW:=Nat.rec (λ_ _ _=>none) (λn r=>oF C r n) n
def pg(C:cG)(n:Nat)(f:FuncId)(args:List PV):Option PV:=
 match fa C n f args []with
 |some (r,h)=>(Bm h r).map bW
 |none=>none
def al:List (Nat×PV)->(Nat->PV)->Nat->PV
 |[],Y,t=>Y t
 |(k,v)::L,Y,t=>if t=k then v else al L Y t
theorem MO(Y:Nat->PV):∀(L:List (Nat×PV)),(∀x∈L,Y x.1=x.2)->al L Y=Y
 |[],_=>by funext t;rfl
 |(k,v)::L,h=>by
  funext t
  simp only[al]
  split
  ·rename_i hk;rw[hk];exact(h (k,v) (by simp)).symm
  rw[MO Y L (λx hx=>h x (by simp[hx]))]
def Ev(C:cG)(c:Code)(s:St)(Q:Ex->St->Prop):Prop:=
 ∃ex s',Q ex s'/\∃n0,∀n m,n0<=n->n0<=m->bS C (fa C n) m c s=some (ex,s')
def ah(C:cG)(ops:Array Oper)(l:List Oper)(s:St)(Q:St->Prop):Prop:=
 ∃s',Q s'/\∃n0,∀n,n0<=n->dH C (fa C n) ops l s=some s'
def ai(C:cG)(lv:Nat)(f:FuncId)(args:List PV)(h:ab)(Q:PV->ab->Prop):Prop:=
 ∃r h',Q r h'/\∃n0,∀n,n0<=n->di C (fa C n) lv f args h=some (r,h')
def ax(C:cG)(f:FuncId)(args:List PV)(h:ab)(Q:PV->ab->Prop):Prop:=
 ∃r h',Q r h'/\∃n0,∀n,n0<=n->fa C n f args h=some (r,h')
variable{C:cG}
theorem ax.mono{f:FuncId}{args:List PV}{h:ab}{Q Q':PV->ab->Prop}(a:ax C f args h Q)(hq:∀r h,Q r h->Q' r h):ax C f args h Q':=by
 obtain⟨r,h',q,e⟩:=a;exact⟨r,h',hq _ _ q,e⟩
theorem Ev.skip{s:St}{Q:Ex->St->Prop}(h:Q .normal s):Ev C .skip s Q:=⟨_,_,h,0,λ_ _ _ _=>rfl⟩
theorem Ev.label{l:Nat}{s:St}{Q:Ex->St->Prop}(h:Q .normal s):Ev C (.label l) s Q:=⟨_,_,h,0,λ_ _ _ _=>rfl⟩
theorem Ev.exit{id:Nat}{s:St}{Q:Ex->St->Prop}(h:Q (.exit id) s):Ev C (.exit id) s Q:=⟨_,_,h,0,λ_ _ _ _=>rfl⟩
theorem Ev.ret{s:St}{Q:Ex->St->Prop}(h:Q .ret s):Ev C .ret s Q:=⟨_,_,h,0,λ_ _ _ _=>rfl⟩
theorem Ev.scope{c:Code}{s:St}{Q:Ex->St->Prop}(h:Ev C c s Q):Ev C (.scope c) s Q:=by
 obtain⟨ex,s',q,n0,hn⟩:=h;exact⟨ex,s',q,n0,λn m h1 h2=>by simpa[bS]using hn n m h1 h2⟩
def aD(C:cG)(b:Code)(Q:Ex->St->Prop):Ex->St->Prop
 | .normal,s=>Ev C b s Q
 |ex,s=>Q ex s
theorem Ev.seq{a b:Code}{s:St}{Q:Ex->St->Prop}(h:Ev C a s (aD C b Q)):Ev C (.seq a b) s Q:=by
 obtain⟨ex,s',q,n0,hn⟩:=h
 cases ex with
 |normal=>
  obtain⟨Xq,s2,q2,n1,CZ⟩:=q;exact⟨Xq,s2,q2,max n0 n1,λn m h1 h2=>by simp only[bS,hn n m (by omega) (by omega),CZ n m (by omega) (by omega)]⟩
 |exit id=>exact⟨_,_,q,n0,λn m h1 h2=>by simp only[bS,hn n m h1 h2]⟩
 |ret=>exact⟨_,_,q,n0,λn m h1 h2=>by simp only[bS,hn n m h1 h2]⟩
theorem Ev.Tj{c:Operand}{a b:Code}{s:St}{Q:Ex->St->Prop}(hc:ev s.Y c=.bool true)(h:Ev C a s Q):Ev C (.cond c a b) s Q:=by
 obtain⟨ex,s',q,n0,hn⟩:=h;exact⟨ex,s',q,n0,λn m h1 h2=>by simp only[bS,hc,hn n m h1 h2]⟩
theorem Ev.Tl{c:Operand}{a b:Code}{s:St}{Q:Ex->St->Prop}(hc:ev s.Y c=.bool false)(h:Ev C b s Q):Ev C (.cond c a b) s Q:=by
 obtain⟨ex,s',q,n0,hn⟩:=h;exact⟨ex,s',q,n0,λn m h1 h2=>by simp only[bS,hc,hn n m h1 h2]⟩
def ay(id:Nat)(Q:Ex->St->Prop):Ex->St->Prop
 | .exit dF,s=>if dF=id then Q .normal s else Q (.exit dF) s
 |ex,s=>Q ex s
theorem Ev.block{id:Nat}{c:Code}{s:St}{Q:Ex->St->Prop}(h:Ev C c s (ay id Q)):Ev C (.block id c) s Q:=by
 obtain⟨ex,s',q,n0,hn⟩:=h
 cases ex with
 |normal=>exact⟨_,_,q,n0,λn m h1 h2=>by simp only[bS,hn n m h1 h2]⟩
 |exit dF=>
  simp only[ay]at q
  by_cases hid:dF=id
  ·rw[if_pos hid]at q;exact⟨_,_,q,n0,λn m h1 h2=>by simp only[bS,hn n m h1 h2,if_pos hid]⟩
  ·rw[if_neg hid]at q;exact⟨_,_,q,n0,λn m h1 h2=>by simp only[bS,hn n m h1 h2,if_neg hid]⟩
 |ret=>exact⟨_,_,q,n0,λn m h1 h2=>by simp only[bS,hn n m h1 h2]⟩
def aJ(I:St->Prop)(Q:Ex->St->Prop):Ex->St->Prop
 | .normal,s=>I s
 |ex,s=>Q ex s
theorem Ev.loop{c:Code}{s:St}{Q:Ex->St->Prop}(I:Nat->St->Prop)(k:Nat)(h0:I k s)(step:∀k s,I k s->Ev C c s (aJ (λs'=>∃j,j<k/\I j s') Q)):Ev C (.loop c) s Q:=by
 have key:∀(k:Nat) (s:St),I k s->∃ex s',Q ex s'/\∃n0,∀n m j,n0<=n->n0<=m->n0<=j->iter (bS C (fa C n) m c) j s=some (ex,s'):=by
  intro k
  induction k using Nat.strongRecOn with
  |ind k ih=>
   intro s hs
   obtain⟨ex,s',q,n0,hn⟩:=step k s hs
   cases ex with
   |normal=>
    obtain⟨j,hj,hI⟩:=q;obtain⟨Xq,s2,q2,n1,CZ⟩:=ih j hj s' hI;refine⟨Xq,s2,q2,max n0 n1+1,λn m i h1 h2 h3=>?_⟩;obtain⟨i,rfl⟩:∃i',i=i'+1:=⟨i - 1,by omega⟩;simp only[iter,hn n m (by omega) (by omega),CZ n m i (by omega) (by omega) (by omega)]
   |exit id=>
    refine⟨_,_,q,n0+1,λn m i h1 h2 h3=>?_⟩;obtain⟨i,rfl⟩:∃i',i=i'+1:=⟨i - 1,by omega⟩;simp only[iter,hn n m (by omega) (by omega)]
   |ret=>
    refine⟨_,_,q,n0+1,λn m i h1 h2 h3=>?_⟩;obtain⟨i,rfl⟩:∃i',i=i'+1:=⟨i - 1,by omega⟩;simp only[iter,hn n m (by omega) (by omega)]
 obtain⟨ex,s',q,n0,hn⟩:=key k s h0;exact⟨ex,s',q,n0,λn m h1 h2=>by simp only[bS,hn n m m h1 h2 h2]⟩
theorem Ev.region{id:Nat}{ops:Array Oper}{s:St}{Q:Ex->St->Prop}(h:ah C ops ops.toList s (Q .normal)):Ev C (.region id ops false) s Q:=by
 obtain⟨s',q,n0,hn⟩:=h;exact⟨.normal,s',q,n0,λn m h1 h2=>by simp only[bS,abi,if_false,hn n h1]⟩
theorem ah.nil{ops:Array Oper}{s:St}{Q:St->Prop}(h:Q s):ah C ops [] s Q:=⟨s,h,0,λ_ _=>rfl⟩
theorem ah.step{ops:Array Oper}{o:Oper}{r:List Oper}{s s1:St}{Q:St->Prop}(e:∀run,fR C run ops o s=some s1)(h:ah C ops r s1 Q):ah C ops (o::r) s Q:=by
 obtain⟨s',q,n0,hn⟩:=h;exact⟨s',q,n0,λn h1=>by simp only[dH,e,hn n h1]⟩
theorem ah.call{ops:Array Oper}{o:Oper}{r:List Oper}{s:St}{Q:St->Prop}{c:Call}{x:Operand}{f:FuncId}{dy args:List PV}(hw:bu ops o s.Y=some true)(ho:o.op=.call c)(hx:c.callee=.value x)(hf:ev s.Y x=.fn f dy)
  (ha:c.args.toList.map (ev s.Y)++dy=args) (hc:ai C 2 f args s.h (λv h'=>ah C ops r ⟨bY s.Y o.dst v,h'⟩ Q)):ah C ops (o::r) s Q:=by
 obtain⟨v,h',⟨s',q,n1,CZ⟩,n0,hn⟩:=hc;refine⟨s',q,max n0 n1,λn h1=>?_⟩
 have:ar C (fa C n) 2 o.op s.Y s.h=some (v,h'):=by
  rw[ho];simp only[ar,hx,fQ,hf,ha];exact hn n (by omega)
 simp only[dH,fR,hw,this,CZ n (by omega)]
theorem ax.body{f:FuncId}{fn:Func}{c:Code}{args:List PV}{h:ab}{Q:PV->ab->Prop}(hf:C.P.funcs[f]?=some fn)(hb:fn.body=some c)
  (e:Ev C c ⟨mQ args,h⟩ (λex s=>(ex=.normal\/ex=.ret)/\∃vs,dz C.P s.h s.Y fn.results.toList=some vs/\Q (aT vs) s.h)):ax C f args h Q:=by
 obtain⟨ex,s,⟨hex,vs,hr,q⟩,n0,hn⟩:=e;refine⟨_,_,q,n0+1,λn h1=>?_⟩;obtain⟨n,rfl⟩:∃i',n=i'+1:=⟨n - 1,by omega⟩;show oF C (fa C n) n f args h=_;unfold oF;rw[hf];simp only[hb,hn n n (by omega) (by omega)];rcases hex with rfl |rfl <;>simp only[hr]
def aL(C:cG)(f:FuncId)(args:List PV)(r:PV):Prop:=∃n0,∀n,n0<=n->∃r0 hc r1,fa C n f args []=some (r0,hc)/\Bm hc r0=some r1/\bW r1=r
theorem UJ{h:ab}{p r:PV}(e:rb h p=some r):Bm h p=some r:=by unfold Bm;rw[e]
theorem aL.of{f:FuncId}{args:List PV}{r:PV}(e:ax C f args [] (λr0 hc=>∃r1,rb hc r0=some r1/\bW r1=r)):aL C f args r:=by
 obtain⟨r0,hc,⟨r1,h1,h2⟩,n0,hn⟩:=e;exact⟨n0,λn h=>⟨r0,hc,r1,hn n h,UJ h1,h2⟩⟩
theorem aL.pg{f:FuncId}{args:List PV}{r:PV}(a:aL C f args r):∃n,pg C n f args=some r:=by
 obtain⟨n0,hn⟩:=a;obtain⟨r0,hc,r1,h1,h2,h3⟩:=hn n0 (aa5 _);exact⟨n0,by unfold Pm.pg;rw[h1];simp[h2,h3]⟩
theorem ai.pure{lv:Nat}{f:FuncId}{args:List PV}{r:PV}{h:ab}{Q:PV->ab->Prop}(hm:C.mode f=.pure)(hv:ao args=true)(a:aL C f (aU args) r)(q:Q r h):ai C lv f args h Q:=by
 obtain⟨n0,hn⟩:=a;refine⟨r,h,q,n0,λn h1=>?_⟩;obtain⟨r0,hc,r1,e1,e2,e3⟩:=hn n h1;unfold di;rw[hm];simp only[dV,hv,if_true,e1,e2,e3]
theorem ai.opened{f:FuncId}{args:List PV}{h:ab}{Q:PV->ab->Prop}(hm:C.mode f=.opened)
  (a:ax C f args h (λr h'=>Q r (if eL h.length r&& (h'.take h.length).all (λo=>o.es.all (cS h.length))then h'.take h.length else h'))):ai C 2 f args h Q:=by
 obtain⟨r,h',q,n0,hn⟩:=a;refine⟨r,_,q,n0,λn h1=>?_⟩;unfold di;rw[hm];simp only[ig,dI,aa5,if_true,hn n h1]
 split <;>rfl
theorem ai.ext{lv:Nat}{f:FuncId}{g:List PV->Option PV}{args:List PV}{r:PV}{h:ab}{Q:PV->ab->Prop}(hm:C.mode f=.ext g)(hv:ao args=true)(a:g (aU args)=some r)(q:Q r h):ai C lv f args h Q:=by
 refine⟨r,h,q,0,λn h1=>?_⟩;unfold di;rw[hm];simp only[hv,if_true,a,abf]
section
variable{ops:Array Oper}{d:Option Nat}{ty:TypeId}{pos:String}{af:Array Edge}{g:Option (Nat×Bool)}{r:List Oper}{Y:Nat->PV}{h:ab}{Q:St->Prop}
theorem ah.val{op:Op}{v:PV}{h':ab}(hw:bu ops ⟨d,op,ty,pos,af,g⟩ Y=some true)(hc:∀run,ar C run 2 op Y h=some (v,h'))(k:ah C ops r ⟨bY Y d v,h'⟩ Q):ah C ops (⟨d,op,ty,pos,af,g⟩::r) ⟨Y,h⟩ Q:=
 ah.step (s1:=⟨bY Y d v,h'⟩) (λrun=>by simp only[fR,hw,hc]) k
theorem ah.off{op:Op}(hw:bu ops ⟨d,op,ty,pos,af,g⟩ Y=some false)(k:ah C ops r ⟨bY Y d .undef,h⟩ Q):ah C ops (⟨d,op,ty,pos,af,g⟩::r) ⟨Y,h⟩ Q:=
 ah.step (s1:=⟨bY Y d .undef,h⟩) (λrun=>by simp only[fR,hw]) k
def F2:BinOp->Int->Int->Option Prop
 | .eql,a,b=>some (a=b)
 | .neq,a,b=>some (a≠b)
 | .lss,a,b=>some (a<b)
 | .leq,a,b=>some (a<=b)
 | .gtr,a,b=>some (b<a)
 | .geq,a,b=>some (b<=a)
 |_,_,_=>none
theorem ah.cmp{uR:BinOp}{t yt:TypeId}{x y:Operand}{k:IntKind}{a b:Int}{p:Prop}(hw:bu ops ⟨d,.binOp uR t x y yt,ty,pos,af,g⟩ Y=some true)(hx:ev Y x=.int k a)(hy:ev Y y=.int k b)(hp:F2 uR a b=some p)
  (k1:p->ah C ops r ⟨bY Y d (.bool true),h⟩ Q) (k2:¬p->ah C ops r ⟨bY Y d (.bool false),h⟩ Q):ah C ops (⟨d,.binOp uR t x y yt,ty,pos,af,g⟩::r) ⟨Y,h⟩ Q:=by
 by_cases MP:p
 ·refine ah.val (v:=.bool true) (h':=h) hw (λrun=>?_) (k1 MP);simp only[ar,aC,hx,hy]
  cases uR <;>simp only[F2,abw,reduceCtorEq]at hp <;>subst hp <;>simp[fF,gT,MP]
 ·refine ah.val (v:=.bool false) (h':=h) hw (λrun=>?_) (k2 MP);simp only[ar,aC,hx,hy]
  cases uR <;>simp only[F2,abw,reduceCtorEq]at hp <;>subst hp <;>simp[fF,gT,MP] <;>omega
theorem ah.XS{c:Call}{x:Operand}{f:FuncId}{dy args:List PV}(hw:bu ops ⟨d,.call c,ty,pos,af,g⟩ Y=some true)(hx:c.callee=.value x)(hf:ev Y x=.fn f dy)
  (ha:c.args.toList.map (ev Y)++dy=args) (hc:ai C 2 f args h (λv h'=>ah C ops r ⟨bY Y d v,h'⟩ Q)):ah C ops (⟨d,.call c,ty,pos,af,g⟩::r) ⟨Y,h⟩ Q:=
 ah.call hw rfl hx hf ha hc
end
end Go.Pm
namespace Go.Pm
inductive Kd where
 |str
 |bool
 |int (k:IntKind)
 |sl (e:TypeId)
 |arr (n:Nat) (e:TypeId)
 |st (offs:List (Nat×TypeId))
 |mp (k e:TypeId)
 |other
def oX:TypeDesc->Kd
 | .string=>.str
 | .bool=>.bool
 | .int k=>.int k
 | .slice e=>.sl e
 | .array n e=>.arr n e
 | .struct fs=>.st (fs.toList.map λf=>(f.offset,f.type))
 | .map k e=>.mp k e
 |_=>.other
structure kJ(P:Program) where
 ts:Nat->Option Nat
 ta:Nat->Option Bool
 tz:Nat->Option PV
 tb:Nat->Option Nat
 kd:Nat->Option Kd
 eA:∀t n,ts t=some n->cw P t=some n
 OJ:∀t n,ta t=some n->IV P t=some n
 mM:∀t n,tz t=some n->je P t=some n
 rS:∀t n,tb t=some n->mA P t=some n
 cQ:∀t n,kd t=some n->(P.underlying t).map oX=some n
variable{C:cG}(T:kJ C.P)
variable{ops:Array Oper}{d:Nat}{ty:TypeId}{pos:String}{af:Array Edge}{r:List Oper}{Y:Nat->PV}{L:List (Nat×PV)}{h:ab}{Q:St->Prop}
theorem mC{P:Program}{t:TypeId}{k:Kd}(e:(P.underlying t).map oX=some k):∃u,P.underlying t=some u/\oX u=k:=by
 cases hu:P.underlying t with
 |none=>rw[hu]at e;simp at e
 |some u=>rw[hu]at e;exact⟨u,rfl,aa2 e⟩
theorem oC{P:Program}{t:TypeId}(e:(P.underlying t).map oX=some .str):P.underlying t=some .string:=by
 obtain⟨u,h1,h2⟩:=mC e
 cases u <;>simp[oX]at h2;exact h1
theorem Ca{P:Program}{t:TypeId}(e:(P.underlying t).map oX=some .bool):P.underlying t=some .bool:=by
 obtain⟨u,h1,h2⟩:=mC e
 cases u <;>simp[oX]at h2;exact h1
theorem IM{P:Program}{t k el:TypeId}(e:(P.underlying t).map oX=some (.mp k el)):P.underlying t=some (.map k el):=by
 obtain⟨u,h1,h2⟩:=mC e
 cases u <;>simp[oX]at h2
 rw[h1,h2.1,h2.2]
theorem bp{P:Program}{t el:TypeId}(e:(P.underlying t).map oX=some (.sl el)):P.underlying t=some (.slice el):=by
 obtain⟨u,h1,h2⟩:=mC e
 cases u <;>simp[oX]at h2;subst h2;exact h1
theorem OK{P:Program}{t el:TypeId}{n:Nat}(e:(P.underlying t).map oX=some (.arr n el)):P.underlying t=some (.array n el):=by
 obtain⟨u,h1,h2⟩:=mC e
 cases u <;>simp[oX]at h2;obtain⟨rfl,rfl⟩:=h2;exact h1
theorem pp{P:Program}{t:TypeId}{k:IntKind}(e:(P.underlying t).map oX=some (.int k)):P.underlying t=some (.int k):=by
 obtain⟨u,h1,h2⟩:=mC e
 cases u <;>simp[oX]at h2;subst h2;exact h1
theorem IA{P:Program}{t:TypeId}{os:List (Nat×TypeId)}(e:(P.underlying t).map oX=some (.st os)):∃fs,P.underlying t=some (.struct fs)/\fs.toList.map (λf=>(f.offset,f.type))=os:=by
 obtain⟨u,h1,h2⟩:=mC e
 cases u <;>simp[oX]at h2;exact⟨_,h1,h2⟩
def lk:List (Nat×PV)->Nat->Option PV
 |[],_=>none
 |(k,v)::L,t=>if t=k then some v else lk L t
def cO(L:List (Nat×PV)):Operand->Option PV
 | .tmp t=>lk L t
 | .const (.int k n)=>some (.int k n)
 | .const (.bool b)=>some (.bool b)
 | .const (.string s)=>some (.str s)
 | .const (.slice none 0 0)=>some (.aa true [])
 | .const (.pointer none)=>some .eJ
 | .const .nilFunc=>some .aI
 | .const (.map none)=>some .gL
 | .const v=>some (cv v)
 | .func f=>some (.fn f [])
 | .global g=>(zJ g).map λp=>.eg [p]
def vI(L:List (Nat×PV)):List Operand->Option (List PV)
 |[]=>some []
 |x::xs=>match cO L x,vI L xs with
  |some v,some vs=>some (v::vs)
  |_,_=>none
theorem dn{L:List (Nat×PV)}{t:Nat}{v:PV}(e:lk L t=some v)(Y:Nat->PV):al L Y t=v:=by
 induction L with
 |nil=>cases e
 |cons x L ih=>
  obtain⟨k,u⟩:=x;simp only[lk]at e;simp only[al]
  split at e
  ·rename_i hk;rw[if_pos hk];exact aa2 e
  ·rename_i hk;rw[if_neg hk];exact ih e
theorem an{L:List (Nat×PV)}{x:Operand}{v:PV}(e:cO L x=some v)(Y:Nat->PV):ev (al L Y) x=v:=by
 unfold cO at e
 split at e <;>first
  |exact dn e Y
  |(cases e;done)
  |(obtain rfl:=aa2 e;rfl)
  |(rename_i g;cases hg:zJ g with
    |none=>rw[hg]at e;cases e
    |some p=>rw[hg]at e;cases e;simp[ev,hg])
theorem gq{L:List (Nat×PV)}{Y:Nat->PV}:∀{xs:List Operand} {vs:List PV},vI L xs=some vs->xs.map (ev (al L Y))=vs
 |[],vs,e=>by simp[vI]at e;subst e;rfl
 |x::xs,vs,e=>by
  simp only[vI]at e
  split at e
  ·rename_i v GS h1 h2
   obtain rfl:=aa2 e;simp[an h1,gq h2]
  cases e
theorem b8(d:Nat)(v:PV)(L:List (Nat×PV))(Y:Nat->PV):bY (al L Y) (some d) v=al ((d,v)::L) Y:=by
 funext t
 simp only[bY,nL,al]
theorem ah.eP{op:Op}{v:PV}{h':ab}(hc:∀run,ar C run 2 op (al L Y) h=some (v,h'))(k:ah C ops r ⟨al ((d,v)::L) Y,h'⟩ Q):ah C ops (⟨some d,op,ty,pos,af,none⟩::r) ⟨al L Y,h⟩ Q:=
 ah.val rfl hc (by rw[b8];exact k)
theorem R.wv{op:Op}{j d':Nat}{want b:Bool}(hd:(ops.toList[j]?).bind (·.dst)=some d')(hb:lk L d'=some (.bool b))(he:(b==want)=true)(k:ah C ops (⟨some d,op,ty,pos,af,none⟩::r) ⟨al L Y,h⟩ Q):
  ah C ops (⟨some d,op,ty,pos,af,some (j,want)⟩::r) ⟨al L Y,h⟩ Q:=by
 obtain⟨s',q,n0,hn⟩:=k;refine⟨s',q,n0,λn h1=>?_⟩;rw[<-hn n h1];simp only[dH,fR,bu,hd,dn hb,he]
theorem R.nU{op:Op}{j d':Nat}{want b:Bool}(hd:(ops.toList[j]?).bind (·.dst)=some d')(hb:lk L d'=some (.bool b))(he:(b==want)=false)(k:ah C ops r ⟨al ((d,.undef)::L) Y,h⟩ Q):
  ah C ops (⟨some d,op,ty,pos,af,some (j,want)⟩::r) ⟨al L Y,h⟩ Q:=ah.off (by simp only[bu,hd,dn hb,he]) (by rw[b8];exact k)
theorem R.TI{op:Op}{j d':Nat}{want:Bool}(hd:(ops.toList[j]?).bind (·.dst)=some d')(hb:lk L d'=some .undef)(k:ah C ops r ⟨al ((d,.undef)::L) Y,h⟩ Q):
  ah C ops (⟨some d,op,ty,pos,af,some (j,want)⟩::r) ⟨al L Y,h⟩ Q:=ah.off (by simp only[bu,hd,dn hb]) (by rw[b8];exact k)
theorem R.move{x:Operand}{v:PV}(hx:cO L x=some (v))(k:ah C ops r ⟨al ((d,v)::L) Y,h⟩ Q):ah C ops (⟨some d,.move x,ty,pos,af,none⟩::r) ⟨al L Y,h⟩ Q:=
 ah.eP (λrun=>by simp only[ar,aC,an hx]) k
theorem R.assign{x:Operand}{v:PV}(hx:cO L x=some (v))(k:ah C ops r ⟨al ((d,v)::L) Y,h⟩ Q):ah C ops (⟨some d,.assign x,ty,pos,af,none⟩::r) ⟨al L Y,h⟩ Q:=
 ah.eP (λrun=>by simp only[ar,aC,an hx]) k
theorem R.iO{c x y:Operand}{v:PV}(hc:cO L c=some (.bool true))(hx:cO L x=some (v))(k:ah C ops r ⟨al ((d,v)::L) Y,h⟩ Q):ah C ops (⟨some d,.pick c x y,ty,pos,af,none⟩::r) ⟨al L Y,h⟩ Q:=
 ah.eP (λrun=>by simp only[ar,aC,an hc,an hx,if_true]) k
theorem R.iM{c x y:Operand}{v:PV}(hc:cO L c=some (.bool false))(hx:cO L y=some (v))(k:ah C ops r ⟨al ((d,v)::L) Y,h⟩ Q):ah C ops (⟨some d,.pick c x y,ty,pos,af,none⟩::r) ⟨al L Y,h⟩ Q:=
 ah.eP (λrun=>by simp only[ar,aC,an hc,an hx,abi,if_false]) k
inductive GY(o:au):ab->ab->Nat->Prop
 |nil:GY o [] [o] 0
 |cons {x:au} {l l':ab} {n:Nat}:GY o l l' n->GY o (x::l) (x::l') (n+1)
theorem GY.eq{o:au}{l l':ab}{n:Nat}(a:GY o l l' n):l'=l++[o]/\n=l.length:=by
 induction a with
 |nil=>exact⟨rfl,rfl⟩
 |cons _ ih=>obtain⟨rfl,rfl⟩:=ih;exact⟨rfl,rfl⟩
theorem R.box{t:TypeId}{x:Operand}{v:PV}{n id:Nat}{h':ab}(hx:cO L x=some (v))(h1:(cells v).all bC=true)(hl:(cells v).length=n+1)(ha:GY ⟨.m,0,n+1,[v]⟩ h h' id)(k:ah C ops r ⟨al ((d,(.ptr id 0 0 0))::L) Y,h'⟩ Q):
  ah C ops (⟨some d,.box t x,ty,pos,af,none⟩::r) ⟨al L Y,h⟩ Q:=by
 obtain⟨rfl,rfl⟩:=ha.eq;exact ah.eP (λrun=>by simp[ar,aC,an hx,h1,hl,newObj]) k
theorem R.alloc{t:TypeId}{z:PV}{n id:Nat}{h':ab}(hz:T.tz t=some z)(h1:(cells z).all bC=true)(hl:(cells z).length=n+1)(ha:GY ⟨.m,0,n+1,[z]⟩ h h' id)(k:ah C ops r ⟨al ((d,(.ptr id 0 0 0))::L) Y,h'⟩ Q):
  ah C ops (⟨some d,.alloc t,ty,pos,af,none⟩::r) ⟨al L Y,h⟩ Q:=by
 obtain⟨rfl,rfl⟩:=ha.eq;exact ah.eP (λrun=>by simp[ar,aC,T.mM _ _ hz,h1,hl,newObj]) k
theorem R.gB{t:TypeId}{x:Operand}{p c:PV}{cs:List PV}{sz:Nat}(hx:cO L x=some (p))(hs:T.ts t=some sz)(ht:T.ta t=some false)(hp:cR h p=some (c::cs))(k:ah C ops r ⟨al ((d,c)::L) Y,h⟩ Q):
  ah C ops (⟨some d,.load t x,ty,pos,af,none⟩::r) ⟨al L Y,h⟩ Q:=
 ah.eP (λrun=>by simp[ar,aC,an hx,iK,T.eA _ _ hs,T.OJ _ _ ht,hp]) k
inductive qa:Nat->List PV->List PV->Prop
 |zero {l:List PV}:qa 0 l []
 |succ {n:Nat} {x:PV} {l l':List PV}:qa n l l'->qa (n+1) (x::l) (x::l')
theorem qa.eq{n:Nat}{l l':List PV}(a:qa n l l'):l'=l.take n/\n<=l.length:=by
 induction a with
 |zero=>simp
 |succ _ ih=>obtain⟨rfl,h⟩:=ih;simp;omega
theorem R.oG{t:TypeId}{x:Operand}{p:PV}{cs jx:List PV}{sz:Nat}(hx:cO L x=some (p))(hs:T.ts t=some (sz+1))(ht:T.ta t=some true)(hp:cR h p=some cs)(hc:qa (sz+1) cs jx)(k:ah C ops r ⟨al ((d,(.agg jx))::L) Y,h⟩ Q):
  ah C ops (⟨some d,.load t x,ty,pos,af,none⟩::r) ⟨al L Y,h⟩ Q:=by
 obtain⟨rfl,hle⟩:=hc.eq;exact ah.eP (λrun=>by simp[ar,aC,an hx,iK,T.eA _ _ hs,T.OJ _ _ ht,hp,hle]) k
theorem mz{s:TypeId}{f off:Nat}{ft:TypeId}{os:List (Nat×TypeId)}{sz:Nat}(hk:T.kd s=some (.st os))(hf:os[f]?=some (off,ft))(hs:T.ts ft=some (sz+1)):pd C.P s f=some (off,ft):=by
 obtain⟨fs,h1,h2⟩:=IA (T.cQ _ _ hk);rw[<-h2,abm]at hf
 cases V7:fs.toList[f]? with
 |none=>rw[V7]at hf;cases hf
 |some fl=>
  rw[V7]at hf;simp at hf;obtain⟨rfl,rfl⟩:=hf;have:fs[f]?=some fl:=by simpa using V7
  simp[pd,h1,this,T.eA _ _ hs]
theorem R.fieldAddr{s:TypeId}{x:Operand}{f id ep i o off:Nat}{ft:TypeId}{os:List (Nat×TypeId)}{sz:Nat}(hx:cO L x=some (.ptr id ep i o))(hk:T.kd s=some (.st os))(hf:os[f]?=some (off,ft))(hs:T.ts ft=some (sz+1))
  (k:ah C ops r ⟨al ((d,(.ptr id ep i (o+off)))::L) Y,h⟩ Q):ah C ops (⟨some d,.fieldAddr s x f,ty,pos,af,none⟩::r) ⟨al L Y,h⟩ Q:=
 ah.eP (λrun=>by simp[ar,aC,an hx,gu,mz T hk hf hs]) k
theorem R.cmp{uR:BinOp}{t yt:TypeId}{x y:Operand}{k:IntKind}{a b:Int}{p:Prop}(hx:cO L x=some (.int k a))(hy:cO L y=some (.int k b))(hp:F2 uR a b=some p)
  (k1:p->ah C ops r ⟨al ((d,(.bool true))::L) Y,h⟩ Q) (k2:¬p->ah C ops r ⟨al ((d,(.bool false))::L) Y,h⟩ Q):ah C ops (⟨some d,.binOp uR t x y yt,ty,pos,af,none⟩::r) ⟨al L Y,h⟩ Q:=ah.cmp rfl (an hx Y) (an hy Y) hp (λhh=>by rw[b8];exact k1 hh) (λhh=>by rw[b8];exact k2 hh)
def arith:BinOp->Int->Int->Option Int
 | .add,a,b=>some (a+b)
 | .sub,a,b=>some (a - b)
 | .mul,a,b=>some (a * b)
 |_,_,_=>none
theorem R.arith{uR:BinOp}{t yt:TypeId}{x y:Operand}{k:IntKind}{a b c c':Int}(hx:cO L x=some (.int k a))(hy:cO L y=some (.int k b))(hp:Pm.arith uR a b=some c)(hw:k.wrap c=c')(kk:ah C ops r ⟨al ((d,(.int k c'))::L) Y,h⟩ Q):
  ah C ops (⟨some d,.binOp uR t x y yt,ty,pos,af,none⟩::r) ⟨al L Y,h⟩ Q:=by
 refine ah.eP (λrun=>?_) kk;simp only[ar,aC,an hx,an hy]
 cases uR <;>simp only[Pm.arith,abw,reduceCtorEq]at hp <;>subst hp <;>simp[fF,gT,hw]
theorem R.TK{t yt:TypeId}{x y:Operand}{a b:ByteArray}(hx:cO L x=some (.str a))(hy:cO L y=some (.str b))(k1:a.toList=b.toList->ah C ops r ⟨al ((d,(.bool true))::L) Y,h⟩ Q)(k2:a.toList≠b.toList->ah C ops r ⟨al ((d,(.bool false))::L) Y,h⟩ Q):
  ah C ops (⟨some d,.binOp .eql t x y yt,ty,pos,af,none⟩::r) ⟨al L Y,h⟩ Q:=by
 by_cases hh:a.toList=b.toList
 exact ah.eP (λrun=>by simp[ar,aC,an hx,an hy,fF,l8,hh]) (k1 hh);exact ah.eP (λrun=>by simp[ar,aC,an hx,an hy,fF,l8,hh]) (k2 hh)
def OL:BinOp->ByteArray->ByteArray->Option Bool
 | .lss,a,b=>some (Op.bytesLess a.toList b.toList)
 | .gtr,a,b=>some (!(Op.bytesLess a.toList b.toList ||a.toList==b.toList))
 | .neq,a,b=>some (!(a.toList==b.toList))
 |_,_,_=>none
theorem R.Uk{uR:BinOp}{t yt:TypeId}{x y:Operand}{a b:ByteArray}{p:Bool}(hx:cO L x=some (.str a))(hy:cO L y=some (.str b))(hp:OL uR a b=some p)
  (k1:p=true->ah C ops r ⟨al ((d,.bool true)::L) Y,h⟩ Q) (k2:p=false->ah C ops r ⟨al ((d,.bool false)::L) Y,h⟩ Q):
  ah C ops (⟨some d,.binOp uR t x y yt,ty,pos,af,none⟩::r) ⟨al L Y,h⟩ Q:=by
 have key:∀run,ar C run 2 (.binOp uR t x y yt) (al L Y) h=some (.bool p,h):=λrun=>by
  simp only[ar,aC,an hx,an hy]
  cases uR <;>simp only[OL,abw,reduceCtorEq]at hp <;>subst hp <;>simp[fF,l8]
 cases p with
 |false=>exact ah.eP key (k2 rfl)
 |true=>exact ah.eP key (k1 rfl)
theorem R.not{t:TypeId}{x:Operand}{b b':Bool}(hx:cO L x=some (.bool b))(hb:(!b)=b')(k:ah C ops r ⟨al ((d,(.bool b'))::L) Y,h⟩ Q):ah C ops (⟨some d,.unOp .not t x,ty,pos,af,none⟩::r) ⟨al L Y,h⟩ Q:=
 ah.eP (λrun=>by simp[ar,aC,an hx,SH,hb]) k
theorem R.nilCheck{x:Operand}{id ep i o:Nat}(hx:cO L x=some (.ptr id ep i o))(k:ah C ops r ⟨al ((d,(.ptr id ep i o))::L) Y,h⟩ Q):ah C ops (⟨some d,.nilCheck x,ty,pos,af,none⟩::r) ⟨al L Y,h⟩ Q:=
 ah.eP (λrun=>by simp[ar,aC,an hx]) k
theorem R.extract{x:Operand}{i:Nat}{vs:List PV}{v:PV}(hx:cO L x=some (.cy vs))(hv:vs[i]?=some v)(k:ah C ops r ⟨al ((d,v)::L) Y,h⟩ Q):ah C ops (⟨some d,.extract x i,ty,pos,af,none⟩::r) ⟨al L Y,h⟩ Q:=
 ah.eP (λrun=>by simp[ar,aC,an hx,hv]) k
theorem R.gX{t el:TypeId}{x ix:Operand}{full:Bool}{es:List PV}{k:IntKind}{i:Nat}{v:PV}{cs:List PV}{sz:Nat}(hx:cO L x=some (.aa full es))(hi:cO L ix=some (.int k (i:Int)))(hk:T.kd t=some (.sl el))(hs:T.ts el=some (sz+1))
  (hv:es[i]?=some v) (hc:cells v=cs) (hl:cs.length=sz+1) (kk:ah C ops r ⟨al ((d,(.eg cs))::L) Y,h⟩ Q):ah C ops (⟨some d,.indexAddr t x ix,ty,pos,af,none⟩::r) ⟨al L Y,h⟩ Q:=by
 have cL:i<es.length:=by
  rcases abJ i es.length with h |h;exact h;rw[abl h]at hv;cases hv
 subst hc;have Ll:es[i]=v:=by rw[aa6 cL]at hv;exact aa2 hv
 exact ah.eP (λrun=>by simp[ar,aC,an hx,an hi,cF,bp (T.cQ _ _ hk),T.eA _ _ hs,cL,Ll,hl]) kk
theorem R.rm{t el:TypeId}{x ix:Operand}{id ep off len:Nat}{k:IntKind}{i:Nat}{o:au}(hx:cO L x=some (.aj id ep off len))(hi:cO L ix=some (.int k (i:Int)))(hk:T.kd t=some (.sl el))(ho:getM h id ep=some o)(hs:T.ts el=some o.bA)(cL:i<len)(hle:off+len<=o.es.length)
  (kk:ah C ops r ⟨al ((d,(.ptr id ep (off+i) 0))::L) Y,h⟩ Q):ah C ops (⟨some d,.indexAddr t x ix,ty,pos,af,none⟩::r) ⟨al L Y,h⟩ Q:=
 ah.eP (λrun=>by simp[ar,aC,an hx,an hi,cF,bp (T.cQ _ _ hk),T.eA _ _ hs,ho,cL,hle]) kk
theorem R.ym{t:TypeId}{ts:List TypeId}{x:Operand}{xs:List Operand}{s:ByteArray}(hx:cO L x=some (.str s))(hk:T.kd t=some .str)(k:ah C ops r ⟨al ((d,(.int .i64 s.size))::L) Y,h⟩ Q):
  ah C ops (⟨some d,.call ⟨.builtin .len,(x::xs).toArray,(t::ts).toArray⟩,ty,pos,af,none⟩::r) ⟨al L Y,h⟩ Q:=
 ah.eP (λrun=>by simp[ar,an hx,br,pe,oC (T.cQ _ _ hk)]) k
theorem R.rk{t el:TypeId}{ts:List TypeId}{x:Operand}{xs:List Operand}{full:Bool}{es:List PV}(hx:cO L x=some (.aa full es))(hk:T.kd t=some (.sl el))(k:ah C ops r ⟨al ((d,(.int .i64 es.length))::L) Y,h⟩ Q):
  ah C ops (⟨some d,.call ⟨.builtin .len,(x::xs).toArray,(t::ts).toArray⟩,ty,pos,af,none⟩::r) ⟨al L Y,h⟩ Q:=
 ah.eP (λrun=>by simp[ar,an hx,br,pe,bp (T.cQ _ _ hk)]) k
theorem R.zn{t el:TypeId}{ts:List TypeId}{x:Operand}{xs:List Operand}{id ep off len:Nat}{o:au}(hx:cO L x=some (.aj id ep off len))(hk:T.kd t=some (.sl el))(ho:getM h id ep=some o)(hle:off+len<=o.es.length)(k:ah C ops r ⟨al ((d,(.int .i64 len))::L) Y,h⟩ Q):
  ah C ops (⟨some d,.call ⟨.builtin .len,(x::xs).toArray,(t::ts).toArray⟩,ty,pos,af,none⟩::r) ⟨al L Y,h⟩ Q:=
 ah.eP (λrun=>by simp[ar,an hx,br,pe,bp (T.cQ _ _ hk),ho,hle]) k
theorem R.call{x:Operand}{xs:List Operand}{zf:Array TypeId}{f:FuncId}{dy args:List PV}(hf:cO L x=some (.fn f dy))(ha:vI L xs=some args)
  (hc:ai C 2 f (args++dy) h (λv h'=>ah C ops r ⟨al ((d,v)::L) Y,h'⟩ Q)):ah C ops (⟨some d,.call ⟨.value x,xs.toArray,zf⟩,ty,pos,af,none⟩::r) ⟨al L Y,h⟩ Q:=
 ah.XS (args:=args++dy) rfl rfl (an hf Y) (by simp[gq ha]) (by simpa only[b8]using hc)
theorem Ev.fI{c:Operand}{a b:Code}{Q:Ex->St->Prop}{t:Bool}(hc:cO L c=some (.bool t))(k:Ev C (bif t then a else b) ⟨al L Y,h⟩ Q):Ev C (.cond c a b) ⟨al L Y,h⟩ Q:=by
 cases t
 exact Ev.Tl (an hc Y) k;exact Ev.Tj (an hc Y) k
theorem mf{n:Int}(h1: -9223372036854775808<=n)(h2:n<=9223372036854775807):IntKind.i64.wrap n=n:=by
 rw[IntKind.wrap_i64];omega
def EA:Nat->List PV->List (Nat×PV)
 |_,[]=>[]
 |n,a::xs=>(n,a)::EA (n+1) xs
theorem ga(args:List PV):mQ args=al (EA 0 args) (λ_=>.undef):=by
 have key:∀(xs:List PV) (n t:Nat),al (EA n xs) (λ_=>PV.undef) t=if n<=t then xs.getD (t - n) .undef else .undef:=by
  intro xs
  induction xs with
  |nil=>intro n t;simp[EA,al]
  |cons a xs ih=>
   intro n t
   simp only[EA,al,ih]
   by_cases h:t=n
   subst h;simp
   ·rw[if_neg h]
    by_cases h2:n<=t
    rw[if_pos h2,if_pos (by omega),show t - n=(t - (n+1))+1 by omega,ac7];rw[if_neg h2,if_neg (by omega)]
 funext t
 rw[key];simp[mQ]
def aG(C:cG)(fn:Func)(Q:PV->ab->Prop)(ex:Ex)(s:St):Prop:=(ex=.normal\/ex=.ret)/\∃vs,dz C.P s.h s.Y fn.results.toList=some vs/\Q (aT vs) s.h
theorem ax.dK{f:FuncId}{fn:Func}{c:Code}{args:List PV}{h:ab}{Q:PV->ab->Prop}(hf:C.P.funcs[f]?=some fn)(hb:fn.body=some c)
  (e:Ev C c ⟨al (EA 0 args) (λ_=>.undef),h⟩ (aG C fn Q)):ax C f args h Q:=ax.body hf hb (by rw[ga];exact e)
def KJ(L:List (Nat×PV)):List ResultVar->Option (List PV)
 |[]=>some []
 | .tmp t::r=>match lk L t,KJ L r with
  |some v,some vs=>some (v::vs)
  |_,_=>none
 |_=>none
theorem dQ{P:Program}{L:List (Nat×PV)}{h:ab}{Y:Nat->PV}:∀{l:List ResultVar} {vs:List PV},KJ L l=some vs->dz P h (al L Y) l=some vs
 |[],vs,e=>by simp[KJ]at e;subst e;rfl
 | .tmp t::r,vs,e=>by
  simp only[KJ]at e
  split at e
  ·rename_i v GS h1 h2
   obtain rfl:=aa2 e;simp[dz,dn h1,dQ h2]
  cases e
 | .cell _ _::r,vs,e=>by simp[KJ]at e
theorem aG.ret{fn:Func}{Q:PV->ab->Prop}{vs:List PV}(hr:KJ L fn.results.toList=some vs)(q:Q (aT vs) h):aG C fn Q .ret ⟨al L Y,h⟩:=⟨.inr rfl,vs,dQ hr,q⟩
theorem aD.normal{b:Code}{Q:Ex->St->Prop}{s:St}(k:Ev C b s Q):aD C b Q .normal s:=k
theorem aD.ret{b:Code}{Q:Ex->St->Prop}{s:St}(k:Q .ret s):aD C b Q .ret s:=k
theorem aD.exit{b:Code}{Q:Ex->St->Prop}{s:St}{id:Nat}(k:Q (.exit id) s):aD C b Q (.exit id) s:=k
theorem ay.normal{id:Nat}{Q:Ex->St->Prop}{s:St}(k:Q .normal s):ay id Q .normal s:=k
theorem ay.ret{id:Nat}{Q:Ex->St->Prop}{s:St}(k:Q .ret s):ay id Q .ret s:=k
theorem ay.hit{id:Nat}{Q:Ex->St->Prop}{s:St}(k:Q .normal s):ay id Q (.exit id) s:=by simp only[ay,if_true];exact k
theorem ay.JC{id dF:Nat}{Q:Ex->St->Prop}{s:St}(h:(dF==id)=false)(k:Q (.exit dF) s):ay id Q (.exit dF) s:=by
 have:¬dF=id:=by simpa using h
 simp only[ay,if_neg this];exact k
theorem aJ.normal{I:St->Prop}{Q:Ex->St->Prop}{s:St}(k:I s):aJ I Q .normal s:=k
theorem aJ.ret{I:St->Prop}{Q:Ex->St->Prop}{s:St}(k:Q .ret s):aJ I Q .ret s:=k
theorem aJ.exit{I:St->Prop}{Q:Ex->St->Prop}{s:St}{id:Nat}(k:Q (.exit id) s):aJ I Q (.exit id) s:=k
def RW(L:List (Nat×PV)):List (Nat×PV)->Prop
 |[]=>True
 |(k,v)::r=>lk L k=some v/\RW L r
theorem EB{L:List (Nat×PV)}:∀{L':List (Nat×PV)},RW L L'->∀x∈L',lk L x.1=some x.2
 |[],_,x,hx=>by cases hx
 |(k,v)::r,h,x,hx=>by
  rcases abc.1 hx with rfl |hx;exact h.1;exact EB h.2 x hx
theorem St.aR{L L':List (Nat×PV)}{Y:Nat->PV}{h:ab}(hh:RW L L'):(⟨al L Y,h⟩:St)=⟨al L' (al L Y),h⟩:=by
 rw[MO (al L Y) L' (λx hx=>dn (EB hh x hx) Y)]
theorem R.OM{t:TypeId}{z:PV}{n:Nat}(hz:T.tz t=some z)(h1:(cells z).all bC=true)(hl:(cells z).length=n+1)(k:ah C ops r ⟨al ((d,(.ptr h.length 0 0 0))::L) Y,h++[⟨.m,0,n+1,[z]⟩]⟩ Q):
  ah C ops (⟨some d,.alloc t,ty,pos,af,none⟩::r) ⟨al L Y,h⟩ Q:=
 ah.eP (λrun=>by simp[ar,aC,T.mM _ _ hz,h1,hl,newObj]) k
theorem R.aaw{t:TypeId}{x:Operand}{v:PV}{n:Nat}(hx:cO L x=some v)(h1:(cells v).all bC=true)(hl:(cells v).length=n+1)(k:ah C ops r ⟨al ((d,(.ptr h.length 0 0 0))::L) Y,h++[⟨.m,0,n+1,[v]⟩]⟩ Q):
  ah C ops (⟨some d,.box t x,ty,pos,af,none⟩::r) ⟨al L Y,h⟩ Q:=
 ah.eP (λrun=>by simp[ar,aC,an hx,h1,hl,newObj]) k
theorem lB{h:ab}{n:Nat}{es:List PV}:getM (h++[⟨.m,0,n,es⟩]) h.length 0=some ⟨.m,0,n,es⟩:=by simp[getM]
theorem R.ON{t:TypeId}{a x:Operand}{e v:PV}{n:Nat}(ha:cO L a=some (.ptr h.length 0 0 0))(hx:cO L x=some v)(hs:T.ts t=some n)(hl:(cells v).length=n)(h1:(cells v).all bC=true)(he:(cells e).length=n)
  (k:ah C ops r ⟨al L Y,h++[⟨.m,0,n,[v]⟩]⟩ Q):ah C ops (⟨none,.store t a x,ty,pos,af,none⟩::r) ⟨al L Y,h++[⟨.m,0,n,[e]⟩]⟩ Q:=by
 have k':ah C ops r ⟨bY (al L Y) none .undef,h++[(⟨.m,0,n,[v]⟩:au)]⟩ Q:=k;refine ah.val (v:=.undef) (h':=h++[(⟨.m,0,n,[v]⟩:au)]) rfl (λrun=>?_) k';have hr:eZ 0 n e v=v:=by unfold eZ;rw[if_pos ⟨rfl,he.symm⟩]
 simp[ar,aC,an ha,an hx,gV,T.eA _ _ hs,lB,hl,he,hr];simpa using h1
theorem pcN{h:ab}{n:Nat}{e:PV}:cR (h++[⟨.m,0,n,[e]⟩]) (.ptr h.length 0 0 0)=some (cells e):=by simp[cR,lB]
theorem aax{h:ab}{n off:Nat}{e:PV}:cR (h++[⟨.m,0,n,[e]⟩]) (.ptr h.length 0 0 off)=some ((cells e).drop off):=by simp[cR,lB]
theorem R.Co{t:TypeId}{x:Operand}{e:PV}{jx:List PV}{n sz:Nat}(hx:cO L x=some (.ptr h.length 0 0 0))(hs:T.ts t=some (sz+1))(ht:T.ta t=some true)(hc:qa (sz+1) (cells e) jx)
  (k:ah C ops r ⟨al ((d,(.agg jx))::L) Y,h++[⟨.m,0,n,[e]⟩]⟩ Q):ah C ops (⟨some d,.load t x,ty,pos,af,none⟩::r) ⟨al L Y,h++[⟨.m,0,n,[e]⟩]⟩ Q:=
 R.oG T hx hs ht pcN hc k
end Go.Pm
namespace Go.Pm
def iA(r r':gW):Prop:=∀f args h x,r f args h=some x->r' f args h=some x
variable{C:cG}{run run':gW}
theorem mJ(L:iA run run'){lv:Nat}{f:FuncId}{args:List PV}{h:ab}{x:PV×ab}(e:dV run lv f args h=some x):dV run' lv f args h=some x:=by
 unfold dV at e ⊢
 split at e
 ·rename_i hv
  rw[if_pos hv]
  cases hr:run f (aU args) []with
  |none=>rw[hr]at e;cases e
  |some y=>rw[hr]at e;rw[L _ _ _ _ hr];exact e
 ·rename_i hv
  rw[if_neg hv]
  cases ha:ie h args with
  |none=>
   rw[ha]at e;simp only at e ⊢
   cases hd:gv (qk 8 h) args with
   |none=>rw[hd]at e;cases e
   |some a=>
    rw[hd]at e;simp only at e ⊢
    cases hr:run f (aU a) []with
    |none=>rw[hr]at e;cases e
    |some y=>rw[hr]at e;rw[L _ _ _ _ hr];exact e
  |some a=>
   rw[ha]at e;simp only at e ⊢
   cases hr:run f (aU a) []with
   |none=>rw[hr]at e;cases e
   |some y=>rw[hr]at e;rw[L _ _ _ _ hr];exact e
theorem j'{g g':List PV->ab->Option (PV×ab)}(L:∀a h x,g a h=some x->g' a h=some x){lv:Nat}{args:List PV}{h:ab}{x:PV×ab}(e:dI g lv args h=some x):dI g' lv args h=some x:=by
 unfold dI at e ⊢
 split at e
 ·rename_i h2;rw[if_pos h2];exact L _ _ _ e
 ·rename_i h2
  rw[if_neg h2]
  split at e
  ·rename_i h1
   rw[if_pos h1]
   cases hr:g args (h.map bI)with
   |none=>rw[hr]at e;cases e
   |some y=>rw[hr]at e;rw[L _ _ _ hr];exact e
  cases e
theorem mK(L:iA run run'){lv:Nat}{f:FuncId}{args:List PV}{h:ab}{x:PV×ab}(e:ig run lv f args h=some x):ig run' lv f args h=some x:=by
 unfold ig at e ⊢
 cases hr:dI (run f) lv args h with
 |none=>rw[hr]at e;cases e
 |some y=>rw[hr]at e;rw[j' (λa h x=>L f a h x) hr];exact e
theorem yi(L:iA run run'){lv:Nat}{f:FuncId}{args:List PV}{h:ab}{x:PV×ab}(e:di C run lv f args h=some x):di C run' lv f args h=some x:=by
 unfold di at e ⊢
 cases hm:C.mode f <;>simp only[hm]at e ⊢
 cases e
 exact mJ L e;exact mK L e;exact e;exact j' (λ_ _ _ x=>x) e;exact e
theorem jY(L:iA run run'){lv:Nat}{op:Op}{Y:Nat->PV}{h:ab}{x:PV×ab}(e:ar C run lv op Y h=some x):ar C run' lv op Y h=some x:=by
 unfold ar at e ⊢
 split at e
 ·split at e
  ·unfold fQ at e ⊢
   split at e
   exact yi L e;exact yi L e
   cases e
  ·exact e
  ·cases e
 exact e
theorem Ee(L:iA run run'){ops:Array Oper}{o:Oper}{s s':St}(e:fR C run ops o s=some s'):fR C run' ops o s=some s':=by
 unfold fR at e ⊢
 split at e
 ·cases hr:ar C run 2 o.op s.Y s.h with
  |none=>rw[hr]at e;cases e
  |some y=>rw[hr]at e;rw[jY L hr];exact e
 exact e
 cases e
theorem tg(L:iA run run'){ops:Array Oper}:∀{l:List Oper} {s s':St},dH C run ops l s=some s'->dH C run' ops l s=some s'
 |[],s,s',e=>e
 |o::l,s,s',e=>by
  simp only[dH]at e ⊢
  cases hr:fR C run ops o s with
  |none=>rw[hr]at e;cases e
  |some y=>
   rw[hr]at e;rw[Ee L hr];exact tg L e
theorem Cc(L:iA run run'){ops:Array Oper}{b:List Nat}{i:Nat}{o:Oper}{s s':vO}(e:ct C run ops b i o s=some s'):ct C run' ops b i o s=some s':=by
 unfold ct at e ⊢
 split at e
 ·split at e
  ·rename_i hh
   rw[if_pos hh]
   cases hr:ar C run 1 o.op s.s.Y s.s.h with
   |none=>rw[hr]at e;cases e
   |some y=>rw[hr]at e;rw[jY L hr];exact e
  ·rename_i hh
   rw[if_neg hh]
   split at e
   ·rename_i hl
    rw[if_pos hl]
    cases hr:ar C run 2 o.op s.s.Y s.s.h with
    |none=>rw[hr]at e;cases e
    |some y=>rw[hr]at e;rw[jY L hr];exact e
   ·rename_i hl
    rw[if_neg hl];simp only at e ⊢
    split at e
    ·rename_i hc
     rw[if_pos hc]
     cases hr:ar C run 1 o.op s.s.Y (cB (b.getD i 0).testBit s.L0 s.own s.s.h)with
     |none=>rw[hr]at e;cases e
     |some y=>rw[hr]at e;rw[jY L hr];exact e
    cases e
 exact e
 cases e
theorem qX(L:iA run run'){ops:Array Oper}{b:List Nat}:∀{l:List Oper} {i:Nat} {s s':vO},dJ C run ops b i l s=some s'->dJ C run' ops b i l s=some s'
 |[],i,s,s',e=>e
 |o::l,i,s,s',e=>by
  simp only[dJ]at e ⊢
  cases hr:ct C run ops b i o s with
  |none=>rw[hr]at e;cases e
  |some y=>
   rw[hr]at e;rw[Cc L hr];exact qX L e
theorem Cd(L:iA run run'){ops:Array Oper}{b:List Nat}{h0:ab}{i:Nat}{o:Oper}{s s':St}(e:cT C run ops b h0 i o s=some s'):cT C run' ops b h0 i o s=some s':=by
 unfold cT at e ⊢
 split at e
 ·split at e
  ·rename_i hh
   rw[if_pos hh]
   cases hr:ar C run 1 o.op s.Y s.h with
   |none=>rw[hr]at e;cases e
   |some y=>rw[hr]at e;rw[jY L hr];exact e
  ·rename_i hh
   rw[if_neg hh]
   split at e
   ·rename_i hl
    rw[if_pos hl];exact e
   ·rename_i hl
    rw[if_neg hl]
    cases hs:(if jF o.op then aC C.P 1 o.op s.Y s.h else none)with
    |some y=>rw[hs]at e;exact e
    |none=>
     rw[hs]at e;simp only at e ⊢
     split at e
     ·rename_i hk
      rw[if_pos hk]
      cases hr:ar C run 2 o.op s.Y s.h with
      |none=>rw[hr]at e;cases e
      |some y=>rw[hr]at e;rw[jY L hr];exact e
     cases e
 exact e
 cases e
theorem qY(L:iA run run'){ops:Array Oper}{b:List Nat}{h0:ab}:∀{l:List Oper} {i:Nat} {s s':St},ch C run ops b h0 i l s=some s'->ch C run' ops b h0 i l s=some s'
 |[],i,s,s',e=>e
 |o::l,i,s,s',e=>by
  simp only[ch]at e ⊢
  cases hr:cT C run ops b h0 i o s with
  |none=>rw[hr]at e;cases e
  |some y=>
   rw[hr]at e;rw[Cd L hr];exact qY L e
theorem GM(L:iA run run'){ops:Array Oper}{s s':St}(e:jg C run ops s=some s'):jg C run' ops s=some s':=by
 unfold jg at e ⊢
 cases hr:ch C run ops (before ops) (cE (gM ops (before ops) s.Y) s.h) 0 ops.toList ⟨s.Y,cE (gM ops (before ops) s.Y) s.h⟩with
 |none=>rw[hr]at e;cases e
 |some y=>rw[hr]at e;rw[qY L hr];exact e
theorem qm{f f':St->Option (Ex×St)}(L:∀s x,f s=some x->f' s=some x):∀{n m:Nat} {s:St} {x:Ex×St},n<=m->iter f n s=some x->iter f' m s=some x
 |0,m,s,x,_,e=>by simp[iter]at e
 |n+1,m,s,x,hm,e=>by
  obtain⟨m,rfl⟩:∃k,m=k+1:=⟨m - 1,by omega⟩;simp only[iter]at e ⊢
  cases hr:f s with
  |none=>rw[hr]at e;cases e
  |some y=>
   rw[hr]at e;rw[L _ _ hr];obtain⟨ex,s'⟩:=y
   cases ex with
   |normal=>exact qm L (by omega) e
   |exit id=>exact e
   |ret=>exact e
theorem wT(L:iA run run'){n m:Nat}(Mm:n<=m):∀(c:Code) {s:St} {x:Ex×St},bS C run n c s=some x->bS C run' m c s=some x:=by
 intro c
 induction c with
 |region id ops draw=>
  intro s x e
  simp only[bS]at e ⊢
  cases draw with
  |false=>
   simp only[abi,if_false]at e ⊢
   cases hr:dH C run ops ops.toList s with
   |none=>rw[hr]at e;cases e
   |some y=>rw[hr]at e;rw[tg L hr];exact e
  |true=>
   simp only[if_true]at e ⊢
   by_cases hk:rY ops=true
   ·simp only[hk,if_true]at e ⊢
    cases hr:jg C run ops s with
    |none=>rw[hr]at e;cases e
    |some y=>rw[hr]at e;rw[GM L hr];exact e
   ·simp only[hk]at e ⊢
    cases hr:dJ C run ops (before ops) 0 ops.toList ⟨s,s.h.length,[]⟩with
    |none=>rw[hr]at e;simp at e
    |some y=>rw[hr]at e;rw[qX L hr];exact e
 |seq a b iha ihb=>
  intro s x e
  simp only[bS]at e ⊢
  cases hr:bS C run n a s with
  |none=>rw[hr]at e;cases e
  |some y=>
   rw[hr]at e;rw[iha hr];obtain⟨ex,s'⟩:=y
   cases ex with
   |normal=>exact ihb e
   |exit id=>exact e
   |ret=>exact e
 |cond c a b iha ihb=>
  intro s x e
  simp only[bS]at e ⊢
  split at e
  exact iha e;exact ihb e
  cases e
 |block id c ih=>
  intro s x e
  simp only[bS]at e ⊢
  cases hr:bS C run n c s with
  |none=>rw[hr]at e;cases e
  |some y=>rw[hr]at e;rw[ih hr];exact e
 |loop c ih=>
  intro s x e
  simp only[bS]at e ⊢;exact qm (λs x=>ih) Mm e
 |scope c ih=>
  intro s x e
  simp only[bS]at e ⊢;exact ih e
 |_=>
  intro s x e
  first
   |exact e
   |(simp[bS]at e;done)
   |(simp only[bS]at e ⊢;exact e)
theorem GN(L:iA run run'){n m:Nat}(Mm:n<=m):iA (oF C run n) (oF C run' m):=by
 intro f args h x e
 unfold oF at e ⊢
 cases hf:C.P.funcs[f]? with
 |none=>rw[hf]at e;cases e
 |some fn=>
  rw[hf]at e;simp only at e ⊢
  cases hb:fn.body with
  |none=>rw[hb]at e;cases e
  |some c=>
   rw[hb]at e;simp only at e ⊢
   cases hr:bS C run n c ⟨mQ args,h⟩with
   |none=>rw[hr]at e;cases e
   |some y=>rw[hr]at e;rw[wT L Mm c hr];exact e
theorem AV(C:cG):∀n,iA (fa C n) (fa C (n+1))
 |0=>λf args h x e=>by cases e
 |n+1=>GN (AV C n) (acX n)
theorem AE(C:cG){n m:Nat}(h:n<=m):iA (fa C n) (fa C m):=by
 induction h with
 |refl=>exact λf args h x e=>e
 |step _ ih=>exact λf args h x e=>AV C _ f args h x (ih f args h x e)
theorem aL.iE{f:FuncId}{args:List PV}{r:PV}{n:Nat}(e:Pm.pg C n f args=some r):aL C f args r:=by
 unfold Pm.pg at e
 cases hr:fa C n f args []with
 |none=>rw[hr]at e;cases e
 |some y=>
  obtain⟨r0,hc⟩:=y;rw[hr]at e
  cases h2:Bm hc r0 with
  |none=>simp[h2]at e
  |some r1=>
   simp[h2]at e;exact⟨n,λm hm=>⟨r0,hc,r1,AE C hm f args [] _ hr,h2,e⟩⟩
end Go.Pm
namespace Go.Pm
def aZ(C:cG)(ops:Array Oper)(i:Nat)(l:List Oper)(x:vO)(Q:St->Prop):Prop:=
 ∃y:vO,Q y.s/\∃n0,∀n,n0<=n->dJ C (fa C n) ops (before ops) i l x=some y
variable{C:cG}(T:kJ C.P)
variable{ops:Array Oper}{i:Nat}{d:Nat}{ty:TypeId}{pos:String}{af:Array Edge}{r:List Oper}{Y:Nat->PV}{L:List (Nat×PV)}{h:ab}{L0:Nat}{own:List Nat}{Q:St->Prop}
theorem Ev.mg{id:Nat}{Q:Ex->St->Prop}(k:aZ C ops 0 ops.toList ⟨⟨al L Y,h⟩,h.length,[]⟩ (Q .normal))(hk:rY ops=false:=by rfl):Ev C (.region id ops true) ⟨al L Y,h⟩ Q:=by
 obtain⟨y,q,n0,hn⟩:=k;exact⟨.normal,y.s,q,n0,λn m h1 h2=>by simp only[bS,if_true,hk,abi,if_false,hn n h1,abf]⟩
theorem aZ.nil{s:St}(k:Q s):aZ C ops i [] ⟨s,L0,own⟩ Q:=⟨⟨s,L0,own⟩,k,0,λ_ _=>rfl⟩
theorem aZ.step{o:Oper}{x x1:vO}(e:∃n0,∀n,n0<=n->ct C (fa C n) ops (before ops) i o x=some x1)(k:aZ C ops (i+1) r x1 Q):aZ C ops i (o::r) x Q:=by
 obtain⟨n1,CZ⟩:=e;obtain⟨y,q,n0,hn⟩:=k;exact⟨y,q,max n0 n1,λn h1=>by simp only[dJ,CZ n (by omega),hn n (by omega)]⟩
theorem aZ.plain{op:Op}{v:PV}{h':ab}(hh:c9 op=false)(hc:∀run,ar C run 1 op (al L Y) h=some (v,h'))(k:aZ C ops (i+1) r ⟨⟨al ((d,v)::L) Y,h⟩,L0,own⟩ Q):
  aZ C ops i (⟨some d,op,ty,pos,af,none⟩::r) ⟨⟨al L Y,h⟩,L0,own⟩ Q:=by
 refine aZ.step ⟨0,λn _=>?_⟩ k;simp only[ct,bu,hh,if_true,hc,b8]
theorem aZ.two{op:Op}{v:PV}{h':ab}(hh:c9 op=true)(hl:level ops (before ops) i=2)(hc:∃n0,∀n,n0<=n->ar C (fa C n) 2 op (al L Y) h=some (v,h'))(k:aZ C ops (i+1) r ⟨⟨al ((d,v)::L) Y,h'⟩,h'.length,[]⟩ Q):
  aZ C ops i (⟨some d,op,ty,pos,af,none⟩::r) ⟨⟨al L Y,h⟩,L0,own⟩ Q:=by
 obtain⟨n0,hn⟩:=hc;refine aZ.step ⟨n0,λn h1=>?_⟩ k;simp only[ct,bu,hh,abL,if_false,hl,if_true,hn n h1,b8]
theorem aZ.one{op:Op}{v:PV}(hh:c9 op=true)(hl:level ops (before ops) i≠2)(dG:aY h=true)(lz:(op.operands.toList.all λy=>bw (aO h) (ev (al L Y) y))=true)
  (hc:∃n0,∀n,n0<=n->ar C (fa C n) 1 op (al L Y) h=some (v,h)) (k:aZ C ops (i+1) r ⟨⟨al ((d,v)::L) Y,h⟩,h.length,[]⟩ Q):
  aZ C ops i (⟨some d,op,ty,pos,af,none⟩::r) ⟨⟨al L Y,h⟩,h.length,[]⟩ Q:=by
 obtain⟨n0,hn⟩:=hc;refine aZ.step ⟨n0,λn h1=>?_⟩ k;have hM:cB ((before ops).getD i 0).testBit h.length [] h=h:=by simp[cB]
 simp only[ct,bu,hh,abL,if_false,hl,hM,dG,lz,and_self,if_true,hn n h1,b8];simp
theorem gj(f:Nat->Bool)(cs:List PV):bL f cs=cs.all (bw f):=by
 induction cs with
 |nil=>rfl
 |cons c r ih=>simp[bL,ih]
theorem aZ.read{op:Op}{v:PV}(hh:c9 op=true)(dG:aY h=true)(lz:(op.operands.toList.all λy=>bw (aO h) (ev (al L Y) y))=true)
  (hc:∃n0,∀n lv,n0<=n->1<=lv->ar C (fa C n) lv op (al L Y) h=some (v,h)) (k:aZ C ops (i+1) r ⟨⟨al ((d,v)::L) Y,h⟩,h.length,[]⟩ Q):
  aZ C ops i (⟨some d,op,ty,pos,af,none⟩::r) ⟨⟨al L Y,h⟩,h.length,[]⟩ Q:=by
 obtain⟨n0,hn⟩:=hc
 by_cases hl:level ops (before ops) i=2
 exact aZ.two hh hl ⟨n0,λn h1=>hn n 2 h1 (by omega)⟩ k;exact aZ.one hh hl dG lz ⟨n0,λn h1=>hn n 1 h1 (aa5 _)⟩ k
theorem D.move{x:Operand}{v:PV}(hx:cO L x=some v)(k:aZ C ops (i+1) r ⟨⟨al ((d,v)::L) Y,h⟩,L0,own⟩ Q):aZ C ops i (⟨some d,.move x,ty,pos,af,none⟩::r) ⟨⟨al L Y,h⟩,L0,own⟩ Q:=
 aZ.plain (h':=h) rfl (λrun=>by simp only[ar,aC,an hx]) k
theorem D.assign{x:Operand}{v:PV}(hx:cO L x=some v)(k:aZ C ops (i+1) r ⟨⟨al ((d,v)::L) Y,h⟩,L0,own⟩ Q):aZ C ops i (⟨some d,.assign x,ty,pos,af,none⟩::r) ⟨⟨al L Y,h⟩,L0,own⟩ Q:=
 aZ.plain (h':=h) rfl (λrun=>by simp only[ar,aC,an hx]) k
theorem D.fieldAddr{s:TypeId}{x:Operand}{f id ep j o off:Nat}{ft:TypeId}{os:List (Nat×TypeId)}{sz:Nat}(hx:cO L x=some (.ptr id ep j o))(hk:T.kd s=some (.st os))(hf:os[f]?=some (off,ft))(hs:T.ts ft=some (sz+1))
  (k:aZ C ops (i+1) r ⟨⟨al ((d,.ptr id ep j (o+off))::L) Y,h⟩,L0,own⟩ Q):aZ C ops i (⟨some d,.fieldAddr s x f,ty,pos,af,none⟩::r) ⟨⟨al L Y,h⟩,L0,own⟩ Q:=
 aZ.plain (h':=h) rfl (λrun=>by simp[ar,aC,an hx,gu,mz T hk hf hs]) k
theorem D.gB{t:TypeId}{x:Operand}{p c:PV}{cs:List PV}{sz:Nat}(dG:aY h=true)(hx:cO L x=some p)(hv:bw (aO h) p=true)(hs:T.ts t=some sz)(ht:T.ta t=some false)(hp:cR h p=some (c::cs))
  (k:aZ C ops (i+1) r ⟨⟨al ((d,c)::L) Y,h⟩,h.length,[]⟩ Q):aZ C ops i (⟨some d,.load t x,ty,pos,af,none⟩::r) ⟨⟨al L Y,h⟩,h.length,[]⟩ Q:=
 aZ.read rfl dG (by simp[Op.operands,an hx,hv]) ⟨0,λn lv _ _=>by simp[ar,aC,an hx,iK,T.eA _ _ hs,T.OJ _ _ ht,hp]⟩ k
theorem D.oG{t:TypeId}{x:Operand}{p:PV}{cs jx:List PV}{sz:Nat}(dG:aY h=true)(hx:cO L x=some p)(hv:bw (aO h) p=true)(hs:T.ts t=some (sz+1))(ht:T.ta t=some true)(hp:cR h p=some cs)(hc:qa (sz+1) cs jx)
  (k:aZ C ops (i+1) r ⟨⟨al ((d,.agg jx)::L) Y,h⟩,h.length,[]⟩ Q):aZ C ops i (⟨some d,.load t x,ty,pos,af,none⟩::r) ⟨⟨al L Y,h⟩,h.length,[]⟩ Q:=by
 obtain⟨rfl,hle⟩:=hc.eq;exact aZ.read rfl dG (by simp[Op.operands,an hx,hv]) ⟨0,λn lv _ _=>by simp[ar,aC,an hx,iK,T.eA _ _ hs,T.OJ _ _ ht,hp,hle]⟩ k
theorem D.gX{t el:TypeId}{x ix:Operand}{full:Bool}{es:List PV}{k:IntKind}{j:Nat}{v:PV}{cs:List PV}{sz:Nat}(dG:aY h=true)(hx:cO L x=some (.aa full es))(hi:cO L ix=some (.int k (j:Int)))(hk:T.kd t=some (.sl el))(hs:T.ts el=some (sz+1))
  (hv:es[j]?=some v) (hc:cells v=cs) (hl:cs.length=sz+1) (kk:aZ C ops (i+1) r ⟨⟨al ((d,.eg cs)::L) Y,h⟩,h.length,[]⟩ Q):aZ C ops i (⟨some d,.indexAddr t x ix,ty,pos,af,none⟩::r) ⟨⟨al L Y,h⟩,h.length,[]⟩ Q:=by
 have cL:j<es.length:=by
  rcases abJ j es.length with h |h;exact h;rw[abl h]at hv;cases hv
 subst hc;have Ll:es[j]=v:=by rw[aa6 cL]at hv;exact aa2 hv
 exact aZ.read rfl dG (by simp[Op.operands,an hx,an hi,bw]) ⟨0,λn lv _ _=>by simp[ar,aC,an hx,an hi,cF,bp (T.cQ _ _ hk),T.eA _ _ hs,cL,Ll,hl]⟩ kk
theorem D.mh{x:Operand}{xs:List Operand}{zf:Array TypeId}{f:FuncId}{dy args:List PV}{v:PV}(dG:aY h=true)(hf:cO L x=some (.fn f dy))(ha:vI L xs=some args)(hm:C.mode f=.pure)(vC:ao (args++dy)=true)
  (iG:bL (aO h) args=true) (hcv:bL (aO h) dy=true) (a:aL C f (aU (args++dy)) v)
  (k:aZ C ops (i+1) r ⟨⟨al ((d,v)::L) Y,h⟩,h.length,[]⟩ Q):aZ C ops i (⟨some d,.call ⟨.value x,xs.toArray,zf⟩,ty,pos,af,none⟩::r) ⟨⟨al L Y,h⟩,h.length,[]⟩ Q:=by
 obtain⟨n0,hn⟩:=a;have he:=gq (Y:=Y) ha;refine aZ.read rfl dG ?_ ⟨n0,λn lv h1 h2=>?_⟩ k
 ·rw[aa4]
  intro y hy
  simp[Op.operands,Call.operands]at hy;rcases hy with rfl |hy;rw[an hf];simpa[bw]using hcv
  ·rw[gj]at iG;have:ev (al L Y) y∈args:=by rw[<-he];exact abB.2 ⟨y,hy,rfl⟩
   exact aa4.1 iG _ this
 ·obtain⟨r0,hc,r1,e1,e2,e3⟩:=hn n h1;simp only[ar,fQ,an hf];unfold di;rw[hm];simp only[he,dV,vC,if_true,e1,e2,e3]
end Go.Pm
namespace Go.Pm
def L2(R:Value->PV->Prop)(vs:List Value)(cs:List PV):Prop:=vs.length=cs.length/\∀j,j<cs.length->R (vs.getD j undef) (cs.getD j .any)
inductive bZ(w:World)(A:Nat->Prop):Value->PV->Prop
 |int (k:IntKind) (n:Int):bZ w A (.int k n) (.int k n)
 |bool (b:Bool):bZ w A (.bool b) (.bool b)
 |str (s:ByteArray):bZ w A (.string s) (.str s)
 |eJ:bZ w A (.pointer none) .eJ
 |gL:bZ w A (.map none) .gL
 |aI:bZ w A .nilFunc .aI
 |agg (vs:List Value) (cs:List PV):vs.length=cs.length->(∀j,j<cs.length->bZ w A (vs.getD j undef) (cs.getD j .any))->bZ w A (.agg vs.toArray) (.agg cs)
 |cy (vs:List Value) (cs:List PV):vs.length=cs.length->(∀j,j<cs.length->bZ w A (vs.getD j undef) (cs.getD j .any))->bZ w A (.tuple vs.toArray) (.cy cs)
 |fn (f:FuncId) (vs:List Value) (cs:List PV):vs.length=cs.length->(∀j,j<cs.length->bZ w A (vs.getD j undef) (cs.getD j .any))->bZ w A (.func (.func f) #[] vs.toArray) (.fn f cs)
 |nK (f:FuncId) (k:Nat) (vs:List Value) (cs:List PV):vs.length=cs.length->(∀j,j<cs.length->bZ w A (vs.getD j undef) (cs.getD j .any))->bZ w A (.func (.func f) (vs.take k).toArray (vs.drop k).toArray) (.nK f k cs)
 |gp (a:Option Addr) (cap:Nat) (full:Bool):(full=true->cap=0)->bZ w A (.slice a 0 cap) (.aa full [])
 |aa (b off cap sz:Nat) (full:Bool) (es:List PV) (oP:Nat->Nat->Value):es≠[]->es.length<=cap->(full=true->cap=es.length)->¬A b->0<sz->
   (∀i,i<es.length->(cells (es.getD i .any)).length=sz)->
   (∀i j,i<es.length->j<sz->w.cell? ⟨b,off+(i * sz+j),none⟩=some (oP i j))->
   (∀i j,i<es.length->j<sz->bZ w A (oP i j) ((cells (es.getD i .any)).getD j .any))->
   bZ w A (.slice (some ⟨b,off,none⟩) es.length cap) (.aa full es)
 |eg (b off:Nat) (cs:List PV) (oP:Nat->Value):cs≠[]->¬A b->(∀j,j<cs.length->w.cell? ⟨b,off+j,none⟩=some (oP j))->
   (∀j,j<cs.length->bZ w A (oP j) (cs.getD j .any))->bZ w A (.pointer (some ⟨b,off,none⟩)) (.eg cs)
inductive aE(w:World)(A:Nat->Prop)(Z:List (Nat×Nat))(h:ab):Value->PV->Prop
 |val {v:Value} {p:PV}:bZ w A v p->aE w A Z h v p
 |undef:aE w A Z h (.tuple #[]) .undef
 |any (v:Value):aE w A Z h v .any
 |aj (v:Value) (id ep off len:Nat) (o:au) (bc:Nat×Nat):(∃(a:Option Addr) (l c:Nat),v=.slice a l c)->h[id]?=some o->Z[id]?=some bc->o.mu≠.x->(ep<=o.ep/\0<o.bA)->
   (o.ep=ep->off+len<=o.es.length->∃cap,v=.slice (some ⟨bc.1,off * o.bA,none⟩) len cap/\off+cap=bc.2)->
   aE w A Z h v (.aj id ep off len)
 |ptr (v:Value) (id ep i off:Nat) (o:au) (bc:Nat×Nat):(∃a:Addr,v=.pointer (some a))->h[id]?=some o->Z[id]?=some bc->o.mu≠.x->(ep<=o.ep/\0<o.bA)->
   (o.ep=ep->v=.pointer (some ⟨bc.1,i * o.bA+off,none⟩))->
   aE w A Z h v (.ptr id ep i off)
 |cM (v:Value) (id:Nat) (o:au) (bc:Nat×Nat):(∃r:Nat,v=.map (some r))->h[id]?=some o->Z[id]?=some bc->o.mu≠.x->(o.ep=0->v=.map (some bc.1))->aE w A Z h v (.cM id)
 |agg (vs:List Value) (cs:List PV):vs.length=cs.length->(∀j,j<cs.length->aE w A Z h (vs.getD j Go.undef) (cs.getD j .any))->aE w A Z h (.agg vs.toArray) (.agg cs)
 |cy (vs:List Value) (cs:List PV):vs.length=cs.length->(∀j,j<cs.length->aE w A Z h (vs.getD j Go.undef) (cs.getD j .any))->aE w A Z h (.tuple vs.toArray) (.cy cs)
 |fn (f:FuncId) (vs:List Value) (cs:List PV):vs.length=cs.length->(∀j,j<cs.length->aE w A Z h (vs.getD j Go.undef) (cs.getD j .any))->aE w A Z h (.func (.func f) #[] vs.toArray) (.fn f cs)
 |nK (f:FuncId) (k:Nat) (vs:List Value) (cs:List PV):vs.length=cs.length->(∀j,j<cs.length->aE w A Z h (vs.getD j Go.undef) (cs.getD j .any))->aE w A Z h (.func (.func f) (vs.take k).toArray (vs.drop k).toArray) (.nK f k cs)
def Mb(h:ab)(Z:List (Nat×Nat))(b:Nat):Prop:=∃(id:Nat) (o:au) (bc:Nat×Nat),h[id]?=some o/\Z[id]?=some bc/\o.mu=.m/\bc.1=b
def Av(F:Nat->Prop)(h:ab)(Z:List (Nat×Nat))(b:Nat):Prop:=F b\/Mb h Z b
def Zc(w:World)(A:Nat->Prop)(Z:List (Nat×Nat))(h:ab)(o:au)(bc:Nat×Nat):Prop:=
 ∃T cs,w.heap[bc.1]?=some (.cells cs T (0,0))/\o.es.length<=bc.2/\bc.2 * o.bA<=cs.size/\0<o.bA/\
  (∀(i:Nat) (e:PV),o.es[i]?=some e->(cells e).length=o.bA/\∀(j:Nat) (p:PV),(cells e)[j]?=some p->∃v:Value,cs[i * o.bA+j]?=some v/\aE w A Z h v p)
def Zd(w:World)(A:Nat->Prop)(Z:List (Nat×Nat))(h:ab)(o:au)(bc:Nat×Nat):Prop:=
 o.bA=0/\∃es clock,w.heap[bc.1]?=some (.map es clock)/\es.size=o.es.length/\
  (∀(i:Nat) (e:PV),o.es[i]?=some e->∃(k v:PV) (m:MapEntry),e=.agg [k,v]/\es[i]?=some m/\aE w A Z h m.key k/\aE w A Z h m.val v)
def jK(w:World)(A:Nat->Prop)(Z:List (Nat×Nat))(h:ab)(o:au)(bc:Nat×Nat):Prop:=Zc w A Z h o bc\/Zd w A Z h o bc
theorem jK.c{w:World}{A:Nat->Prop}{Z:List (Nat×Nat)}{h:ab}{o:au}{bc:Nat×Nat}(r:jK w A Z h o bc)(hz:0<o.bA):Zc w A Z h o bc:=by
 rcases r with r |r;exact r;have:=r.1;omega
theorem jK.m{w:World}{A:Nat->Prop}{Z:List (Nat×Nat)}{h:ab}{o:au}{bc:Nat×Nat}(r:jK w A Z h o bc)(hz:o.bA=0):Zd w A Z h o bc:=by
 rcases r with⟨_,_,_,_,_,h4,_⟩|r;omega;exact r
theorem jK.lt{w:World}{A:Nat->Prop}{Z:List (Nat×Nat)}{h:ab}{o:au}{bc:Nat×Nat}(r:jK w A Z h o bc):bc.1<w.heap.size:=by
 rcases r with⟨_,_,h1,_⟩|⟨_,_,_,h1,_⟩ <;>exact(aby.1 h1).1
def fS(w:World)(A:Nat->Prop):Prop:=∀(g:Nat) (p:PV),zJ g=some p->¬A g/\∃v:Value,w.cell? ⟨g,0,none⟩=some v/\bZ w A v p
structure ba(w:World)(F:Nat->Prop)(Z:List (Nat×Nat))(h:ab):Prop where
 len:Z.length=h.length
 fin:∀b,F b->b<w.heap.size
 obj:∀(id:Nat) (o:au) (bc:Nat×Nat),h[id]?=some o->Z[id]?=some bc->o.mu≠.x->jK w (Av F h Z) Z h o bc
 gY:∀(id dF:Nat) (o o':au) (bc cK:Nat×Nat),id≠dF->h[id]?=some o->h[dF]?=some o'->Z[id]?=some bc->Z[dF]?=some cK->o.mu=.m->o'.mu≠.x->bc.1≠cK.1
 out:∀(id:Nat) (o:au) (bc:Nat×Nat),h[id]?=some o->Z[id]?=some bc->(o.mu=.m\/o.mu=.f)->¬F bc.1
 fA:fS w (Av F h Z)
def Ie(h:ab)(Z:List (Nat×Nat))(h':ab)(Z':List (Nat×Nat)):Prop:=
 ∀(id:Nat) (o:au) (bc:Nat×Nat),h[id]?=some o->Z[id]?=some bc->o.mu≠.x->
  ∃(o':au) (cK:Nat×Nat),h'[id]?=some o'/\Z'[id]?=some cK/\o'.mu≠.x/\(o.ep<=o'.ep/\(0<o.bA->0<o'.bA))/\(o.ep=o'.ep->o'.bA=o.bA/\(0<o.bA->o'.es.length=o.es.length)/\cK=bc)
theorem Ie.refl(h:ab)(Z:List (Nat×Nat)):Ie h Z h Z:=λ_ o bc e1 e2 e3=>⟨o,bc,e1,e2,e3,⟨aa5 _,λh=>h⟩,λ_=>⟨rfl,λ_=>rfl,rfl⟩⟩
theorem Ie.trans{h h1 h2:ab}{Z Z1 Z2:List (Nat×Nat)}(a:Ie h Z h1 Z1)(b:Ie h1 Z1 h2 Z2):Ie h Z h2 Z2:=by
 intro id o bc e1 e2 e3
 obtain⟨o1,c1,f1,f2,f3,f4,f5⟩:=a id o bc e1 e2 e3;obtain⟨o2,c2,g1,g2,g3,g4,g5⟩:=b id o1 c1 f1 f2 f3;have f41:=f4.1;have g41:=g4.1;refine⟨o2,c2,g1,g2,g3,⟨abQ f4.1 g4.1,λhz=>g4.2 (f4.2 hz)⟩,λe=>?_⟩;obtain⟨p1,p2,p3⟩:=f5 (by omega);obtain⟨q1,q2,q3⟩:=g5 (by omega);exact⟨q1.trans p1,λhz=>(q2 (f4.2 hz)).trans (p2 hz),q3.trans p3⟩
def Vi[i:Inhabited Prop]:Prop:=i.default
variable[iD:Inhabited Prop]
structure dU(w:World)(h:ab)(Z:List (Nat×Nat))(w':World)(h':ab)(Z':List (Nat×Nat)):Prop where
 size:w.heap.size<=w'.heap.size
 len:h.length<=h'.length
 aR:∀b,b<w.heap.size->¬Mb h Z b->w'.heap[b]?=w.heap[b]?
 shr:∀b,b<w.heap.size->Mb h' Z' b->Mb h Z b
 refs:Ie h Z h' Z'
 Lk:∀(id:Nat) (o:au),h[id]?=some o->o.mu≠.m->h'[id]?=some o/\Z'[id]?=Z[id]?
 os:w'.os=w.os
 tape:w'.tape=w.tape
 output:w'.output=w.output
 drawn:Vi->w.drawn<=w'.drawn
theorem dU.refl(w:World)(h:ab)(Z:List (Nat×Nat)):dU w h Z w h Z where
 size:=aa5 _
 len:=aa5 _
 aR _ _ _:=rfl
 shr _ _ m:=m
 refs:=Ie.refl h Z
 Lk id o h1 _:=⟨h1,rfl⟩
 os:=rfl
 tape:=rfl
 output:=rfl
 drawn:=λ_=>aa5 _
theorem dU.trans{w w1 w2:World}{h h1 h2:ab}{Z Z1 Z2:List (Nat×Nat)}(a:dU w h Z w1 h1 Z1)(b:dU w1 h1 Z1 w2 h2 Z2):dU w h Z w2 h2 Z2 where
 size:=abQ a.size b.size
 len:=abQ a.len b.len
 aR k hk hm:=by
  have h1:¬Mb h1 Z1 k:=λm=>hm (a.shr k hk m)
  rw[b.aR k (abO hk a.size) h1,a.aR k hk hm]
 shr k hk m:=a.shr k hk (b.shr k (abO hk a.size) m)
 refs:=a.refs.trans b.refs
 Lk id o e1 e2:=by
  obtain⟨f1,f2⟩:=a.Lk id o e1 e2;obtain⟨g1,g2⟩:=b.Lk id o f1 e2;exact⟨g1,g2.trans f2⟩
 os:=b.os.trans a.os
 tape:=b.tape.trans a.tape
 output:=b.output.trans a.output
 drawn:=λd=>abQ (a.drawn d) (b.drawn d)
theorem Cm{w:World}{b off:Nat}{v:Value}(h:w.cell? ⟨b,off,none⟩=some v):b<w.heap.size:=block_lt_of_cell h
theorem lj{w w':World}{b off:Nat}(h:w'.heap[b]?=w.heap[b]?):w'.cell? ⟨b,off,none⟩=w.cell? ⟨b,off,none⟩:=by
 simp[World.cell?,h]
theorem bZ.mono{w w':World}{A A':Nat->Prop}(hw:∀b,b<w.heap.size->¬A b->w'.heap[b]?=w.heap[b]?)(hA:∀b,b<w.heap.size->¬A b->¬A' b)
  {v:Value} {p:PV} (h:bZ w A v p):bZ w' A' v p:=by
 induction h with
 |int k n=>exact .int k n
 |bool b=>exact .bool b
 |str s=>exact .str s
 |eJ=>exact .eJ
 |gL=>exact .gL
 |aI=>exact .aI
 |agg vs cs hl _ ih=>exact .agg vs cs hl ih
 |cy vs cs hl _ ih=>exact .cy vs cs hl ih
 |fn f vs cs hl _ ih=>exact .fn f vs cs hl ih
 |nK f k vs cs hl _ ih=>exact .nK f k vs cs hl ih
 |gp a cap full hf=>exact .gp a cap full hf
 |aa b off cap sz full es oP h1 h2 h3 h4 h5 h6 h7 _ ih=>
  have bN:0<es.length:=acT.2 h1;have hb:b<w.heap.size:=Cm (h7 0 0 bN h5);exact .aa b off cap sz full es oP h1 h2 h3 (hA b hb h4) h5 h6 (λi j hi hj=>by rw[lj (hw b hb h4)];exact h7 i j hi hj) ih
 |eg b off cs oP h1 h2 h3 _ ih=>
  have bN:0<cs.length:=acT.2 h1;have hb:b<w.heap.size:=Cm (h3 0 bN);exact .eg b off cs oP h1 (hA b hb h2) (λj hj=>by rw[lj (hw b hb h2)];exact h3 j hj) ih
theorem bZ.kL{w:World}{A A':Nat->Prop}(hA:∀b,A' b->A b){v:Value}{p:PV}(h:bZ w A v p):bZ w A' v p:=
 h.mono (λ_ _ _=>rfl) (λb _ hn ha=>hn (hA b ha))
theorem Av.mono{w w':World}{h h':ab}{Z Z':List (Nat×Nat)}{F:Nat->Prop}(s:dU w h Z w' h' Z')(b:Nat)(hb:b<w.heap.size)(hn:¬Av F h Z b):¬Av F h' Z' b:=by
 rintro(hf |hm);exact hn (.inl hf);exact hn (.inr (s.shr b hb hm))
theorem aE.UD{w w':World}{h h':ab}{Z Z':List (Nat×Nat)}{A A':Nat->Prop}(f:Ie h Z h' Z')(hw:∀b,b<w.heap.size->¬A b->w'.heap[b]?=w.heap[b]?)(hA:∀b,b<w.heap.size->¬A b->¬A' b)
  {v:Value} {p:PV} (hv:aE w A Z h v p):aE w' A' Z' h' v p:=by
 induction hv with
 |val hs=>exact .val (hs.mono hw hA)
 |undef=>exact .undef
 |any v=>exact .any v
 |aj v id ep off len o bc h0 h1 h2 h3 h4 h5=>
  obtain⟨o',cK,f1,f2,f3,f4,f5⟩:=f id o bc h1 h2 h3;have h41:=h4.1;have f41:=f4.1;refine .aj v id ep off len o' cK h0 f1 f2 f3 ⟨abQ h4.1 f4.1,f4.2 h4.2⟩ (λe1 e2=>?_);obtain⟨g1,g2,g3⟩:=f5 (by omega);have g2:=g2 h4.2;obtain⟨cap,k1,k2⟩:=h5 (by omega) (by omega);exact⟨cap,by rw[k1,g3,g1],by rw[k2,g3]⟩
 |ptr v id ep i off o bc h0 h1 h2 h3 h4 h5=>
  obtain⟨o',cK,f1,f2,f3,f4,f5⟩:=f id o bc h1 h2 h3;have h41:=h4.1;have f41:=f4.1;refine .ptr v id ep i off o' cK h0 f1 f2 f3 ⟨abQ h4.1 f4.1,f4.2 h4.2⟩ (λe1=>?_);obtain⟨g1,g2,g3⟩:=f5 (by omega);rw[h5 (by omega),g3,g1]
 |cM v id o bc h0 h1 h2 h3 h5=>
  obtain⟨o',cK,f1,f2,f3,f4,f5⟩:=f id o bc h1 h2 h3;have f41:=f4.1;refine .cM v id o' cK h0 f1 f2 f3 (λe1=>?_);obtain⟨g1,g2,g3⟩:=f5 (by omega);rw[h5 (by omega),g3]
 |agg vs cs hl _ ih=>exact .agg vs cs hl ih
 |cy vs cs hl _ ih=>exact .cy vs cs hl ih
 |fn f vs cs hl _ ih=>exact .fn f vs cs hl ih
 |nK f k vs cs hl _ ih=>exact .nK f k vs cs hl ih
theorem aE.mono{w w':World}{h h':ab}{Z Z':List (Nat×Nat)}{F:Nat->Prop}(s:dU w h Z w' h' Z'){v:Value}{p:PV}(hv:aE w (Av F h Z) Z h v p):
  aE w' (Av F h' Z') Z' h' v p:=hv.UD s.refs (λb hb hn=>s.aR b hb (λm=>hn (.inr m))) (λb hb hn=>Av.mono s b hb hn)
theorem fS.mono{w w':World}{A A':Nat->Prop}(hw:∀b,b<w.heap.size->¬A b->w'.heap[b]?=w.heap[b]?)(hA:∀b,b<w.heap.size->¬A b->¬A' b)(G:fS w A):fS w' A':=λg p e=>by
 obtain⟨h1,v,h2,h3⟩:=G g p e;have hg:=Cm h2;exact⟨hA g hg h1,v,by rw[lj (hw g hg h1)];exact h2,h3.mono hw hA⟩
theorem fS.Cy{w w':World}{h h':ab}{Z Z':List (Nat×Nat)}{F:Nat->Prop}(s:dU w h Z w' h' Z')(G:fS w (Av F h Z)):fS w' (Av F h' Z'):=G.mono (λb hb hn=>s.aR b hb (λm=>hn (.inr m))) (λb hb hn=>Av.mono s b hb hn)
theorem fS.kL{w:World}{A A':Nat->Prop}(hA:∀b,A' b->A b)(G:fS w A):fS w A':=λg p e=>by
 obtain⟨h1,v,h2,h3⟩:=G g p e;exact⟨λh=>h1 (hA g h),v,h2,h3.kL hA⟩
theorem fS.rel{w:World}{A:Nat->Prop}(G:fS w A){g:Nat}{p:PV}(e:zJ g=some p):bZ w A (.pointer (some ⟨g,0,none⟩)) (.eg [p]):=by
 obtain⟨h1,v,h2,h3⟩:=G g p e;refine .eg g 0 [p] (λ_=>v) (by simp) h1 (λj hj=>?_) (λj hj=>?_);simp at hj;subst hj;exact h2;simp at hj;subst hj;exact h3
section
variable{w:World}{A:Nat->Prop}{Z:List (Nat×Nat)}{h:ab}{v:Value}
theorem aE.dT{k:IntKind}{n:Int}(hv:aE w A Z h v (.int k n)):v=.int k n:=by cases hv with |val hs=>cases hs;rfl
theorem aE.gF{b:Bool}(hv:aE w A Z h v (.bool b)):v=.bool b:=by cases hv with |val hs=>cases hs;rfl
theorem aE.j9{s:ByteArray}(hv:aE w A Z h v (.str s)):v=.string s:=by cases hv with |val hs=>cases hs;rfl
theorem aE.Jd(hv:aE w A Z h v .undef):v=.tuple #[]:=by
 cases hv with
 |val hs=>cases hs
 |undef=>rfl
theorem aE.sc{cs:List PV}(hv:aE w A Z h v (.agg cs)):∃vs:List Value,v=.agg vs.toArray/\vs.length=cs.length/\∀j,j<cs.length->aE w A Z h (vs.getD j Go.undef) (cs.getD j .any):=by
 cases hv with
 |val hs=>cases hs with |agg vs _ hl hh=>exact⟨vs,rfl,hl,λj hj=>.val (hh j hj)⟩
 |agg vs _ hl hh=>exact⟨vs,rfl,hl,hh⟩
theorem aE.vQ{cs:List PV}(hv:aE w A Z h v (.cy cs)):∃vs:List Value,v=.tuple vs.toArray/\vs.length=cs.length/\∀j,j<cs.length->aE w A Z h (vs.getD j Go.undef) (cs.getD j .any):=by
 cases hv with
 |val hs=>cases hs with |cy vs _ hl hh=>exact⟨vs,rfl,hl,λj hj=>.val (hh j hj)⟩
 |cy vs _ hl hh=>exact⟨vs,rfl,hl,hh⟩
theorem aE.Fw{f:FuncId}{cs:List PV}(hv:aE w A Z h v (.fn f cs)):∃vs:List Value,v=.func (.func f) #[] vs.toArray/\vs.length=cs.length/\∀j,j<cs.length->aE w A Z h (vs.getD j Go.undef) (cs.getD j .any):=by
 cases hv with
 |val hs=>cases hs with |fn _ vs _ hl hh=>exact⟨vs,rfl,hl,λj hj=>.val (hh j hj)⟩
 |fn _ vs _ hl hh=>exact⟨vs,rfl,hl,hh⟩
theorem aE.Qh{f:FuncId}{k:Nat}{cs:List PV}(hv:aE w A Z h v (.nK f k cs)):∃vs:List Value,v=.func (.func f) (vs.take k).toArray (vs.drop k).toArray/\vs.length=cs.length/\∀j,j<cs.length->aE w A Z h (vs.getD j Go.undef) (cs.getD j .any):=by
 cases hv with
 |val hs=>cases hs with |nK _ _ vs _ hl hh=>exact⟨vs,rfl,hl,λj hj=>.val (hh j hj)⟩
 |nK _ _ vs _ hl hh=>exact⟨vs,rfl,hl,hh⟩
theorem aE.fK{f:Bool}{es:List PV}(hv:aE w A Z h v (.aa f es)):bZ w A v (.aa f es):=by cases hv with |val hs=>exact hs
theorem aE.tq{cs:List PV}(hv:aE w A Z h v (.eg cs)):bZ w A v (.eg cs):=by cases hv with |val hs=>exact hs
theorem aE.dL{id ep off len:Nat}(hv:aE w A Z h v (.aj id ep off len)):id<h.length/\(∀o:au,h[id]?=some o->ep<=o.ep/\0<o.bA)/\
  (∀(o:au) (bc:Nat×Nat),h[id]?=some o->Z[id]?=some bc->o.mu≠.x->o.ep=ep->off+len<=o.es.length->∃cap,v=.slice (some ⟨bc.1,off * o.bA,none⟩) len cap/\off+cap=bc.2):=by
 cases hv with
 |val hs=>cases hs
 |aj _ _ _ _ _ o bc h0 h1 h2 h3 h4 h5=>
  refine⟨?_,λo' e=>?_,λo' cK e1 e2 e3 e4 e5=>?_⟩
  ·rcases abJ id h.length with hh |hh
   ·exact hh
   ·rw[abl hh]at h1;cases h1
  rw[h1]at e;obtain rfl:=aa2 e;exact h4
  ·rw[h1]at e1;rw[h2]at e2;obtain rfl:=aa2 e1;obtain rfl:=aa2 e2;exact h5 e4 e5
theorem aE.Bt{id ep i off:Nat}(hv:aE w A Z h v (.ptr id ep i off)):id<h.length/\(∀o:au,h[id]?=some o->ep<=o.ep/\0<o.bA)/\
  (∀(o:au) (bc:Nat×Nat),h[id]?=some o->Z[id]?=some bc->o.mu≠.x->o.ep=ep->v=.pointer (some ⟨bc.1,i * o.bA+off,none⟩)):=by
 cases hv with
 |val hs=>cases hs
 |ptr _ _ _ _ _ o bc h0 h1 h2 h3 h4 h5=>
  refine⟨?_,λo' e=>?_,λo' cK e1 e2 e3 e4=>?_⟩
  ·rcases abJ id h.length with hh |hh
   ·exact hh
   ·rw[abl hh]at h1;cases h1
  rw[h1]at e;obtain rfl:=aa2 e;exact h4
  ·rw[h1]at e1;rw[h2]at e2;obtain rfl:=aa2 e1;obtain rfl:=aa2 e2;exact h5 e4
theorem aE.D9(hv:aE w A Z h v .gL):v=.map none:=by cases hv with |val hs=>cases hs;rfl
theorem aE.Eb{id:Nat}(hv:aE w A Z h v (.cM id)){o:au}{bc:Nat×Nat}(e1:h[id]?=some o)(e2:Z[id]?=some bc)(e3:o.ep=0):v=.map (some bc.1):=by
 cases hv with
 |val hs=>cases hs
 |cM _ _ o' cK h0 h1 h2 h3 h5=>
  rw[e1]at h1;rw[e2]at h2;obtain rfl:=aa2 h1;obtain rfl:=aa2 h2;exact h5 e3
end
theorem aE.EZ{w:World}{A:Nat->Prop}{Z:List (Nat×Nat)}{h:ab}{v:Value}{p:PV}(hv:aE w A Z h v p)(hp:aV p=true):bZ w A v p:=by
 have all:∀cs:List PV,ao cs=true->∀j,j<cs.length->aV (cs.getD j .any)=true:=by
  intro cs
  induction cs with
  |nil=>intro _ j hj;simp at hj
  |cons c r ih=>
   intro h j hj
   simp[ao]at h
   cases j with
   |zero=>simpa using h.1
   |succ j=>simpa using ih h.2 j (by simpa using hj)
 induction hv with
 |val hs=>exact hs
 |undef=>simp[aV]at hp
 |any v=>simp[aV]at hp
 |aj=>simp[aV]at hp
 |ptr=>simp[aV]at hp
 |cM=>simp[aV]at hp
 |agg vs cs hl _ ih=>exact .agg vs cs hl λj hj=>ih j hj (all cs (by simpa[aV]using hp) j hj)
 |cy vs cs hl _ ih=>exact .cy vs cs hl λj hj=>ih j hj (all cs (by simpa[aV]using hp) j hj)
 |fn f vs cs hl _ ih=>exact .fn f vs cs hl λj hj=>ih j hj (all cs (by simpa[aV]using hp) j hj)
 |nK f k vs cs hl _ ih=>exact .nK f k vs cs hl λj hj=>ih j hj (all cs (by simpa[aV]using hp) j hj)
theorem bZ.cells{w:World}{A:Nat->Prop}{v:Value}{p:PV}(hv:bZ w A v p):v.cells.size=(Pm.cells p).length/\∀(j:Nat) (q:PV),(Pm.cells p)[j]?=some q->∃u:Value,v.cells[j]?=some u/\bZ w A u q:=by
 have one:∀(v:Value) (p:PV),bZ w A v p->v.cells= #[v]->Pm.cells p=[p]->v.cells.size=(Pm.cells p).length/\∀(j:Nat) (q:PV),(Pm.cells p)[j]?=some q->∃u:Value,v.cells[j]?=some u/\bZ w A u q:=by
  intro v p h e1 e2
  rw[e1,e2];refine⟨rfl,λj q hq=>?_⟩
  cases j with
  |zero=>simp at hq;subst hq;exact⟨v,rfl,h⟩
  |succ j=>simp at hq
 cases hv with
 |agg vs cs hl hh=>
  refine⟨by simpa[Value.cells,Pm.cells]using hl,λj q hq=>?_⟩
  have hj:j<cs.length:=by
   rcases abJ j cs.length with h |h;exact h;simp[Pm.cells,abl h]at hq
  have hq':cs[j]?=some q:=hq;refine⟨vs.getD j undef,?_,?_⟩
  ·simp only[Value.cells];have:j<vs.length:=by omega
   simp[List.getD,this]
  ·have:=hh j hj;rwa[abt (l:=cs),hq']at this
 |_=>exact one _ _ (by first |exact .int _ _ |exact .bool _ |exact .str _ |exact .eJ |exact .gL |exact .aI |(rename_i a b;exact .cy _ _ a b)|(rename_i a b;exact .fn _ _ _ a b)|(rename_i a b;exact .nK _ _ _ _ a b)|(rename_i a;exact .gp _ _ _ a)|(rename_i h1 h2 h3 h4 h5 h6 h7 h8;exact .aa _ _ _ _ _ _ _ h1 h2 h3 h4 h5 h6 h7 h8)|(rename_i h1 h2 h3 h4;exact .eg _ _ _ _ h1 h2 h3 h4)) rfl rfl
end Go.Pm
