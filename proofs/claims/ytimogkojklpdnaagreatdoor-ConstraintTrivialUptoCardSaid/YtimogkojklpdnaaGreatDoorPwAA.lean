/-
  Pm, a part. Conditions: none.
-/
import GoSem.Decode
import GoSem.Step
import Derived.Orders
import Derived.Laws.BitsLemmas
import Derived.Laws.AppendOwn
import Derived.Laws.MakeOwn
import Derived.Below
set_option linter.unusedVariables false
set_option linter.unusedSimpArgs false
set_option linter.unnecessarySimpa false
abbrev abV:=@Option.some.inj
abbrev abW:=@List.getElem?_append_left
abbrev abX:=@List.all_eq_true
abbrev abY:=@List.getElem?_set_self
abbrev abZ:=@Nat.le_refl
abbrev ab0:=@List.getElem?_set_ne
abbrev ab1:=@List.getElem?_eq_getElem
abbrev ab2:=@List.mem_append
abbrev ab3:=@List.length_append
abbrev ab4:=@Bool.and_eq_true
abbrev ab5:=@List.mem_cons
abbrev ab6:=@List.getElem?_append_right
abbrev ab7:=@Prod.mk.inj
abbrev ab8:=@Option.map_some
abbrev ab9:=@List.length_cons
abbrev aca:=@Bool.false_eq_true
abbrev acb:=@List.mem_of_getElem?
abbrev acd:=@List.eq_nil_of_length_eq_zero
abbrev ace:=@List.getElem?_map
abbrev acf:=@Nat.zero_add
abbrev acg:=@List.map_cons
abbrev ach:=@List.getElem?_eq_none
abbrev aci:=@List.mem_map
abbrev acj:=@List.getElem?_take
abbrev ack:=@List.append_nil
abbrev acm:=@List.pairwise_cons
abbrev acn:=@List.getD_eq_getElem?_getD
abbrev aco:=@List.cons_append
abbrev acp:=@List.append_assoc
abbrev acq:=@Array.getElem?_eq_some_iff
abbrev acr:=@List.map_nil
abbrev acs:=@Bool.or_eq_true
abbrev acu:=@List.take_of_length_le
abbrev acv:=@List.mem_singleton
abbrev acw:=@Array.getElem?_toList
abbrev acx:=@List.drop_eq_nil_of_le
abbrev acy:=@List.getElem?_drop
abbrev acz:=@List.length_nil
abbrev acA:=@Option.some.injEq
abbrev acB:=@List.getElem_mem
abbrev acC:=@List.take_append_of_le_length
abbrev acD:=@List.nil_append
abbrev acE:=@Nat.lt_or_ge
abbrev acF:=@Nat.mul_le_mul_right
abbrev acG:=@List.getElem?_take_of_lt
abbrev acH:=@Bool.true_eq_false
abbrev acI:=@List.mem_of_mem_take
abbrev acJ:=@List.mem_of_mem_drop
abbrev acK:=@List.map_append
abbrev acL:=@List.mem_flatMap
abbrev acM:=@List.length_take
abbrev acN:=@Nat.lt_of_lt_of_le
abbrev acO:=@List.mem_filter
abbrev acP:=@Nat.eq_of_beq_eq_true
abbrev acQ:=@Option.map_eq_some_iff
abbrev acR:=@Nat.le_trans
abbrev acS:=@Ne.symm
abbrev acT:=@List.all_cons
abbrev acU:=@Nat.add_mul
abbrev acV:=@List.length_filter_le
abbrev acW:=@List.length_map
abbrev acX:=@List.mem_cons_of_mem
abbrev acY:=@List.eq_of_mem_replicate
abbrev acZ:=@List.map_congr_left
abbrev ac0:=@List.mem_append_left
abbrev ac1:=@List.all_append
abbrev ac2:=@List.take_length
abbrev ac3:=@List.drop_zero
abbrev ac4:=@List.set_set
abbrev ac5:=@List.getElem?_of_mem
abbrev ac6:=@List.getElem?_eq_some_iff
abbrev ac7:=@List.drop_append_of_le_length
abbrev ac8:=@Bool.not_eq_true'
abbrev ac9:=@List.ext_getElem?
abbrev ada:=@Bool.true_and
abbrev adb:=@Nat.le_of_ble_eq_true
abbrev ade:=@Nat.sub_self
abbrev adf:=@UInt8.lt_iff_toNat_lt
abbrev adg:=@List.append_of_mem
abbrev adh:=@List.not_mem_nil
abbrev adi:=@List.any_eq_false
abbrev adj:=@List.flatMap_cons
abbrev adk:=@Array.getElem?_eq_getElem
abbrev adl:=@List.mem_or_eq_of_mem_set
abbrev adm:=@List.set_append_right
abbrev adn:=@List.any_eq_true
abbrev ado:=@Bool.false_or
abbrev adp:=@Bool.and_true
abbrev adq:=@List.take_take
abbrev adr:=@Int.eq_ofNat_of_zero_le
abbrev ads:=@Int.toNat_natCast
abbrev adt:=@Array.getD_eq_getD_getElem?
abbrev adu:=@Array.length_toList
abbrev adw:=@Nat.zero_le
abbrev adx:=@List.countP_cons
abbrev ady:=@List.getElem?_zipWith
abbrev adz:=@List.length_replicate
abbrev adA:=@List.take_append_drop
abbrev adB:=@List.drop_eq_getElem_cons
abbrev adC:=@List.all_nil
abbrev adD:=@Array.ext'
abbrev adE:=@List.pairwise_append
abbrev adF:=@Nat.lt_trichotomy
abbrev adG:=@Nat.add_assoc
abbrev adH:=@List.length_drop
abbrev adI:=@Nat.add_zero
abbrev adJ:=@List.filter_append
abbrev adK:=@List.mem_iff_getElem?
abbrev adL:=@List.cons.injEq
abbrev adM:=@List.getElem?_toArray
abbrev adN:=@List.all_eq_false
abbrev adO:=@Bool.or_eq_false_iff
abbrev adP:=@List.mem_range
abbrev adQ:=@Nat.zero_mul
abbrev adR:=@List.length_pos_iff
abbrev adS:=@List.mem_replicate
abbrev adT:=@List.eq_nil_iff_forall_not_mem
abbrev adU:=@Nat.min_eq_left
abbrev adV:=@Nat.le_succ
abbrev adW:=@Array.getElem?_eq_none
abbrev adX:=@Array.mem_of_getElem?
abbrev adY:=@List.map_map
abbrev adZ:=@Nat.mul_le_mul
abbrev ad0:=@Array.getElem?_modify
abbrev ad1:=@Array.getElem?_append
abbrev ad2:=@List.getElem?_concat_length
abbrev ad3:=@List.getElem?_zipIdx
abbrev ad4:=@Bool.not_true
abbrev ad5:=@List.getElem?_range
abbrev ad6:=@List.take_succ_cons
abbrev ad7:=@List.getD_cons_zero
abbrev ad8:=@List.getD_cons_succ
abbrev ad9:=@Classical.byContradiction
abbrev aea:=@Option.map_none
abbrev aeb:=@List.findIdx?_eq_none_iff
abbrev aec:=@Option.isSome_iff_exists
abbrev aed:=@Bool.true_or
abbrev aee:=@Array.getElem?_replicate
abbrev aef:=@List.countP_append
abbrev aeg:=@Bool.not_false
abbrev aeh:=@Option.map_id'
abbrev aei:=@List.size_toArray
abbrev aej:=@List.range_succ_eq_map
abbrev aek:=@Bool.and_self
abbrev ael:=@List.mem_append_right
abbrev aem:=@List.set_getElem_self
abbrev aen:=@List.countP_mono_left
abbrev aeo:=@List.eq_nil_or_concat
abbrev aeq:=@Array.mem_toList_iff
abbrev aer:=@List.length_set
abbrev aes:=@Nat.mod_lt
abbrev aet:=@Nat.mul_comm
abbrev aeu:=@List.getElem_of_mem
abbrev aev:=@Int.toNat_of_nonneg
abbrev aew:=@Option.map_map
abbrev aex:=@List.drop_take
abbrev aey:=@List.take_zero
abbrev aez:=@List.any_cons
abbrev aeA:=@List.sum_cons
abbrev aeB:=@Prod.mk.injEq
structure Wq(Q:Prop):Prop where
 o:Q
theorem wA {P Q0:Prop} (q0:Q0) (h:Wq Q0->P:=by
  intro q0
  repeat' (first |(refine Rn.go ?_;conv=>whnf)|refine .mk ?_ |refine .tt ?_ |refine .ff ?_ |refine .m2 ?_ |refine .m3 ?_ |fail)
  exact q0.1):P:=h ⟨q0⟩
theorem wB {P Q0:Prop} (q0:Q0) (h:Wq Q0->P:=by
  intro q0
  repeat' (first |refine ah.nil ?_ |(apply R.xJ;exact rfl;exact rfl;exact rfl)|(apply R.oQ;exact rfl;exact rfl;exact rfl)|(apply R.Uw;exact rfl;exact rfl)|(apply R.move;exact rfl)|(apply R.assign;exact rfl)|(apply R.jg;exact rfl;exact rfl)|(apply R.je;exact rfl;exact rfl)|(apply R.gH T6;exact rfl;exact rfl;exact rfl;exact rfl)|(apply R.pz T6;exact rfl;exact rfl;exact rfl;exact rfl;exact(by repeat constructor))|(apply R.fieldAddr T6;exact rfl;exact rfl;exact rfl;exact rfl)|(apply R.zy T6;exact rfl;exact rfl;exact rfl;exact rfl;exact rfl)|(apply R.arith;exact rfl;exact rfl;exact rfl;exact(mK (by omega) (by omega)))|(apply R.max;exact rfl;exact rfl)|(apply R.neg;exact rfl;exact(mK (by omega) (by omega)))|(apply R.build T6;exact rfl;exact rfl;exact rfl;exact rfl;exact rfl;exact rfl)|(apply R.buildSlice T6;exact rfl;exact rfl;exact rfl;exact rfl;exact(by decide);exact rfl;exact rfl;exact rfl;exact rfl;exact rfl)|(apply R.PK;exact rfl;exact rfl;exact(by assumption))|(apply R.PL;exact rfl;exact rfl;exact(by assumption))|(apply R.not;exact rfl;exact rfl)|(apply R.rX T6;exact rfl;exact rfl)|(apply R.extract;exact rfl;exact rfl)|(apply R.box;exact rfl;exact rfl;exact rfl;exact .nil)|(apply R.box;exact rfl;exact rfl;exact rfl;exact(.cons .nil))|(apply R.abm;exact rfl;exact rfl;exact rfl)|(apply R.alloc T6;exact rfl;exact rfl;exact rfl;exact .nil)|(apply R.alloc T6;exact rfl;exact rfl;exact rfl;exact(.cons .nil))|(apply R.alloc T6;exact rfl;exact rfl;exact rfl;exact(.cons (.cons .nil)))|(apply R.PI T6;exact rfl;exact rfl;exact rfl)|(apply R.PJ T6;exact rfl;exact rfl;exact rfl;exact rfl;exact rfl;exact rfl)|(apply R.rZ T6;exact rfl;exact rfl;exact rfl;exact(by assumption);exact rfl)|(apply R.C8 T6;exact rfl;exact rfl;exact rfl;exact(by assumption);exact(by repeat constructor))|(apply R.C7 T6;exact rfl;exact rfl;exact rfl;exact(by repeat constructor))|(apply R.nilCheck;exact rfl)|refine Ev.seq ?_ |refine Ev.region ?_ |refine Ev.mL ?_ |refine bg.nil ?_ |(apply D.move;exact rfl)|(apply D.assign;exact rfl)|(apply D.xJ;exact rfl;exact rfl;exact rfl;exact rfl)|(apply D.arith;exact rfl;exact rfl;exact rfl;exact(mK (by omega) (by omega)))|(apply D.zy T6;exact rfl;exact rfl;exact rfl;exact rfl;exact rfl)|(apply D.build T6;exact rfl;exact rfl;exact rfl;exact rfl;exact rfl;exact rfl)|(apply D.fieldAddr T6;exact rfl;exact rfl;exact rfl;exact rfl)|(apply D.gH T6;exact(by first |exact rfl |assumption);exact rfl;exact rfl;exact rfl;exact rfl;exact rfl)|(apply D.pz T6;exact(by first |exact rfl |assumption);exact rfl;exact rfl;exact rfl;exact rfl;exact rfl;exact(by repeat constructor))|(apply Ev.fR;exact rfl)|refine Ev.ret ?_ |refine Ev.skip ?_ |refine Ev.block ?_ |refine aD.normal ?_ |refine aD.ret ?_ |refine az.normal ?_ |refine az.ret ?_ |refine aL.normal ?_ |refine aL.ret ?_ |(apply aJ.ret;exact rfl)|(apply aJ.abo T6;exact rfl)|(apply D.rZ T6;exact(by assumption);exact rfl;exact rfl;exact rfl;exact(by assumption);exact rfl)|(apply D.C8 T6;exact(by assumption);exact rfl;exact rfl;exact rfl;exact(by assumption);exact(by repeat constructor))|(apply D.C7 T6;exact(by first |exact rfl |assumption);exact rfl;exact rfl;exact rfl;exact(by repeat constructor))|fail)
  exact q0.1):P:=h ⟨q0⟩
theorem wC {P Q0 Q1:Prop} (q0:Q0) (q1:Q1) (h:Wq Q0->Wq Q1->P:=by
  intro q0 q1
  repeat' (first |(refine Rn.go ?_;conv=>whnf)|refine .mk ?_ |refine .tt ?_ |refine .ff ?_ |refine .m3 ?_ |refine .mk (λhc=>?_) λhc=>?_ |fail)
  ·revert hc;exact q0.1
  ·revert hc;exact q1.1):P:=h ⟨q0⟩ ⟨q1⟩
theorem wD {P Q0:Prop} (q0:Q0) (h:Wq Q0->P:=by
  intro q0
  repeat' (first |refine ah.nil ?_ |(apply R.xJ;exact rfl;exact rfl;exact rfl)|(apply R.oQ;exact rfl;exact rfl;exact rfl)|(apply R.Uw;exact rfl;exact rfl)|(apply R.move;exact rfl)|(apply R.assign;exact rfl)|(apply R.jg;exact rfl;exact rfl)|(apply R.je;exact rfl;exact rfl)|(apply R.pz T6;exact rfl;exact rfl;exact rfl;exact rfl;exact(by repeat constructor))|(apply R.arith;exact rfl;exact rfl;exact rfl;exact(mK (by omega) (by omega)))|(apply R.build T6;exact rfl;exact rfl;exact rfl;exact rfl;exact rfl;exact rfl)|(apply R.buildSlice T6;exact rfl;exact rfl;exact rfl;exact rfl;exact(by decide);exact rfl;exact rfl;exact rfl;exact rfl;exact rfl)|(apply R.not;exact rfl;exact rfl)|(apply R.rX T6;exact rfl;exact rfl)|(apply R.alloc T6;exact rfl;exact rfl;exact rfl;exact(.cons .nil))|refine Ev.seq ?_ |refine Ev.region ?_ |refine Ev.mL ?_ |refine bg.nil ?_ |(apply D.move;exact rfl)|(apply D.assign;exact rfl)|(apply D.arith;exact rfl;exact rfl;exact rfl;exact(mK (by omega) (by omega)))|(apply Ev.fR;exact rfl)|refine Ev.ret ?_ |refine Ev.skip ?_ |refine Ev.block ?_ |refine aD.normal ?_ |refine aD.ret ?_ |refine az.normal ?_ |refine aL.normal ?_ |(apply aJ.ret;exact rfl)|fail)
  exact q0.1):P:=h ⟨q0⟩
theorem wE {P Q0 Q1:Prop} (q0:Q0) (q1:Q1) (h:Wq Q0->Wq Q1->P:=by
  intro q0 q1
  repeat' (first |refine ah.nil ?_ |(apply R.xJ;exact rfl;exact rfl;exact rfl)|(apply R.oQ;exact rfl;exact rfl;exact rfl)|(apply R.Uw;exact rfl;exact rfl)|(apply R.move;exact rfl)|(apply R.assign;exact rfl)|(apply R.jg;exact rfl;exact rfl)|(apply R.je;exact rfl;exact rfl)|(apply R.gH T6;exact rfl;exact rfl;exact rfl;exact rfl)|(apply R.pz T6;exact rfl;exact rfl;exact rfl;exact rfl;exact(by repeat constructor))|(apply R.fieldAddr T6;exact rfl;exact rfl;exact rfl;exact rfl)|(apply R.cmp;exact rfl;exact rfl;exact rfl;all_goals intro hc)|(apply R.arith;exact rfl;exact rfl;exact rfl;exact(mK (by omega) (by omega)))|(apply R.neg;exact rfl;exact(mK (by omega) (by omega)))|(apply R.build T6;exact rfl;exact rfl;exact rfl;exact rfl;exact rfl;exact rfl)|(apply R.PK;exact rfl;exact rfl;exact(by assumption))|(apply R.PL;exact rfl;exact rfl;exact(by assumption))|(apply R.not;exact rfl;exact rfl)|(apply R.y9 T6;exact rfl;exact rfl)|(apply R.rX T6;exact rfl;exact rfl)|(apply R.rZ T6;exact rfl;exact rfl;exact rfl;exact(by assumption);exact rfl)|(apply R.C8 T6;exact rfl;exact rfl;exact rfl;exact(by assumption);exact(by repeat constructor))|(apply R.C7 T6;exact rfl;exact rfl;exact rfl;exact(by repeat constructor))|refine Ev.seq ?_ |refine Ev.region ?_ |refine Ev.mL ?_ |refine bg.nil ?_ |(apply D.move;exact rfl)|(apply D.assign;exact rfl)|(apply D.xJ;exact rfl;exact rfl;exact rfl;exact rfl)|(apply D.jg;exact rfl;exact rfl)|(apply D.cmp;exact rfl;exact rfl;exact rfl;all_goals intro hc)|(apply D.fieldAddr T6;exact rfl;exact rfl;exact rfl;exact rfl)|(apply D.gH T6;exact(by first |exact rfl |assumption);exact rfl;exact rfl;exact rfl;exact rfl;exact rfl)|(apply D.pz T6;exact(by first |exact rfl |assumption);exact rfl;exact rfl;exact rfl;exact rfl;exact rfl;exact(by repeat constructor))|(apply Ev.fR;exact rfl)|refine Ev.ret ?_ |refine Ev.skip ?_ |refine Ev.exit ?_ |refine Ev.block ?_ |refine aD.normal ?_ |refine aD.ret ?_ |refine aD.exit ?_ |refine az.normal ?_ |refine az.ret ?_ |refine az.IJ ?_ |refine aL.normal ?_ |refine aL.ret ?_ |refine aL.exit ?_ |(apply aJ.ret;exact rfl)|fail)
  ·revert hc;exact q0.1
  ·revert hc;exact q1.1):P:=h ⟨q0⟩ ⟨q1⟩
theorem wF {P Q0:Prop} (q0:Q0) (h:Wq Q0->P:=by
  intro q0
  repeat' (first |refine ah.nil ?_ |(apply R.xJ;exact rfl;exact rfl;exact rfl)|(apply R.move;exact rfl)|(apply R.assign;exact rfl)|(apply R.jg;exact rfl;exact rfl)|(apply R.pz T6;exact rfl;exact rfl;exact rfl;exact rfl;exact(by repeat constructor))|(apply R.fieldAddr T6;exact rfl;exact rfl;exact rfl;exact rfl)|(apply R.cmp;exact rfl;exact rfl;exact rfl;all_goals intro hc;all_goals(try(exfalso;omega)))|(apply R.arith;exact rfl;exact rfl;exact rfl;exact(mK (by omega) (by omega)))|(apply R.build T6;exact rfl;exact rfl;exact rfl;exact rfl;exact rfl;exact rfl)|(apply R.buildSlice T6;exact rfl;exact rfl;exact rfl;exact rfl;exact(by decide);exact rfl;exact rfl;exact rfl;exact rfl;exact rfl)|(apply R.not;exact rfl;exact rfl)|(apply R.rX T6;exact rfl;exact rfl)|(apply R.PI T6;exact rfl;exact rfl;exact rfl)|(apply R.PJ T6;exact rfl;exact rfl;exact rfl;exact rfl;exact rfl;exact rfl)|(apply R.JF T6;exact rfl;exact rfl;exact rfl;exact rfl)|refine Ev.seq ?_ |refine Ev.region ?_ |refine bg.nil ?_ |(apply D.assign;exact rfl)|(apply Ev.fR;exact rfl)|refine Ev.ret ?_ |refine Ev.skip ?_ |refine Ev.exit ?_ |refine Ev.block ?_ |refine aD.normal ?_ |refine aD.exit ?_ |refine az.normal ?_ |refine az.IJ ?_ |refine aL.normal ?_ |refine aL.exit ?_ |(apply aJ.ret;exact rfl)|fail)
  revert hc;exact q0.1):P:=h ⟨q0⟩
theorem wG {P Q0:Prop} (q0:Q0) (h:Wq Q0->P:=by
  intro q0
  repeat' (first |(refine Rn.go ?_;conv=>whnf)|refine .mk ?_ |refine .tt ?_ |refine .ff ?_ |refine .m2 ?_ |refine .lp λv H lp=>?_ |fail)
  revert lp;revert H;revert v;exact q0.1):P:=h ⟨q0⟩
theorem wH {P Q0:Prop} (q0:Q0) (h:Wq Q0->P:=by
  intro q0
  repeat' (first |(refine Rn.go ?_;conv=>whnf)|((fail_if_success (show T0 _ _ _ _ _));refine .mk ?_)|refine .tt ?_ |refine .ff ?_ |fail)
  exact q0.1):P:=h ⟨q0⟩
theorem wI {P Q0 Q1 Q2:Prop} (q0:Q0) (q1:Q1) (q2:Q2) (h:Wq Q0->Wq Q1->Wq Q2->P:=by
  intro q0 q1 q2
  repeat' (first |(refine Rn.go ?_;conv=>whnf)|refine .mk ?_ |refine .tt ?_ |refine .ff ?_ |refine .mk (λhc=>?_) λhc=>?_ |fail)
  ·revert hc;exact q0.1
  ·revert hc;revert hc;exact q1.1
  ·revert hc;revert hc;exact q2.1):P:=h ⟨q0⟩ ⟨q1⟩ ⟨q2⟩
theorem wJ {P Q0 Q1 Q2:Prop} (q0:Q0) (q1:Q1) (q2:Q2) (h:Wq Q0->Wq Q1->Wq Q2->P:=by
  intro q0 q1 q2
  repeat' (first |(refine Rn.go ?_;conv=>whnf)|refine .mk ?_ |refine .tt ?_ |refine .mk (λhc=>?_) λhc=>?_ |fail)
  ·revert hc;revert hc;exact q0.1
  ·revert hc;revert hc;exact q1.1
  ·revert hc;exact q2.1):P:=h ⟨q0⟩ ⟨q1⟩ ⟨q2⟩
theorem wK {P Q0 Q1:Prop} (q0:Q0) (q1:Q1) (h:Wq Q0->Wq Q1->P:=by
  intro q0 q1
  repeat' (first |(refine Rn.go ?_;conv=>whnf)|refine .mk ?_ |refine .tt ?_ |refine .mk (λhc=>?_) λhc=>?_ |refine .lp λv H lp=>?_ |fail)
  ·revert lp;revert H;revert v;revert hc;exact q0.1
  ·revert hc;exact q1.1):P:=h ⟨q0⟩ ⟨q1⟩
theorem wL {P Q0 Q1 Q2 Q3 Q4 Q5 Q6:Prop} (q0:Q0) (q1:Q1) (q2:Q2) (q3:Q3) (q4:Q4) (q5:Q5) (q6:Q6) (h:Wq Q0->Wq Q1->Wq Q2->Wq Q3->Wq Q4->Wq Q5->Wq Q6->P:=by
  intro q0 q1 q2 q3 q4 q5 q6
  repeat' (first |(refine Rn.go ?_;conv=>whnf)|refine .mk ?_ |refine .mk (λhc=>?_) λhc=>?_ |fail)
  ·revert hc;exact q0.1
  ·revert hc;revert hc;exact q1.1
  ·revert hc;revert hc;revert hc;exact q2.1
  ·revert hc;revert hc;revert hc;revert hc;exact q3.1
  ·revert hc;revert hc;revert hc;revert hc;revert hc;exact q4.1
  ·revert hc;revert hc;revert hc;revert hc;revert hc;revert hc;exact q5.1
  ·revert hc;revert hc;revert hc;revert hc;revert hc;revert hc;exact q6.1):P:=h ⟨q0⟩ ⟨q1⟩ ⟨q2⟩ ⟨q3⟩ ⟨q4⟩ ⟨q5⟩ ⟨q6⟩
theorem lenE{α:Type}{l p q:List α}{x:α}(e:l=p++x::q):l.length=p.length+(q.length+1):=by
 rw[e,ab3,ab9]
namespace Go.Pm
inductive PV where
 |int (k:IntKind) (n:Int)
 |bool (b:Bool)
 |str (s:ByteArray)
 |agg (cs:List PV)
 |cA (vs:List PV)
 |aa (full:Bool) (es:List PV)
 |ak (id ep off len:Nat)
 |ptr (id ep i off:Nat)
 |eW (cs:List PV)
 |cG (id:Nat)
 |gS
 |eK
 |aG
 |fn (f:FuncId) (dw:List PV)
 |oE (f:FuncId) (k:Nat) (cs:List PV)
 |undef
 |any
 deriving Inhabited
inductive Mu where
 |m |l |f |x
 deriving DecidableEq,Inhabited
structure aw where
 mu:Mu
 ep:Nat
 bQ:Nat
 es:List PV
 deriving Inhabited
abbrev ab:=List aw
structure St where
 O:Nat->PV
 h:ab
def oF(O:Nat->PV)(d:Nat)(v:PV):Nat->PV:=λt=>if t=d then v else O t
def cm(O:Nat->PV)(d:Option Nat)(v:PV):Nat->PV:=
 match d with
 |some d=>oF O d v
 |none=>O
def cells:PV->List PV
 | .agg cs=>cs
 |v=>[v]
def bM:PV->Bool
 | .agg _ | .cA _ | .undef | .any=>false
 |_=>true
mutual
def aU:PV->Bool
 | .int .. | .bool _ | .str _ | .eK | .aG | .gS | .aa .. | .eW _=>true
 | .agg cs=>ao cs
 | .cA cs=>ao cs
 | .fn _ cs=>ao cs
 | .oE _ _ cs=>ao cs
 | .ak .. | .ptr .. | .cG _ | .undef | .any=>false
def ao:List PV->Bool
 |[]=>true
 |c::r=>aU c&&ao r
end
mutual
def dT:PV->Bool
 | .int .. | .bool _ | .str _ | .eK | .aG | .gS=>true
 | .agg cs=>pL cs
 | .cA cs=>pL cs
 |_=>false
def pL:List PV->Bool
 |[]=>true
 |c::r=>dT c&&pL r
end
mutual
def cj:PV->PV
 | .aa _ es=>.aa false (aQ es)
 | .agg cs=>.agg (aQ cs)
 | .cA cs=>.cA (aQ cs)
 | .fn f cs=>.fn f (aQ cs)
 | .oE f k cs=>.oE f k (aQ cs)
 | .eW cs=>.eW (aQ cs)
 |p=>p
def aQ:List PV->List PV
 |[]=>[]
 |c::r=>cj c::aQ r
end
def Yf:Value->PV
 | .int k n=>.int k n
 | .bool b=>.bool b
 | .string s=>.str s
 | .slice none 0 0=>.aa true []
 | .pointer none=>.eK
 | .nilFunc=>.aG
 | .map none=>.gS
 |_=>.any
def cv:Value->PV
 | .agg cs=>.agg (cs.toList.map Yf)
 |v=>Yf v
def ev(O:Nat->PV):Operand->PV
 | .tmp t=>O t
 | .const v=>cv v
 | .func f=>.fn f []
 | .global _=>.any
def cF(P:Program)(t:TypeId):Option Nat:=(P.info? t).map (·.size)
def mY(P:Program)(t:TypeId):Option Nat:=(P.info? t).map (·.bytes)
def jv(P:Program)(t:TypeId):Option PV:=((P.info? t).bind (·.zero)).map cv
def JX(P:Program)(t:TypeId):Option Bool:=(P.underlying t).map λ| .struct _ | .array _ _=>true |_=>false
def getM(h:ab)(id ep:Nat):Option aw:=
 match h[id]? with
 |some o=>if o.ep=ep/\o.mu≠.x then some o else none
 |none=>none
def cB(h:ab):PV->Option (List PV)
 | .aa _ es=>some es
 | .ak id ep off len=>match getM h id ep with
  |some o=>if off+len<=o.es.length then some ((o.es.drop off).take len)else none
  |none=>none
 |_=>none
def cT(h:ab):PV->Option (List PV)
 | .eW cs=>some cs
 | .ptr id ep i off=>match getM h id ep with
  |some o=>match o.es[i]? with
   |some e=>some ((cells e).drop off)
   |none=>none
  |none=>none
 |_=>none
def ja(P:Program)(h:ab)(t:TypeId)(p:PV):Option PV:=
 match cF P t,JX P t,cT h p with
 |some sz,some true,some cs=>if 0<sz/\sz<=cs.length then some (.agg (cs.take sz))else none
 |some _,some false,some cs=>match cs with
  |c::_=>some c
  |[]=>none
 |_,_,_=>none
def fE(off sz:Nat)(e v:PV):PV:=
 if off=0/\sz=(cells e).length then v else .agg ((cells e).take off++cells v++(cells e).drop (off+sz))
def im(P:Program)(h:ab)(t:TypeId)(p v:PV):Option ab:=
 match p,cF P t with
 | .ptr id ep i off,some sz=>match getM h id ep with
  |some o=>match o.es[i]? with
   |some e=>if o.mu=.m/\(cells v).length=sz/\(cells v).all bM=true/\off+sz<=(cells e).length then
     some (h.set id {o with es:=o.es.set i (fE off sz e v)})else none
   |none=>none
  |none=>none
 |_,_=>none
def newObj(h:ab)(bQ:Nat)(es:List PV):ab:=h++[{mu:=.m,ep:=0,bQ,es}]
def sH(cs:List PV)(off:Nat)(vs:List PV):List PV:=cs.take off++vs++cs.drop (off+vs.length)
def kG(place:Nat->Option (Nat×Nat))(cs:List PV):List (Nat×PV)->Option (List PV)
 |[]=>some cs
 |(i,v)::rest=>match place i with
  |none=>none
  |some (off,size)=>
   if(cells v).length=size/\(cells v).all bM=true/\off+size<=cs.length then kG place (sH cs off (cells v)) rest else none
def jc(P:Program)(fs:Array Field)(i:Nat):Option (Nat×Nat):=
 match fs[i]? with
 |some f=>(cF P f.type).map λs=>(f.offset,s)
 |none=>none
def xD(P:Program)(t:TypeId)(parts:List (Nat×PV)):Option PV:=
 match jv P t,P.underlying t with
 |some z,some (.struct fs)=>if fs.toList.all (λf=>(cF P f.type).isSome)=true/\(cells z).all bM=true then(kG (jc P fs) (cells z) parts).map .agg else none
 |some z,some (.array _ e)=>match cF P e with
  |some size=>if(cells z).all bM=true then(kG (λi=>some (i * size,size)) (cells z) parts).map .agg else none
  |none=>none
 |_,_=>none
def Ab(z:PV)(n:Nat)(parts:List (Nat×PV)):List PV:=parts.foldl (λes x=>es.set x.1 x.2) (List.replicate n z)
def dI(P:Program)(lv:Nat)(h:ab)(t:TypeId)(len:Nat)(parts:List (Nat×PV)):Option (PV×ab):=
 match P.underlying t with
 |some (.slice e)=>match cF P e,jv P e with
  |some size,some z=>
   if 0<size/\len * size<=16777216/\(cells z).length=size/\(cells z).all bM=true/\parts.all (λp=>decide ((cells p.2).length=size)&& (cells p.2).all bM&&decide (p.1<len))=true then
    if ao (Ab z len parts)then some (.aa true (Ab z len parts),h)
    else if 2<=lv then some (.ak h.length 0 0 len,newObj h size (Ab z len parts))else none
   else none
  |_,_=>none
 |_=>none
def ic(op:BinOp)(k:IntKind)(a b:Int):Option PV:=
 match op with
 | .add=>some (.int k (k.wrap (a+b)))
 | .sub=>some (.int k (k.wrap (a - b)))
 | .mul=>some (.int k (k.wrap (a * b)))
 | .quo=>if b=0 then none else some (.int k (k.wrap (a.tdiv b)))
 | .rem=>if b=0 then none else some (.int k (a.tmod b))
 | .eql=>some (.bool (a==b))
 | .neq=>some (.bool (a !=b))
 | .lss=>some (.bool (decide (a<b)))
 | .leq=>some (.bool (decide (a<=b)))
 | .gtr=>some (.bool (decide (a>b)))
 | .geq=>some (.bool (decide (a>=b)))
 | .and=>some (.int k (k.wrap (BitVec.ofInt k.bits a&&&BitVec.ofInt k.bits b).toNat))
 | .or=>some (.int k (k.wrap (BitVec.ofInt k.bits a |||BitVec.ofInt k.bits b).toNat))
 | .xor=>some (.int k (k.wrap (BitVec.ofInt k.bits a^^^BitVec.ofInt k.bits b).toNat))
 |_=>none
def qJ(op:BinOp)(k:IntKind)(x y:Int):Option PV:=
 if y<0 then none else
 match op with
 | .shl=>some (.int k (k.wrap (x * 2^ (min y.toNat k.bits))))
 | .shr=>some (.int k (x.fdiv (2^ (min y.toNat k.bits))))
 |_=>none
def mG(op:BinOp)(x y:ByteArray):Option PV:=
 match op with
 | .add=>if((x.size+y.size:Nat):Int)>IntKind.i64.max then none else some (.str (x++y))
 | .eql=>some (.bool (x.toList==y.toList))
 | .neq=>some (.bool !(x.toList==y.toList))
 | .lss=>some (.bool (Op.bytesLess x.toList y.toList))
 | .leq=>some (.bool (Op.bytesLess x.toList y.toList ||x.toList==y.toList))
 | .gtr=>some (.bool !(Op.bytesLess x.toList y.toList ||x.toList==y.toList))
 | .geq=>some (.bool !(Op.bytesLess x.toList y.toList))
 |_=>none
def fL(P:Program)(op:BinOp)(t:TypeId)(x y:PV):Option PV:=
 match x,y with
 | .int k a,.int k' b=>match op with
  | .shl | .shr=>qJ op k a b
  |_=>if k=k' then ic op k a b else none
 | .str a,.str b=>mG op a b
 | .bool a,.bool b=>match P.underlying t with
  |some .bool=>match op with
   | .eql=>some (.bool (a==b))
   | .neq=>some (.bool !(a==b))
   |_=>none
  |_=>none
 |_,_=>none
def TK(op:UnOp)(x:PV):Option PV:=
 match op,x with
 | .neg,.int k n=>some (.int k (k.wrap (0 - n)))
 | .not,.bool b=>some (.bool !b)
 |_,_=>none
def MS:PV->Option Int
 | .int .u8 n=>some n
 |_=>none
def oG:List PV->Option (List Int)
 |[]=>some []
 |c::r=>match MS c with
  |some n=>match oG r with
   |some l=>some (n::l)
   |none=>none
  |none=>none
def ur(xs:List Int):ByteArray:=⟨(xs.map λn=>UInt8.ofNat n.toNat).toArray⟩
def xE(P:Program)(src dst:TypeId)(x:PV):Option PV:=
 match P.underlying src,P.underlying dst,x with
 |some _,some (.int k),.int _ n=>some (.int k (k.wrap n))
 |some _,some .string,.str s=>some (.str s)
 |some (.slice e),some .string,.aa _ es=>match P.underlying e,oG es with
  |some (.int .u8),some l=>some (.str (ur l))
  |_,_=>none
 |_,_,_=>none
def cQ(x:Option PV)(dflt top:Nat):Option Nat:=
 match x with
 |none=>some dflt
 |some (.int _ i)=>if 0<=i/\i<=(top:Int)then some i.toNat else none
 |some _=>none
def beyond(mx hi:Option PV)(len top:Nat):Option Nat:=
 match mx,hi with
 |none,some (.int k i)=>if(len:Int)<i then cQ (some (.int k i)) 0 top else none
 |_,_=>none
def cr(P:Program)(h:ab)(t:TypeId)(x:PV)(lo hi mx:Option PV):Option PV:=
 match P.underlying t,x with
 |some .string,.str s=>if mx.isSome then none else
  match cQ hi s.size s.size with
  |some b=>match cQ lo 0 b with
   |some a=>some (.str (s.extract a b))
   |none=>none
  |none=>none
 |some (.slice e),.aa full es=>match cF P e with
  |some sz=>match cQ mx es.length es.length with
   |some m=>match cQ hi es.length m with
    |some b=>match cQ lo 0 b with
     |some a=>if(mx.isSome&&hi.isNone)=false/\(es[a]?).all (λv=>(cells v).length==sz)=true then some (.aa (if mx.isSome then m==b else full&&b==es.length) ((es.drop a).take (b - a)))else none
     |none=>none
    |none=>none
   |none=>none
  |none=>none
 |some (.slice e),.ak id ep off len=>match cF P e,getM h id ep with
  |some sz,some o=>if sz=o.bQ/\off+len<=o.es.length then
    match beyond mx hi len (o.es.length - off)with
    |some b=>match cQ lo 0 b with
     |some a=>if a=0 then some (.ak id ep off b)else if b - a=0 then some (.aa false [])else some (.ak id ep (off+a) (b - a))
     |none=>none
    |none=>
    match cQ mx len len with
    |some m=>match cQ hi len m with
     |some b=>match cQ lo 0 b with
      |some a=>if(mx.isSome&&hi.isNone)=false then
        (if mx.isSome then(if m=a then some (.aa true [])else some .any)
         else if a=0 then some (.ak id ep off b)else if b - a=0 then some (.aa false [])else some (.ak id ep (off+a) (b - a)))
       else none
      |none=>none
     |none=>none
    |none=>none
   else none
  |_,_=>none
 |_,_=>none
def pM(P:Program)(s:TypeId)(f:Nat):Option (Nat×TypeId):=
 match P.underlying s with
 |some (.struct fs)=>match fs[f]? with
  |some fl=>match cF P fl.type with
   |some sz=>if sz=0 then none else some (fl.offset,fl.type)
   |none=>none
  |none=>none
 |_=>none
def gD(P:Program)(s:TypeId)(p:PV)(f:Nat):Option PV:=
 match pM P s f,p with
 |some (off,_),.eW cs=>if off<cs.length then some (.eW (cs.drop off))else none
 |some (off,_),.ptr id ep i o=>some (.ptr id ep i (o+off))
 |_,_=>none
def xF(P:Program)(t:TypeId)(cs:List PV)(off:Nat):Option PV:=
 match JX P t,cF P t with
 |some true,some sz=>if off+sz<=cs.length then some (.agg ((cs.drop off).take sz))else none
 |some false,some _=>match cs[off]? with
  |some c=>some c
  |none=>none
 |_,_=>none
def B1(P:Program)(s:TypeId)(x:PV)(f:Nat):Option PV:=
 match P.underlying s,x with
 |some (.struct fs),.agg cs=>match fs[f]? with
  |some fl=>xF P fl.type cs fl.offset
  |none=>none
 |_,_=>none
def cJ(P:Program)(h:ab)(t:TypeId)(x ix:PV):Option PV:=
 match P.underlying t,x,ix with
 |some (.slice e),.aa _ es,.int _ i=>match cF P e with
  |some sz=>if 0<=i/\i<(es.length:Int)then
    match es[i.toNat]? with
    |some v=>if 0<sz/\(cells v).length=sz then some (.eW (cells v))else none
    |none=>none
   else none
  |none=>none
 |some (.slice e),.ak id ep off len,.int _ i=>match cF P e,getM h id ep with
  |some sz,some o=>if 0<=i/\i<(len:Int)/\sz=o.bQ/\off+len<=o.es.length then some (.ptr id ep (off+i.toNat) 0)else none
  |_,_=>none
 |some (.array n e),.eW cs,.int _ i=>match cF P e with
  |some sz=>if 0<=i/\i<(n:Int)/\i.toNat * sz<cs.length then some (.eW (cs.drop (i.toNat * sz)))else none
  |none=>none
 |some (.array n e),.ptr id ep k o,.int _ i=>match cF P e with
  |some sz=>if 0<=i/\i<(n:Int)then some (.ptr id ep k (o+i.toNat * sz))else none
  |none=>none
 |_,_,_=>none
def xG(P:Program)(t:TypeId)(x ix:PV):Option PV:=
 match P.underlying t,x,ix with
 |some (.array n e),.agg cs,.int _ i=>match cF P e with
  |some sz=>if 0<=i/\i<(n:Int)then xF P e cs (i.toNat * sz)else none
  |none=>none
 |some .string,.str s,.int _ i=>if 0<=i then
   match s[i.toNat]? with
   |some b=>some (.int .u8 b.toNat)
   |none=>none
  else none
 |_,_,_=>none
def Dt(h:ab)(id:Nat):Option aw:=
 match getM h id 0 with
 |some o=>if o.bQ=0 then some o else none
 |none=>none
def pN:PV->PV->Option Bool
 | .int k a,.int k' b=>if k=k' then some (a==b)else none
 | .str a,.str b=>some (a==b)
 | .bool a,.bool b=>some (a==b)
 |_,_=>none
def lN(k:PV):List PV->Nat->Option (Option (Nat×PV))
 |[],_=>some none
 |e::es,i=>match e with
  | .agg [k',v]=>match pN k k' with
   |some true=>some (some (i,v))
   |some false=>lN k es (i+1)
   |none=>none
  |_=>none
def Ac(P:Program)(t:TypeId)(k:PV):Bool:=
 match P.underlying t,k with
 |some (.int k),.int k' _=>decide (k'=k)
 |some .string,.str _ |some .bool,.bool _=>true
 |_,_=>false
def fQ(ok:Bool)(v:PV)(b:Bool):PV:=if ok then .cA [v,.bool b]else v
def oH(P:Program)(h:ab)(t:TypeId)(m k:PV)(ok:Bool):Option PV:=
 match P.underlying t with
 |some (.map kt et)=>match jv P et with
  |some z=>if Ac P kt k=true then
    match m with
    | .gS=>some (fQ ok z false)
    | .cG id=>match Dt h id with
     |some o=>match lN k o.es 0 with
      |some (some (_,v))=>some (fQ ok v true)
      |some none=>some (fQ ok z false)
      |none=>none
     |none=>none
    |_=>none
   else none
  |none=>none
 |_=>none
def Gb(k v:PV)(es:List PV):Option (List PV):=
 match lN k es 0 with
 |some (some (i,_))=>some (es.set i (.agg [k,v]))
 |some none=>some (es++[.agg [k,v]])
 |none=>none
def oI(P:Program)(h:ab)(t:TypeId)(m k v:PV):Option ab:=
 match P.underlying t,m with
 |some (.map kt _),.cG id=>match Dt h id with
  |some o=>if Ac P kt k=true/\o.mu=.m then
    match Gb k v o.es with
    |some es=>some (h.set id {o with es})
    |none=>none
   else none
  |none=>none
 |_,_=>none
def nt(P:Program)(lv:Nat)(h:ab)(t:TypeId)(r:Option PV):Option (PV×ab):=
 if 1<=lv then
  match r,P.underlying t with
  |none,_=>some (.cG h.length,newObj h 0 [])
  |some (.int _ _),some (.map _ _)=>some (.cG h.length,newObj h 0 [])
  |_,_=>none
 else none
def pO(P:Program)(h:ab)(t:TypeId)(x:PV):Option PV:=
 match P.underlying t,x with
 |some .string,.str s=>some (.int .i64 s.size)
 |some (.array n _),_=>some (.int .i64 n)
 |some (.slice _),.aa _ es=>some (.int .i64 es.length)
 |some (.map _ _),.gS=>some (.int .i64 0)
 |some (.map _ _),.cG id=>match Dt h id with
  |some o=>some (.int .i64 o.es.length)
  |none=>none
 |some (.slice _),.ak id ep off len=>match getM h id ep with
  |some o=>if off+len<=o.es.length then some (.int .i64 len)else none
  |none=>none
 |_,_=>none
def cH(P:Program)(h:ab)(z:PV)(xt:TypeId)(x:PV):Option (List PV):=
 match P.underlying xt,x with
 |some (.int _),.int _ n=>if 0<=n/\n<=1073741824 then some (List.replicate n.toNat z)else none
 |some (.slice _),x=>cB h x
 |_,_=>none
def roomy(n bytes:Nat):Bool:=decide (n * bytes<=17592186044416)&&decide (n<=17592186044416)
def iP(id:Nat):PV->Bool
 | .ak i _ _ _=>i==id
 |_=>false
def bT(P:Program)(lv:Nat)(h:ab)(st xt:TypeId)(s x:PV):Option (PV×ab):=
 match P.underlying st with
 |some (.slice e)=>match cF P e,mY P e,jv P e with
  |some sz,some bytes,some z=>match cH P h z xt x with
   |some ys=>
    if 0<sz/\bytes<=65536/\((cells z).length=sz/\(cells z).all bM=true)/\ys.all (λv=>decide ((cells v).length=sz)&& (cells v).all bM)=true then
     match s with
     | .aa full es=>
      if ys.isEmpty then some (s,h)
      else if full=true/\1<=lv/\roomy (es.length+ys.length) bytes=true/\es.all (λv=>decide ((cells v).length=sz)&& (cells v).all bM)=true then
       some (.ak h.length 0 0 (es.length+ys.length),newObj h sz (es++ys))
      else none
     | .ak id ep off len=>match getM h id ep with
      |some o=>
       if off+len<=o.es.length/\sz=o.bQ then
        if ys.isEmpty then some (s,h)
        else if off=0/\2<=lv/\o.mu=.m/\iP id x=true/\len+ys.length<=o.es.length then
         some (.ak id ep 0 (len+ys.length),h.set id {o with es:=o.es.take len++ys++o.es.drop (len+ys.length)})
        else if off=0/\2<=lv/\o.mu=.m/\roomy (len+ys.length) bytes=true then
         some (.ak id (ep+1) 0 (len+ys.length),h.set id {o with ep:=ep+1,es:=o.es.take len++ys})
        else none
       else none
      |none=>none
     |_=>none
    else none
   |none=>none
  |_,_,_=>none
 |_=>none
def AJ(P:Program)(lv:Nat)(h:ab)(dt:TypeId)(d x:PV):Option (PV×ab):=
 match P.underlying dt,d,cB h x with
 |some (.slice e),.ak id ep off len,some ys=>match cF P e,getM h id ep with
  |some sz,some o=>
   if 2<=lv/\o.mu=.m/\sz=o.bQ/\off+len<=o.es.length/\ys.all (λv=>decide ((cells v).length=sz))=true/\(ys.take (min ys.length len)).all (λv=>decide ((cells v).length=sz)&& (cells v).all bM)=true then
    let n:=min ys.length len
    some (.int .i64 n,h.set id {o with es:=o.es.take off++ys.take n++o.es.drop (off+n)})
   else none
  |_,_=>none
 |_,_,_=>none
def mZ(P:Program)(lv:Nat)(h:ab)(t:TypeId)(x:PV):Option (PV×ab):=
 match P.underlying t,x with
 |some (.slice e),.ak id ep off len=>match cF P e,jv P e,getM h id ep with
  |some sz,some z,some o=>
   if 2<=lv/\o.mu=.m/\sz=o.bQ/\off+len<=o.es.length/\(cells z).length=sz/\(cells z).all bM=true then
    some (.cA [],h.set id {o with es:=o.es.take off++List.replicate len z++o.es.drop (off+len)})
   else none
  |_,_,_=>none
 |some (.slice _),.aa _ []=>some (.cA [],h)
 |_,_=>none
def UI(P:Program)(t:TypeId)(x:PV):Option PV:=
 match P.underlying t,x with
 |some (.slice _),.aa true es=>some (.int .i64 es.length)
 |_,_=>none
def MT:List PV->Option PV
 |[.int k a,.int _ b]=>some (.int k (if b>a then b else a))
 |_=>none
def QI:List PV->Option PV
 |[.int k a,.int _ b]=>some (.int k (if b<a then b else a))
 |_=>none
def jS(P:Program)(lv:Nat)(h:ab)(t:TypeId)(len cap:PV):Option (PV×ab):=
 match P.underlying t,len,cap with
 |some (.slice e),.int _ n,.int _ c=>match cF P e,mY P e,jv P e with
  |some sz,some bytes,some z=>
   if 1<=lv/\0<=n/\n<=c/\c<=1073741824/\0<sz/\bytes<=65536/\(cells z).length=sz/\(cells z).all bM=true then
    some (.ak h.length 0 0 n.toNat,newObj h sz (List.replicate n.toNat z))
   else none
  |_,_,_=>none
 |_,_,_=>none
def bt(P:Program)(lv:Nat)(h:ab)(b:Builtin)(ts:List TypeId)(args:List PV):Option (PV×ab):=
 match b,ts,args with
 | .len,t::_,x::_=>(pO P h t x).map (·,h)
 | .append,st::xt::_,s::x::_=>bT P lv h st xt s x
 | .copy,dt::_,d::x::_=>AJ P lv h dt d x
 | .clear,t::_,x::_=>mZ P lv h t x
 | .cap,t::_,x::_=>(UI P t x).map (·,h)
 | .max,_,xs=>(MT xs).map (·,h)
 | .min,_,xs=>(QI xs).map (·,h)
 |_,_,_=>none
def aC(P:Program)(lv:Nat)(op:Op)(O:Nat->PV)(h:ab):Option (PV×ab):=
 match op with
 | .move x | .assign x=>some (ev O x,h)
 | .pick c a b=>match ev O c with
  | .bool t=>some (if t then ev O a else ev O b,h)
  |_=>none
 | .alloc t=>match jv P t with
  |some z=>if 1<=lv/\(cells z).all bM=true/\0<(cells z).length then some (.ptr h.length 0 0 0,newObj h (cells z).length [z])else none
  |none=>none
 | .box _ x=>if 1<=lv/\(cells (ev O x)).all bM=true/\0<(cells (ev O x)).length then some (.ptr h.length 0 0 0,newObj h (cells (ev O x)).length [ev O x])else none
 | .build t parts=>(xD P t (parts.toList.map λ(i,x)=>(i,ev O x))).map (·,h)
 | .buildSlice t n parts=>dI P lv h t n (parts.toList.map λ(i,x)=>(i,ev O x))
 | .load t a=>(ja P h t (ev O a)).map (·,h)
 | .store t a x=>if 2<=lv then(im P h t (ev O a) (ev O x)).map (.undef,·)else none
 | .nilCheck x=>match ev O x with
  | .ptr id ep i o=>some (.ptr id ep i o,h)
  | .eW cs=>some (.eW cs,h)
  | .fn f cs=>some (.fn f cs,h)
  |_=>none
 | .binOp op t x y _=>(fL P op t (ev O x) (ev O y)).map (·,h)
 | .unOp op _ x=>(TK op (ev O x)).map (·,h)
 | .convert s d x=>(xE P s d (ev O x)).map (·,h)
 | .makeFunc (.func f) first dw=>if first.isEmpty then some (.fn f (dw.toList.map (ev O)),h)else some (.oE f first.size ((first.toList++dw.toList).map (ev O)),h)
 | .makeSlice t l c=>jS P lv h t (ev O l) (ev O c)
 | .slice t x lo hi mx=>(cr P h t (ev O x) (lo.map (ev O)) (hi.map (ev O)) (mx.map (ev O))).map (·,h)
 | .fieldAddr s x f=>(gD P s (ev O x) f).map (·,h)
 | .field s x f=>(B1 P s (ev O x) f).map (·,h)
 | .indexAddr t x ix=>(cJ P h t (ev O x) (ev O ix)).map (·,h)
 | .index t x ix=>(xG P t (ev O x) (ev O ix)).map (·,h)
 | .makeMap t r=>nt P lv h t (r.map (ev O))
 | .lookup t x k ok=>(oH P h t (ev O x) (ev O k) ok).map (·,h)
 | .mapUpdate t m k v | .insert t m k v=>if 2<=lv then(oI P h t (ev O m) (ev O k) (ev O v)).map (.undef,·)else none
 | .extract x i=>match ev O x with
  | .cA vs=>match vs[i]? with
   |some v=>some (v,h)
   |none=>none
  |_=>none
 |_=>none
def pD(h:ab)(p:PV):Option PV:=
 match p with
 | .ak id ep off len=>match getM h id ep with
  |some o=>if off+len<=o.es.length/\(o.mu=.m\/o.mu=.f)/\ao ((o.es.drop off).take len)=true then some (.aa false ((o.es.drop off).take len))else none
  |none=>none
 |p=>if aU p then some p else none
def oJ(h:ab):List PV->Option (List PV)
 |[]=>some []
 |c::r=>match pD h c,oJ h r with
  |some c',some r'=>some (c'::r')
  |_,_=>none
def jP(h:ab)(p:PV):Option PV:=
 match p with
 | .agg cs=>(oJ h cs).map .agg
 |p=>pD h p
def gC(h:ab):List PV->Option (List PV)
 |[]=>some []
 |c::r=>match jP h c,gC h r with
  |some c',some r'=>some (c'::r')
  |_,_=>none
def rb(h:ab)(p:PV):Option PV:=
 match p with
 | .cA cs=>(gC h cs).map .cA
 |p=>jP h p
def gE(f:PV->Option PV):List PV->Option (List PV)
 |[]=>some []
 |c::r=>match f c,gE f r with
  |some c',some r'=>some (c'::r')
  |_,_=>none
def qK:Nat->ab->PV->Option PV
 |0,_,p=>if aU p then some p else none
 |n+1,h,p=>match p with
  | .ak id ep off len=>match getM h id ep with
   |some o=>if off+len<=o.es.length/\(o.mu=.m\/o.mu=.f)then(gE (qK n h) ((o.es.drop off).take len)).map (.aa false)else none
   |none=>none
  | .agg cs=>(gE (qK n h) cs).map .agg
  | .cA cs=>(gE (qK n h) cs).map .cA
  |p=>if aU p then some p else none
def AK(h:ab)(p:PV):Option PV:=match rb h p with |some r=>some r |none=>qK 8 h p
def ku(h:ab)(id:Nat):Option ab:=
 match h[id]? with
 |some o=>if ao o.es=true/\(o.mu=.m\/o.mu=.f)then some (h.set id {o with mu:=.f})else none
 |none=>none
def fm(h:ab):List Nat->Option ab
 |[]=>some h
 |id::r=>match ku h id with
  |some h'=>fm h' r
  |none=>none
def lB(h:ab)(ids:List Nat):Bool:=ids.all λid=>match h[id]? with |some o=>decide (o.mu=.f)&&ao o.es |none=>false
def wv:PV->List Nat
 | .ak id _ _ _=>[id]
 |_=>[]
def jd(ps:List PV):List Nat:=ps.flatMap λp=>(cells p).flatMap wv
def dU(n:Nat):PV->Bool
 | .ak id _ _ _=>decide (id<n)
 | .ptr id _ _ _=>decide (id<n)
 |p=>aU p
def cN(n:Nat):PV->Bool
 | .agg cs=>cs.all (dU n)
 |p=>dU n p
def dV(n:Nat):PV->Bool
 | .cA cs=>cs.all (cN n)
 |p=>cN n p
inductive Mode where
 |no
 |pure
 |opened
 |sI (g:List PV->Option PV)
 |cV (g:List PV->ab->Option (PV×ab))
 |ext (g:List PV->Option PV)
structure cW where
 P:Program
 mode:FuncId->Mode
abbrev iR:=FuncId->List PV->ab->Option (PV×ab)
def dx(run:iR)(lv:Nat)(f:FuncId)(args:List PV)(h:ab):Option (PV×ab):=
 if ao args then
  match run f (aQ args) []with
  |some (r,hc)=>match AK hc r with
   |some r'=>some (cj r',h)
   |none=>none
  |none=>none
 else match gC h args with
  |some args'=>match run f (aQ args') []with
   |some (r,hc)=>match AK hc r with
    |some r'=>if dT r'||lB h (jd args)then some (cj r',h)
     else if 2<=lv then(fm h (jd args)).map (cj r',·)else none
    |none=>none
   |none=>none
  |none=>match gE (qK 8 h) args with
   |some args'=>match run f (aQ args') []with
    |some (r,hc)=>match AK hc r with
     |some r'=>if dT r' then some (cj r',h)else none
     |none=>none
    |none=>none
   |none=>none
def bY(o:aw):aw:=match o.mu with | .m=>{o with mu:=.l}|_=>o
def eF(run:List PV->ab->Option (PV×ab))(lv:Nat)(args:List PV)(h:ab):Option (PV×ab):=
 if 2<=lv then run args h
 else if 1<=lv then match run args (h.map bY)with
  |some (r,h')=>if(h'.drop h.length).all (λo=>decide (o.mu≠.l))=true then some (r,h++h'.drop h.length)else none
  |none=>none
 else none
def iG(run:iR)(lv:Nat)(f:FuncId)(args:List PV)(h:ab):Option (PV×ab):=
 match eF (run f) lv args h with
 |some (r,h')=>if dV h.length r&& (h'.take h.length).all (λo=>o.es.all (cN h.length))then some (r,h'.take h.length)else some (r,h')
 |none=>none
def dn(C:cW)(run:iR)(lv:Nat)(f:FuncId)(args:List PV)(h:ab):Option (PV×ab):=
 match C.mode f with
 | .no=>none
 | .pure=>dx run lv f args h
 | .opened=>iG run lv f args h
 | .sI g=>if ao args then(g (aQ args)).map (·,h)else none
 | .cV g=>eF g lv args h
 | .ext g=>if ao args then(g (aQ args)).map (·,h)else none
def gA(C:cW)(run:iR)(lv:Nat)(callee:PV)(args:List PV)(h:ab):Option (PV×ab):=
 match callee with
 | .fn f dw=>dn C run lv f (args++dw) h
 | .oE f k cs=>dn C run lv f (cs.take k++args++cs.drop k) h
 |_=>none
def au(C:cW)(run:iR)(lv:Nat)(op:Op)(O:Nat->PV)(h:ab):Option (PV×ab):=
 match op with
 | .call c=>match c.callee with
  | .value f=>gA C run lv (ev O f) (c.args.toList.map (ev O)) h
  | .builtin b=>bt C.P lv h b c.argTypes.toList (c.args.toList.map (ev O))
  | .invoke _ _=>none
 |op=>aC C.P lv op O h
def di:Op->Bool
 | .move _ | .assign _ | .pick .. | .binOp .. | .unOp .. | .convert .. | .extract .. | .makeFunc .. | .build .. | .field .. | .index .. | .fieldAddr .. | .nilCheck _=>false
 |_=>true
def JY(o:Oper):List Edge:=o.after.toList.filter (Region.binds .any)
def before(ops:Array Oper):List Nat:=
 ops.toList.foldl (λacc o=>acc++[(JY o).foldl (λs e=>s |||2^e.on |||acc.getD e.on 0) 0]) []
def rP(b:List Nat)(i j:Nat):Bool:=i==j ||(b.getD i 0).testBit j ||(b.getD j 0).testBit i
def level(ops:Array Oper)(b:List Nat)(i:Nat):Nat:=
 if ops.toList.zipIdx.all λ(o,j)=>!di o.op ||rP b i j then 2 else 1
def bA(ops:Array Oper)(o:Oper)(O:Nat->PV):Option Bool:=
 match o.guard with
 |none=>some true
 |some (j,want)=>match(ops.toList[j]?).bind (·.dst)with
  |none=>some false
  |some d=>match O d with
   | .bool b=>some (b==want)
   | .undef=>some false
   |_=>none
def gf(C:cW)(run:iR)(ops:Array Oper)(o:Oper)(s:St):Option St:=
 match bA ops o s.O with
 |some true=>match au C run 2 o.op s.O s.h with
  |some (v,h')=>some ⟨cm s.O o.dst v,h'⟩
  |none=>none
 |some false=>some ⟨cm s.O o.dst .undef,s.h⟩
 |none=>none
def dK(C:cW)(run:iR)(ops:Array Oper):List Oper->St->Option St
 |[],s=>some s
 |o::r,s=>match gf C run ops o s with
  |some s'=>dK C run ops r s'
  |none=>none
def eX(o:aw):aw:={o with mu:=.x}
def cI(e:Nat->Bool)(L0:Nat)(own:List Nat)(h:ab):ab:=
 h.take L0++List.zipWith (λo j=>if e j then o else eX o) (h.drop L0) own
def aO(h:ab)(id:Nat):Bool:=match h[id]? with |some o=>decide (o.mu≠.x)|none=>false
mutual
def bu(f:Nat->Bool):PV->Bool
 | .ak id _ _ _=>f id
 | .ptr id _ _ _=>f id
 | .cG id=>f id
 | .agg cs=>bG f cs
 | .cA cs=>bG f cs
 | .fn _ cs=>bG f cs
 | .oE _ _ cs=>bG f cs
 |_=>true
def bG(f:Nat->Bool):List PV->Bool
 |[]=>true
 |c::r=>bu f c&&bG f r
end
def aV(h:ab):Bool:=h.all λo=>decide (o.mu=.x)||bG (aO h) o.es
structure xc where
 s:St
 L0:Nat
 own:List Nat
def cD(C:cW)(run:iR)(ops:Array Oper)(b:List Nat)(i:Nat)(o:Oper)(x:xc):Option xc:=
 match bA ops o x.s.O with
 |some true=>
  if di o.op=false then match au C run 1 o.op x.s.O x.s.h with
   |some (r,_)=>some ⟨⟨cm x.s.O o.dst r,x.s.h⟩,x.L0,x.own⟩
   |none=>none
  else if level ops b i=2 then match au C run 2 o.op x.s.O x.s.h with
   |some (r,h')=>some ⟨⟨cm x.s.O o.dst r,h'⟩,h'.length,[]⟩
   |none=>none
  else
   let M:=cI (b.getD i 0).testBit x.L0 x.own x.s.h
   if aV M=true/\(o.op.operands.toList.all λy=>bu (aO M) (ev x.s.O y))=true then
    match au C run 1 o.op x.s.O M with
    |some (r,h')=>if(h'.drop x.s.h.length).all (λo=>decide (o.mu≠.l))=true then
      some ⟨⟨cm x.s.O o.dst r,x.s.h++h'.drop x.s.h.length⟩,x.L0,x.own++List.replicate (h'.drop x.s.h.length).length i⟩else none
    |none=>none
   else none
 |some false=>some ⟨⟨cm x.s.O o.dst .undef,x.s.h⟩,x.L0,x.own⟩
 |none=>none
def dL(C:cW)(run:iR)(ops:Array Oper)(b:List Nat):Nat->List Oper->xc->Option xc
 |_,[],x=>some x
 |i,o::r,x=>match cD C run ops b i o x with
  |some x'=>dL C run ops b (i+1) r x'
  |none=>none
def ie:Op->Bool
 | .load .. | .indexAddr ..=>true
 |_=>false
def jT:Op->Bool
 | .buildSlice ..=>true
 |_=>false
def IG(o:Oper):Option Operand:=match o.op,o.dst,o.guard with
 | .store _ a _,none,none=>some a
 |_,_,_=>none
def sinks(ops:Array Oper)(b:List Nat):Option (Operand×Operand):=
 if 2<=ops.size/\rP b (ops.size - 2) (ops.size - 1)=false then
  match(ops.toList[ops.size - 2]?).bind IG,(ops.toList[ops.size - 1]?).bind IG with
  |some x,some y=>some (x,y)
  |_,_=>none
 else none
def jx(ops:Array Oper)(b:List Nat)(i:Nat)(bs:Bool):Bool:=ops.toList.zipIdx.all λ(o,j)=>!(di o.op&& !ie o.op&& (bs || !jT o.op))||rP b i j ||((sinks ops b).isSome&&decide (ops.size<=i+2)&&decide (ops.size<=j+2))
def lO(ops:Array Oper)(b:List Nat)(i:Nat):Bool:=ops.toList.zipIdx.all λ(o,j)=>!(di o.op&& !ie o.op&& !jT o.op)||rP b i j ||((sinks ops b).isSome&&decide (ops.size<=j+2))
def nu(h h':ab):ab:=List.zipWith (λo o'=>if o.mu=.m then o' else o) h h'++h'.drop h.length
def pP(h:ab)(id:Nat):Bool:=match h[id]? with
 |some o=>decide (o.mu≠.m)
 |none=>false
def sJ(op:Op)(O:Nat->PV):Option Nat:=match op with
 | .load _ x=>match ev O x with
  | .ptr id _ _ _=>some id
  |_=>none
 | .indexAddr _ x _=>match ev O x with
  | .ak id _ _ _=>some id
  |_=>none
 |_=>none
def Gc(ops:Array Oper)(O:Nat->PV)(x:Operand)(id:Nat):Bool:=(match x with | .tmp t=>!ops.toList.any (λo=>o.dst==some t)|_=>true)&& (match ev O x with | .ptr j _ _ _=>decide (j≠id)|_=>false)
def B8(ops:Array Oper)(b:List Nat)(i:Nat)(O:Nat->PV)(id:Nat):Bool:=match sinks ops b with
 |none=>true
 |some (x,y)=>(rP b i (ops.size - 2)||Gc ops O x id)&& (rP b i (ops.size - 1)||Gc ops O y id)
def lP(ops:Array Oper)(b:List Nat)(h0:ab)(i:Nat)(O:Nat->PV)(op:Op):Bool:=match sJ op O with
 |none=>true
 |some id=>pP h0 id ||(lO ops b i&&B8 ops b i O id)
def da(C:cW)(run:iR)(ops:Array Oper)(b:List Nat)(h0:ab)(i:Nat)(o:Oper)(s:St):Option St:=
 match bA ops o s.O with
 |some true=>
  if di o.op=false then match au C run 1 o.op s.O s.h with
   |some (r,_)=>some ⟨cm s.O o.dst r,s.h⟩
   |none=>none
  else if ie o.op=true then(if lP ops b h0 i s.O o.op=true then match aC C.P 1 o.op s.O s.h with
     |some (r,_)=>some ⟨cm s.O o.dst r,s.h⟩
     |none=>none
    else none)
  else match(if jT o.op then aC C.P 1 o.op s.O s.h else none)with
   |some (r,_)=>some ⟨cm s.O o.dst r,s.h⟩
   |none=>if jx ops b i (jT o.op)=true then match au C run 2 o.op s.O s.h with
     |some (r,h')=>if s.h.length<=h'.length then some ⟨cm s.O o.dst r,nu s.h h'⟩else none
     |none=>none
    else none
 |some false=>some ⟨cm s.O o.dst .undef,s.h⟩
 |none=>none
def cx(C:cW)(run:iR)(ops:Array Oper)(b:List Nat)(h0:ab):Nat->List Oper->St->Option St
 |_,[],s=>some s
 |i,o::r,s=>match da C run ops b h0 i o s with
  |some s'=>cx C run ops b h0 (i+1) r s'
  |none=>none
def gT(ops:Array Oper)(b:List Nat)(O:Nat->PV):List Nat:=ops.toList.zipIdx.flatMap λ(o,i)=>match o.op with
 | .load _ (.tmp t)=>if ops.toList.any (λo=>o.dst==some t)||lO ops b i then[]else match O t with
  | .ptr id _ _ _=>[id]
  |_=>[]
 |_=>[]
def cK(ids:List Nat)(h:ab):ab:=h.zipIdx.map λ(o,i)=>if ids.contains i then bY o else o
def eG(ids:List Nat)(h h':ab):ab:=h'.zipIdx.map λ(o,i)=>if ids.contains i then(match h[i]? with |some o'=>o'|none=>o)else o
def rQ(ids:List Nat)(h h':ab):Bool:=h'.zipIdx.all λ(o,i)=>decide (o.mu≠.l)||(ids.contains i&&decide (i<h.length))||(match h[i]? with |some o'=>decide (o'.mu=.l)|none=>false)
def rR(ops:Array Oper)(b:List Nat)(O:Nat->PV):Bool:=match sinks ops b with
 |none=>true
 |some (x,y)=>match ev O x,ev O y with
  | .ptr i _ _ _,.ptr j _ _ _=>decide (i≠j)
  |_,_=>false
def jy(C:cW)(run:iR)(ops:Array Oper)(s:St):Option St:=
 match cx C run ops (before ops) (cK (gT ops (before ops) s.O) s.h) 0 ops.toList ⟨s.O,cK (gT ops (before ops) s.O) s.h⟩with
 |some s'=>if rQ (gT ops (before ops) s.O) s.h s'.h=true/\rR ops (before ops) s'.O=true then some ⟨s'.O,eG (gT ops (before ops) s.O) s.h s'.h⟩else none
 |none=>none
def QJ(ops:Array Oper)(o:Oper):Bool:=match o.op with
 | .call ⟨.builtin .append,args,_⟩=>match args.toList with
  | .tmp t::_=>ops.toList.any λo'=>o'.dst==some t&& (match o'.op with | .call ⟨.value _,_,_⟩=>true |_=>false)
  |_=>false
 |_=>false
def MU(ops:Array Oper):Bool:=ops.toList.zipIdx.any λ(o,i)=>match o.op,o.dst with
 | .call ⟨.builtin .append,_,_⟩,some d=>!(level ops (before ops) i==2)&&ops.toList.any λo'=>match o'.op with
  | .call ⟨.builtin .append,args,_⟩=>(match args.toList with
   | .tmp t::_=>t==d
   |_=>false)
  |_=>false
 |_,_=>false
def sL(ops:Array Oper):Bool:=(ops.toList.zipIdx.any λ(o,i)=>QJ ops o&& !(level ops (before ops) i==2))||(sinks ops (before ops)).isSome ||MU ops
inductive Ex where
 |normal
 |exit (id:Nat)
 |ret
 deriving DecidableEq
def iter(body:St->Option (Ex×St)):Nat->St->Option (Ex×St)
 |0,_=>none
 |n+1,s=>match body s with
  |some (.normal,s')=>iter body n s'
  |r=>r
def bW(C:cW)(run:iR)(N:Nat):Code->St->Option (Ex×St)
 | .skip,s=>some (.normal,s)
 | .region _ ops draw,s=>match(if draw then(if sL ops then jy C run ops s else(dL C run ops (before ops) 0 ops.toList ⟨s,s.h.length,[]⟩).map (·.s))else dK C run ops ops.toList s)with
  |some s'=>some (.normal,s')
  |none=>none
 | .seq a b,s=>match bW C run N a s with
  |some (.normal,s')=>bW C run N b s'
  |r=>r
 | .cond c a b,s=>match ev s.O c with
  | .bool true=>bW C run N a s
  | .bool false=>bW C run N b s
  |_=>none
 | .block id c,s=>match bW C run N c s with
  |some (.exit eH,s')=>if eH=id then some (.normal,s')else some (.exit eH,s')
  |r=>r
 | .loop c,s=>iter (bW C run N c) N s
 | .exit id,s=>some (.exit id,s)
 | .label _,s=>some (.normal,s)
 | .scope c,s=>bW C run N c s
 | .ret,s=>some (.ret,s)
 |_,_=>none
def nw(args:List PV):Nat->PV:=λt=>args.getD t .undef
def dy(P:Program)(h:ab)(O:Nat->PV):List ResultVar->Option (List PV)
 |[]=>some []
 |r::rest=>match(match r with | .tmp t=>some (O t)| .cell a t=>ja P h t (O a)),dy P h O rest with
  |some v,some vs=>some (v::vs)
  |_,_=>none
def aR:List PV->PV
 |[v]=>v
 |vs=>.cA vs
def pQ(C:cW)(run:iR)(n:Nat):iR:=λf args h=>
 match C.P.funcs[f]? with
 |some fn=>match fn.body with
  |some c=>match bW C run n c ⟨nw args,h⟩with
   |some (.normal,s)|some (.ret,s)=>match dy C.P s.h s.O fn.results.toList with
    |some vs=>some (aR vs,s.h)
    |none=>none
   |_=>none
  |none=>none
 |none=>none
def fF(C:cW)(n:Nat):iR:=Nat.rec (λ_ _ _=>none) (λn r=>pQ C r n) n
def pR(C:cW)(n:Nat)(f:FuncId)(args:List PV):Option PV:=
 match fF C n f args []with
 |some (r,h)=>(AK h r).map cj
 |none=>none
def al:List (Nat×PV)->(Nat->PV)->Nat->PV
 |[],O,t=>O t
 |(k,v)::L,O,t=>if t=k then v else al L O t
theorem NT(O:Nat->PV):∀(L:List (Nat×PV)),(∀x∈L,O x.1=x.2)->al L O=O
 |[],_=>by funext t;rfl
 |(k,v)::L,h=>by
  funext t
  simp only[al]
  split
  ·rename_i hk;rw[hk];exact(h (k,v) (by simp)).symm
  rw[NT O L (λx hx=>h x (by simp[hx]))]
def Ev(C:cW)(c:Code)(s:St)(Q:Ex->St->Prop):Prop:=
 ∃ex s',Q ex s'/\∃n0,∀n m,n0<=n->n0<=m->bW C (fF C n) m c s=some (ex,s')
def ah(C:cW)(ops:Array Oper)(l:List Oper)(s:St)(Q:St->Prop):Prop:=
 ∃s',Q s'/\∃n0,∀n,n0<=n->dK C (fF C n) ops l s=some s'
def aj(C:cW)(lv:Nat)(f:FuncId)(args:List PV)(h:ab)(Q:PV->ab->Prop):Prop:=
 ∃r h',Q r h'/\∃n0,∀n,n0<=n->dn C (fF C n) lv f args h=some (r,h')
def ay(C:cW)(f:FuncId)(args:List PV)(h:ab)(Q:PV->ab->Prop):Prop:=
 ∃r h',Q r h'/\∃n0,∀n,n0<=n->fF C n f args h=some (r,h')
variable{C:cW}
theorem ay.mono{f:FuncId}{args:List PV}{h:ab}{Q Q':PV->ab->Prop}(a:ay C f args h Q)(hq:∀r h,Q r h->Q' r h):ay C f args h Q':=by
 obtain⟨r,h',q,e⟩:=a;exact⟨r,h',hq _ _ q,e⟩
theorem Ev.skip{s:St}{Q:Ex->St->Prop}(h:Q .normal s):Ev C .skip s Q:=⟨_,_,h,0,λ_ _ _ _=>rfl⟩
theorem Ev.label{l:Nat}{s:St}{Q:Ex->St->Prop}(h:Q .normal s):Ev C (.label l) s Q:=⟨_,_,h,0,λ_ _ _ _=>rfl⟩
theorem Ev.exit{id:Nat}{s:St}{Q:Ex->St->Prop}(h:Q (.exit id) s):Ev C (.exit id) s Q:=⟨_,_,h,0,λ_ _ _ _=>rfl⟩
theorem Ev.ret{s:St}{Q:Ex->St->Prop}(h:Q .ret s):Ev C .ret s Q:=⟨_,_,h,0,λ_ _ _ _=>rfl⟩
theorem Ev.scope{c:Code}{s:St}{Q:Ex->St->Prop}(h:Ev C c s Q):Ev C (.scope c) s Q:=by
 obtain⟨ex,s',q,n0,hn⟩:=h;exact⟨ex,s',q,n0,λn m h1 h2=>by simpa[bW]using hn n m h1 h2⟩
def aD(C:cW)(b:Code)(Q:Ex->St->Prop):Ex->St->Prop
 | .normal,s=>Ev C b s Q
 |ex,s=>Q ex s
theorem Ev.seq{a b:Code}{s:St}{Q:Ex->St->Prop}(h:Ev C a s (aD C b Q)):Ev C (.seq a b) s Q:=by
 obtain⟨ex,s',q,n0,hn⟩:=h
 cases ex with
 |normal=>
  obtain⟨Yu,s2,q2,n1,Cf⟩:=q;exact⟨Yu,s2,q2,max n0 n1,λn m h1 h2=>by simp only[bW,hn n m (by omega) (by omega),Cf n m (by omega) (by omega)]⟩
 |exit id=>exact⟨_,_,q,n0,λn m h1 h2=>by simp only[bW,hn n m h1 h2]⟩
 |ret=>exact⟨_,_,q,n0,λn m h1 h2=>by simp only[bW,hn n m h1 h2]⟩
theorem Ev.Ua{c:Operand}{a b:Code}{s:St}{Q:Ex->St->Prop}(hc:ev s.O c=.bool true)(h:Ev C a s Q):Ev C (.cond c a b) s Q:=by
 obtain⟨ex,s',q,n0,hn⟩:=h;exact⟨ex,s',q,n0,λn m h1 h2=>by simp only[bW,hc,hn n m h1 h2]⟩
theorem Ev.Ub{c:Operand}{a b:Code}{s:St}{Q:Ex->St->Prop}(hc:ev s.O c=.bool false)(h:Ev C b s Q):Ev C (.cond c a b) s Q:=by
 obtain⟨ex,s',q,n0,hn⟩:=h;exact⟨ex,s',q,n0,λn m h1 h2=>by simp only[bW,hc,hn n m h1 h2]⟩
def az(id:Nat)(Q:Ex->St->Prop):Ex->St->Prop
 | .exit eH,s=>if eH=id then Q .normal s else Q (.exit eH) s
 |ex,s=>Q ex s
theorem Ev.block{id:Nat}{c:Code}{s:St}{Q:Ex->St->Prop}(h:Ev C c s (az id Q)):Ev C (.block id c) s Q:=by
 obtain⟨ex,s',q,n0,hn⟩:=h
 cases ex with
 |normal=>exact⟨_,_,q,n0,λn m h1 h2=>by simp only[bW,hn n m h1 h2]⟩
 |exit eH=>
  simp only[az]at q
  by_cases bZ:eH=id
  ·rw[if_pos bZ]at q;exact⟨_,_,q,n0,λn m h1 h2=>by simp only[bW,hn n m h1 h2,if_pos bZ]⟩
  ·rw[if_neg bZ]at q;exact⟨_,_,q,n0,λn m h1 h2=>by simp only[bW,hn n m h1 h2,if_neg bZ]⟩
 |ret=>exact⟨_,_,q,n0,λn m h1 h2=>by simp only[bW,hn n m h1 h2]⟩
def aL(I:St->Prop)(Q:Ex->St->Prop):Ex->St->Prop
 | .normal,s=>I s
 |ex,s=>Q ex s
theorem Ev.loop{c:Code}{s:St}{Q:Ex->St->Prop}(I:Nat->St->Prop)(k:Nat)(h0:I k s)(step:∀k s,I k s->Ev C c s (aL (λs'=>∃j,j<k/\I j s') Q)):Ev C (.loop c) s Q:=by
 have key:∀(k:Nat) (s:St),I k s->∃ex s',Q ex s'/\∃n0,∀n m j,n0<=n->n0<=m->n0<=j->iter (bW C (fF C n) m c) j s=some (ex,s'):=by
  intro k
  induction k using Nat.strongRecOn with
  |ind k ih=>
   intro s hs
   obtain⟨ex,s',q,n0,hn⟩:=step k s hs
   cases ex with
   |normal=>
    obtain⟨j,hj,hI⟩:=q;obtain⟨Yu,s2,q2,n1,Cf⟩:=ih j hj s' hI;refine⟨Yu,s2,q2,max n0 n1+1,λn m i h1 h2 h3=>?_⟩;obtain⟨i,rfl⟩:∃i',i=i'+1:=⟨i - 1,by omega⟩;simp only[iter,hn n m (by omega) (by omega),Cf n m i (by omega) (by omega) (by omega)]
   |exit id=>
    refine⟨_,_,q,n0+1,λn m i h1 h2 h3=>?_⟩;obtain⟨i,rfl⟩:∃i',i=i'+1:=⟨i - 1,by omega⟩;simp only[iter,hn n m (by omega) (by omega)]
   |ret=>
    refine⟨_,_,q,n0+1,λn m i h1 h2 h3=>?_⟩;obtain⟨i,rfl⟩:∃i',i=i'+1:=⟨i - 1,by omega⟩;simp only[iter,hn n m (by omega) (by omega)]
 obtain⟨ex,s',q,n0,hn⟩:=key k s h0;exact⟨ex,s',q,n0,λn m h1 h2=>by simp only[bW,hn n m m h1 h2 h2]⟩
theorem Ev.region{id:Nat}{ops:Array Oper}{s:St}{Q:Ex->St->Prop}(h:ah C ops ops.toList s (Q .normal)):Ev C (.region id ops false) s Q:=by
 obtain⟨s',q,n0,hn⟩:=h;exact⟨.normal,s',q,n0,λn m h1 h2=>by simp only[bW,aca,if_false,hn n h1]⟩
theorem ah.nil{ops:Array Oper}{s:St}{Q:St->Prop}(h:Q s):ah C ops [] s Q:=⟨s,h,0,λ_ _=>rfl⟩
theorem ah.step{ops:Array Oper}{o:Oper}{r:List Oper}{s s1:St}{Q:St->Prop}(e:∀run,gf C run ops o s=some s1)(h:ah C ops r s1 Q):ah C ops (o::r) s Q:=by
 obtain⟨s',q,n0,hn⟩:=h;exact⟨s',q,n0,λn h1=>by simp only[dK,e,hn n h1]⟩
theorem ah.call{ops:Array Oper}{o:Oper}{r:List Oper}{s:St}{Q:St->Prop}{c:Call}{x:Operand}{f:FuncId}{dw args:List PV}(hw:bA ops o s.O=some true)(ho:o.op=.call c)(hx:c.callee=.value x)(hf:ev s.O x=.fn f dw)
  (ha:c.args.toList.map (ev s.O)++dw=args) (hc:aj C 2 f args s.h (λv h'=>ah C ops r ⟨cm s.O o.dst v,h'⟩ Q)):ah C ops (o::r) s Q:=by
 obtain⟨v,h',⟨s',q,n1,Cf⟩,n0,hn⟩:=hc;refine⟨s',q,max n0 n1,λn h1=>?_⟩
 have:au C (fF C n) 2 o.op s.O s.h=some (v,h'):=by
  rw[ho];simp only[au,hx,gA,hf,ha];exact hn n (by omega)
 simp only[dK,gf,hw,this,Cf n (by omega)]
theorem ay.body{f:FuncId}{fn:Func}{c:Code}{args:List PV}{h:ab}{Q:PV->ab->Prop}(hf:C.P.funcs[f]?=some fn)(hb:fn.body=some c)
  (e:Ev C c ⟨nw args,h⟩ (λex s=>(ex=.normal\/ex=.ret)/\∃vs,dy C.P s.h s.O fn.results.toList=some vs/\Q (aR vs) s.h)):ay C f args h Q:=by
 obtain⟨ex,s,⟨hex,vs,hr,q⟩,n0,hn⟩:=e;refine⟨_,_,q,n0+1,λn h1=>?_⟩;obtain⟨n,rfl⟩:∃i',n=i'+1:=⟨n - 1,by omega⟩;show pQ C (fF C n) n f args h=_;unfold pQ;rw[hf];simp only[hb,hn n n (by omega) (by omega)];rcases hex with rfl |rfl <;>simp only[hr]
def aI(C:cW)(f:FuncId)(args:List PV)(r:PV):Prop:=∃n0,∀n,n0<=n->∃r0 hc r1,fF C n f args []=some (r0,hc)/\AK hc r0=some r1/\cj r1=r
theorem Vt{h:ab}{p r:PV}(e:rb h p=some r):AK h p=some r:=by unfold AK;rw[e]
theorem aI.ofX{f:FuncId}{args:List PV}{r:PV}(e:ay C f args [] (λr0 hc=>∃r1,AK hc r0=some r1/\cj r1=r)):aI C f args r:=by
 obtain⟨r0,hc,⟨r1,h1,h2⟩,n0,hn⟩:=e;exact⟨n0,λn h=>⟨r0,hc,r1,hn n h,h1,h2⟩⟩
theorem aI.of{f:FuncId}{args:List PV}{r:PV}(e:ay C f args [] (λr0 hc=>∃r1,rb hc r0=some r1/\cj r1=r)):aI C f args r:=by
 obtain⟨r0,hc,⟨r1,h1,h2⟩,n0,hn⟩:=e;exact⟨n0,λn h=>⟨r0,hc,r1,hn n h,Vt h1,h2⟩⟩
theorem aI.pR{f:FuncId}{args:List PV}{r:PV}(a:aI C f args r):∃n,pR C n f args=some r:=by
 obtain⟨n0,hn⟩:=a;obtain⟨r0,hc,r1,h1,h2,h3⟩:=hn n0 (abZ _);exact⟨n0,by unfold Pm.pR;rw[h1];simp[h2,h3]⟩
theorem aj.pure{lv:Nat}{f:FuncId}{args:List PV}{r:PV}{h:ab}{Q:PV->ab->Prop}(hm:C.mode f=.pure)(hv:ao args=true)(a:aI C f (aQ args) r)(q:Q r h):aj C lv f args h Q:=by
 obtain⟨n0,hn⟩:=a;refine⟨r,h,q,n0,λn h1=>?_⟩;obtain⟨r0,hc,r1,e1,e2,e3⟩:=hn n h1;unfold dn;rw[hm];simp only[dx,hv,if_true,e1,e2,e3]
theorem aj.opened{f:FuncId}{args:List PV}{h:ab}{Q:PV->ab->Prop}(hm:C.mode f=.opened)
  (a:ay C f args h (λr h'=>Q r (if dV h.length r&& (h'.take h.length).all (λo=>o.es.all (cN h.length))then h'.take h.length else h'))):aj C 2 f args h Q:=by
 obtain⟨r,h',q,n0,hn⟩:=a;refine⟨r,_,q,n0,λn h1=>?_⟩;unfold dn;rw[hm];simp only[iG,eF,abZ,if_true,hn n h1]
 split <;>rfl
theorem aj.ext{lv:Nat}{f:FuncId}{g:List PV->Option PV}{args:List PV}{r:PV}{h:ab}{Q:PV->ab->Prop}(hm:C.mode f=.ext g)(hv:ao args=true)(a:g (aQ args)=some r)(q:Q r h):aj C lv f args h Q:=by
 refine⟨r,h,q,0,λn h1=>?_⟩;unfold dn;rw[hm];simp only[hv,if_true,a,ab8]
section
variable{ops:Array Oper}{d:Option Nat}{ty:TypeId}{pos:String}{af:Array Edge}{g:Option (Nat×Bool)}{r:List Oper}{O:Nat->PV}{h:ab}{Q:St->Prop}
theorem ah.val{op:Op}{v:PV}{h':ab}(hw:bA ops ⟨d,op,ty,pos,af,g⟩ O=some true)(hc:∀run,au C run 2 op O h=some (v,h'))(k:ah C ops r ⟨cm O d v,h'⟩ Q):ah C ops (⟨d,op,ty,pos,af,g⟩::r) ⟨O,h⟩ Q:=
 ah.step (s1:=⟨cm O d v,h'⟩) (λrun=>by simp only[gf,hw,hc]) k
theorem ah.off{op:Op}(hw:bA ops ⟨d,op,ty,pos,af,g⟩ O=some false)(k:ah C ops r ⟨cm O d .undef,h⟩ Q):ah C ops (⟨d,op,ty,pos,af,g⟩::r) ⟨O,h⟩ Q:=
 ah.step (s1:=⟨cm O d .undef,h⟩) (λrun=>by simp only[gf,hw]) k
def GN:BinOp->Int->Int->Option Prop
 | .eql,a,b=>some (a=b)
 | .neq,a,b=>some (a≠b)
 | .lss,a,b=>some (a<b)
 | .leq,a,b=>some (a<=b)
 | .gtr,a,b=>some (b<a)
 | .geq,a,b=>some (b<=a)
 |_,_,_=>none
theorem ah.cmp{vN:BinOp}{t yt:TypeId}{x y:Operand}{k:IntKind}{a b:Int}{p:Prop}(hw:bA ops ⟨d,.binOp vN t x y yt,ty,pos,af,g⟩ O=some true)(hx:ev O x=.int k a)(hy:ev O y=.int k b)(hp:GN vN a b=some p)
  (k1:p->ah C ops r ⟨cm O d (.bool true),h⟩ Q) (k2:¬p->ah C ops r ⟨cm O d (.bool false),h⟩ Q):ah C ops (⟨d,.binOp vN t x y yt,ty,pos,af,g⟩::r) ⟨O,h⟩ Q:=by
 by_cases ME:p
 ·refine ah.val (v:=.bool true) (h':=h) hw (λrun=>?_) (k1 ME);simp only[au,aC,hx,hy]
  cases vN <;>simp only[GN,acA,reduceCtorEq]at hp <;>subst hp <;>simp[fL,ic,ME]
 ·refine ah.val (v:=.bool false) (h':=h) hw (λrun=>?_) (k2 ME);simp only[au,aC,hx,hy]
  cases vN <;>simp only[GN,acA,reduceCtorEq]at hp <;>subst hp <;>simp[fL,ic,ME] <;>omega
theorem ah.YX{c:Call}{x:Operand}{f:FuncId}{dw args:List PV}(hw:bA ops ⟨d,.call c,ty,pos,af,g⟩ O=some true)(hx:c.callee=.value x)(hf:ev O x=.fn f dw)
  (ha:c.args.toList.map (ev O)++dw=args) (hc:aj C 2 f args h (λv h'=>ah C ops r ⟨cm O d v,h'⟩ Q)):ah C ops (⟨d,.call c,ty,pos,af,g⟩::r) ⟨O,h⟩ Q:=
 ah.call hw rfl hx hf ha hc
end
end Go.Pm
namespace Go.Pm
inductive Kd where
 |str
 |bool
 |int (k:IntKind)
 |sl (e:TypeId)
 |arr (n:Nat) (e:TypeId)
 |st (offs:List (Nat×TypeId))
 |mp (k e:TypeId)
 |other
def pJ:TypeDesc->Kd
 | .string=>.str
 | .bool=>.bool
 | .int k=>.int k
 | .slice e=>.sl e
 | .array n e=>.arr n e
 | .struct fs=>.st (fs.toList.map λf=>(f.offset,f.type))
 | .map k e=>.mp k e
 |_=>.other
structure mD(P:Program) where
 ts:Nat->Option Nat
 ta:Nat->Option Bool
 tz:Nat->Option PV
 tb:Nat->Option Nat
 kd:Nat->Option Kd
 ez:∀t n,ts t=some n->cF P t=some n
 PE:∀t n,ta t=some n->JX P t=some n
 nH:∀t n,tz t=some n->jv P t=some n
 rE:∀t n,tb t=some n->mY P t=some n
 cY:∀t n,kd t=some n->(P.underlying t).map pJ=some n
variable{C:cW}(T:mD C.P)
variable{ops:Array Oper}{d:Nat}{ty:TypeId}{pos:String}{af:Array Edge}{r:List Oper}{O:Nat->PV}{L:List (Nat×PV)}{h:ab}{Q:St->Prop}
theorem m'{P:Program}{t:TypeId}{k:Kd}(e:(P.underlying t).map pJ=some k):∃u,P.underlying t=some u/\pJ u=k:=by
 cases hu:P.underlying t with
 |none=>rw[hu]at e;simp at e
 |some u=>rw[hu]at e;exact⟨u,rfl,abV e⟩
theorem qy{P:Program}{t:TypeId}(e:(P.underlying t).map pJ=some .str):P.underlying t=some .string:=by
 obtain⟨u,h1,h2⟩:=m' e
 cases u <;>simp[pJ]at h2;exact h1
theorem CQ{P:Program}{t:TypeId}(e:(P.underlying t).map pJ=some .bool):P.underlying t=some .bool:=by
 obtain⟨u,h1,h2⟩:=m' e
 cases u <;>simp[pJ]at h2;exact h1
theorem JP{P:Program}{t k el:TypeId}(e:(P.underlying t).map pJ=some (.mp k el)):P.underlying t=some (.map k el):=by
 obtain⟨u,h1,h2⟩:=m' e
 cases u <;>simp[pJ]at h2
 rw[h1,h2.1,h2.2]
theorem bB{P:Program}{t el:TypeId}(e:(P.underlying t).map pJ=some (.sl el)):P.underlying t=some (.slice el):=by
 obtain⟨u,h1,h2⟩:=m' e
 cases u <;>simp[pJ]at h2;subst h2;exact h1
theorem PF{P:Program}{t el:TypeId}{n:Nat}(e:(P.underlying t).map pJ=some (.arr n el)):P.underlying t=some (.array n el):=by
 obtain⟨u,h1,h2⟩:=m' e
 cases u <;>simp[pJ]at h2;obtain⟨rfl,rfl⟩:=h2;exact h1
theorem oP{P:Program}{t:TypeId}{k:IntKind}(e:(P.underlying t).map pJ=some (.int k)):P.underlying t=some (.int k):=by
 obtain⟨u,h1,h2⟩:=m' e
 cases u <;>simp[pJ]at h2;subst h2;exact h1
theorem PG{P:Program}{t:TypeId}{os:List (Nat×TypeId)}(e:(P.underlying t).map pJ=some (.st os)):∃fs,P.underlying t=some (.struct fs)/\fs.toList.map (λf=>(f.offset,f.type))=os:=by
 obtain⟨u,h1,h2⟩:=m' e
 cases u <;>simp[pJ]at h2;exact⟨_,h1,h2⟩
def lk:List (Nat×PV)->Nat->Option PV
 |[],_=>none
 |(k,v)::L,t=>if t=k then some v else lk L t
def cS(L:List (Nat×PV)):Operand->Option PV
 | .tmp t=>lk L t
 | .const (.int k n)=>some (.int k n)
 | .const (.bool b)=>some (.bool b)
 | .const (.string s)=>some (.str s)
 | .const (.slice none 0 0)=>some (.aa true [])
 | .const (.pointer none)=>some .eK
 | .const .nilFunc=>some .aG
 | .const (.map none)=>some .gS
 | .const v=>some (cv v)
 | .func f=>some (.fn f [])
 | .global _=>none
def zw(L:List (Nat×PV)):List Operand->Option (List PV)
 |[]=>some []
 |x::xs=>match cS L x,zw L xs with
  |some v,some vs=>some (v::vs)
  |_,_=>none
theorem dJ{L:List (Nat×PV)}{t:Nat}{v:PV}(e:lk L t=some v)(O:Nat->PV):al L O t=v:=by
 induction L with
 |nil=>cases e
 |cons x L ih=>
  obtain⟨k,u⟩:=x;simp only[lk]at e;simp only[al]
  split at e
  ·rename_i hk;rw[if_pos hk];exact abV e
  ·rename_i hk;rw[if_neg hk];exact ih e
theorem an{L:List (Nat×PV)}{x:Operand}{v:PV}(e:cS L x=some v)(O:Nat->PV):ev (al L O) x=v:=by
 unfold cS at e
 split at e <;>first
  |exact dJ e O
  |(cases e;done)
  |(obtain rfl:=abV e;rfl)
theorem ia{L:List (Nat×PV)}{O:Nat->PV}:∀{xs:List Operand} {vs:List PV},zw L xs=some vs->xs.map (ev (al L O))=vs
 |[],vs,e=>by simp[zw]at e;subst e;rfl
 |x::xs,vs,e=>by
  simp only[zw]at e
  split at e
  ·rename_i v HU h1 h2
   obtain rfl:=abV e;simp[an h1,ia h2]
  cases e
theorem cw(d:Nat)(v:PV)(L:List (Nat×PV))(O:Nat->PV):cm (al L O) (some d) v=al ((d,v)::L) O:=by
 funext t
 simp only[cm,oF,al]
theorem ah.fo{op:Op}{v:PV}{h':ab}(hc:∀run,au C run 2 op (al L O) h=some (v,h'))(k:ah C ops r ⟨al ((d,v)::L) O,h'⟩ Q):ah C ops (⟨some d,op,ty,pos,af,none⟩::r) ⟨al L O,h⟩ Q:=
 ah.val rfl hc (by rw[cw];exact k)
theorem R.xJ{op:Op}{j d':Nat}{want b:Bool}(hd:(ops.toList[j]?).bind (·.dst)=some d')(hb:lk L d'=some (.bool b))(he:(b==want)=true)(k:ah C ops (⟨some d,op,ty,pos,af,none⟩::r) ⟨al L O,h⟩ Q):
  ah C ops (⟨some d,op,ty,pos,af,some (j,want)⟩::r) ⟨al L O,h⟩ Q:=by
 obtain⟨s',q,n0,hn⟩:=k;refine⟨s',q,n0,λn h1=>?_⟩;rw[<-hn n h1];simp only[dK,gf,bA,hd,dJ hb,he]
theorem R.oQ{op:Op}{j d':Nat}{want b:Bool}(hd:(ops.toList[j]?).bind (·.dst)=some d')(hb:lk L d'=some (.bool b))(he:(b==want)=false)(k:ah C ops r ⟨al ((d,.undef)::L) O,h⟩ Q):
  ah C ops (⟨some d,op,ty,pos,af,some (j,want)⟩::r) ⟨al L O,h⟩ Q:=ah.off (by simp only[bA,hd,dJ hb,he]) (by rw[cw];exact k)
theorem R.Uw{op:Op}{j d':Nat}{want:Bool}(hd:(ops.toList[j]?).bind (·.dst)=some d')(hb:lk L d'=some .undef)(k:ah C ops r ⟨al ((d,.undef)::L) O,h⟩ Q):
  ah C ops (⟨some d,op,ty,pos,af,some (j,want)⟩::r) ⟨al L O,h⟩ Q:=ah.off (by simp only[bA,hd,dJ hb]) (by rw[cw];exact k)
theorem R.move{x:Operand}{v:PV}(hx:cS L x=some (v))(k:ah C ops r ⟨al ((d,v)::L) O,h⟩ Q):ah C ops (⟨some d,.move x,ty,pos,af,none⟩::r) ⟨al L O,h⟩ Q:=
 ah.fo (λrun=>by simp only[au,aC,an hx]) k
theorem R.assign{x:Operand}{v:PV}(hx:cS L x=some (v))(k:ah C ops r ⟨al ((d,v)::L) O,h⟩ Q):ah C ops (⟨some d,.assign x,ty,pos,af,none⟩::r) ⟨al L O,h⟩ Q:=
 ah.fo (λrun=>by simp only[au,aC,an hx]) k
theorem R.jg{c x y:Operand}{v:PV}(hc:cS L c=some (.bool true))(hx:cS L x=some (v))(k:ah C ops r ⟨al ((d,v)::L) O,h⟩ Q):ah C ops (⟨some d,.pick c x y,ty,pos,af,none⟩::r) ⟨al L O,h⟩ Q:=
 ah.fo (λrun=>by simp only[au,aC,an hc,an hx,if_true]) k
theorem R.je{c x y:Operand}{v:PV}(hc:cS L c=some (.bool false))(hx:cS L y=some (v))(k:ah C ops r ⟨al ((d,v)::L) O,h⟩ Q):ah C ops (⟨some d,.pick c x y,ty,pos,af,none⟩::r) ⟨al L O,h⟩ Q:=
 ah.fo (λrun=>by simp only[au,aC,an hc,an hx,aca,if_false]) k
inductive Ig(o:aw):ab->ab->Nat->Prop
 |nil:Ig o [] [o] 0
 |cons {x:aw} {l l':ab} {n:Nat}:Ig o l l' n->Ig o (x::l) (x::l') (n+1)
theorem Ig.eq{o:aw}{l l':ab}{n:Nat}(a:Ig o l l' n):l'=l++[o]/\n=l.length:=by
 induction a with
 |nil=>exact⟨rfl,rfl⟩
 |cons _ ih=>obtain⟨rfl,rfl⟩:=ih;exact⟨rfl,rfl⟩
theorem R.box{t:TypeId}{x:Operand}{v:PV}{n id:Nat}{h':ab}(hx:cS L x=some (v))(h1:(cells v).all bM=true)(hl:(cells v).length=n+1)(ha:Ig ⟨.m,0,n+1,[v]⟩ h h' id)(k:ah C ops r ⟨al ((d,(.ptr id 0 0 0))::L) O,h'⟩ Q):
  ah C ops (⟨some d,.box t x,ty,pos,af,none⟩::r) ⟨al L O,h⟩ Q:=by
 obtain⟨rfl,rfl⟩:=ha.eq;exact ah.fo (λrun=>by simp[au,aC,an hx,h1,hl,newObj]) k
theorem R.alloc{t:TypeId}{z:PV}{n id:Nat}{h':ab}(hz:T.tz t=some z)(h1:(cells z).all bM=true)(hl:(cells z).length=n+1)(ha:Ig ⟨.m,0,n+1,[z]⟩ h h' id)(k:ah C ops r ⟨al ((d,(.ptr id 0 0 0))::L) O,h'⟩ Q):
  ah C ops (⟨some d,.alloc t,ty,pos,af,none⟩::r) ⟨al L O,h⟩ Q:=by
 obtain⟨rfl,rfl⟩:=ha.eq;exact ah.fo (λrun=>by simp[au,aC,T.nH _ _ hz,h1,hl,newObj]) k
theorem R.gH{t:TypeId}{x:Operand}{p c:PV}{cs:List PV}{sz:Nat}(hx:cS L x=some (p))(hs:T.ts t=some sz)(ht:T.ta t=some false)(hp:cT h p=some (c::cs))(k:ah C ops r ⟨al ((d,c)::L) O,h⟩ Q):
  ah C ops (⟨some d,.load t x,ty,pos,af,none⟩::r) ⟨al L O,h⟩ Q:=
 ah.fo (λrun=>by simp[au,aC,an hx,ja,T.ez _ _ hs,T.PE _ _ ht,hp]) k
inductive qz:Nat->List PV->List PV->Prop
 |zero {l:List PV}:qz 0 l []
 |succ {n:Nat} {x:PV} {l l':List PV}:qz n l l'->qz (n+1) (x::l) (x::l')
theorem qz.eq{n:Nat}{l l':List PV}(a:qz n l l'):l'=l.take n/\n<=l.length:=by
 induction a with
 |zero=>simp
 |succ _ ih=>obtain⟨rfl,h⟩:=ih;simp;omega
theorem R.pz{t:TypeId}{x:Operand}{p:PV}{cs jN:List PV}{sz:Nat}(hx:cS L x=some (p))(hs:T.ts t=some (sz+1))(ht:T.ta t=some true)(hp:cT h p=some cs)(hc:qz (sz+1) cs jN)(k:ah C ops r ⟨al ((d,(.agg jN))::L) O,h⟩ Q):
  ah C ops (⟨some d,.load t x,ty,pos,af,none⟩::r) ⟨al L O,h⟩ Q:=by
 obtain⟨rfl,hle⟩:=hc.eq;exact ah.fo (λrun=>by simp[au,aC,an hx,ja,T.ez _ _ hs,T.PE _ _ ht,hp,hle]) k
theorem mX{s:TypeId}{f off:Nat}{ft:TypeId}{os:List (Nat×TypeId)}{sz:Nat}(hk:T.kd s=some (.st os))(hf:os[f]?=some (off,ft))(hs:T.ts ft=some (sz+1)):pM C.P s f=some (off,ft):=by
 obtain⟨fs,h1,h2⟩:=PG (T.cY _ _ hk);rw[<-h2,ace]at hf
 cases Xf:fs.toList[f]? with
 |none=>rw[Xf]at hf;cases hf
 |some fl=>
  rw[Xf]at hf;simp at hf;obtain⟨rfl,rfl⟩:=hf;have:fs[f]?=some fl:=by simpa using Xf
  simp[pM,h1,this,T.ez _ _ hs]
theorem R.fieldAddr{s:TypeId}{x:Operand}{f id ep i o off:Nat}{ft:TypeId}{os:List (Nat×TypeId)}{sz:Nat}(hx:cS L x=some (.ptr id ep i o))(hk:T.kd s=some (.st os))(hf:os[f]?=some (off,ft))(hs:T.ts ft=some (sz+1))
  (k:ah C ops r ⟨al ((d,(.ptr id ep i (o+off)))::L) O,h⟩ Q):ah C ops (⟨some d,.fieldAddr s x f,ty,pos,af,none⟩::r) ⟨al L O,h⟩ Q:=
 ah.fo (λrun=>by simp[au,aC,an hx,gD,mX T hk hf hs]) k
theorem R.cmp{vN:BinOp}{t yt:TypeId}{x y:Operand}{k:IntKind}{a b:Int}{p:Prop}(hx:cS L x=some (.int k a))(hy:cS L y=some (.int k b))(hp:GN vN a b=some p)
  (k1:p->ah C ops r ⟨al ((d,(.bool true))::L) O,h⟩ Q) (k2:¬p->ah C ops r ⟨al ((d,(.bool false))::L) O,h⟩ Q):ah C ops (⟨some d,.binOp vN t x y yt,ty,pos,af,none⟩::r) ⟨al L O,h⟩ Q:=ah.cmp rfl (an hx O) (an hy O) hp (λhh=>by rw[cw];exact k1 hh) (λhh=>by rw[cw];exact k2 hh)
def arith:BinOp->Int->Int->Option Int
 | .add,a,b=>some (a+b)
 | .sub,a,b=>some (a - b)
 | .mul,a,b=>some (a * b)
 |_,_,_=>none
theorem R.arith{vN:BinOp}{t yt:TypeId}{x y:Operand}{k:IntKind}{a b c c':Int}(hx:cS L x=some (.int k a))(hy:cS L y=some (.int k b))(hp:Pm.arith vN a b=some c)(hw:k.wrap c=c')(kk:ah C ops r ⟨al ((d,(.int k c'))::L) O,h⟩ Q):
  ah C ops (⟨some d,.binOp vN t x y yt,ty,pos,af,none⟩::r) ⟨al L O,h⟩ Q:=by
 refine ah.fo (λrun=>?_) kk;simp only[au,aC,an hx,an hy]
 cases vN <;>simp only[Pm.arith,acA,reduceCtorEq]at hp <;>subst hp <;>simp[fL,ic,hw]
theorem R.Uy{t yt:TypeId}{x y:Operand}{a b:ByteArray}(hx:cS L x=some (.str a))(hy:cS L y=some (.str b))(k1:a.toList=b.toList->ah C ops r ⟨al ((d,(.bool true))::L) O,h⟩ Q)(k2:a.toList≠b.toList->ah C ops r ⟨al ((d,(.bool false))::L) O,h⟩ Q):
  ah C ops (⟨some d,.binOp .eql t x y yt,ty,pos,af,none⟩::r) ⟨al L O,h⟩ Q:=by
 by_cases hh:a.toList=b.toList
 exact ah.fo (λrun=>by simp[au,aC,an hx,an hy,fL,mG,hh]) (k1 hh);exact ah.fo (λrun=>by simp[au,aC,an hx,an hy,fL,mG,hh]) (k2 hh)
def PH:BinOp->ByteArray->ByteArray->Option Bool
 | .lss,a,b=>some (Op.bytesLess a.toList b.toList)
 | .gtr,a,b=>some (!(Op.bytesLess a.toList b.toList ||a.toList==b.toList))
 | .neq,a,b=>some (!(a.toList==b.toList))
 |_,_,_=>none
theorem R.U7{vN:BinOp}{t yt:TypeId}{x y:Operand}{a b:ByteArray}{p:Bool}(hx:cS L x=some (.str a))(hy:cS L y=some (.str b))(hp:PH vN a b=some p)
  (k1:p=true->ah C ops r ⟨al ((d,.bool true)::L) O,h⟩ Q) (k2:p=false->ah C ops r ⟨al ((d,.bool false)::L) O,h⟩ Q):
  ah C ops (⟨some d,.binOp vN t x y yt,ty,pos,af,none⟩::r) ⟨al L O,h⟩ Q:=by
 have key:∀run,au C run 2 (.binOp vN t x y yt) (al L O) h=some (.bool p,h):=λrun=>by
  simp only[au,aC,an hx,an hy]
  cases vN <;>simp only[PH,acA,reduceCtorEq]at hp <;>subst hp <;>simp[fL,mG]
 cases p with
 |false=>exact ah.fo key (k2 rfl)
 |true=>exact ah.fo key (k1 rfl)
theorem R.not{t:TypeId}{x:Operand}{b b':Bool}(hx:cS L x=some (.bool b))(hb:(!b)=b')(k:ah C ops r ⟨al ((d,(.bool b'))::L) O,h⟩ Q):ah C ops (⟨some d,.unOp .not t x,ty,pos,af,none⟩::r) ⟨al L O,h⟩ Q:=
 ah.fo (λrun=>by simp[au,aC,an hx,TK,hb]) k
theorem R.nilCheck{x:Operand}{id ep i o:Nat}(hx:cS L x=some (.ptr id ep i o))(k:ah C ops r ⟨al ((d,(.ptr id ep i o))::L) O,h⟩ Q):ah C ops (⟨some d,.nilCheck x,ty,pos,af,none⟩::r) ⟨al L O,h⟩ Q:=
 ah.fo (λrun=>by simp[au,aC,an hx]) k
theorem R.extract{x:Operand}{i:Nat}{vs:List PV}{v:PV}(hx:cS L x=some (.cA vs))(hv:vs[i]?=some v)(k:ah C ops r ⟨al ((d,v)::L) O,h⟩ Q):ah C ops (⟨some d,.extract x i,ty,pos,af,none⟩::r) ⟨al L O,h⟩ Q:=
 ah.fo (λrun=>by simp[au,aC,an hx,hv]) k
theorem R.iq{t el:TypeId}{x ix:Operand}{full:Bool}{es:List PV}{k:IntKind}{i:Nat}{v:PV}{cs:List PV}{sz:Nat}(hx:cS L x=some (.aa full es))(hi:cS L ix=some (.int k (i:Int)))(hk:T.kd t=some (.sl el))(hs:T.ts el=some (sz+1))
  (hv:es[i]?=some v) (hc:cells v=cs) (hl:cs.length=sz+1) (kk:ah C ops r ⟨al ((d,(.eW cs))::L) O,h⟩ Q):ah C ops (⟨some d,.indexAddr t x ix,ty,pos,af,none⟩::r) ⟨al L O,h⟩ Q:=by
 have cM:i<es.length:=by
  rcases acE i es.length with h |h;exact h;rw[ach h]at hv;cases hv
 subst hc;have xR:es[i]=v:=by rw[ab1 cM]at hv;exact abV hv
 exact ah.fo (λrun=>by simp[au,aC,an hx,an hi,cJ,bB (T.cY _ _ hk),T.ez _ _ hs,cM,xR,hl]) kk
theorem R.rY{t el:TypeId}{x ix:Operand}{id ep off len:Nat}{k:IntKind}{i:Nat}{o:aw}(hx:cS L x=some (.ak id ep off len))(hi:cS L ix=some (.int k (i:Int)))(hk:T.kd t=some (.sl el))(ho:getM h id ep=some o)(hs:T.ts el=some o.bQ)(cM:i<len)(hle:off+len<=o.es.length)
  (kk:ah C ops r ⟨al ((d,(.ptr id ep (off+i) 0))::L) O,h⟩ Q):ah C ops (⟨some d,.indexAddr t x ix,ty,pos,af,none⟩::r) ⟨al L O,h⟩ Q:=
 ah.fo (λrun=>by simp[au,aC,an hx,an hi,cJ,bB (T.cY _ _ hk),T.ez _ _ hs,ho,cM,hle]) kk
theorem R.y9{t:TypeId}{ts:List TypeId}{x:Operand}{xs:List Operand}{s:ByteArray}(hx:cS L x=some (.str s))(hk:T.kd t=some .str)(k:ah C ops r ⟨al ((d,(.int .i64 s.size))::L) O,h⟩ Q):
  ah C ops (⟨some d,.call ⟨.builtin .len,(x::xs).toArray,(t::ts).toArray⟩,ty,pos,af,none⟩::r) ⟨al L O,h⟩ Q:=
 ah.fo (λrun=>by simp[au,an hx,bt,pO,qy (T.cY _ _ hk)]) k
theorem R.rX{t el:TypeId}{ts:List TypeId}{x:Operand}{xs:List Operand}{full:Bool}{es:List PV}(hx:cS L x=some (.aa full es))(hk:T.kd t=some (.sl el))(k:ah C ops r ⟨al ((d,(.int .i64 es.length))::L) O,h⟩ Q):
  ah C ops (⟨some d,.call ⟨.builtin .len,(x::xs).toArray,(t::ts).toArray⟩,ty,pos,af,none⟩::r) ⟨al L O,h⟩ Q:=
 ah.fo (λrun=>by simp[au,an hx,bt,pO,bB (T.cY _ _ hk)]) k
theorem R.Ag{t el:TypeId}{ts:List TypeId}{x:Operand}{xs:List Operand}{id ep off len:Nat}{o:aw}(hx:cS L x=some (.ak id ep off len))(hk:T.kd t=some (.sl el))(ho:getM h id ep=some o)(hle:off+len<=o.es.length)(k:ah C ops r ⟨al ((d,(.int .i64 len))::L) O,h⟩ Q):
  ah C ops (⟨some d,.call ⟨.builtin .len,(x::xs).toArray,(t::ts).toArray⟩,ty,pos,af,none⟩::r) ⟨al L O,h⟩ Q:=
 ah.fo (λrun=>by simp[au,an hx,bt,pO,bB (T.cY _ _ hk),ho,hle]) k
theorem R.call{x:Operand}{xs:List Operand}{Bu:Array TypeId}{f:FuncId}{dw args:List PV}(hf:cS L x=some (.fn f dw))(ha:zw L xs=some args)
  (hc:aj C 2 f (args++dw) h (λv h'=>ah C ops r ⟨al ((d,v)::L) O,h'⟩ Q)):ah C ops (⟨some d,.call ⟨.value x,xs.toArray,Bu⟩,ty,pos,af,none⟩::r) ⟨al L O,h⟩ Q:=
 ah.YX (args:=args++dw) rfl rfl (an hf O) (by simp[ia ha]) (by simpa only[cw]using hc)
theorem Ev.fR{c:Operand}{a b:Code}{Q:Ex->St->Prop}{t:Bool}(hc:cS L c=some (.bool t))(k:Ev C (bif t then a else b) ⟨al L O,h⟩ Q):Ev C (.cond c a b) ⟨al L O,h⟩ Q:=by
 cases t
 exact Ev.Ub (an hc O) k;exact Ev.Ua (an hc O) k
theorem mK{n:Int}(h1: -9223372036854775808<=n)(h2:n<=9223372036854775807):IntKind.i64.wrap n=n:=by
 rw[IntKind.wrap_i64];omega
def C6:Nat->List PV->List (Nat×PV)
 |_,[]=>[]
 |n,a::xs=>(n,a)::C6 (n+1) xs
theorem iK(args:List PV):nw args=al (C6 0 args) (λ_=>.undef):=by
 have key:∀(xs:List PV) (n t:Nat),al (C6 n xs) (λ_=>PV.undef) t=if n<=t then xs.getD (t - n) .undef else .undef:=by
  intro xs
  induction xs with
  |nil=>intro n t;simp[C6,al]
  |cons a xs ih=>
   intro n t
   simp only[C6,al,ih]
   by_cases h:t=n
   subst h;simp
   ·rw[if_neg h]
    by_cases h2:n<=t
    rw[if_pos h2,if_pos (by omega),show t - n=(t - (n+1))+1 by omega,ad8];rw[if_neg h2,if_neg (by omega)]
 funext t
 rw[key];simp[nw]
def aJ(C:cW)(fn:Func)(Q:PV->ab->Prop)(ex:Ex)(s:St):Prop:=(ex=.normal\/ex=.ret)/\∃vs,dy C.P s.h s.O fn.results.toList=some vs/\Q (aR vs) s.h
theorem ay.dM{f:FuncId}{fn:Func}{c:Code}{args:List PV}{h:ab}{Q:PV->ab->Prop}(hf:C.P.funcs[f]?=some fn)(hb:fn.body=some c)
  (e:Ev C c ⟨al (C6 0 args) (λ_=>.undef),h⟩ (aJ C fn Q)):ay C f args h Q:=ay.body hf hb (by rw[iK];exact e)
def LW(L:List (Nat×PV)):List ResultVar->Option (List PV)
 |[]=>some []
 | .tmp t::r=>match lk L t,LW L r with
  |some v,some vs=>some (v::vs)
  |_,_=>none
 |_=>none
theorem eL{P:Program}{L:List (Nat×PV)}{h:ab}{O:Nat->PV}:∀{l:List ResultVar} {vs:List PV},LW L l=some vs->dy P h (al L O) l=some vs
 |[],vs,e=>by simp[LW]at e;subst e;rfl
 | .tmp t::r,vs,e=>by
  simp only[LW]at e
  split at e
  ·rename_i v HU h1 h2
   obtain rfl:=abV e;simp[dy,dJ h1,eL h2]
  cases e
 | .cell _ _::r,vs,e=>by simp[LW]at e
theorem aJ.ret{fn:Func}{Q:PV->ab->Prop}{vs:List PV}(hr:LW L fn.results.toList=some vs)(q:Q (aR vs) h):aJ C fn Q .ret ⟨al L O,h⟩:=⟨.inr rfl,vs,eL hr,q⟩
theorem aD.normal{b:Code}{Q:Ex->St->Prop}{s:St}(k:Ev C b s Q):aD C b Q .normal s:=k
theorem aD.ret{b:Code}{Q:Ex->St->Prop}{s:St}(k:Q .ret s):aD C b Q .ret s:=k
theorem aD.exit{b:Code}{Q:Ex->St->Prop}{s:St}{id:Nat}(k:Q (.exit id) s):aD C b Q (.exit id) s:=k
theorem az.normal{id:Nat}{Q:Ex->St->Prop}{s:St}(k:Q .normal s):az id Q .normal s:=k
theorem az.ret{id:Nat}{Q:Ex->St->Prop}{s:St}(k:Q .ret s):az id Q .ret s:=k
theorem az.IJ{id:Nat}{Q:Ex->St->Prop}{s:St}(k:Q .normal s):az id Q (.exit id) s:=by simp only[az,if_true];exact k
theorem az.Ot{id eH:Nat}{Q:Ex->St->Prop}{s:St}(h:(eH==id)=false)(k:Q (.exit eH) s):az id Q (.exit eH) s:=by
 have:¬eH=id:=by simpa using h
 simp only[az,if_neg this];exact k
theorem aL.normal{I:St->Prop}{Q:Ex->St->Prop}{s:St}(k:I s):aL I Q .normal s:=k
theorem aL.ret{I:St->Prop}{Q:Ex->St->Prop}{s:St}(k:Q .ret s):aL I Q .ret s:=k
theorem aL.exit{I:St->Prop}{Q:Ex->St->Prop}{s:St}{id:Nat}(k:Q (.exit id) s):aL I Q (.exit id) s:=k
def Te(L:List (Nat×PV)):List (Nat×PV)->Prop
 |[]=>True
 |(k,v)::r=>lk L k=some v/\Te L r
theorem FC{L:List (Nat×PV)}:∀{L':List (Nat×PV)},Te L L'->∀x∈L',lk L x.1=some x.2
 |[],_,x,hx=>by cases hx
 |(k,v)::r,h,x,hx=>by
  rcases ab5.1 hx with rfl |hx;exact h.1;exact FC h.2 x hx
theorem St.aT{L L':List (Nat×PV)}{O:Nat->PV}{h:ab}(hh:Te L L'):(⟨al L O,h⟩:St)=⟨al L' (al L O),h⟩:=by
 rw[NT (al L O) L' (λx hx=>dJ (FC hh x hx) O)]
theorem R.PI{t:TypeId}{z:PV}{n:Nat}(hz:T.tz t=some z)(h1:(cells z).all bM=true)(hl:(cells z).length=n+1)(k:ah C ops r ⟨al ((d,(.ptr h.length 0 0 0))::L) O,h++[⟨.m,0,n+1,[z]⟩]⟩ Q):
  ah C ops (⟨some d,.alloc t,ty,pos,af,none⟩::r) ⟨al L O,h⟩ Q:=
 ah.fo (λrun=>by simp[au,aC,T.nH _ _ hz,h1,hl,newObj]) k
theorem R.abm{t:TypeId}{x:Operand}{v:PV}{n:Nat}(hx:cS L x=some v)(h1:(cells v).all bM=true)(hl:(cells v).length=n+1)(k:ah C ops r ⟨al ((d,(.ptr h.length 0 0 0))::L) O,h++[⟨.m,0,n+1,[v]⟩]⟩ Q):
  ah C ops (⟨some d,.box t x,ty,pos,af,none⟩::r) ⟨al L O,h⟩ Q:=
 ah.fo (λrun=>by simp[au,aC,an hx,h1,hl,newObj]) k
theorem lW{h:ab}{n:Nat}{es:List PV}:getM (h++[⟨.m,0,n,es⟩]) h.length 0=some ⟨.m,0,n,es⟩:=by simp[getM]
theorem R.PJ{t:TypeId}{a x:Operand}{e v:PV}{n:Nat}(ha:cS L a=some (.ptr h.length 0 0 0))(hx:cS L x=some v)(hs:T.ts t=some n)(hl:(cells v).length=n)(h1:(cells v).all bM=true)(he:(cells e).length=n)
  (k:ah C ops r ⟨al L O,h++[⟨.m,0,n,[v]⟩]⟩ Q):ah C ops (⟨none,.store t a x,ty,pos,af,none⟩::r) ⟨al L O,h++[⟨.m,0,n,[e]⟩]⟩ Q:=by
 have k':ah C ops r ⟨cm (al L O) none .undef,h++[(⟨.m,0,n,[v]⟩:aw)]⟩ Q:=k;refine ah.val (v:=.undef) (h':=h++[(⟨.m,0,n,[v]⟩:aw)]) rfl (λrun=>?_) k';have hr:fE 0 n e v=v:=by unfold fE;rw[if_pos ⟨rfl,he.symm⟩]
 simp[au,aC,an ha,an hx,im,T.ez _ _ hs,lW,hl,he,hr];simpa using h1
theorem pcN{h:ab}{n:Nat}{e:PV}:cT (h++[⟨.m,0,n,[e]⟩]) (.ptr h.length 0 0 0)=some (cells e):=by simp[cT,lW]
theorem abn{h:ab}{n off:Nat}{e:PV}:cT (h++[⟨.m,0,n,[e]⟩]) (.ptr h.length 0 0 off)=some ((cells e).drop off):=by simp[cT,lW]
theorem R.C7{t:TypeId}{x:Operand}{e:PV}{jN:List PV}{n sz:Nat}(hx:cS L x=some (.ptr h.length 0 0 0))(hs:T.ts t=some (sz+1))(ht:T.ta t=some true)(hc:qz (sz+1) (cells e) jN)
  (k:ah C ops r ⟨al ((d,(.agg jN))::L) O,h++[⟨.m,0,n,[e]⟩]⟩ Q):ah C ops (⟨some d,.load t x,ty,pos,af,none⟩::r) ⟨al L O,h++[⟨.m,0,n,[e]⟩]⟩ Q:=
 R.pz T hx hs ht pcN hc k
end Go.Pm
namespace Go.Pm
def iO(r r':iR):Prop:=∀f args h x,r f args h=some x->r' f args h=some x
variable{C:cW}{run run':iR}
theorem np(L:iO run run'){lv:Nat}{f:FuncId}{args:List PV}{h:ab}{x:PV×ab}(e:dx run lv f args h=some x):dx run' lv f args h=some x:=by
 unfold dx at e ⊢
 split at e
 ·rename_i hv
  rw[if_pos hv]
  cases hr:run f (aQ args) []with
  |none=>rw[hr]at e;cases e
  |some y=>rw[hr]at e;rw[L _ _ _ _ hr];exact e
 ·rename_i hv
  rw[if_neg hv]
  cases ha:gC h args with
  |none=>
   rw[ha]at e;simp only at e ⊢
   cases hd:gE (qK 8 h) args with
   |none=>rw[hd]at e;cases e
   |some a=>
    rw[hd]at e;simp only at e ⊢
    cases hr:run f (aQ a) []with
    |none=>rw[hr]at e;cases e
    |some y=>rw[hr]at e;rw[L _ _ _ _ hr];exact e
  |some a=>
   rw[ha]at e;simp only at e ⊢
   cases hr:run f (aQ a) []with
   |none=>rw[hr]at e;cases e
   |some y=>rw[hr]at e;rw[L _ _ _ _ hr];exact e
theorem kz{g g':List PV->ab->Option (PV×ab)}(L:∀a h x,g a h=some x->g' a h=some x){lv:Nat}{args:List PV}{h:ab}{x:PV×ab}(e:eF g lv args h=some x):eF g' lv args h=some x:=by
 unfold eF at e ⊢
 split at e
 ·rename_i h2;rw[if_pos h2];exact L _ _ _ e
 ·rename_i h2
  rw[if_neg h2]
  split at e
  ·rename_i h1
   rw[if_pos h1]
   cases hr:g args (h.map bY)with
   |none=>rw[hr]at e;cases e
   |some y=>rw[hr]at e;rw[L _ _ _ hr];exact e
  cases e
theorem nq(L:iO run run'){lv:Nat}{f:FuncId}{args:List PV}{h:ab}{x:PV×ab}(e:iG run lv f args h=some x):iG run' lv f args h=some x:=by
 unfold iG at e ⊢
 cases hr:eF (run f) lv args h with
 |none=>rw[hr]at e;cases e
 |some y=>rw[hr]at e;rw[kz (λa h x=>L f a h x) hr];exact e
theorem yX(L:iO run run'){lv:Nat}{f:FuncId}{args:List PV}{h:ab}{x:PV×ab}(e:dn C run lv f args h=some x):dn C run' lv f args h=some x:=by
 unfold dn at e ⊢
 cases hm:C.mode f <;>simp only[hm]at e ⊢
 cases e
 exact np L e;exact nq L e;exact e;exact kz (λ_ _ _ x=>x) e;exact e
theorem kg(L:iO run run'){lv:Nat}{op:Op}{O:Nat->PV}{h:ab}{x:PV×ab}(e:au C run lv op O h=some x):au C run' lv op O h=some x:=by
 unfold au at e ⊢
 split at e
 ·split at e
  ·unfold gA at e ⊢
   split at e
   exact yX L e;exact yX L e
   cases e
  exact e
  cases e
 exact e
theorem E6(L:iO run run'){ops:Array Oper}{o:Oper}{s s':St}(e:gf C run ops o s=some s'):gf C run' ops o s=some s':=by
 unfold gf at e ⊢
 split at e
 ·cases hr:au C run 2 o.op s.O s.h with
  |none=>rw[hr]at e;cases e
  |some y=>rw[hr]at e;rw[kg L hr];exact e
 exact e
 cases e
theorem tP(L:iO run run'){ops:Array Oper}:∀{l:List Oper} {s s':St},dK C run ops l s=some s'->dK C run' ops l s=some s'
 |[],s,s',e=>e
 |o::l,s,s',e=>by
  simp only[dK]at e ⊢
  cases hr:gf C run ops o s with
  |none=>rw[hr]at e;cases e
  |some y=>
   rw[hr]at e;rw[E6 L hr];exact tP L e
theorem CS(L:iO run run'){ops:Array Oper}{b:List Nat}{i:Nat}{o:Oper}{s s':xc}(e:cD C run ops b i o s=some s'):cD C run' ops b i o s=some s':=by
 unfold cD at e ⊢
 split at e
 ·split at e
  ·rename_i hh
   rw[if_pos hh]
   cases hr:au C run 1 o.op s.s.O s.s.h with
   |none=>rw[hr]at e;cases e
   |some y=>rw[hr]at e;rw[kg L hr];exact e
  ·rename_i hh
   rw[if_neg hh]
   split at e
   ·rename_i hl
    rw[if_pos hl]
    cases hr:au C run 2 o.op s.s.O s.s.h with
    |none=>rw[hr]at e;cases e
    |some y=>rw[hr]at e;rw[kg L hr];exact e
   ·rename_i hl
    rw[if_neg hl];simp only at e ⊢
    split at e
    ·rename_i hc
     rw[if_pos hc]
     cases hr:au C run 1 o.op s.s.O (cI (b.getD i 0).testBit s.L0 s.own s.s.h)with
     |none=>rw[hr]at e;cases e
     |some y=>rw[hr]at e;rw[kg L hr];exact e
    cases e
 exact e
 cases e
theorem rM(L:iO run run'){ops:Array Oper}{b:List Nat}:∀{l:List Oper} {i:Nat} {s s':xc},dL C run ops b i l s=some s'->dL C run' ops b i l s=some s'
 |[],i,s,s',e=>e
 |o::l,i,s,s',e=>by
  simp only[dL]at e ⊢
  cases hr:cD C run ops b i o s with
  |none=>rw[hr]at e;cases e
  |some y=>
   rw[hr]at e;rw[CS L hr];exact rM L e
theorem CT(L:iO run run'){ops:Array Oper}{b:List Nat}{h0:ab}{i:Nat}{o:Oper}{s s':St}(e:da C run ops b h0 i o s=some s'):da C run' ops b h0 i o s=some s':=by
 unfold da at e ⊢
 split at e
 ·split at e
  ·rename_i hh
   rw[if_pos hh]
   cases hr:au C run 1 o.op s.O s.h with
   |none=>rw[hr]at e;cases e
   |some y=>rw[hr]at e;rw[kg L hr];exact e
  ·rename_i hh
   rw[if_neg hh]
   split at e
   ·rename_i hl
    rw[if_pos hl];exact e
   ·rename_i hl
    rw[if_neg hl]
    cases hs:(if jT o.op then aC C.P 1 o.op s.O s.h else none)with
    |some y=>rw[hs]at e;exact e
    |none=>
     rw[hs]at e;simp only at e ⊢
     split at e
     ·rename_i hk
      rw[if_pos hk]
      cases hr:au C run 2 o.op s.O s.h with
      |none=>rw[hr]at e;cases e
      |some y=>rw[hr]at e;rw[kg L hr];exact e
     cases e
 exact e
 cases e
theorem rN(L:iO run run'){ops:Array Oper}{b:List Nat}{h0:ab}:∀{l:List Oper} {i:Nat} {s s':St},cx C run ops b h0 i l s=some s'->cx C run' ops b h0 i l s=some s'
 |[],i,s,s',e=>e
 |o::l,i,s,s',e=>by
  simp only[cx]at e ⊢
  cases hr:da C run ops b h0 i o s with
  |none=>rw[hr]at e;cases e
  |some y=>
   rw[hr]at e;rw[CT L hr];exact rN L e
theorem HK(L:iO run run'){ops:Array Oper}{s s':St}(e:jy C run ops s=some s'):jy C run' ops s=some s':=by
 unfold jy at e ⊢
 cases hr:cx C run ops (before ops) (cK (gT ops (before ops) s.O) s.h) 0 ops.toList ⟨s.O,cK (gT ops (before ops) s.O) s.h⟩with
 |none=>rw[hr]at e;cases e
 |some y=>rw[hr]at e;rw[rN L hr];exact e
theorem qM{f f':St->Option (Ex×St)}(L:∀s x,f s=some x->f' s=some x):∀{n m:Nat} {s:St} {x:Ex×St},n<=m->iter f n s=some x->iter f' m s=some x
 |0,m,s,x,_,e=>by simp[iter]at e
 |n+1,m,s,x,hm,e=>by
  obtain⟨m,rfl⟩:∃k,m=k+1:=⟨m - 1,by omega⟩;simp only[iter]at e ⊢
  cases hr:f s with
  |none=>rw[hr]at e;cases e
  |some y=>
   rw[hr]at e;rw[L _ _ hr];obtain⟨ex,s'⟩:=y
   cases ex with
   |normal=>exact qM L (by omega) e
   |exit id=>exact e
   |ret=>exact e
theorem xX(L:iO run run'){n m:Nat}(NE:n<=m):∀(c:Code) {s:St} {x:Ex×St},bW C run n c s=some x->bW C run' m c s=some x:=by
 intro c
 induction c with
 |region id ops draw=>
  intro s x e
  simp only[bW]at e ⊢
  cases draw with
  |false=>
   simp only[aca,if_false]at e ⊢
   cases hr:dK C run ops ops.toList s with
   |none=>rw[hr]at e;cases e
   |some y=>rw[hr]at e;rw[tP L hr];exact e
  |true=>
   simp only[if_true]at e ⊢
   by_cases hk:sL ops=true
   ·simp only[hk,if_true]at e ⊢
    cases hr:jy C run ops s with
    |none=>rw[hr]at e;cases e
    |some y=>rw[hr]at e;rw[HK L hr];exact e
   ·simp only[hk]at e ⊢
    cases hr:dL C run ops (before ops) 0 ops.toList ⟨s,s.h.length,[]⟩with
    |none=>rw[hr]at e;simp at e
    |some y=>rw[hr]at e;rw[rM L hr];exact e
 |seq a b iha ihb=>
  intro s x e
  simp only[bW]at e ⊢
  cases hr:bW C run n a s with
  |none=>rw[hr]at e;cases e
  |some y=>
   rw[hr]at e;rw[iha hr];obtain⟨ex,s'⟩:=y
   cases ex with
   |normal=>exact ihb e
   |exit id=>exact e
   |ret=>exact e
 |cond c a b iha ihb=>
  intro s x e
  simp only[bW]at e ⊢
  split at e
  exact iha e;exact ihb e
  cases e
 |block id c ih=>
  intro s x e
  simp only[bW]at e ⊢
  cases hr:bW C run n c s with
  |none=>rw[hr]at e;cases e
  |some y=>rw[hr]at e;rw[ih hr];exact e
 |loop c ih=>
  intro s x e
  simp only[bW]at e ⊢;exact qM (λs x=>ih) NE e
 |scope c ih=>
  intro s x e
  simp only[bW]at e ⊢;exact ih e
 |_=>
  intro s x e
  first
   |exact e
   |(simp[bW]at e;done)
   |(simp only[bW]at e ⊢;exact e)
theorem HN(L:iO run run'){n m:Nat}(NE:n<=m):iO (pQ C run n) (pQ C run' m):=by
 intro f args h x e
 unfold pQ at e ⊢
 cases hf:C.P.funcs[f]? with
 |none=>rw[hf]at e;cases e
 |some fn=>
  rw[hf]at e;simp only at e ⊢
  cases hb:fn.body with
  |none=>rw[hb]at e;cases e
  |some c=>
   rw[hb]at e;simp only at e ⊢
   cases hr:bW C run n c ⟨nw args,h⟩with
   |none=>rw[hr]at e;cases e
   |some y=>rw[hr]at e;rw[xX L NE c hr];exact e
theorem BG(C:cW):∀n,iO (fF C n) (fF C (n+1))
 |0=>λf args h x e=>by cases e
 |n+1=>HN (BG C n) (adV n)
theorem Bx(C:cW){n m:Nat}(h:n<=m):iO (fF C n) (fF C m):=by
 induction h with
 |refl=>exact λf args h x e=>e
 |step _ ih=>exact λf args h x e=>BG C _ f args h x (ih f args h x e)
theorem aI.iS{f:FuncId}{args:List PV}{r:PV}{n:Nat}(e:Pm.pR C n f args=some r):aI C f args r:=by
 unfold Pm.pR at e
 cases hr:fF C n f args []with
 |none=>rw[hr]at e;cases e
 |some y=>
  obtain⟨r0,hc⟩:=y;rw[hr]at e
  cases h2:AK hc r0 with
  |none=>simp[h2]at e
  |some r1=>
   simp[h2]at e;exact⟨n,λm hm=>⟨r0,hc,r1,Bx C hm f args [] _ hr,h2,e⟩⟩
end Go.Pm
namespace Go.Pm
def bg(C:cW)(ops:Array Oper)(i:Nat)(l:List Oper)(x:xc)(Q:St->Prop):Prop:=
 ∃y:xc,Q y.s/\∃n0,∀n,n0<=n->dL C (fF C n) ops (before ops) i l x=some y
variable{C:cW}(T:mD C.P)
variable{ops:Array Oper}{i:Nat}{d:Nat}{ty:TypeId}{pos:String}{af:Array Edge}{r:List Oper}{O:Nat->PV}{L:List (Nat×PV)}{h:ab}{L0:Nat}{own:List Nat}{Q:St->Prop}
theorem Ev.mL{id:Nat}{Q:Ex->St->Prop}(k:bg C ops 0 ops.toList ⟨⟨al L O,h⟩,h.length,[]⟩ (Q .normal))(hk:sL ops=false:=by rfl):Ev C (.region id ops true) ⟨al L O,h⟩ Q:=by
 obtain⟨y,q,n0,hn⟩:=k;exact⟨.normal,y.s,q,n0,λn m h1 h2=>by simp only[bW,if_true,hk,aca,if_false,hn n h1,ab8]⟩
theorem bg.nil{s:St}(k:Q s):bg C ops i [] ⟨s,L0,own⟩ Q:=⟨⟨s,L0,own⟩,k,0,λ_ _=>rfl⟩
theorem bg.step{o:Oper}{x x1:xc}(e:∃n0,∀n,n0<=n->cD C (fF C n) ops (before ops) i o x=some x1)(k:bg C ops (i+1) r x1 Q):bg C ops i (o::r) x Q:=by
 obtain⟨n1,Cf⟩:=e;obtain⟨y,q,n0,hn⟩:=k;exact⟨y,q,max n0 n1,λn h1=>by simp only[dL,Cf n (by omega),hn n (by omega)]⟩
theorem bg.plain{op:Op}{v:PV}{h':ab}(hh:di op=false)(hc:∀run,au C run 1 op (al L O) h=some (v,h'))(k:bg C ops (i+1) r ⟨⟨al ((d,v)::L) O,h⟩,L0,own⟩ Q):
  bg C ops i (⟨some d,op,ty,pos,af,none⟩::r) ⟨⟨al L O,h⟩,L0,own⟩ Q:=by
 refine bg.step ⟨0,λn _=>?_⟩ k;simp only[cD,bA,hh,if_true,hc,cw]
theorem bg.two{op:Op}{v:PV}{h':ab}(hh:di op=true)(hl:level ops (before ops) i=2)(hc:∃n0,∀n,n0<=n->au C (fF C n) 2 op (al L O) h=some (v,h'))(k:bg C ops (i+1) r ⟨⟨al ((d,v)::L) O,h'⟩,h'.length,[]⟩ Q):
  bg C ops i (⟨some d,op,ty,pos,af,none⟩::r) ⟨⟨al L O,h⟩,L0,own⟩ Q:=by
 obtain⟨n0,hn⟩:=hc;refine bg.step ⟨n0,λn h1=>?_⟩ k;simp only[cD,bA,hh,acH,if_false,hl,if_true,hn n h1,cw]
theorem bg.one{op:Op}{v:PV}(hh:di op=true)(hl:level ops (before ops) i≠2)(ee:aV h=true)(kV:(op.operands.toList.all λy=>bu (aO h) (ev (al L O) y))=true)
  (hc:∃n0,∀n,n0<=n->au C (fF C n) 1 op (al L O) h=some (v,h)) (k:bg C ops (i+1) r ⟨⟨al ((d,v)::L) O,h⟩,h.length,[]⟩ Q):
  bg C ops i (⟨some d,op,ty,pos,af,none⟩::r) ⟨⟨al L O,h⟩,h.length,[]⟩ Q:=by
 obtain⟨n0,hn⟩:=hc;refine bg.step ⟨n0,λn h1=>?_⟩ k;have hM:cI ((before ops).getD i 0).testBit h.length [] h=h:=by simp[cI]
 simp only[cD,bA,hh,acH,if_false,hl,hM,ee,kV,and_self,if_true,hn n h1,cw];simp
theorem fX(f:Nat->Bool)(cs:List PV):bG f cs=cs.all (bu f):=by
 induction cs with
 |nil=>rfl
 |cons c r ih=>simp[bG,ih]
theorem bg.read{op:Op}{v:PV}(hh:di op=true)(ee:aV h=true)(kV:(op.operands.toList.all λy=>bu (aO h) (ev (al L O) y))=true)
  (hc:∃n0,∀n lv,n0<=n->1<=lv->au C (fF C n) lv op (al L O) h=some (v,h)) (k:bg C ops (i+1) r ⟨⟨al ((d,v)::L) O,h⟩,h.length,[]⟩ Q):
  bg C ops i (⟨some d,op,ty,pos,af,none⟩::r) ⟨⟨al L O,h⟩,h.length,[]⟩ Q:=by
 obtain⟨n0,hn⟩:=hc
 by_cases hl:level ops (before ops) i=2
 exact bg.two hh hl ⟨n0,λn h1=>hn n 2 h1 (by omega)⟩ k;exact bg.one hh hl ee kV ⟨n0,λn h1=>hn n 1 h1 (abZ _)⟩ k
theorem D.move{x:Operand}{v:PV}(hx:cS L x=some v)(k:bg C ops (i+1) r ⟨⟨al ((d,v)::L) O,h⟩,L0,own⟩ Q):bg C ops i (⟨some d,.move x,ty,pos,af,none⟩::r) ⟨⟨al L O,h⟩,L0,own⟩ Q:=
 bg.plain (h':=h) rfl (λrun=>by simp only[au,aC,an hx]) k
theorem D.assign{x:Operand}{v:PV}(hx:cS L x=some v)(k:bg C ops (i+1) r ⟨⟨al ((d,v)::L) O,h⟩,L0,own⟩ Q):bg C ops i (⟨some d,.assign x,ty,pos,af,none⟩::r) ⟨⟨al L O,h⟩,L0,own⟩ Q:=
 bg.plain (h':=h) rfl (λrun=>by simp only[au,aC,an hx]) k
theorem D.fieldAddr{s:TypeId}{x:Operand}{f id ep j o off:Nat}{ft:TypeId}{os:List (Nat×TypeId)}{sz:Nat}(hx:cS L x=some (.ptr id ep j o))(hk:T.kd s=some (.st os))(hf:os[f]?=some (off,ft))(hs:T.ts ft=some (sz+1))
  (k:bg C ops (i+1) r ⟨⟨al ((d,.ptr id ep j (o+off))::L) O,h⟩,L0,own⟩ Q):bg C ops i (⟨some d,.fieldAddr s x f,ty,pos,af,none⟩::r) ⟨⟨al L O,h⟩,L0,own⟩ Q:=
 bg.plain (h':=h) rfl (λrun=>by simp[au,aC,an hx,gD,mX T hk hf hs]) k
theorem D.gH{t:TypeId}{x:Operand}{p c:PV}{cs:List PV}{sz:Nat}(ee:aV h=true)(hx:cS L x=some p)(hv:bu (aO h) p=true)(hs:T.ts t=some sz)(ht:T.ta t=some false)(hp:cT h p=some (c::cs))
  (k:bg C ops (i+1) r ⟨⟨al ((d,c)::L) O,h⟩,h.length,[]⟩ Q):bg C ops i (⟨some d,.load t x,ty,pos,af,none⟩::r) ⟨⟨al L O,h⟩,h.length,[]⟩ Q:=
 bg.read rfl ee (by simp[Op.operands,an hx,hv]) ⟨0,λn lv _ _=>by simp[au,aC,an hx,ja,T.ez _ _ hs,T.PE _ _ ht,hp]⟩ k
theorem D.pz{t:TypeId}{x:Operand}{p:PV}{cs jN:List PV}{sz:Nat}(ee:aV h=true)(hx:cS L x=some p)(hv:bu (aO h) p=true)(hs:T.ts t=some (sz+1))(ht:T.ta t=some true)(hp:cT h p=some cs)(hc:qz (sz+1) cs jN)
  (k:bg C ops (i+1) r ⟨⟨al ((d,.agg jN)::L) O,h⟩,h.length,[]⟩ Q):bg C ops i (⟨some d,.load t x,ty,pos,af,none⟩::r) ⟨⟨al L O,h⟩,h.length,[]⟩ Q:=by
 obtain⟨rfl,hle⟩:=hc.eq;exact bg.read rfl ee (by simp[Op.operands,an hx,hv]) ⟨0,λn lv _ _=>by simp[au,aC,an hx,ja,T.ez _ _ hs,T.PE _ _ ht,hp,hle]⟩ k
theorem D.iq{t el:TypeId}{x ix:Operand}{full:Bool}{es:List PV}{k:IntKind}{j:Nat}{v:PV}{cs:List PV}{sz:Nat}(ee:aV h=true)(hx:cS L x=some (.aa full es))(hi:cS L ix=some (.int k (j:Int)))(hk:T.kd t=some (.sl el))(hs:T.ts el=some (sz+1))
  (hv:es[j]?=some v) (hc:cells v=cs) (hl:cs.length=sz+1) (kk:bg C ops (i+1) r ⟨⟨al ((d,.eW cs)::L) O,h⟩,h.length,[]⟩ Q):bg C ops i (⟨some d,.indexAddr t x ix,ty,pos,af,none⟩::r) ⟨⟨al L O,h⟩,h.length,[]⟩ Q:=by
 have cM:j<es.length:=by
  rcases acE j es.length with h |h;exact h;rw[ach h]at hv;cases hv
 subst hc;have xR:es[j]=v:=by rw[ab1 cM]at hv;exact abV hv
 exact bg.read rfl ee (by simp[Op.operands,an hx,an hi,bu]) ⟨0,λn lv _ _=>by simp[au,aC,an hx,an hi,cJ,bB (T.cY _ _ hk),T.ez _ _ hs,cM,xR,hl]⟩ kk
theorem D.nA{x:Operand}{xs:List Operand}{Bu:Array TypeId}{f:FuncId}{dw args:List PV}{v:PV}(ee:aV h=true)(hf:cS L x=some (.fn f dw))(ha:zw L xs=some args)(hm:C.mode f=.pure)(wQ:ao (args++dw)=true)
  (iv:bG (aO h) args=true) (hcv:bG (aO h) dw=true) (a:aI C f (aQ (args++dw)) v)
  (k:bg C ops (i+1) r ⟨⟨al ((d,v)::L) O,h⟩,h.length,[]⟩ Q):bg C ops i (⟨some d,.call ⟨.value x,xs.toArray,Bu⟩,ty,pos,af,none⟩::r) ⟨⟨al L O,h⟩,h.length,[]⟩ Q:=by
 obtain⟨n0,hn⟩:=a;have he:=ia (O:=O) ha;refine bg.read rfl ee ?_ ⟨n0,λn lv h1 h2=>?_⟩ k
 ·rw[abX]
  intro y hy
  simp[Op.operands,Call.operands]at hy;rcases hy with rfl |hy;rw[an hf];simpa[bu]using hcv
  ·rw[fX]at iv;have:ev (al L O) y∈args:=by rw[<-he];exact aci.2 ⟨y,hy,rfl⟩
   exact abX.1 iv _ this
 ·obtain⟨r0,hc,r1,e1,e2,e3⟩:=hn n h1;simp only[au,gA,an hf];unfold dn;rw[hm];simp only[he,dx,wQ,if_true,e1,e2,e3]
end Go.Pm
namespace Go.Pm
def L2(R:Value->PV->Prop)(vs:List Value)(cs:List PV):Prop:=vs.length=cs.length/\∀j,j<cs.length->R (vs.getD j undef) (cs.getD j .any)
inductive cu(w:World)(A:Nat->Prop):Value->PV->Prop
 |int (k:IntKind) (n:Int):cu w A (.int k n) (.int k n)
 |bool (b:Bool):cu w A (.bool b) (.bool b)
 |str (s:ByteArray):cu w A (.string s) (.str s)
 |eK:cu w A (.pointer none) .eK
 |gS:cu w A (.map none) .gS
 |aG:cu w A .nilFunc .aG
 |agg (vs:List Value) (cs:List PV):vs.length=cs.length->(∀j,j<cs.length->cu w A (vs.getD j undef) (cs.getD j .any))->cu w A (.agg vs.toArray) (.agg cs)
 |cA (vs:List Value) (cs:List PV):vs.length=cs.length->(∀j,j<cs.length->cu w A (vs.getD j undef) (cs.getD j .any))->cu w A (.tuple vs.toArray) (.cA cs)
 |fn (f:FuncId) (vs:List Value) (cs:List PV):vs.length=cs.length->(∀j,j<cs.length->cu w A (vs.getD j undef) (cs.getD j .any))->cu w A (.func (.func f) #[] vs.toArray) (.fn f cs)
 |oE (f:FuncId) (k:Nat) (vs:List Value) (cs:List PV):vs.length=cs.length->(∀j,j<cs.length->cu w A (vs.getD j undef) (cs.getD j .any))->cu w A (.func (.func f) (vs.take k).toArray (vs.drop k).toArray) (.oE f k cs)
 |ig (a:Option Addr) (cap:Nat) (full:Bool):(full=true->cap=0)->cu w A (.slice a 0 cap) (.aa full [])
 |aa (b off cap sz:Nat) (full:Bool) (es:List PV) (pW:Nat->Nat->Value):es≠[]->es.length<=cap->(full=true->cap=es.length)->¬A b->0<sz->
   (∀i,i<es.length->(cells (es.getD i .any)).length=sz)->
   (∀i j,i<es.length->j<sz->w.cell? ⟨b,off+(i * sz+j),none⟩=some (pW i j))->
   (∀i j,i<es.length->j<sz->cu w A (pW i j) ((cells (es.getD i .any)).getD j .any))->
   cu w A (.slice (some ⟨b,off,none⟩) es.length cap) (.aa full es)
 |eW (b off:Nat) (cs:List PV) (pW:Nat->Value):cs≠[]->¬A b->(∀j,j<cs.length->w.cell? ⟨b,off+j,none⟩=some (pW j))->
   (∀j,j<cs.length->cu w A (pW j) (cs.getD j .any))->cu w A (.pointer (some ⟨b,off,none⟩)) (.eW cs)
inductive aE(w:World)(A:Nat->Prop)(X:List (Nat×Nat))(h:ab):Value->PV->Prop
 |val {v:Value} {p:PV}:cu w A v p->aE w A X h v p
 |undef:aE w A X h (.tuple #[]) .undef
 |any (v:Value):aE w A X h v .any
 |ak (v:Value) (id ep off len:Nat) (o:aw) (bc:Nat×Nat):(∃(a:Option Addr) (l c:Nat),v=.slice a l c)->h[id]?=some o->X[id]?=some bc->o.mu≠.x->(ep<=o.ep/\0<o.bQ)->
   (o.ep=ep->off+len<=o.es.length->∃cap,v=.slice (some ⟨bc.1,off * o.bQ,none⟩) len cap/\off+cap=bc.2)->
   aE w A X h v (.ak id ep off len)
 |ptr (v:Value) (id ep i off:Nat) (o:aw) (bc:Nat×Nat):(∃a:Addr,v=.pointer (some a))->h[id]?=some o->X[id]?=some bc->o.mu≠.x->(ep<=o.ep/\0<o.bQ)->
   (o.ep=ep->v=.pointer (some ⟨bc.1,i * o.bQ+off,none⟩))->
   aE w A X h v (.ptr id ep i off)
 |cG (v:Value) (id:Nat) (o:aw) (bc:Nat×Nat):(∃r:Nat,v=.map (some r))->h[id]?=some o->X[id]?=some bc->o.mu≠.x->(o.ep=0->v=.map (some bc.1))->aE w A X h v (.cG id)
 |agg (vs:List Value) (cs:List PV):vs.length=cs.length->(∀j,j<cs.length->aE w A X h (vs.getD j Go.undef) (cs.getD j .any))->aE w A X h (.agg vs.toArray) (.agg cs)
 |cA (vs:List Value) (cs:List PV):vs.length=cs.length->(∀j,j<cs.length->aE w A X h (vs.getD j Go.undef) (cs.getD j .any))->aE w A X h (.tuple vs.toArray) (.cA cs)
 |fn (f:FuncId) (vs:List Value) (cs:List PV):vs.length=cs.length->(∀j,j<cs.length->aE w A X h (vs.getD j Go.undef) (cs.getD j .any))->aE w A X h (.func (.func f) #[] vs.toArray) (.fn f cs)
 |oE (f:FuncId) (k:Nat) (vs:List Value) (cs:List PV):vs.length=cs.length->(∀j,j<cs.length->aE w A X h (vs.getD j Go.undef) (cs.getD j .any))->aE w A X h (.func (.func f) (vs.take k).toArray (vs.drop k).toArray) (.oE f k cs)
def Mb(h:ab)(X:List (Nat×Nat))(b:Nat):Prop:=∃(id:Nat) (o:aw) (bc:Nat×Nat),h[id]?=some o/\X[id]?=some bc/\o.mu=.m/\bc.1=b
def Av(F:Nat->Prop)(h:ab)(X:List (Nat×Nat))(b:Nat):Prop:=F b\/Mb h X b
def Z2(w:World)(A:Nat->Prop)(X:List (Nat×Nat))(h:ab)(o:aw)(bc:Nat×Nat):Prop:=
 ∃T cs,w.heap[bc.1]?=some (.cells cs T (0,0))/\o.es.length<=bc.2/\bc.2 * o.bQ<=cs.size/\0<o.bQ/\
  (∀(i:Nat) (e:PV),o.es[i]?=some e->(cells e).length=o.bQ/\∀(j:Nat) (p:PV),(cells e)[j]?=some p->∃v:Value,cs[i * o.bQ+j]?=some v/\aE w A X h v p)
def Z3(w:World)(A:Nat->Prop)(X:List (Nat×Nat))(h:ab)(o:aw)(bc:Nat×Nat):Prop:=
 o.bQ=0/\∃es clock,w.heap[bc.1]?=some (.map es clock)/\es.size=o.es.length/\
  (∀(i:Nat) (e:PV),o.es[i]?=some e->∃(k v:PV) (m:MapEntry),e=.agg [k,v]/\es[i]?=some m/\aE w A X h m.key k/\aE w A X h m.val v)
def kZ(w:World)(A:Nat->Prop)(X:List (Nat×Nat))(h:ab)(o:aw)(bc:Nat×Nat):Prop:=Z2 w A X h o bc\/Z3 w A X h o bc
theorem kZ.c{w:World}{A:Nat->Prop}{X:List (Nat×Nat)}{h:ab}{o:aw}{bc:Nat×Nat}(r:kZ w A X h o bc)(hz:0<o.bQ):Z2 w A X h o bc:=by
 rcases r with r |r;exact r;have:=r.1;omega
theorem kZ.m{w:World}{A:Nat->Prop}{X:List (Nat×Nat)}{h:ab}{o:aw}{bc:Nat×Nat}(r:kZ w A X h o bc)(hz:o.bQ=0):Z3 w A X h o bc:=by
 rcases r with⟨_,_,_,_,_,h4,_⟩|r;omega;exact r
theorem kZ.lt{w:World}{A:Nat->Prop}{X:List (Nat×Nat)}{h:ab}{o:aw}{bc:Nat×Nat}(r:kZ w A X h o bc):bc.1<w.heap.size:=by
 rcases r with⟨_,_,h1,_⟩|⟨_,_,_,h1,_⟩ <;>exact(acq.1 h1).1
structure bo(w:World)(F:Nat->Prop)(X:List (Nat×Nat))(h:ab):Prop where
 len:X.length=h.length
 fin:∀b,F b->b<w.heap.size
 obj:∀(id:Nat) (o:aw) (bc:Nat×Nat),h[id]?=some o->X[id]?=some bc->o.mu≠.x->kZ w (Av F h X) X h o bc
 iT:∀(id eH:Nat) (o o':aw) (bc dq:Nat×Nat),id≠eH->h[id]?=some o->h[eH]?=some o'->X[id]?=some bc->X[eH]?=some dq->o.mu=.m->o'.mu≠.x->bc.1≠dq.1
 out:∀(id:Nat) (o:aw) (bc:Nat×Nat),h[id]?=some o->X[id]?=some bc->(o.mu=.m\/o.mu=.f)->¬F bc.1
def Ja(h:ab)(X:List (Nat×Nat))(h':ab)(X':List (Nat×Nat)):Prop:=
 ∀(id:Nat) (o:aw) (bc:Nat×Nat),h[id]?=some o->X[id]?=some bc->o.mu≠.x->
  ∃(o':aw) (dq:Nat×Nat),h'[id]?=some o'/\X'[id]?=some dq/\o'.mu≠.x/\(o.ep<=o'.ep/\(0<o.bQ->0<o'.bQ))/\(o.ep=o'.ep->o'.bQ=o.bQ/\(0<o.bQ->o'.es.length=o.es.length)/\dq=bc)
theorem Ja.refl(h:ab)(X:List (Nat×Nat)):Ja h X h X:=λ_ o bc e1 e2 e3=>⟨o,bc,e1,e2,e3,⟨abZ _,λh=>h⟩,λ_=>⟨rfl,λ_=>rfl,rfl⟩⟩
theorem Ja.trans{h h1 h2:ab}{X X1 X2:List (Nat×Nat)}(a:Ja h X h1 X1)(b:Ja h1 X1 h2 X2):Ja h X h2 X2:=by
 intro id o bc e1 e2 e3
 obtain⟨o1,c1,f1,f2,f3,f4,f5⟩:=a id o bc e1 e2 e3;obtain⟨o2,c2,g1,g2,g3,g4,g5⟩:=b id o1 c1 f1 f2 f3;have f41:=f4.1;have g41:=g4.1;refine⟨o2,c2,g1,g2,g3,⟨acR f4.1 g4.1,λhz=>g4.2 (f4.2 hz)⟩,λe=>?_⟩;obtain⟨p1,p2,p3⟩:=f5 (by omega);obtain⟨q1,q2,q3⟩:=g5 (by omega);exact⟨q1.trans p1,λhz=>(q2 (f4.2 hz)).trans (p2 hz),q3.trans p3⟩
structure eD(w:World)(h:ab)(X:List (Nat×Nat))(w':World)(h':ab)(X':List (Nat×Nat)):Prop where
 size:w.heap.size<=w'.heap.size
 len:h.length<=h'.length
 aT:∀b,b<w.heap.size->¬Mb h X b->w'.heap[b]?=w.heap[b]?
 shr:∀b,b<w.heap.size->Mb h' X' b->Mb h X b
 refs:Ja h X h' X'
 MB:∀(id:Nat) (o:aw),h[id]?=some o->o.mu≠.m->h'[id]?=some o/\X'[id]?=X[id]?
 os:w'.os=w.os
 tape:w'.tape=w.tape
 output:w'.output=w.output
 drawn:w.drawn<=w'.drawn
theorem eD.refl(w:World)(h:ab)(X:List (Nat×Nat)):eD w h X w h X where
 size:=abZ _
 len:=abZ _
 aT _ _ _:=rfl
 shr _ _ m:=m
 refs:=Ja.refl h X
 MB id o h1 _:=⟨h1,rfl⟩
 os:=rfl
 tape:=rfl
 output:=rfl
 drawn:=abZ _
theorem eD.trans{w w1 w2:World}{h h1 h2:ab}{X X1 X2:List (Nat×Nat)}(a:eD w h X w1 h1 X1)(b:eD w1 h1 X1 w2 h2 X2):eD w h X w2 h2 X2 where
 size:=acR a.size b.size
 len:=acR a.len b.len
 aT k hk hm:=by
  have h1:¬Mb h1 X1 k:=λm=>hm (a.shr k hk m)
  rw[b.aT k (acN hk a.size) h1,a.aT k hk hm]
 shr k hk m:=a.shr k hk (b.shr k (acN hk a.size) m)
 refs:=a.refs.trans b.refs
 MB id o e1 e2:=by
  obtain⟨f1,f2⟩:=a.MB id o e1 e2;obtain⟨g1,g2⟩:=b.MB id o f1 e2;exact⟨g1,g2.trans f2⟩
 os:=b.os.trans a.os
 tape:=b.tape.trans a.tape
 output:=b.output.trans a.output
 drawn:=acR a.drawn b.drawn
theorem JO{w:World}{b off:Nat}{v:Value}(h:w.cell? ⟨b,off,none⟩=some v):b<w.heap.size:=block_lt_of_cell h
theorem oh{w w':World}{b off:Nat}(h:w'.heap[b]?=w.heap[b]?):w'.cell? ⟨b,off,none⟩=w.cell? ⟨b,off,none⟩:=by
 simp[World.cell?,h]
theorem cu.mono{w w':World}{A A':Nat->Prop}(hw:∀b,b<w.heap.size->¬A b->w'.heap[b]?=w.heap[b]?)(hA:∀b,b<w.heap.size->¬A b->¬A' b)
  {v:Value} {p:PV} (h:cu w A v p):cu w' A' v p:=by
 induction h with
 |int k n=>exact .int k n
 |bool b=>exact .bool b
 |str s=>exact .str s
 |eK=>exact .eK
 |gS=>exact .gS
 |aG=>exact .aG
 |agg vs cs hl _ ih=>exact .agg vs cs hl ih
 |cA vs cs hl _ ih=>exact .cA vs cs hl ih
 |fn f vs cs hl _ ih=>exact .fn f vs cs hl ih
 |oE f k vs cs hl _ ih=>exact .oE f k vs cs hl ih
 |ig a cap full hf=>exact .ig a cap full hf
 |aa b off cap sz full es pW h1 h2 h3 h4 h5 h6 h7 _ ih=>
  have bO:0<es.length:=adR.2 h1;have hb:b<w.heap.size:=JO (h7 0 0 bO h5);exact .aa b off cap sz full es pW h1 h2 h3 (hA b hb h4) h5 h6 (λi j hi hj=>by rw[oh (hw b hb h4)];exact h7 i j hi hj) ih
 |eW b off cs pW h1 h2 h3 _ ih=>
  have bO:0<cs.length:=adR.2 h1;have hb:b<w.heap.size:=JO (h3 0 bO);exact .eW b off cs pW h1 (hA b hb h2) (λj hj=>by rw[oh (hw b hb h2)];exact h3 j hj) ih
theorem cu.wz{w:World}{A A':Nat->Prop}(hA:∀b,A' b->A b){v:Value}{p:PV}(h:cu w A v p):cu w A' v p:=
 h.mono (λ_ _ _=>rfl) (λb _ hn ha=>hn (hA b ha))
theorem Av.mono{w w':World}{h h':ab}{X X':List (Nat×Nat)}{F:Nat->Prop}(s:eD w h X w' h' X')(b:Nat)(hb:b<w.heap.size)(hn:¬Av F h X b):¬Av F h' X' b:=by
 rintro(hf |hm);exact hn (.inl hf);exact hn (.inr (s.shr b hb hm))
theorem aE.Vn{w w':World}{h h':ab}{X X':List (Nat×Nat)}{A A':Nat->Prop}(f:Ja h X h' X')(hw:∀b,b<w.heap.size->¬A b->w'.heap[b]?=w.heap[b]?)(hA:∀b,b<w.heap.size->¬A b->¬A' b)
  {v:Value} {p:PV} (hv:aE w A X h v p):aE w' A' X' h' v p:=by
 induction hv with
 |val hs=>exact .val (hs.mono hw hA)
 |undef=>exact .undef
 |any v=>exact .any v
 |ak v id ep off len o bc h0 h1 h2 h3 h4 h5=>
  obtain⟨o',dq,f1,f2,f3,f4,f5⟩:=f id o bc h1 h2 h3;have h41:=h4.1;have f41:=f4.1;refine .ak v id ep off len o' dq h0 f1 f2 f3 ⟨acR h4.1 f4.1,f4.2 h4.2⟩ (λe1 e2=>?_);obtain⟨g1,g2,g3⟩:=f5 (by omega);have g2:=g2 h4.2;obtain⟨cap,k1,k2⟩:=h5 (by omega) (by omega);exact⟨cap,by rw[k1,g3,g1],by rw[k2,g3]⟩
 |ptr v id ep i off o bc h0 h1 h2 h3 h4 h5=>
  obtain⟨o',dq,f1,f2,f3,f4,f5⟩:=f id o bc h1 h2 h3;have h41:=h4.1;have f41:=f4.1;refine .ptr v id ep i off o' dq h0 f1 f2 f3 ⟨acR h4.1 f4.1,f4.2 h4.2⟩ (λe1=>?_);obtain⟨g1,g2,g3⟩:=f5 (by omega);rw[h5 (by omega),g3,g1]
 |cG v id o bc h0 h1 h2 h3 h5=>
  obtain⟨o',dq,f1,f2,f3,f4,f5⟩:=f id o bc h1 h2 h3;have f41:=f4.1;refine .cG v id o' dq h0 f1 f2 f3 (λe1=>?_);obtain⟨g1,g2,g3⟩:=f5 (by omega);rw[h5 (by omega),g3]
 |agg vs cs hl _ ih=>exact .agg vs cs hl ih
 |cA vs cs hl _ ih=>exact .cA vs cs hl ih
 |fn f vs cs hl _ ih=>exact .fn f vs cs hl ih
 |oE f k vs cs hl _ ih=>exact .oE f k vs cs hl ih
theorem aE.mono{w w':World}{h h':ab}{X X':List (Nat×Nat)}{F:Nat->Prop}(s:eD w h X w' h' X'){v:Value}{p:PV}(hv:aE w (Av F h X) X h v p):
  aE w' (Av F h' X') X' h' v p:=hv.Vn s.refs (λb hb hn=>s.aT b hb (λm=>hn (.inr m))) (λb hb hn=>Av.mono s b hb hn)
section
variable{w:World}{A:Nat->Prop}{X:List (Nat×Nat)}{h:ab}{v:Value}
theorem aE.dS{k:IntKind}{n:Int}(hv:aE w A X h v (.int k n)):v=.int k n:=by cases hv with |val hs=>cases hs;rfl
theorem aE.gK{b:Bool}(hv:aE w A X h v (.bool b)):v=.bool b:=by cases hv with |val hs=>cases hs;rfl
theorem aE.mV{s:ByteArray}(hv:aE w A X h v (.str s)):v=.string s:=by cases hv with |val hs=>cases hs;rfl
theorem aE.Kg(hv:aE w A X h v .undef):v=.tuple #[]:=by
 cases hv with
 |val hs=>cases hs
 |undef=>rfl
theorem aE.sQ{cs:List PV}(hv:aE w A X h v (.agg cs)):∃vs:List Value,v=.agg vs.toArray/\vs.length=cs.length/\∀j,j<cs.length->aE w A X h (vs.getD j Go.undef) (cs.getD j .any):=by
 cases hv with
 |val hs=>cases hs with |agg vs _ hl hh=>exact⟨vs,rfl,hl,λj hj=>.val (hh j hj)⟩
 |agg vs _ hl hh=>exact⟨vs,rfl,hl,hh⟩
theorem aE.xg{cs:List PV}(hv:aE w A X h v (.cA cs)):∃vs:List Value,v=.tuple vs.toArray/\vs.length=cs.length/\∀j,j<cs.length->aE w A X h (vs.getD j Go.undef) (cs.getD j .any):=by
 cases hv with
 |val hs=>cases hs with |cA vs _ hl hh=>exact⟨vs,rfl,hl,λj hj=>.val (hh j hj)⟩
 |cA vs _ hl hh=>exact⟨vs,rfl,hl,hh⟩
theorem aE.Gu{f:FuncId}{cs:List PV}(hv:aE w A X h v (.fn f cs)):∃vs:List Value,v=.func (.func f) #[] vs.toArray/\vs.length=cs.length/\∀j,j<cs.length->aE w A X h (vs.getD j Go.undef) (cs.getD j .any):=by
 cases hv with
 |val hs=>cases hs with |fn _ vs _ hl hh=>exact⟨vs,rfl,hl,λj hj=>.val (hh j hj)⟩
 |fn _ vs _ hl hh=>exact⟨vs,rfl,hl,hh⟩
theorem aE.Re{f:FuncId}{k:Nat}{cs:List PV}(hv:aE w A X h v (.oE f k cs)):∃vs:List Value,v=.func (.func f) (vs.take k).toArray (vs.drop k).toArray/\vs.length=cs.length/\∀j,j<cs.length->aE w A X h (vs.getD j Go.undef) (cs.getD j .any):=by
 cases hv with
 |val hs=>cases hs with |oE _ _ vs _ hl hh=>exact⟨vs,rfl,hl,λj hj=>.val (hh j hj)⟩
 |oE _ _ vs _ hl hh=>exact⟨vs,rfl,hl,hh⟩
theorem aE.fV{f:Bool}{es:List PV}(hv:aE w A X h v (.aa f es)):cu w A v (.aa f es):=by cases hv with |val hs=>exact hs
theorem aE.tX{cs:List PV}(hv:aE w A X h v (.eW cs)):cu w A v (.eW cs):=by cases hv with |val hs=>exact hs
theorem aE.dW{id ep off len:Nat}(hv:aE w A X h v (.ak id ep off len)):id<h.length/\(∀o:aw,h[id]?=some o->ep<=o.ep/\0<o.bQ)/\
  (∀(o:aw) (bc:Nat×Nat),h[id]?=some o->X[id]?=some bc->o.mu≠.x->o.ep=ep->off+len<=o.es.length->∃cap,v=.slice (some ⟨bc.1,off * o.bQ,none⟩) len cap/\off+cap=bc.2):=by
 cases hv with
 |val hs=>cases hs
 |ak _ _ _ _ _ o bc h0 h1 h2 h3 h4 h5=>
  refine⟨?_,λo' e=>?_,λo' dq e1 e2 e3 e4 e5=>?_⟩
  ·rcases acE id h.length with hh |hh;exact hh;rw[ach hh]at h1;cases h1
  rw[h1]at e;obtain rfl:=abV e;exact h4
  ·rw[h1]at e1;rw[h2]at e2;obtain rfl:=abV e1;obtain rfl:=abV e2;exact h5 e4 e5
theorem aE.Ce{id ep i off:Nat}(hv:aE w A X h v (.ptr id ep i off)):id<h.length/\(∀o:aw,h[id]?=some o->ep<=o.ep/\0<o.bQ)/\
  (∀(o:aw) (bc:Nat×Nat),h[id]?=some o->X[id]?=some bc->o.mu≠.x->o.ep=ep->v=.pointer (some ⟨bc.1,i * o.bQ+off,none⟩)):=by
 cases hv with
 |val hs=>cases hs
 |ptr _ _ _ _ _ o bc h0 h1 h2 h3 h4 h5=>
  refine⟨?_,λo' e=>?_,λo' dq e1 e2 e3 e4=>?_⟩
  ·rcases acE id h.length with hh |hh;exact hh;rw[ach hh]at h1;cases h1
  rw[h1]at e;obtain rfl:=abV e;exact h4
  ·rw[h1]at e1;rw[h2]at e2;obtain rfl:=abV e1;obtain rfl:=abV e2;exact h5 e4
theorem aE.E2(hv:aE w A X h v .gS):v=.map none:=by cases hv with |val hs=>cases hs;rfl
theorem aE.E4{id:Nat}(hv:aE w A X h v (.cG id)){o:aw}{bc:Nat×Nat}(e1:h[id]?=some o)(e2:X[id]?=some bc)(e3:o.ep=0):v=.map (some bc.1):=by
 cases hv with
 |val hs=>cases hs
 |cG _ _ o' dq h0 h1 h2 h3 h5=>
  rw[e1]at h1;rw[e2]at h2;obtain rfl:=abV h1;obtain rfl:=abV h2;exact h5 e3
end
theorem aE.J6{w:World}{A:Nat->Prop}{X:List (Nat×Nat)}{h:ab}{v:Value}{p:PV}(hv:aE w A X h v p)(hp:aU p=true):cu w A v p:=by
 have all:∀cs:List PV,ao cs=true->∀j,j<cs.length->aU (cs.getD j .any)=true:=by
  intro cs
  induction cs with
  |nil=>intro _ j hj;simp at hj
  |cons c r ih=>
   intro h j hj
   simp[ao]at h
   cases j with
   |zero=>simpa using h.1
   |succ j=>simpa using ih h.2 j (by simpa using hj)
 induction hv with
 |val hs=>exact hs
 |undef=>simp[aU]at hp
 |any v=>simp[aU]at hp
 |ak=>simp[aU]at hp
 |ptr=>simp[aU]at hp
 |cG=>simp[aU]at hp
 |agg vs cs hl _ ih=>exact .agg vs cs hl λj hj=>ih j hj (all cs (by simpa[aU]using hp) j hj)
 |cA vs cs hl _ ih=>exact .cA vs cs hl λj hj=>ih j hj (all cs (by simpa[aU]using hp) j hj)
 |fn f vs cs hl _ ih=>exact .fn f vs cs hl λj hj=>ih j hj (all cs (by simpa[aU]using hp) j hj)
 |oE f k vs cs hl _ ih=>exact .oE f k vs cs hl λj hj=>ih j hj (all cs (by simpa[aU]using hp) j hj)
theorem cu.cells{w:World}{A:Nat->Prop}{v:Value}{p:PV}(hv:cu w A v p):v.cells.size=(Pm.cells p).length/\∀(j:Nat) (q:PV),(Pm.cells p)[j]?=some q->∃u:Value,v.cells[j]?=some u/\cu w A u q:=by
 have one:∀(v:Value) (p:PV),cu w A v p->v.cells= #[v]->Pm.cells p=[p]->v.cells.size=(Pm.cells p).length/\∀(j:Nat) (q:PV),(Pm.cells p)[j]?=some q->∃u:Value,v.cells[j]?=some u/\cu w A u q:=by
  intro v p h e1 e2
  rw[e1,e2];refine⟨rfl,λj q hq=>?_⟩
  cases j with
  |zero=>simp at hq;subst hq;exact⟨v,rfl,h⟩
  |succ j=>simp at hq
 cases hv with
 |agg vs cs hl hh=>
  refine⟨by simpa[Value.cells,Pm.cells]using hl,λj q hq=>?_⟩
  have hj:j<cs.length:=by
   rcases acE j cs.length with h |h;exact h;simp[Pm.cells,ach h]at hq
  have hq':cs[j]?=some q:=hq;refine⟨vs.getD j undef,?_,?_⟩
  ·simp only[Value.cells];have:j<vs.length:=by omega
   simp[List.getD,this]
  ·have:=hh j hj;rwa[acn (l:=cs),hq']at this
 |_=>exact one _ _ (by first |exact .int _ _ |exact .bool _ |exact .str _ |exact .eK |exact .gS |exact .aG |(rename_i a b;exact .cA _ _ a b)|(rename_i a b;exact .fn _ _ _ a b)|(rename_i a b;exact .oE _ _ _ _ a b)|(rename_i a;exact .ig _ _ _ a)|(rename_i h1 h2 h3 h4 h5 h6 h7 h8;exact .aa _ _ _ _ _ _ _ h1 h2 h3 h4 h5 h6 h7 h8)|(rename_i h1 h2 h3 h4;exact .eW _ _ _ _ h1 h2 h3 h4)) rfl rfl
end Go.Pm
