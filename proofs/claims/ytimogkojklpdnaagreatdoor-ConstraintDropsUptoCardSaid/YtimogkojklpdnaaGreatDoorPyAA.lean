/-
  A part of the library Pm (joined by program). Conditions: none.
-/
import GoSem.Decode
import GoSem.Step
import Derived.Orders
import Derived.Laws.BitsLemmas
import Derived.Laws.AppendOwn
import Derived.Laws.MakeOwn
import Derived.Below
set_option linter.unusedVariables false
set_option linter.unusedSimpArgs false
set_option linter.unnecessarySimpa false
abbrev ZZ:=@Option.some.inj
abbrev Z0:=@List.getElem?_append_left
abbrev Z1:=@List.all_eq_true
abbrev Z2:=@List.length_append
abbrev Z3:=@List.getElem?_eq_getElem
abbrev Z4:=@List.length_cons
abbrev Z5:=@Nat.le_refl
abbrev Z6:=@List.getElem?_set_self
abbrev Z7:=@List.getElem?_set_ne
abbrev Z8:=@List.mem_append
abbrev Z9:=@Bool.and_eq_true
abbrev Z':=@List.mem_cons
abbrev aaa:=@Prod.mk.inj
abbrev aab:=@Option.map_some
abbrev aac:=@List.getElem?_append_right
abbrev aad:=@Bool.false_eq_true
abbrev aae:=@List.mem_of_getElem?
abbrev aaf:=@List.eq_nil_of_length_eq_zero
abbrev aag:=@List.getElem?_eq_none
abbrev aah:=@List.map_cons
abbrev aai:=@List.getElem?_take
abbrev aaj:=@List.getElem?_map
abbrev aak:=@List.mem_map
abbrev aal:=@List.pairwise_cons
abbrev aam:=@List.getD_eq_getElem?_getD
abbrev aan:=@Nat.zero_add
abbrev aao:=@List.append_nil
abbrev aap:=@Array.getElem?_eq_some_iff
abbrev aaq:=@Bool.or_eq_true
abbrev aar:=@List.take_of_length_le
abbrev aas:=@List.map_nil
abbrev aat:=@List.append_assoc
abbrev aau:=@List.cons_append
abbrev aav:=@List.mem_singleton
abbrev aaw:=@Array.getElem?_toList
abbrev aax:=@Option.some.injEq
abbrev aay:=@List.getElem_mem
abbrev aaz:=@List.drop_eq_nil_of_le
abbrev aaA:=@List.take_append_of_le_length
abbrev aaB:=@List.getElem?_drop
abbrev aaC:=@Nat.mul_le_mul_right
abbrev aaD:=@Nat.lt_or_ge
abbrev aaE:=@List.length_nil
abbrev aaF:=@List.getElem?_take_of_lt
abbrev aaG:=@Bool.true_eq_false
abbrev aaH:=@List.mem_append_left
abbrev aaI:=@List.mem_of_mem_drop
abbrev aaJ:=@List.mem_of_mem_take
abbrev aaK:=@Nat.lt_of_lt_of_le
abbrev aaL:=@List.nil_append
abbrev aaM:=@List.mem_filter
abbrev aaN:=@Nat.eq_of_beq_eq_true
abbrev aaO:=@Nat.add_mul
abbrev aaP:=@Option.map_eq_some_iff
abbrev aaQ:=@Nat.le_trans
abbrev aaR:=@Ne.symm
abbrev aaS:=@List.map_append
abbrev aaT:=@List.eq_of_mem_replicate
abbrev aaU:=@List.mem_flatMap
abbrev aaV:=@List.drop_zero
abbrev aaW:=@List.take_length
abbrev aaX:=@List.all_cons
abbrev aaY:=@List.set_set
abbrev aaZ:=@List.getElem?_of_mem
abbrev aa0:=@List.length_take
abbrev aa1:=@List.drop_append_of_le_length
abbrev aa2:=@List.ext_getElem?
abbrev aa3:=@Nat.le_of_ble_eq_true
abbrev aa4:=@List.length_filter_le
abbrev aa5:=@UInt8.lt_iff_toNat_lt
abbrev aa6:=@List.length_map
abbrev aa7:=@List.not_mem_nil
abbrev aa8:=@List.any_eq_true
abbrev aa9:=@List.flatMap_cons
abbrev aba:=@List.map_congr_left
abbrev abb:=@Array.getElem?_eq_getElem
abbrev abc:=@List.mem_or_eq_of_mem_set
abbrev abd:=@Bool.true_and
abbrev abe:=@List.take_take
abbrev abf:=@List.mem_cons_of_mem
abbrev abg:=@Int.eq_ofNat_of_zero_le
abbrev abh:=@Bool.not_eq_true'
abbrev abi:=@Int.toNat_natCast
abbrev abj:=@List.all_append
abbrev abk:=@Array.getD_eq_getD_getElem?
abbrev abl:=@Array.length_toList
abbrev abm:=@Nat.zero_le
abbrev abn:=@List.getElem?_zipWith
abbrev abo:=@List.length_replicate
abbrev abp:=@List.set_append_right
abbrev abq:=@Array.ext'
abbrev abr:=@Nat.lt_trichotomy
abbrev abt:=@List.any_eq_false
abbrev abu:=@Nat.add_assoc
abbrev abv:=@Bool.and_true
abbrev abw:=@List.all_nil
abbrev abx:=@Nat.add_zero
abbrev aby:=@List.mem_iff_getElem?
abbrev abz:=@List.getElem?_toArray
abbrev abA:=@Bool.false_or
abbrev abB:=@List.drop_eq_getElem_cons
abbrev abC:=@List.countP_cons
abbrev abD:=@Nat.zero_mul
abbrev abE:=@List.length_pos_iff
abbrev abF:=@List.mem_replicate
abbrev abG:=@Nat.min_eq_left
abbrev abH:=@List.filter_append
abbrev abI:=@Nat.le_succ
abbrev abJ:=@Array.getElem?_eq_none
abbrev abK:=@List.mem_append_right
abbrev abL:=@Array.mem_of_getElem?
abbrev abM:=@List.take_append_drop
abbrev abN:=@List.mem_range
abbrev abO:=@Nat.sub_self
abbrev abP:=@Array.getElem?_modify
abbrev abQ:=@Array.getElem?_append
abbrev abR:=@List.getElem?_zipIdx
abbrev abS:=@List.length_drop
abbrev abT:=@Nat.mod_lt
abbrev abU:=@Bool.not_true
abbrev abV:=@List.take_succ_cons
abbrev abW:=@List.getD_cons_zero
abbrev abX:=@List.getD_cons_succ
abbrev abY:=@Classical.byContradiction
abbrev abZ:=@List.getElem?_eq_some_iff
abbrev ab0:=@Option.map_none
abbrev ab1:=@List.findIdx?_eq_none_iff
abbrev ab2:=@Option.isSome_iff_exists
abbrev ab3:=@Bool.true_or
abbrev ab4:=@List.map_map
abbrev ab5:=@Array.getElem?_replicate
abbrev ab6:=@Bool.not_false
abbrev ab7:=@Option.map_id'
abbrev ab8:=@Nat.mul_le_mul
abbrev ab9:=@List.size_toArray
abbrev aca:=@List.range_succ_eq_map
abbrev acb:=@Bool.and_self
abbrev acd:=@List.any_cons
abbrev ace:=@List.flatMap_nil
abbrev acf:=@List.set_getElem_self
abbrev acg:=@Array.mem_toList_iff
abbrev ach:=@List.length_set
abbrev aci:=@Bool.or_eq_false_iff
abbrev acj:=@Nat.mul_comm
abbrev ack:=@List.pairwise_append
abbrev acm:=@List.getElem_of_mem
abbrev acn:=@List.getElem?_range
abbrev aco:=@Int.toNat_of_nonneg
abbrev acp:=@Option.map_map
abbrev acq:=@List.drop_take
abbrev acr:=@List.take_zero
abbrev acs:=@List.append_of_mem
abbrev acu:=@List.sum_cons
abbrev acv:=@Prod.mk.injEq
structure Wq(Q:Prop):Prop where
 o:Q
theorem wXA {P Q0:Prop} (q0:Q0) (h:Wq Q0->P:=by
  intro q0
  repeat' (first |(refine Rn.go ?_;conv=>whnf)|refine .mk ?_ |refine .tt ?_ |refine .ff ?_ |refine .m2 ?_ |refine .m3 ?_ |fail)
  exact q0.1):P:=h ⟨q0⟩
theorem wXB {P Q0:Prop} (q0:Q0) (h:Wq Q0->P:=by
  intro q0
  repeat' (first |refine ah.nil ?_ |(apply R.va;exact rfl;exact rfl;exact rfl)|(apply R.mE;exact rfl;exact rfl;exact rfl)|(apply R.QS;exact rfl;exact rfl)|(apply R.move;exact rfl)|(apply R.assign;exact rfl)|(apply R.iF;exact rfl;exact rfl)|(apply R.gT;exact rfl;exact rfl)|(apply R.fJ T6;exact rfl;exact rfl;exact rfl;exact rfl)|(apply R.k9 T6;exact rfl;exact rfl;exact rfl;exact rfl;exact(by repeat constructor))|(apply R.fieldAddr T6;exact rfl;exact rfl;exact rfl;exact rfl)|(apply R.nT T6;exact rfl;exact rfl;exact rfl;exact rfl;exact rfl)|(apply R.arith;exact rfl;exact rfl;exact rfl;exact(ju (by omega) (by omega)))|(apply R.max;exact rfl;exact rfl)|(apply R.neg;exact rfl;exact(ju (by omega) (by omega)))|(apply R.build T6;exact rfl;exact rfl;exact rfl;exact rfl;exact rfl;exact rfl)|(apply R.buildSlice T6;exact rfl;exact rfl;exact rfl;exact rfl;exact(by decide);exact rfl;exact rfl;exact rfl;exact rfl;exact rfl)|(apply R.MJ;exact rfl;exact rfl;exact(by assumption))|(apply R.MK;exact rfl;exact rfl;exact(by assumption))|(apply R.not;exact rfl;exact rfl)|(apply R.qO T6;exact rfl;exact rfl)|(apply R.extract;exact rfl;exact rfl)|(apply R.box;exact rfl;exact rfl;exact rfl;exact .nil)|(apply R.box;exact rfl;exact rfl;exact rfl;exact(.cons .nil))|(apply R.Zt;exact rfl;exact rfl;exact rfl)|(apply R.alloc T6;exact rfl;exact rfl;exact rfl;exact .nil)|(apply R.alloc T6;exact rfl;exact rfl;exact rfl;exact(.cons .nil))|(apply R.alloc T6;exact rfl;exact rfl;exact rfl;exact(.cons (.cons .nil)))|(apply R.Bm T6;exact rfl;exact rfl;exact rfl)|(apply R.Bn T6;exact rfl;exact rfl;exact rfl;exact rfl;exact rfl;exact rfl)|(apply R.oP T6;exact rfl;exact rfl;exact rfl;exact(by assumption);exact rfl)|(apply R.xX T6;exact rfl;exact rfl;exact rfl;exact(by assumption);exact(by repeat constructor))|(apply R.tJ T6;exact rfl;exact rfl;exact rfl;exact(by repeat constructor))|(apply R.nilCheck;exact rfl)|refine Ev.seq ?_ |refine Ev.region ?_ |refine Ev.kG ?_ |refine aW.nil ?_ |(apply D.move;exact rfl)|(apply D.assign;exact rfl)|(apply D.va;exact rfl;exact rfl;exact rfl;exact rfl)|(apply D.arith;exact rfl;exact rfl;exact rfl;exact(ju (by omega) (by omega)))|(apply D.nT T6;exact rfl;exact rfl;exact rfl;exact rfl;exact rfl)|(apply D.build T6;exact rfl;exact rfl;exact rfl;exact rfl;exact rfl;exact rfl)|(apply D.fieldAddr T6;exact rfl;exact rfl;exact rfl;exact rfl)|(apply D.fJ T6;exact(by first |exact rfl |assumption);exact rfl;exact rfl;exact rfl;exact rfl;exact rfl)|(apply D.k9 T6;exact(by first |exact rfl |assumption);exact rfl;exact rfl;exact rfl;exact rfl;exact rfl;exact(by repeat constructor))|(apply Ev.iG;exact rfl)|refine Ev.ret ?_ |refine Ev.skip ?_ |refine Ev.block ?_ |refine aE.normal ?_ |refine aE.ret ?_ |refine az.normal ?_ |refine az.ret ?_ |refine aI.normal ?_ |refine aI.ret ?_ |(apply aJ.ret;exact rfl)|(apply aJ.Zv T6;exact rfl)|(apply D.oP T6;exact(by assumption);exact rfl;exact rfl;exact rfl;exact(by assumption);exact rfl)|(apply D.xX T6;exact(by assumption);exact rfl;exact rfl;exact rfl;exact(by assumption);exact(by repeat constructor))|(apply D.tJ T6;exact(by first |exact rfl |assumption);exact rfl;exact rfl;exact rfl;exact(by repeat constructor))|fail)
  exact q0.1):P:=h ⟨q0⟩
theorem wXC {P Q0 Q1:Prop} (q0:Q0) (q1:Q1) (h:Wq Q0->Wq Q1->P:=by
  intro q0 q1
  repeat' (first |(refine Rn.go ?_;conv=>whnf)|refine .mk ?_ |refine .tt ?_ |refine .ff ?_ |refine .m3 ?_ |refine .mk (λhc=>?_) λhc=>?_ |fail)
  ·revert hc;exact q0.1
  ·revert hc;exact q1.1):P:=h ⟨q0⟩ ⟨q1⟩
theorem wXD {P Q0:Prop} (q0:Q0) (h:Wq Q0->P:=by
  intro q0
  repeat' (first |refine ah.nil ?_ |(apply R.va;exact rfl;exact rfl;exact rfl)|(apply R.mE;exact rfl;exact rfl;exact rfl)|(apply R.QS;exact rfl;exact rfl)|(apply R.move;exact rfl)|(apply R.assign;exact rfl)|(apply R.iF;exact rfl;exact rfl)|(apply R.gT;exact rfl;exact rfl)|(apply R.k9 T6;exact rfl;exact rfl;exact rfl;exact rfl;exact(by repeat constructor))|(apply R.arith;exact rfl;exact rfl;exact rfl;exact(ju (by omega) (by omega)))|(apply R.build T6;exact rfl;exact rfl;exact rfl;exact rfl;exact rfl;exact rfl)|(apply R.buildSlice T6;exact rfl;exact rfl;exact rfl;exact rfl;exact(by decide);exact rfl;exact rfl;exact rfl;exact rfl;exact rfl)|(apply R.not;exact rfl;exact rfl)|(apply R.qO T6;exact rfl;exact rfl)|(apply R.alloc T6;exact rfl;exact rfl;exact rfl;exact(.cons .nil))|refine Ev.seq ?_ |refine Ev.region ?_ |refine Ev.kG ?_ |refine aW.nil ?_ |(apply D.move;exact rfl)|(apply D.assign;exact rfl)|(apply D.arith;exact rfl;exact rfl;exact rfl;exact(ju (by omega) (by omega)))|(apply Ev.iG;exact rfl)|refine Ev.ret ?_ |refine Ev.skip ?_ |refine Ev.block ?_ |refine aE.normal ?_ |refine aE.ret ?_ |refine az.normal ?_ |refine aI.normal ?_ |(apply aJ.ret;exact rfl)|fail)
  exact q0.1):P:=h ⟨q0⟩
theorem wXE {P Q0 Q1:Prop} (q0:Q0) (q1:Q1) (h:Wq Q0->Wq Q1->P:=by
  intro q0 q1
  repeat' (first |refine ah.nil ?_ |(apply R.va;exact rfl;exact rfl;exact rfl)|(apply R.mE;exact rfl;exact rfl;exact rfl)|(apply R.QS;exact rfl;exact rfl)|(apply R.move;exact rfl)|(apply R.assign;exact rfl)|(apply R.iF;exact rfl;exact rfl)|(apply R.gT;exact rfl;exact rfl)|(apply R.fJ T6;exact rfl;exact rfl;exact rfl;exact rfl)|(apply R.k9 T6;exact rfl;exact rfl;exact rfl;exact rfl;exact(by repeat constructor))|(apply R.fieldAddr T6;exact rfl;exact rfl;exact rfl;exact rfl)|(apply R.cmp;exact rfl;exact rfl;exact rfl;all_goals intro hc)|(apply R.arith;exact rfl;exact rfl;exact rfl;exact(ju (by omega) (by omega)))|(apply R.neg;exact rfl;exact(ju (by omega) (by omega)))|(apply R.build T6;exact rfl;exact rfl;exact rfl;exact rfl;exact rfl;exact rfl)|(apply R.MJ;exact rfl;exact rfl;exact(by assumption))|(apply R.MK;exact rfl;exact rfl;exact(by assumption))|(apply R.not;exact rfl;exact rfl)|(apply R.Be T6;exact rfl;exact rfl)|(apply R.qO T6;exact rfl;exact rfl)|(apply R.oP T6;exact rfl;exact rfl;exact rfl;exact(by assumption);exact rfl)|(apply R.xX T6;exact rfl;exact rfl;exact rfl;exact(by assumption);exact(by repeat constructor))|(apply R.tJ T6;exact rfl;exact rfl;exact rfl;exact(by repeat constructor))|refine Ev.seq ?_ |refine Ev.region ?_ |refine Ev.kG ?_ |refine aW.nil ?_ |(apply D.move;exact rfl)|(apply D.assign;exact rfl)|(apply D.va;exact rfl;exact rfl;exact rfl;exact rfl)|(apply D.iF;exact rfl;exact rfl)|(apply D.cmp;exact rfl;exact rfl;exact rfl;all_goals intro hc)|(apply D.fieldAddr T6;exact rfl;exact rfl;exact rfl;exact rfl)|(apply D.fJ T6;exact(by first |exact rfl |assumption);exact rfl;exact rfl;exact rfl;exact rfl;exact rfl)|(apply D.k9 T6;exact(by first |exact rfl |assumption);exact rfl;exact rfl;exact rfl;exact rfl;exact rfl;exact(by repeat constructor))|(apply Ev.iG;exact rfl)|refine Ev.ret ?_ |refine Ev.skip ?_ |refine Ev.exit ?_ |refine Ev.block ?_ |refine aE.normal ?_ |refine aE.ret ?_ |refine aE.exit ?_ |refine az.normal ?_ |refine az.ret ?_ |refine az.Lr ?_ |refine aI.normal ?_ |refine aI.ret ?_ |refine aI.exit ?_ |(apply aJ.ret;exact rfl)|fail)
  ·revert hc;exact q0.1
  ·revert hc;exact q1.1):P:=h ⟨q0⟩ ⟨q1⟩
theorem wXF {P Q0:Prop} (q0:Q0) (h:Wq Q0->P:=by
  intro q0
  repeat' (first |refine ah.nil ?_ |(apply R.va;exact rfl;exact rfl;exact rfl)|(apply R.move;exact rfl)|(apply R.assign;exact rfl)|(apply R.iF;exact rfl;exact rfl)|(apply R.k9 T6;exact rfl;exact rfl;exact rfl;exact rfl;exact(by repeat constructor))|(apply R.fieldAddr T6;exact rfl;exact rfl;exact rfl;exact rfl)|(apply R.cmp;exact rfl;exact rfl;exact rfl;all_goals intro hc;all_goals(try(exfalso;omega)))|(apply R.arith;exact rfl;exact rfl;exact rfl;exact(ju (by omega) (by omega)))|(apply R.build T6;exact rfl;exact rfl;exact rfl;exact rfl;exact rfl;exact rfl)|(apply R.buildSlice T6;exact rfl;exact rfl;exact rfl;exact rfl;exact(by decide);exact rfl;exact rfl;exact rfl;exact rfl;exact rfl)|(apply R.not;exact rfl;exact rfl)|(apply R.qO T6;exact rfl;exact rfl)|(apply R.Bm T6;exact rfl;exact rfl;exact rfl)|(apply R.Bn T6;exact rfl;exact rfl;exact rfl;exact rfl;exact rfl;exact rfl)|(apply R.vy T6;exact rfl;exact rfl;exact rfl;exact rfl)|refine Ev.seq ?_ |refine Ev.region ?_ |refine aW.nil ?_ |(apply D.assign;exact rfl)|(apply Ev.iG;exact rfl)|refine Ev.ret ?_ |refine Ev.skip ?_ |refine Ev.exit ?_ |refine Ev.block ?_ |refine aE.normal ?_ |refine aE.exit ?_ |refine az.normal ?_ |refine az.Lr ?_ |refine aI.normal ?_ |refine aI.exit ?_ |(apply aJ.ret;exact rfl)|fail)
  revert hc;exact q0.1):P:=h ⟨q0⟩
theorem wXG {P Q0:Prop} (q0:Q0) (h:Wq Q0->P:=by
  intro q0
  repeat' (first |(refine Rn.go ?_;conv=>whnf)|refine .mk ?_ |refine .tt ?_ |refine .ff ?_ |refine .m2 ?_ |refine .lp λv H lp=>?_ |fail)
  revert lp;revert H;revert v;exact q0.1):P:=h ⟨q0⟩
theorem wXH {P Q0:Prop} (q0:Q0) (h:Wq Q0->P:=by
  intro q0
  repeat' (first |(refine Rn.go ?_;conv=>whnf)|((fail_if_success (show Qn _ _ _ _ _));refine .mk ?_)|refine .tt ?_ |refine .ff ?_ |fail)
  exact q0.1):P:=h ⟨q0⟩
theorem wXI {P Q0 Q1 Q2:Prop} (q0:Q0) (q1:Q1) (q2:Q2) (h:Wq Q0->Wq Q1->Wq Q2->P:=by
  intro q0 q1 q2
  repeat' (first |(refine Rn.go ?_;conv=>whnf)|refine .mk ?_ |refine .tt ?_ |refine .ff ?_ |refine .mk (λhc=>?_) λhc=>?_ |fail)
  ·revert hc;exact q0.1
  ·revert hc;revert hc;exact q1.1
  ·revert hc;revert hc;exact q2.1):P:=h ⟨q0⟩ ⟨q1⟩ ⟨q2⟩
theorem wXJ {P Q0 Q1:Prop} (q0:Q0) (q1:Q1) (h:Wq Q0->Wq Q1->P:=by
  intro q0 q1
  repeat' (first |refine ah.nil ?_ |(apply R.va;exact rfl;exact rfl;exact rfl)|(apply R.mE;exact rfl;exact rfl;exact rfl)|(apply R.move;exact rfl)|(apply R.assign;exact rfl)|(apply R.iF;exact rfl;exact rfl)|(apply R.gT;exact rfl;exact rfl)|(apply R.fJ T6;exact rfl;exact rfl;exact rfl;exact rfl)|(apply R.fieldAddr T6;exact rfl;exact rfl;exact rfl;exact rfl)|(apply R.nT T6;exact rfl;exact rfl;exact rfl;exact rfl;exact rfl)|(apply R.cmp;exact rfl;exact rfl;exact rfl;all_goals intro hc;all_goals(try(exfalso;omega)))|(apply R.arith;exact rfl;exact rfl;exact rfl;exact(ju (by omega) (by omega)))|(apply R.neg;exact rfl;exact(ju (by omega) (by omega)))|(apply R.buildSlice T6;exact rfl;exact rfl;exact rfl;exact rfl;exact(by decide);exact rfl;exact rfl;exact rfl;exact rfl;exact rfl)|(apply R.qO T6;exact rfl;exact rfl)|(apply R.vy T6;exact rfl;exact rfl;exact rfl;exact rfl)|(apply R.tJ T6;exact rfl;exact rfl;exact rfl;exact(by repeat constructor))|refine Ev.seq ?_ |refine Ev.region ?_ |(apply Ev.iG;exact rfl)|refine Ev.ret ?_ |refine Ev.skip ?_ |refine Ev.exit ?_ |refine Ev.block ?_ |refine aE.normal ?_ |refine aE.ret ?_ |refine aE.exit ?_ |refine az.normal ?_ |refine az.ret ?_ |refine az.Lr ?_ |refine aI.normal ?_ |refine aI.ret ?_ |refine aI.exit ?_ |(apply aJ.ret;exact rfl)|fail)
  ·revert hc;exact q0.1
  ·revert hc;exact q1.1):P:=h ⟨q0⟩ ⟨q1⟩
theorem wXK {P Q0 Q1 Q2:Prop} (q0:Q0) (q1:Q1) (q2:Q2) (h:Wq Q0->Wq Q1->Wq Q2->P:=by
  intro q0 q1 q2
  repeat' (first |(refine Rn.go ?_;conv=>whnf)|refine .mk ?_ |refine .mk (λhc=>?_) λhc=>?_ |fail)
  ·revert hc;revert hc;exact q0.1
  ·revert hc;revert hc;exact q1.1
  ·revert hc;exact q2.1):P:=h ⟨q0⟩ ⟨q1⟩ ⟨q2⟩
theorem wXL {P Q0 Q1 Q2:Prop} (q0:Q0) (q1:Q1) (q2:Q2) (h:Wq Q0->Wq Q1->Wq Q2->P:=by
  intro q0 q1 q2
  repeat' (first |refine ah.nil ?_ |(apply R.va;exact rfl;exact rfl;exact rfl)|(apply R.mE;exact rfl;exact rfl;exact rfl)|(apply R.move;exact rfl)|(apply R.assign;exact rfl)|(apply R.iF;exact rfl;exact rfl)|(apply R.gT;exact rfl;exact rfl)|(apply R.fJ T6;exact rfl;exact rfl;exact rfl;exact rfl)|(apply R.k9 T6;exact rfl;exact rfl;exact rfl;exact rfl;exact(by repeat constructor))|(apply R.fieldAddr T6;exact rfl;exact rfl;exact rfl;exact rfl)|(apply R.cmp;exact rfl;exact rfl;exact rfl;all_goals intro hc)|(apply R.arith;exact rfl;exact rfl;exact rfl;exact(ju (by omega) (by omega)))|(apply R.build T6;exact rfl;exact rfl;exact rfl;exact rfl;exact rfl;exact rfl)|(apply R.Be T6;exact rfl;exact rfl)|(apply R.box;exact rfl;exact rfl;exact rfl;exact .nil)|(apply R.Bm T6;exact rfl;exact rfl;exact rfl)|(apply R.Bn T6;exact rfl;exact rfl;exact rfl;exact rfl;exact rfl;exact rfl)|(apply R.oP T6;exact rfl;exact rfl;exact rfl;exact(by assumption);exact rfl)|(apply R.xX T6;exact rfl;exact rfl;exact rfl;exact(by assumption);exact(by repeat constructor))|refine Ev.seq ?_ |refine Ev.region ?_ |refine Ev.kG ?_ |refine aW.nil ?_ |(apply D.move;exact rfl)|(apply D.assign;exact rfl)|(apply D.va;exact rfl;exact rfl;exact rfl;exact rfl)|(apply D.mE;exact rfl;exact rfl;exact rfl)|(apply D.gT;exact rfl;exact rfl)|(apply D.cmp;exact rfl;exact rfl;exact rfl;all_goals intro hc)|(apply Ev.iG;exact rfl)|refine Ev.ret ?_ |refine Ev.skip ?_ |refine Ev.exit ?_ |refine Ev.block ?_ |refine aE.normal ?_ |refine aE.ret ?_ |refine aE.exit ?_ |refine az.normal ?_ |refine az.ret ?_ |refine az.Lr ?_ |refine aI.exit ?_ |(apply aJ.ret;exact rfl)|fail)
  ·revert hc;exact q0.1
  ·revert hc;revert hc;exact q1.1
  ·revert hc;revert hc;exact q2.1):P:=h ⟨q0⟩ ⟨q1⟩ ⟨q2⟩
theorem wXM {P Q0 Q1:Prop} (q0:Q0) (q1:Q1) (h:Wq Q0->Wq Q1->P:=by
  intro q0 q1
  repeat' (first |(refine Rn.go ?_;conv=>whnf)|refine .mk ?_ |refine .tt ?_ |refine .mk (λhc=>?_) λhc=>?_ |refine .lp λv H lp=>?_ |fail)
  ·revert lp;revert H;revert v;revert hc;exact q0.1
  ·revert hc;exact q1.1):P:=h ⟨q0⟩ ⟨q1⟩
theorem wXN {P Q0 Q1:Prop} (q0:Q0) (q1:Q1) (h:Wq Q0->Wq Q1->P:=by
  intro q0 q1
  repeat' (first |refine ah.nil ?_ |(apply R.move;exact rfl)|(apply R.assign;exact rfl)|(apply R.k9 T6;exact rfl;exact rfl;exact rfl;exact rfl;exact(by repeat constructor))|(apply R.fieldAddr T6;exact rfl;exact rfl;exact rfl;exact rfl)|(apply R.cmp;exact rfl;exact rfl;exact rfl;all_goals intro hc;all_goals(try(exfalso;omega)))|(apply R.arith;exact rfl;exact rfl;exact rfl;exact(ju (by omega) (by omega)))|(apply R.buildSlice T6;exact rfl;exact rfl;exact rfl;exact rfl;exact(by decide);exact rfl;exact rfl;exact rfl;exact rfl;exact rfl)|(apply R.qO T6;exact rfl;exact rfl)|(apply R.Bm T6;exact rfl;exact rfl;exact rfl)|(apply R.Bn T6;exact rfl;exact rfl;exact rfl;exact rfl;exact rfl;exact rfl)|(apply R.vy T6;exact rfl;exact rfl;exact rfl;exact rfl)|(apply R.tJ T6;exact rfl;exact rfl;exact rfl;exact(by repeat constructor))|refine Ev.seq ?_ |refine Ev.region ?_ |(apply Ev.iG;exact rfl)|refine Ev.skip ?_ |refine aE.normal ?_ |refine az.normal ?_ |refine aI.normal ?_ |fail)
  ·revert hc;revert hc;exact q0.1
  ·revert hc;revert hc;exact q1.1):P:=h ⟨q0⟩ ⟨q1⟩
theorem wXO {P Q0 Q1 Q2 Q3 Q4 Q5 Q6:Prop} (q0:Q0) (q1:Q1) (q2:Q2) (q3:Q3) (q4:Q4) (q5:Q5) (q6:Q6) (h:Wq Q0->Wq Q1->Wq Q2->Wq Q3->Wq Q4->Wq Q5->Wq Q6->P:=by
  intro q0 q1 q2 q3 q4 q5 q6
  repeat' (first |(refine Rn.go ?_;conv=>whnf)|refine .mk ?_ |refine .mk (λhc=>?_) λhc=>?_ |fail)
  ·revert hc;exact q0.1
  ·revert hc;revert hc;exact q1.1
  ·revert hc;revert hc;revert hc;exact q2.1
  ·revert hc;revert hc;revert hc;revert hc;exact q3.1
  ·revert hc;revert hc;revert hc;revert hc;revert hc;exact q4.1
  ·revert hc;revert hc;revert hc;revert hc;revert hc;revert hc;exact q5.1
  ·revert hc;revert hc;revert hc;revert hc;revert hc;revert hc;exact q6.1):P:=h ⟨q0⟩ ⟨q1⟩ ⟨q2⟩ ⟨q3⟩ ⟨q4⟩ ⟨q5⟩ ⟨q6⟩
theorem wXP {P Q0 Q1 Q2:Prop} (q0:Q0) (q1:Q1) (q2:Q2) (h:Wq Q0->Wq Q1->Wq Q2->P:=by
  intro q0 q1 q2
  repeat' (first |(apply R.jm T6 (i:=0);exact rfl;exact rfl;exact rfl;assumption)|refine ah.nil ?_ |(apply R.va;exact rfl;exact rfl;exact rfl)|(apply R.mE;exact rfl;exact rfl;exact rfl)|(apply R.QS;exact rfl;exact rfl)|(apply R.move;exact rfl)|(apply R.assign;exact rfl)|(apply R.iF;exact rfl;exact rfl)|(apply R.gT;exact rfl;exact rfl)|(apply R.fJ T6;exact rfl;exact rfl;exact rfl;exact rfl)|(apply R.k9 T6;exact rfl;exact rfl;exact rfl;exact rfl;exact(by repeat constructor))|(apply R.nT T6;exact rfl;exact rfl;exact rfl;exact rfl;exact rfl)|(apply R.cmp;exact rfl;exact rfl;exact rfl;all_goals intro hc;all_goals(try(exfalso;omega)))|(apply R.arith;exact rfl;exact rfl;exact rfl;exact(ju (by omega) (by omega)))|(apply R.QX;exact rfl;exact rfl;all_goals intro hc)|(apply R.Be T6;exact rfl;exact rfl)|(apply R.qO T6;exact rfl;exact rfl)|refine Ev.seq ?_ |refine Ev.region ?_ |refine Ev.kG ?_ |refine aW.nil ?_ |(apply D.move;exact rfl)|(apply D.va;exact rfl;exact rfl;exact rfl;exact rfl)|(apply D.mE;exact rfl;exact rfl;exact rfl)|(apply D.gT;exact rfl;exact rfl)|(apply D.cmp;exact rfl;exact rfl;exact rfl;all_goals intro hc;all_goals(try(exfalso;omega)))|(apply D.arith;exact rfl;exact rfl;exact rfl;exact(ju (by omega) (by omega)))|(apply Ev.iG;exact rfl)|refine Ev.ret ?_ |refine Ev.skip ?_ |refine aE.normal ?_ |refine aE.ret ?_ |refine az.normal ?_ |refine az.ret ?_ |refine aI.normal ?_ |refine aI.ret ?_ |(apply aJ.ret;exact rfl)|fail)
  ·revert hc;exact q0.1
  ·revert hc;revert hc;exact q1.1
  ·revert hc;revert hc;exact q2.1):P:=h ⟨q0⟩ ⟨q1⟩ ⟨q2⟩
theorem wXQ {P Q0 Q1 Q2 Q3:Prop} (q0:Q0) (q1:Q1) (q2:Q2) (q3:Q3) (h:Wq Q0->Wq Q1->Wq Q2->Wq Q3->P:=by
  intro q0 q1 q2 q3
  repeat' (first |refine ah.nil ?_ |(apply R.va;exact rfl;exact rfl;exact rfl)|(apply R.mE;exact rfl;exact rfl;exact rfl)|(apply R.move;exact rfl)|(apply R.assign;exact rfl)|(apply R.iF;exact rfl;exact rfl)|(apply R.gT;exact rfl;exact rfl)|(apply R.fJ T6;exact rfl;exact rfl;exact rfl;exact rfl)|(apply R.fieldAddr T6;exact rfl;exact rfl;exact rfl;exact rfl)|(apply R.cmp;exact rfl;exact rfl;exact rfl;all_goals intro hc)|(apply R.T5;exact rfl;exact rfl;exact rfl;all_goals intro hc)|(apply R.oP T6;exact rfl;exact rfl;exact rfl;exact(by assumption);exact rfl)|refine Ev.seq ?_ |refine Ev.region ?_ |(apply Ev.iG;exact rfl)|refine Ev.ret ?_ |refine Ev.skip ?_ |refine aE.normal ?_ |refine aE.ret ?_ |(apply aJ.ret;exact rfl)|fail)
  ·revert hc;exact q0.1
  ·revert hc;revert hc;exact q1.1
  ·revert hc;revert hc;revert hc;exact q2.1
  ·revert hc;revert hc;revert hc;exact q3.1):P:=h ⟨q0⟩ ⟨q1⟩ ⟨q2⟩ ⟨q3⟩
theorem wXS {P Q0 Q1 Q2 Q3 Q4:Prop} (q0:Q0) (q1:Q1) (q2:Q2) (q3:Q3) (q4:Q4) (h:Wq Q0->Wq Q1->Wq Q2->Wq Q3->Wq Q4->P:=by
  intro q0 q1 q2 q3 q4
  repeat' (first |refine ah.nil ?_ |(apply R.va;exact rfl;exact rfl;exact rfl)|(apply R.mE;exact rfl;exact rfl;exact rfl)|(apply R.QS;exact rfl;exact rfl)|(apply R.move;exact rfl)|(apply R.assign;exact rfl)|(apply R.iF;exact rfl;exact rfl)|(apply R.gT;exact rfl;exact rfl)|(apply R.fJ T6;exact rfl;exact rfl;exact rfl;exact rfl)|(apply R.fieldAddr T6;exact rfl;exact rfl;exact rfl;exact rfl)|(apply R.cmp;exact rfl;exact rfl;exact rfl;all_goals intro hc)|(apply R.QX;exact rfl;exact rfl;all_goals intro hc)|(apply R.box;exact rfl;exact rfl;exact rfl;exact .nil)|refine Ev.seq ?_ |refine Ev.region ?_ |refine Ev.ret ?_ |refine aE.normal ?_ |(apply aJ.ret;exact rfl)|fail)
  ·revert hc;revert hc;exact q0.1
  ·revert hc;revert hc;revert hc;exact q1.1
  ·revert hc;revert hc;revert hc;revert hc;exact q2.1
  ·revert hc;revert hc;revert hc;revert hc;exact q3.1
  ·revert hc;exact q4.1):P:=h ⟨q0⟩ ⟨q1⟩ ⟨q2⟩ ⟨q3⟩ ⟨q4⟩
namespace Go.Pm
inductive PV where
 |int (k:IntKind) (n:Int)
 |bool (b:Bool)
 |str (s:ByteArray)
 |agg (cs:List PV)
 |cx (vs:List PV)
 |aa (full:Bool) (es:List PV)
 |ak (id ep off len:Nat)
 |ptr (id ep i off:Nat)
 |eH (cs:List PV)
 |cB (id:Nat)
 |gm
 |ek
 |aG
 |fn (f:FuncId) (di:List PV)
 |ni (f:FuncId) (k:Nat) (cs:List PV)
 |undef
 |any
 deriving Inhabited
inductive Mu where
 |m |l |f |x
 deriving DecidableEq,Inhabited
structure au where
 mu:Mu
 ep:Nat
 bC:Nat
 es:List PV
 deriving Inhabited
abbrev ab:=List au
structure St where
 ρ:Nat->PV
 h:ab
def nj(ρ:Nat->PV)(d:Nat)(v:PV):Nat->PV:=λt=>if t=d then v else ρ t
def b9(ρ:Nat->PV)(d:Option Nat)(v:PV):Nat->PV:=
 match d with
 |some d=>nj ρ d v
 |none=>ρ
def cells:PV->List PV
 | .agg cs=>cs
 |v=>[v]
def bI:PV->Bool
 | .agg _ | .cx _ | .undef | .any=>false
 |_=>true
mutual
def aV:PV->Bool
 | .int .. | .bool _ | .str _ | .ek | .aG | .gm | .aa .. | .eH _=>true
 | .agg cs=>ao cs
 | .cx cs=>ao cs
 | .fn _ cs=>ao cs
 | .ni _ _ cs=>ao cs
 | .ak .. | .ptr .. | .cB _ | .undef | .any=>false
def ao:List PV->Bool
 |[]=>true
 |c::r=>aV c&&ao r
end
mutual
def dU:PV->Bool
 | .int .. | .bool _ | .str _ | .ek | .aG | .gm=>true
 | .agg cs=>ot cs
 | .cx cs=>ot cs
 |_=>false
def ot:List PV->Bool
 |[]=>true
 |c::r=>dU c&&ot r
end
mutual
def cf:PV->PV
 | .aa _ es=>.aa false (aQ es)
 | .agg cs=>.agg (aQ cs)
 | .cx cs=>.cx (aQ cs)
 | .fn f cs=>.fn f (aQ cs)
 | .ni f k cs=>.ni f k (aQ cs)
 | .eH cs=>.eH (aQ cs)
 |p=>p
def aQ:List PV->List PV
 |[]=>[]
 |c::r=>cf c::aQ r
end
def U1:Value->PV
 | .int k n=>.int k n
 | .bool b=>.bool b
 | .string s=>.str s
 | .slice none 0 0=>.aa true []
 | .pointer none=>.ek
 | .nilFunc=>.aG
 | .map none=>.gm
 |_=>.any
def cv:Value->PV
 | .agg cs=>.agg (cs.toList.map U1)
 |v=>U1 v
def ev(ρ:Nat->PV):Operand->PV
 | .tmp t=>ρ t
 | .const v=>cv v
 | .func f=>.fn f []
 | .global _=>.any
def cu(P:Program)(t:TypeId):Option Nat:=(P.info? t).map (·.size)
def mb(P:Program)(t:TypeId):Option Nat:=(P.info? t).map (·.bytes)
def iQ(P:Program)(t:TypeId):Option PV:=((P.info? t).bind (·.zero)).map cv
def Hl(P:Program)(t:TypeId):Option Bool:=(P.underlying t).map λ| .struct _ | .array _ _=>true |_=>false
def getM(h:ab)(id ep:Nat):Option au:=
 match h[id]? with
 |some o=>if o.ep=ep/\o.mu≠.x then some o else none
 |none=>none
def cw(h:ab):PV->Option (List PV)
 | .aa _ es=>some es
 | .ak id ep off len=>match getM h id ep with
  |some o=>if off+len<=o.es.length then some ((o.es.drop off).take len)else none
  |none=>none
 |_=>none
def cK(h:ab):PV->Option (List PV)
 | .eH cs=>some cs
 | .ptr id ep i off=>match getM h id ep with
  |some o=>match o.es[i]? with
   |some e=>some ((cells e).drop off)
   |none=>none
  |none=>none
 |_=>none
def iB(P:Program)(h:ab)(t:TypeId)(p:PV):Option PV:=
 match cu P t,Hl P t,cK h p with
 |some sz,some true,some cs=>if 0<sz/\sz<=cs.length then some (.agg (cs.take sz))else none
 |some _,some false,some cs=>match cs with
  |c::_=>some c
  |[]=>none
 |_,_,_=>none
def eI(off sz:Nat)(e v:PV):PV:=
 if off=0/\sz=(cells e).length then v else .agg ((cells e).take off++cells v++(cells e).drop (off+sz))
def gH(P:Program)(h:ab)(t:TypeId)(p v:PV):Option ab:=
 match p,cu P t with
 | .ptr id ep i off,some sz=>match getM h id ep with
  |some o=>match o.es[i]? with
   |some e=>if o.mu=.m/\(cells v).length=sz/\(cells v).all bI=true/\off+sz<=(cells e).length then
     some (h.set id {o with es:=o.es.set i (eI off sz e v)})else none
   |none=>none
  |none=>none
 |_,_=>none
def newObj(h:ab)(bC:Nat)(es:List PV):ab:=h++[{mu:=.m,ep:=0,bC,es}]
def ry(cs:List PV)(off:Nat)(vs:List PV):List PV:=cs.take off++vs++cs.drop (off+vs.length)
def jU(place:Nat->Option (Nat×Nat))(cs:List PV):List (Nat×PV)->Option (List PV)
 |[]=>some cs
 |(i,v)::rest=>match place i with
  |none=>none
  |some (off,size)=>
   if(cells v).length=size/\(cells v).all bI=true/\off+size<=cs.length then jU place (ry cs off (cells v)) rest else none
def iC(P:Program)(fs:Array Field)(i:Nat):Option (Nat×Nat):=
 match fs[i]? with
 |some f=>(cu P f.type).map λs=>(f.offset,s)
 |none=>none
def vH(P:Program)(t:TypeId)(parts:List (Nat×PV)):Option PV:=
 match iQ P t,P.underlying t with
 |some z,some (.struct fs)=>if fs.toList.all (λf=>(cu P f.type).isSome)=true/\(cells z).all bI=true then(jU (iC P fs) (cells z) parts).map .agg else none
 |some z,some (.array _ e)=>match cu P e with
  |some size=>if(cells z).all bI=true then(jU (λi=>some (i * size,size)) (cells z) parts).map .agg else none
  |none=>none
 |_,_=>none
def yv(z:PV)(n:Nat)(parts:List (Nat×PV)):List PV:=parts.foldl (λes x=>es.set x.1 x.2) (List.replicate n z)
def dy(P:Program)(lv:Nat)(h:ab)(t:TypeId)(len:Nat)(parts:List (Nat×PV)):Option (PV×ab):=
 match P.underlying t with
 |some (.slice e)=>match cu P e,iQ P e with
  |some size,some z=>
   if 0<size/\len * size<=16777216/\(cells z).length=size/\(cells z).all bI=true/\parts.all (λp=>decide ((cells p.2).length=size)&& (cells p.2).all bI&&decide (p.1<len))=true then
    if ao (yv z len parts)then some (.aa true (yv z len parts),h)
    else if 2<=lv then some (.ak h.length 0 0 len,newObj h size (yv z len parts))else none
   else none
  |_,_=>none
 |_=>none
def gD(op:BinOp)(k:IntKind)(a b:Int):Option PV:=
 match op with
 | .add=>some (.int k (k.wrap (a+b)))
 | .sub=>some (.int k (k.wrap (a - b)))
 | .mul=>some (.int k (k.wrap (a * b)))
 | .quo=>if b=0 then none else some (.int k (k.wrap (a.tdiv b)))
 | .rem=>if b=0 then none else some (.int k (a.tmod b))
 | .eql=>some (.bool (a==b))
 | .neq=>some (.bool (a !=b))
 | .lss=>some (.bool (decide (a<b)))
 | .leq=>some (.bool (decide (a<=b)))
 | .gtr=>some (.bool (decide (a>b)))
 | .geq=>some (.bool (decide (a>=b)))
 | .and=>some (.int k (k.wrap (BitVec.ofInt k.bits a&&&BitVec.ofInt k.bits b).toNat))
 | .or=>some (.int k (k.wrap (BitVec.ofInt k.bits a |||BitVec.ofInt k.bits b).toNat))
 | .xor=>some (.int k (k.wrap (BitVec.ofInt k.bits a^^^BitVec.ofInt k.bits b).toNat))
 |_=>none
def pP(op:BinOp)(k:IntKind)(x y:Int):Option PV:=
 if y<0 then none else
 match op with
 | .shl=>some (.int k (k.wrap (x * 2^ (min y.toNat k.bits))))
 | .shr=>some (.int k (x.fdiv (2^ (min y.toNat k.bits))))
 |_=>none
def lR(op:BinOp)(x y:ByteArray):Option PV:=
 match op with
 | .add=>if((x.size+y.size:Nat):Int)>IntKind.i64.max then none else some (.str (x++y))
 | .eql=>some (.bool (x.toList==y.toList))
 | .neq=>some (.bool !(x.toList==y.toList))
 | .lss=>some (.bool (Op.bytesLess x.toList y.toList))
 | .leq=>some (.bool (Op.bytesLess x.toList y.toList ||x.toList==y.toList))
 | .gtr=>some (.bool !(Op.bytesLess x.toList y.toList ||x.toList==y.toList))
 | .geq=>some (.bool !(Op.bytesLess x.toList y.toList))
 |_=>none
def fj(P:Program)(op:BinOp)(t:TypeId)(x y:PV):Option PV:=
 match x,y with
 | .int k a,.int k' b=>match op with
  | .shl | .shr=>pP op k a b
  |_=>if k=k' then gD op k a b else none
 | .str a,.str b=>lR op a b
 | .bool a,.bool b=>match P.underlying t with
  |some .bool=>match op with
   | .eql=>some (.bool (a==b))
   | .neq=>some (.bool !(a==b))
   |_=>none
  |_=>none
 |_,_=>none
def P9(op:UnOp)(x:PV):Option PV:=
 match op,x with
 | .neg,.int k n=>some (.int k (k.wrap (0 - n)))
 | .not,.bool b=>some (.bool !b)
 |_,_=>none
def JN:PV->Option Int
 | .int .u8 n=>some n
 |_=>none
def nk:List PV->Option (List Int)
 |[]=>some []
 |c::r=>match JN c with
  |some n=>match nk r with
   |some l=>some (n::l)
   |none=>none
  |none=>none
def Q8(xs:List Int):ByteArray:=⟨(xs.map λn=>UInt8.ofNat n.toNat).toArray⟩
def vI(P:Program)(src dst:TypeId)(x:PV):Option PV:=
 match P.underlying src,P.underlying dst,x with
 |some _,some (.int k),.int _ n=>some (.int k (k.wrap n))
 |some _,some .string,.str s=>some (.str s)
 |some (.slice e),some .string,.aa _ es=>match P.underlying e,nk es with
  |some (.int .u8),some l=>some (.str (Q8 l))
  |_,_=>none
 |_,_,_=>none
def cF(x:Option PV)(dflt top:Nat):Option Nat:=
 match x with
 |none=>some dflt
 |some (.int _ i)=>if 0<=i/\i<=(top:Int)then some i.toNat else none
 |some _=>none
def beyond(mx hi:Option PV)(len top:Nat):Option Nat:=
 match mx,hi with
 |none,some (.int k i)=>if(len:Int)<i then cF (some (.int k i)) 0 top else none
 |_,_=>none
def cg(P:Program)(h:ab)(t:TypeId)(x:PV)(lo hi mx:Option PV):Option PV:=
 match P.underlying t,x with
 |some .string,.str s=>if mx.isSome then none else
  match cF hi s.size s.size with
  |some b=>match cF lo 0 b with
   |some a=>some (.str (s.extract a b))
   |none=>none
  |none=>none
 |some (.slice e),.aa full es=>match cu P e with
  |some sz=>match cF mx es.length es.length with
   |some m=>match cF hi es.length m with
    |some b=>match cF lo 0 b with
     |some a=>if(mx.isSome&&hi.isNone)=false/\(es[a]?).all (λv=>(cells v).length==sz)=true then some (.aa (if mx.isSome then m==b else full&&b==es.length) ((es.drop a).take (b - a)))else none
     |none=>none
    |none=>none
   |none=>none
  |none=>none
 |some (.slice e),.ak id ep off len=>match cu P e,getM h id ep with
  |some sz,some o=>if sz=o.bC/\off+len<=o.es.length then
    match beyond mx hi len (o.es.length - off)with
    |some b=>match cF lo 0 b with
     |some a=>if a=0 then some (.ak id ep off b)else if b - a=0 then some (.aa false [])else some (.ak id ep (off+a) (b - a))
     |none=>none
    |none=>
    match cF mx len len with
    |some m=>match cF hi len m with
     |some b=>match cF lo 0 b with
      |some a=>if(mx.isSome&&hi.isNone)=false then
        (if mx.isSome then(if m=a then some (.aa true [])else some .any)
         else if a=0 then some (.ak id ep off b)else if b - a=0 then some (.aa false [])else some (.ak id ep (off+a) (b - a)))
       else none
      |none=>none
     |none=>none
    |none=>none
   else none
  |_,_=>none
 |_,_=>none
def ou(P:Program)(s:TypeId)(f:Nat):Option (Nat×TypeId):=
 match P.underlying s with
 |some (.struct fs)=>match fs[f]? with
  |some fl=>match cu P fl.type with
   |some sz=>if sz=0 then none else some (fl.offset,fl.type)
   |none=>none
  |none=>none
 |_=>none
def fU(P:Program)(s:TypeId)(p:PV)(f:Nat):Option PV:=
 match ou P s f,p with
 |some (off,_),.eH cs=>if off<cs.length then some (.eH (cs.drop off))else none
 |some (off,_),.ptr id ep i o=>some (.ptr id ep i (o+off))
 |_,_=>none
def vJ(P:Program)(t:TypeId)(cs:List PV)(off:Nat):Option PV:=
 match Hl P t,cu P t with
 |some true,some sz=>if off+sz<=cs.length then some (.agg ((cs.drop off).take sz))else none
 |some false,some _=>match cs[off]? with
  |some c=>some c
  |none=>none
 |_,_=>none
def Aq(P:Program)(s:TypeId)(x:PV)(f:Nat):Option PV:=
 match P.underlying s,x with
 |some (.struct fs),.agg cs=>match fs[f]? with
  |some fl=>vJ P fl.type cs fl.offset
  |none=>none
 |_,_=>none
def cy(P:Program)(h:ab)(t:TypeId)(x ix:PV):Option PV:=
 match P.underlying t,x,ix with
 |some (.slice e),.aa _ es,.int _ i=>match cu P e with
  |some sz=>if 0<=i/\i<(es.length:Int)then
    match es[i.toNat]? with
    |some v=>if 0<sz/\(cells v).length=sz then some (.eH (cells v))else none
    |none=>none
   else none
  |none=>none
 |some (.slice e),.ak id ep off len,.int _ i=>match cu P e,getM h id ep with
  |some sz,some o=>if 0<=i/\i<(len:Int)/\sz=o.bC/\off+len<=o.es.length then some (.ptr id ep (off+i.toNat) 0)else none
  |_,_=>none
 |some (.array n e),.eH cs,.int _ i=>match cu P e with
  |some sz=>if 0<=i/\i<(n:Int)/\i.toNat * sz<cs.length then some (.eH (cs.drop (i.toNat * sz)))else none
  |none=>none
 |some (.array n e),.ptr id ep k o,.int _ i=>match cu P e with
  |some sz=>if 0<=i/\i<(n:Int)then some (.ptr id ep k (o+i.toNat * sz))else none
  |none=>none
 |_,_,_=>none
def vK(P:Program)(t:TypeId)(x ix:PV):Option PV:=
 match P.underlying t,x,ix with
 |some (.array n e),.agg cs,.int _ i=>match cu P e with
  |some sz=>if 0<=i/\i<(n:Int)then vJ P e cs (i.toNat * sz)else none
  |none=>none
 |some .string,.str s,.int _ i=>if 0<=i then
   match s[i.toNat]? with
   |some b=>some (.int .u8 b.toNat)
   |none=>none
  else none
 |_,_,_=>none
def BC(h:ab)(id:Nat):Option au:=
 match getM h id 0 with
 |some o=>if o.bC=0 then some o else none
 |none=>none
def rz:PV->PV->Option Bool
 | .int k a,.int k' b=>if k=k' then some (a==b)else none
 | .str a,.str b=>some (a==b)
 | .bool a,.bool b=>some (a==b)
 |_,_=>none
def mr(k:PV):List PV->Nat->Option (Option (Nat×PV))
 |[],_=>some none
 |e::es,i=>match e with
  | .agg [k',v]=>match rz k k' with
   |some true=>some (some (i,v))
   |some false=>mr k es (i+1)
   |none=>none
  |_=>none
def yw(P:Program)(t:TypeId)(k:PV):Bool:=
 match P.underlying t,k with
 |some (.int k),.int k' _=>decide (k'=k)
 |some .string,.str _ |some .bool,.bool _=>true
 |_,_=>false
def gp(ok:Bool)(v:PV)(b:Bool):PV:=if ok then .cx [v,.bool b]else v
def nm(P:Program)(h:ab)(t:TypeId)(m k:PV)(ok:Bool):Option PV:=
 match P.underlying t with
 |some (.map kt et)=>match iQ P et with
  |some z=>if yw P kt k=true then
    match m with
    | .gm=>some (gp ok z false)
    | .cB id=>match BC h id with
     |some o=>match mr k o.es 0 with
      |some (some (_,v))=>some (gp ok v true)
      |some none=>some (gp ok z false)
      |none=>none
     |none=>none
    |_=>none
   else none
  |none=>none
 |_=>none
def JO(k v:PV)(es:List PV):Option (List PV):=
 match mr k es 0 with
 |some (some (i,_))=>some (es.set i (.agg [k,v]))
 |some none=>some (es++[.agg [k,v]])
 |none=>none
def np(P:Program)(h:ab)(t:TypeId)(m k v:PV):Option ab:=
 match P.underlying t,m with
 |some (.map kt _),.cB id=>match BC h id with
  |some o=>if yw P kt k=true/\o.mu=.m then
    match JO k v o.es with
    |some es=>some (h.set id {o with es})
    |none=>none
   else none
  |none=>none
 |_,_=>none
def ms(P:Program)(lv:Nat)(h:ab)(t:TypeId)(r:Option PV):Option (PV×ab):=
 if 1<=lv then
  match r,P.underlying t with
  |none,_=>some (.cB h.length,newObj h 0 [])
  |some (.int _ _),some (.map _ _)=>some (.cB h.length,newObj h 0 [])
  |_,_=>none
 else none
def ov(P:Program)(h:ab)(t:TypeId)(x:PV):Option PV:=
 match P.underlying t,x with
 |some .string,.str s=>some (.int .i64 s.size)
 |some (.array n _),_=>some (.int .i64 n)
 |some (.slice _),.aa _ es=>some (.int .i64 es.length)
 |some (.map _ _),.gm=>some (.int .i64 0)
 |some (.map _ _),.cB id=>match BC h id with
  |some o=>some (.int .i64 o.es.length)
  |none=>none
 |some (.slice _),.ak id ep off len=>match getM h id ep with
  |some o=>if off+len<=o.es.length then some (.int .i64 len)else none
  |none=>none
 |_,_=>none
def cG(P:Program)(h:ab)(z:PV)(xt:TypeId)(x:PV):Option (List PV):=
 match P.underlying xt,x with
 |some (.int _),.int _ n=>if 0<=n/\n<=1073741824 then some (List.replicate n.toNat z)else none
 |some (.slice _),x=>cw h x
 |_,_=>none
def roomy(n bytes:Nat):Bool:=decide (n * bytes<=17592186044416)&&decide (n<=17592186044416)
def jQ(id:Nat):PV->Bool
 | .ak i _ _ _=>i==id
 |_=>false
def bQ(P:Program)(lv:Nat)(h:ab)(st xt:TypeId)(s x:PV):Option (PV×ab):=
 match P.underlying st with
 |some (.slice e)=>match cu P e,mb P e,iQ P e with
  |some sz,some bytes,some z=>match cG P h z xt x with
   |some ys=>
    if 0<sz/\bytes<=65536/\((cells z).length=sz/\(cells z).all bI=true)/\ys.all (λv=>decide ((cells v).length=sz)&& (cells v).all bI)=true then
     match s with
     | .aa full es=>
      if ys.isEmpty then some (s,h)
      else if full=true/\1<=lv/\roomy (es.length+ys.length) bytes=true/\es.all (λv=>decide ((cells v).length=sz)&& (cells v).all bI)=true then
       some (.ak h.length 0 0 (es.length+ys.length),newObj h sz (es++ys))
      else none
     | .ak id ep off len=>match getM h id ep with
      |some o=>
       if off+len<=o.es.length/\sz=o.bC then
        if ys.isEmpty then some (s,h)
        else if off=0/\2<=lv/\o.mu=.m/\jQ id x=true/\len+ys.length<=o.es.length then
         some (.ak id ep 0 (len+ys.length),h.set id {o with es:=o.es.take len++ys++o.es.drop (len+ys.length)})
        else if off=0/\2<=lv/\o.mu=.m/\roomy (len+ys.length) bytes=true then
         some (.ak id (ep+1) 0 (len+ys.length),h.set id {o with ep:=ep+1,es:=o.es.take len++ys})
        else none
       else none
      |none=>none
     |_=>none
    else none
   |none=>none
  |_,_,_=>none
 |_=>none
def yT(P:Program)(lv:Nat)(h:ab)(dt:TypeId)(d x:PV):Option (PV×ab):=
 match P.underlying dt,d,cw h x with
 |some (.slice e),.ak id ep off len,some ys=>match cu P e,getM h id ep with
  |some sz,some o=>
   if 2<=lv/\o.mu=.m/\sz=o.bC/\off+len<=o.es.length/\ys.all (λv=>decide ((cells v).length=sz))=true/\(ys.take (min ys.length len)).all (λv=>decide ((cells v).length=sz)&& (cells v).all bI)=true then
    let n:=min ys.length len
    some (.int .i64 n,h.set id {o with es:=o.es.take off++ys.take n++o.es.drop (off+n)})
   else none
  |_,_=>none
 |_,_,_=>none
def mf(P:Program)(lv:Nat)(h:ab)(t:TypeId)(x:PV):Option (PV×ab):=
 match P.underlying t,x with
 |some (.slice e),.ak id ep off len=>match cu P e,iQ P e,getM h id ep with
  |some sz,some z,some o=>
   if 2<=lv/\o.mu=.m/\sz=o.bC/\off+len<=o.es.length/\(cells z).length=sz/\(cells z).all bI=true then
    some (.cx [],h.set id {o with es:=o.es.take off++List.replicate len z++o.es.drop (off+len)})
   else none
  |_,_,_=>none
 |some (.slice _),.aa _ []=>some (.cx [],h)
 |_,_=>none
def Q9(P:Program)(t:TypeId)(x:PV):Option PV:=
 match P.underlying t,x with
 |some (.slice _),.aa true es=>some (.int .i64 es.length)
 |_,_=>none
def JP:List PV->Option PV
 |[.int k a,.int _ b]=>some (.int k (if b>a then b else a))
 |_=>none
def NR:List PV->Option PV
 |[.int k a,.int _ b]=>some (.int k (if b<a then b else a))
 |_=>none
def jy(P:Program)(lv:Nat)(h:ab)(t:TypeId)(len cap:PV):Option (PV×ab):=
 match P.underlying t,len,cap with
 |some (.slice e),.int _ n,.int _ c=>match cu P e,mb P e,iQ P e with
  |some sz,some bytes,some z=>
   if 1<=lv/\0<=n/\n<=c/\c<=1073741824/\0<sz/\bytes<=65536/\(cells z).length=sz/\(cells z).all bI=true then
    some (.ak h.length 0 0 n.toNat,newObj h sz (List.replicate n.toNat z))
   else none
  |_,_,_=>none
 |_,_,_=>none
def bo(P:Program)(lv:Nat)(h:ab)(b:Builtin)(ts:List TypeId)(args:List PV):Option (PV×ab):=
 match b,ts,args with
 | .len,t::_,x::_=>(ov P h t x).map (·,h)
 | .append,st::xt::_,s::x::_=>bQ P lv h st xt s x
 | .copy,dt::_,d::x::_=>yT P lv h dt d x
 | .clear,t::_,x::_=>mf P lv h t x
 | .cap,t::_,x::_=>(Q9 P t x).map (·,h)
 | .max,_,xs=>(JP xs).map (·,h)
 | .min,_,xs=>(NR xs).map (·,h)
 |_,_,_=>none
def aC(P:Program)(lv:Nat)(op:Op)(ρ:Nat->PV)(h:ab):Option (PV×ab):=
 match op with
 | .move x | .assign x=>some (ev ρ x,h)
 | .pick c a b=>match ev ρ c with
  | .bool t=>some (if t then ev ρ a else ev ρ b,h)
  |_=>none
 | .alloc t=>match iQ P t with
  |some z=>if 1<=lv/\(cells z).all bI=true/\0<(cells z).length then some (.ptr h.length 0 0 0,newObj h (cells z).length [z])else none
  |none=>none
 | .box _ x=>if 1<=lv/\(cells (ev ρ x)).all bI=true/\0<(cells (ev ρ x)).length then some (.ptr h.length 0 0 0,newObj h (cells (ev ρ x)).length [ev ρ x])else none
 | .build t parts=>(vH P t (parts.toList.map λ(i,x)=>(i,ev ρ x))).map (·,h)
 | .buildSlice t n parts=>dy P lv h t n (parts.toList.map λ(i,x)=>(i,ev ρ x))
 | .load t a=>(iB P h t (ev ρ a)).map (·,h)
 | .store t a x=>if 2<=lv then(gH P h t (ev ρ a) (ev ρ x)).map (.undef,·)else none
 | .nilCheck x=>match ev ρ x with
  | .ptr id ep i o=>some (.ptr id ep i o,h)
  | .eH cs=>some (.eH cs,h)
  | .fn f cs=>some (.fn f cs,h)
  |_=>none
 | .binOp op t x y _=>(fj P op t (ev ρ x) (ev ρ y)).map (·,h)
 | .unOp op _ x=>(P9 op (ev ρ x)).map (·,h)
 | .convert s d x=>(vI P s d (ev ρ x)).map (·,h)
 | .makeFunc (.func f) first di=>if first.isEmpty then some (.fn f (di.toList.map (ev ρ)),h)else some (.ni f first.size ((first.toList++di.toList).map (ev ρ)),h)
 | .makeSlice t l c=>jy P lv h t (ev ρ l) (ev ρ c)
 | .slice t x lo hi mx=>(cg P h t (ev ρ x) (lo.map (ev ρ)) (hi.map (ev ρ)) (mx.map (ev ρ))).map (·,h)
 | .fieldAddr s x f=>(fU P s (ev ρ x) f).map (·,h)
 | .field s x f=>(Aq P s (ev ρ x) f).map (·,h)
 | .indexAddr t x ix=>(cy P h t (ev ρ x) (ev ρ ix)).map (·,h)
 | .index t x ix=>(vK P t (ev ρ x) (ev ρ ix)).map (·,h)
 | .makeMap t r=>ms P lv h t (r.map (ev ρ))
 | .lookup t x k ok=>(nm P h t (ev ρ x) (ev ρ k) ok).map (·,h)
 | .mapUpdate t m k v | .insert t m k v=>if 2<=lv then(np P h t (ev ρ m) (ev ρ k) (ev ρ v)).map (.undef,·)else none
 | .extract x i=>match ev ρ x with
  | .cx vs=>match vs[i]? with
   |some v=>some (v,h)
   |none=>none
  |_=>none
 |_=>none
def qs(h:ab)(p:PV):Option PV:=
 match p with
 | .ak id ep off len=>match getM h id ep with
  |some o=>if off+len<=o.es.length/\(o.mu=.m\/o.mu=.f)/\ao ((o.es.drop off).take len)=true then some (.aa false ((o.es.drop off).take len))else none
  |none=>none
 |p=>if aV p then some p else none
def oz(h:ab):List PV->Option (List PV)
 |[]=>some []
 |c::r=>match qs h c,oz h r with
  |some c',some r'=>some (c'::r')
  |_,_=>none
def j'(h:ab)(p:PV):Option PV:=
 match p with
 | .agg cs=>(oz h cs).map .agg
 |p=>qs h p
def gI(h:ab):List PV->Option (List PV)
 |[]=>some []
 |c::r=>match j' h c,gI h r with
  |some c',some r'=>some (c'::r')
  |_,_=>none
def rb(h:ab)(p:PV):Option PV:=
 match p with
 | .cx cs=>(gI h cs).map .cx
 |p=>j' h p
def fV(f:PV->Option PV):List PV->Option (List PV)
 |[]=>some []
 |c::r=>match f c,fV f r with
  |some c',some r'=>some (c'::r')
  |_,_=>none
def pQ:Nat->ab->PV->Option PV
 |0,_,p=>if aV p then some p else none
 |n+1,h,p=>match p with
  | .ak id ep off len=>match getM h id ep with
   |some o=>if off+len<=o.es.length/\(o.mu=.m\/o.mu=.f)then(fV (pQ n h) ((o.es.drop off).take len)).map (.aa false)else none
   |none=>none
  | .agg cs=>(fV (pQ n h) cs).map .agg
  | .cx cs=>(fV (pQ n h) cs).map .cx
  |p=>if aV p then some p else none
def yU(h:ab)(p:PV):Option PV:=match rb h p with |some r=>some r |none=>pQ 8 h p
def kz(h:ab)(id:Nat):Option ab:=
 match h[id]? with
 |some o=>if ao o.es=true/\(o.mu=.m\/o.mu=.f)then some (h.set id {o with mu:=.f})else none
 |none=>none
def fk(h:ab):List Nat->Option ab
 |[]=>some h
 |id::r=>match kz h id with
  |some h'=>fk h' r
  |none=>none
def mv(h:ab)(ids:List Nat):Bool:=ids.all λid=>match h[id]? with |some o=>decide (o.mu=.f)&&ao o.es |none=>false
def uG:PV->List Nat
 | .ak id _ _ _=>[id]
 |_=>[]
def iD(ps:List PV):List Nat:=ps.flatMap λp=>(cells p).flatMap uG
def dP(n:Nat):PV->Bool
 | .ak id _ _ _=>decide (id<n)
 | .ptr id _ _ _=>decide (id<n)
 |p=>aV p
def cH(n:Nat):PV->Bool
 | .agg cs=>cs.all (dP n)
 |p=>dP n p
def dQ(n:Nat):PV->Bool
 | .cx cs=>cs.all (cH n)
 |p=>cH n p
inductive Mode where
 |no
 |pure
 |opened
 |rA (g:List PV->Option PV)
 |cz (g:List PV->ab->Option (PV×ab))
 |ext (g:List PV->Option PV)
structure cP where
 P:Program
 mode:FuncId->Mode
abbrev hZ:=FuncId->List PV->ab->Option (PV×ab)
def dD(run:hZ)(lv:Nat)(f:FuncId)(args:List PV)(h:ab):Option (PV×ab):=
 if ao args then
  match run f (aQ args) []with
  |some (r,hc)=>match yU hc r with
   |some r'=>some (cf r',h)
   |none=>none
  |none=>none
 else match gI h args with
  |some args'=>match run f (aQ args') []with
   |some (r,hc)=>match yU hc r with
    |some r'=>if dU r'||mv h (iD args)then some (cf r',h)
     else if 2<=lv then(fk h (iD args)).map (cf r',·)else none
    |none=>none
   |none=>none
  |none=>match fV (pQ 8 h) args with
   |some args'=>match run f (aQ args') []with
    |some (r,hc)=>match yU hc r with
     |some r'=>if dU r' then some (cf r',h)else none
     |none=>none
    |none=>none
   |none=>none
def bR(o:au):au:=match o.mu with | .m=>{o with mu:=.l}|_=>o
def dV(run:List PV->ab->Option (PV×ab))(lv:Nat)(args:List PV)(h:ab):Option (PV×ab):=
 if 2<=lv then run args h
 else if 1<=lv then match run args (h.map bR)with
  |some (r,h')=>if(h'.drop h.length).all (λo=>decide (o.mu≠.l))=true then some (r,h++h'.drop h.length)else none
  |none=>none
 else none
def gP(run:hZ)(lv:Nat)(f:FuncId)(args:List PV)(h:ab):Option (PV×ab):=
 match dV (run f) lv args h with
 |some (r,h')=>if dQ h.length r&& (h'.take h.length).all (λo=>o.es.all (cH h.length))then some (r,h'.take h.length)else some (r,h')
 |none=>none
def dg(C:cP)(run:hZ)(lv:Nat)(f:FuncId)(args:List PV)(h:ab):Option (PV×ab):=
 match C.mode f with
 | .no=>none
 | .pure=>dD run lv f args h
 | .opened=>gP run lv f args h
 | .rA g=>if ao args then(g (aQ args)).map (·,h)else none
 | .cz g=>dV g lv args h
 | .ext g=>if ao args then(g (aQ args)).map (·,h)else none
def fS(C:cP)(run:hZ)(lv:Nat)(callee:PV)(args:List PV)(h:ab):Option (PV×ab):=
 match callee with
 | .fn f di=>dg C run lv f (args++di) h
 | .ni f k cs=>dg C run lv f (cs.take k++args++cs.drop k) h
 |_=>none
def ar(C:cP)(run:hZ)(lv:Nat)(op:Op)(ρ:Nat->PV)(h:ab):Option (PV×ab):=
 match op with
 | .call c=>match c.callee with
  | .value f=>fS C run lv (ev ρ f) (c.args.toList.map (ev ρ)) h
  | .builtin b=>bo C.P lv h b c.argTypes.toList (c.args.toList.map (ev ρ))
  | .invoke _ _=>none
 |op=>aC C.P lv op ρ h
def cV:Op->Bool
 | .move _ | .assign _ | .pick .. | .binOp .. | .unOp .. | .convert .. | .extract .. | .makeFunc .. | .build .. | .field .. | .index .. | .fieldAddr .. | .nilCheck _=>false
 |_=>true
def Hm(o:Oper):List Edge:=o.after.toList.filter (Region.binds .any)
def before(ops:Array Oper):List Nat:=
 ops.toList.foldl (λacc o=>acc++[(Hm o).foldl (λs e=>s |||2^e.on |||acc.getD e.on 0) 0]) []
def qG(b:List Nat)(i j:Nat):Bool:=i==j ||(b.getD i 0).testBit j ||(b.getD j 0).testBit i
def level(ops:Array Oper)(b:List Nat)(i:Nat):Nat:=
 if ops.toList.zipIdx.all λ(o,j)=>!cV o.op ||qG b i j then 2 else 1
def bm(ops:Array Oper)(o:Oper)(ρ:Nat->PV):Option Bool:=
 match o.guard with
 |none=>some true
 |some (j,want)=>match(ops.toList[j]?).bind (·.dst)with
  |none=>some false
  |some d=>match ρ d with
   | .bool b=>some (b==want)
   | .undef=>some false
   |_=>none
def fF(C:cP)(run:hZ)(ops:Array Oper)(o:Oper)(s:St):Option St:=
 match bm ops o s.ρ with
 |some true=>match ar C run 2 o.op s.ρ s.h with
  |some (v,h')=>some ⟨b9 s.ρ o.dst v,h'⟩
  |none=>none
 |some false=>some ⟨b9 s.ρ o.dst .undef,s.h⟩
 |none=>none
def dC(C:cP)(run:hZ)(ops:Array Oper):List Oper->St->Option St
 |[],s=>some s
 |o::r,s=>match fF C run ops o s with
  |some s'=>dC C run ops r s'
  |none=>none
def eJ(o:au):au:={o with mu:=.x}
def cr(e:Nat->Bool)(L0:Nat)(own:List Nat)(h:ab):ab:=
 h.take L0++List.zipWith (λo j=>if e j then o else eJ o) (h.drop L0) own
def aL(h:ab)(id:Nat):Bool:=match h[id]? with |some o=>decide (o.mu≠.x)|none=>false
mutual
def bt(f:Nat->Bool):PV->Bool
 | .ak id _ _ _=>f id
 | .ptr id _ _ _=>f id
 | .cB id=>f id
 | .agg cs=>bz f cs
 | .cx cs=>bz f cs
 | .fn _ cs=>bz f cs
 | .ni _ _ cs=>bz f cs
 |_=>true
def bz(f:Nat->Bool):List PV->Bool
 |[]=>true
 |c::r=>bt f c&&bz f r
end
def aT(h:ab):Bool:=h.all λo=>decide (o.mu=.x)||bz (aL h) o.es
structure uZ where
 s:St
 L0:Nat
 own:List Nat
def ct(C:cP)(run:hZ)(ops:Array Oper)(b:List Nat)(i:Nat)(o:Oper)(x:uZ):Option uZ:=
 match bm ops o x.s.ρ with
 |some true=>
  if cV o.op=false then match ar C run 1 o.op x.s.ρ x.s.h with
   |some (r,_)=>some ⟨⟨b9 x.s.ρ o.dst r,x.s.h⟩,x.L0,x.own⟩
   |none=>none
  else if level ops b i=2 then match ar C run 2 o.op x.s.ρ x.s.h with
   |some (r,h')=>some ⟨⟨b9 x.s.ρ o.dst r,h'⟩,h'.length,[]⟩
   |none=>none
  else
   let M:=cr (b.getD i 0).testBit x.L0 x.own x.s.h
   if aT M=true/\(o.op.operands.toList.all λy=>bt (aL M) (ev x.s.ρ y))=true then
    match ar C run 1 o.op x.s.ρ M with
    |some (r,h')=>if(h'.drop x.s.h.length).all (λo=>decide (o.mu≠.l))=true then
      some ⟨⟨b9 x.s.ρ o.dst r,x.s.h++h'.drop x.s.h.length⟩,x.L0,x.own++List.replicate (h'.drop x.s.h.length).length i⟩else none
    |none=>none
   else none
 |some false=>some ⟨⟨b9 x.s.ρ o.dst .undef,x.s.h⟩,x.L0,x.own⟩
 |none=>none
def dE(C:cP)(run:hZ)(ops:Array Oper)(b:List Nat):Nat->List Oper->uZ->Option uZ
 |_,[],x=>some x
 |i,o::r,x=>match ct C run ops b i o x with
  |some x'=>dE C run ops b (i+1) r x'
  |none=>none
def gE:Op->Bool
 | .load .. | .indexAddr ..=>true
 |_=>false
def jz:Op->Bool
 | .buildSlice ..=>true
 |_=>false
def F1(o:Oper):Option Operand:=match o.op,o.dst,o.guard with
 | .store _ a _,none,none=>some a
 |_,_,_=>none
def sinks(ops:Array Oper)(b:List Nat):Option (Operand×Operand):=
 if 2<=ops.size/\qG b (ops.size - 2) (ops.size - 1)=false then
  match(ops.toList[ops.size - 2]?).bind F1,(ops.toList[ops.size - 1]?).bind F1 with
  |some x,some y=>some (x,y)
  |_,_=>none
 else none
def iR(ops:Array Oper)(b:List Nat)(i:Nat)(bs:Bool):Bool:=ops.toList.zipIdx.all λ(o,j)=>!(cV o.op&& !gE o.op&& (bs || !jz o.op))||qG b i j ||((sinks ops b).isSome&&decide (ops.size<=i+2)&&decide (ops.size<=j+2))
def kN(ops:Array Oper)(b:List Nat)(i:Nat):Bool:=ops.toList.zipIdx.all λ(o,j)=>!(cV o.op&& !gE o.op&& !jz o.op)||qG b i j ||((sinks ops b).isSome&&decide (ops.size<=j+2))
def mw(h h':ab):ab:=List.zipWith (λo o'=>if o.mu=.m then o' else o) h h'++h'.drop h.length
def oA(h:ab)(id:Nat):Bool:=match h[id]? with
 |some o=>decide (o.mu≠.m)
 |none=>false
def rB(op:Op)(ρ:Nat->PV):Option Nat:=match op with
 | .load _ x=>match ev ρ x with
  | .ptr id _ _ _=>some id
  |_=>none
 | .indexAddr _ x _=>match ev ρ x with
  | .ak id _ _ _=>some id
  |_=>none
 |_=>none
def DY(ops:Array Oper)(ρ:Nat->PV)(x:Operand)(id:Nat):Bool:=(match x with | .tmp t=>!ops.toList.any (λo=>o.dst==some t)|_=>true)&& (match ev ρ x with | .ptr j _ _ _=>decide (j≠id)|_=>false)
def Ar(ops:Array Oper)(b:List Nat)(i:Nat)(ρ:Nat->PV)(id:Nat):Bool:=match sinks ops b with
 |none=>true
 |some (x,y)=>(qG b i (ops.size - 2)||DY ops ρ x id)&& (qG b i (ops.size - 1)||DY ops ρ y id)
def kO(ops:Array Oper)(b:List Nat)(h0:ab)(i:Nat)(ρ:Nat->PV)(op:Op):Bool:=match rB op ρ with
 |none=>true
 |some id=>oA h0 id ||(kN ops b i&&Ar ops b i ρ id)
def cT(C:cP)(run:hZ)(ops:Array Oper)(b:List Nat)(h0:ab)(i:Nat)(o:Oper)(s:St):Option St:=
 match bm ops o s.ρ with
 |some true=>
  if cV o.op=false then match ar C run 1 o.op s.ρ s.h with
   |some (r,_)=>some ⟨b9 s.ρ o.dst r,s.h⟩
   |none=>none
  else if gE o.op=true then(if kO ops b h0 i s.ρ o.op=true then match aC C.P 1 o.op s.ρ s.h with
     |some (r,_)=>some ⟨b9 s.ρ o.dst r,s.h⟩
     |none=>none
    else none)
  else match(if jz o.op then aC C.P 1 o.op s.ρ s.h else none)with
   |some (r,_)=>some ⟨b9 s.ρ o.dst r,s.h⟩
   |none=>if iR ops b i (jz o.op)=true then match ar C run 2 o.op s.ρ s.h with
     |some (r,h')=>if s.h.length<=h'.length then some ⟨b9 s.ρ o.dst r,mw s.h h'⟩else none
     |none=>none
    else none
 |some false=>some ⟨b9 s.ρ o.dst .undef,s.h⟩
 |none=>none
def cm(C:cP)(run:hZ)(ops:Array Oper)(b:List Nat)(h0:ab):Nat->List Oper->St->Option St
 |_,[],s=>some s
 |i,o::r,s=>match cT C run ops b h0 i o s with
  |some s'=>cm C run ops b h0 (i+1) r s'
  |none=>none
def gq(ops:Array Oper)(b:List Nat)(ρ:Nat->PV):List Nat:=ops.toList.zipIdx.flatMap λ(o,i)=>match o.op with
 | .load _ (.tmp t)=>if ops.toList.any (λo=>o.dst==some t)||kN ops b i then[]else match ρ t with
  | .ptr id _ _ _=>[id]
  |_=>[]
 |_=>[]
def cA(ids:List Nat)(h:ab):ab:=h.zipIdx.map λ(o,i)=>if ids.contains i then bR o else o
def dW(ids:List Nat)(h h':ab):ab:=h'.zipIdx.map λ(o,i)=>if ids.contains i then(match h[i]? with |some o'=>o'|none=>o)else o
def qH(ids:List Nat)(h h':ab):Bool:=h'.zipIdx.all λ(o,i)=>decide (o.mu≠.l)||(ids.contains i&&decide (i<h.length))||(match h[i]? with |some o'=>decide (o'.mu=.l)|none=>false)
def qI(ops:Array Oper)(b:List Nat)(ρ:Nat->PV):Bool:=match sinks ops b with
 |none=>true
 |some (x,y)=>match ev ρ x,ev ρ y with
  | .ptr i _ _ _,.ptr j _ _ _=>decide (i≠j)
  |_,_=>false
def iS(C:cP)(run:hZ)(ops:Array Oper)(s:St):Option St:=
 match cm C run ops (before ops) (cA (gq ops (before ops) s.ρ) s.h) 0 ops.toList ⟨s.ρ,cA (gq ops (before ops) s.ρ) s.h⟩with
 |some s'=>if qH (gq ops (before ops) s.ρ) s.h s'.h=true/\qI ops (before ops) s'.ρ=true then some ⟨s'.ρ,dW (gq ops (before ops) s.ρ) s.h s'.h⟩else none
 |none=>none
def NS(ops:Array Oper)(o:Oper):Bool:=match o.op with
 | .call ⟨.builtin .append,args,_⟩=>match args.toList with
  | .tmp t::_=>ops.toList.any λo'=>o'.dst==some t&& (match o'.op with | .call ⟨.value _,_,_⟩=>true |_=>false)
  |_=>false
 |_=>false
def JQ(ops:Array Oper):Bool:=ops.toList.zipIdx.any λ(o,i)=>match o.op,o.dst with
 | .call ⟨.builtin .append,_,_⟩,some d=>!(level ops (before ops) i==2)&&ops.toList.any λo'=>match o'.op with
  | .call ⟨.builtin .append,args,_⟩=>(match args.toList with
   | .tmp t::_=>t==d
   |_=>false)
  |_=>false
 |_,_=>false
def rC(ops:Array Oper):Bool:=(ops.toList.zipIdx.any λ(o,i)=>NS ops o&& !(level ops (before ops) i==2))||(sinks ops (before ops)).isSome ||JQ ops
inductive Ex where
 |normal
 |exit (id:Nat)
 |ret
 deriving DecidableEq
def iter(body:St->Option (Ex×St)):Nat->St->Option (Ex×St)
 |0,_=>none
 |n+1,s=>match body s with
  |some (.normal,s')=>iter body n s'
  |r=>r
def bO(C:cP)(run:hZ)(N:Nat):Code->St->Option (Ex×St)
 | .skip,s=>some (.normal,s)
 | .region _ ops draw,s=>match(if draw then(if rC ops then iS C run ops s else(dE C run ops (before ops) 0 ops.toList ⟨s,s.h.length,[]⟩).map (·.s))else dC C run ops ops.toList s)with
  |some s'=>some (.normal,s')
  |none=>none
 | .seq a b,s=>match bO C run N a s with
  |some (.normal,s')=>bO C run N b s'
  |r=>r
 | .cond c a b,s=>match ev s.ρ c with
  | .bool true=>bO C run N a s
  | .bool false=>bO C run N b s
  |_=>none
 | .block id c,s=>match bO C run N c s with
  |some (.exit dY,s')=>if dY=id then some (.normal,s')else some (.exit dY,s')
  |r=>r
 | .loop c,s=>iter (bO C run N c) N s
 | .exit id,s=>some (.exit id,s)
 | .label _,s=>some (.normal,s)
 | .scope c,s=>bO C run N c s
 | .ret,s=>some (.ret,s)
 |_,_=>none
def my(args:List PV):Nat->PV:=λt=>args.getD t .undef
def dj(P:Program)(h:ab)(ρ:Nat->PV):List ResultVar->Option (List PV)
 |[]=>some []
 |r::rest=>match(match r with | .tmp t=>some (ρ t)| .cell a t=>iB P h t (ρ a)),dj P h ρ rest with
  |some v,some vs=>some (v::vs)
  |_,_=>none
def aY:List PV->PV
 |[v]=>v
 |vs=>.cx vs
def oB(C:cP)(run:hZ)(n:Nat):hZ:=λf args h=>
 match C.P.funcs[f]? with
 |some fn=>match fn.body with
  |some c=>match bO C run n c ⟨my args,h⟩with
   |some (.normal,s)|some (.ret,s)=>match dj C.P s.h s.ρ fn.results.toList with
    |some vs=>some (aY vs,s.h)
    |none=>none
   |_=>none
  |none=>none
 |none=>none
def fe(C:cP)(n:Nat):hZ:=Nat.rec (λ_ _ _=>none) (λn r=>oB C r n) n
def oC(C:cP)(n:Nat)(f:FuncId)(args:List PV):Option PV:=
 match fe C n f args []with
 |some (r,h)=>(yU h r).map cf
 |none=>none
def al:List (Nat×PV)->(Nat->PV)->Nat->PV
 |[],ρ,t=>ρ t
 |(k,v)::L,ρ,t=>if t=k then v else al L ρ t
theorem KK(ρ:Nat->PV):∀(L:List (Nat×PV)),(∀x∈L,ρ x.1=x.2)->al L ρ=ρ
 |[],_=>by funext t;rfl
 |(k,v)::L,h=>by
  funext t
  simp only[al]
  split
  ·rename_i hk;rw[hk];exact(h (k,v) (by simp)).symm
  ·rw[KK ρ L (λx hx=>h x (by simp[hx]))]
def Ev(C:cP)(c:Code)(s:St)(Q:Ex->St->Prop):Prop:=
 ∃ex s',Q ex s'/\∃n0,∀n m,n0<=n->n0<=m->bO C (fe C n) m c s=some (ex,s')
def ah(C:cP)(ops:Array Oper)(l:List Oper)(s:St)(Q:St->Prop):Prop:=
 ∃s',Q s'/\∃n0,∀n,n0<=n->dC C (fe C n) ops l s=some s'
def ai(C:cP)(lv:Nat)(f:FuncId)(args:List PV)(h:ab)(Q:PV->ab->Prop):Prop:=
 ∃r h',Q r h'/\∃n0,∀n,n0<=n->dg C (fe C n) lv f args h=some (r,h')
def ax(C:cP)(f:FuncId)(args:List PV)(h:ab)(Q:PV->ab->Prop):Prop:=
 ∃r h',Q r h'/\∃n0,∀n,n0<=n->fe C n f args h=some (r,h')
variable{C:cP}
theorem ax.mono{f:FuncId}{args:List PV}{h:ab}{Q Q':PV->ab->Prop}(a:ax C f args h Q)(hq:∀r h,Q r h->Q' r h):ax C f args h Q':=by
 obtain⟨r,h',q,e⟩:=a;exact⟨r,h',hq _ _ q,e⟩
theorem Ev.skip{s:St}{Q:Ex->St->Prop}(h:Q .normal s):Ev C .skip s Q:=⟨_,_,h,0,λ_ _ _ _=>rfl⟩
theorem Ev.label{l:Nat}{s:St}{Q:Ex->St->Prop}(h:Q .normal s):Ev C (.label l) s Q:=⟨_,_,h,0,λ_ _ _ _=>rfl⟩
theorem Ev.exit{id:Nat}{s:St}{Q:Ex->St->Prop}(h:Q (.exit id) s):Ev C (.exit id) s Q:=⟨_,_,h,0,λ_ _ _ _=>rfl⟩
theorem Ev.ret{s:St}{Q:Ex->St->Prop}(h:Q .ret s):Ev C .ret s Q:=⟨_,_,h,0,λ_ _ _ _=>rfl⟩
theorem Ev.scope{c:Code}{s:St}{Q:Ex->St->Prop}(h:Ev C c s Q):Ev C (.scope c) s Q:=by
 obtain⟨ex,s',q,n0,hn⟩:=h;exact⟨ex,s',q,n0,λn m h1 h2=>by simpa[bO]using hn n m h1 h2⟩
def aE(C:cP)(b:Code)(Q:Ex->St->Prop):Ex->St->Prop
 | .normal,s=>Ev C b s Q
 |ex,s=>Q ex s
theorem Ev.seq{a b:Code}{s:St}{Q:Ex->St->Prop}(h:Ev C a s (aE C b Q)):Ev C (.seq a b) s Q:=by
 obtain⟨ex,s',q,n0,hn⟩:=h
 cases ex with
 |normal=>
  obtain⟨Vf,s2,q2,n1,yj⟩:=q;exact⟨Vf,s2,q2,max n0 n1,λn m h1 h2=>by simp only[bO,hn n m (by omega) (by omega),yj n m (by omega) (by omega)]⟩
 |exit id=>exact⟨_,_,q,n0,λn m h1 h2=>by simp only[bO,hn n m h1 h2]⟩
 |ret=>exact⟨_,_,q,n0,λn m h1 h2=>by simp only[bO,hn n m h1 h2]⟩
theorem Ev.Qv{c:Operand}{a b:Code}{s:St}{Q:Ex->St->Prop}(hc:ev s.ρ c=.bool true)(h:Ev C a s Q):Ev C (.cond c a b) s Q:=by
 obtain⟨ex,s',q,n0,hn⟩:=h;exact⟨ex,s',q,n0,λn m h1 h2=>by simp only[bO,hc,hn n m h1 h2]⟩
theorem Ev.Qw{c:Operand}{a b:Code}{s:St}{Q:Ex->St->Prop}(hc:ev s.ρ c=.bool false)(h:Ev C b s Q):Ev C (.cond c a b) s Q:=by
 obtain⟨ex,s',q,n0,hn⟩:=h;exact⟨ex,s',q,n0,λn m h1 h2=>by simp only[bO,hc,hn n m h1 h2]⟩
def az(id:Nat)(Q:Ex->St->Prop):Ex->St->Prop
 | .exit dY,s=>if dY=id then Q .normal s else Q (.exit dY) s
 |ex,s=>Q ex s
theorem Ev.block{id:Nat}{c:Code}{s:St}{Q:Ex->St->Prop}(h:Ev C c s (az id Q)):Ev C (.block id c) s Q:=by
 obtain⟨ex,s',q,n0,hn⟩:=h
 cases ex with
 |normal=>exact⟨_,_,q,n0,λn m h1 h2=>by simp only[bO,hn n m h1 h2]⟩
 |exit dY=>
  simp only[az]at q
  by_cases bU:dY=id
  ·rw[if_pos bU]at q;exact⟨_,_,q,n0,λn m h1 h2=>by simp only[bO,hn n m h1 h2,if_pos bU]⟩
  ·rw[if_neg bU]at q;exact⟨_,_,q,n0,λn m h1 h2=>by simp only[bO,hn n m h1 h2,if_neg bU]⟩
 |ret=>exact⟨_,_,q,n0,λn m h1 h2=>by simp only[bO,hn n m h1 h2]⟩
def aI(I:St->Prop)(Q:Ex->St->Prop):Ex->St->Prop
 | .normal,s=>I s
 |ex,s=>Q ex s
theorem Ev.loop{c:Code}{s:St}{Q:Ex->St->Prop}(I:Nat->St->Prop)(k:Nat)(h0:I k s)(step:∀k s,I k s->Ev C c s (aI (λs'=>∃j,j<k/\I j s') Q)):Ev C (.loop c) s Q:=by
 have key:∀(k:Nat) (s:St),I k s->∃ex s',Q ex s'/\∃n0,∀n m j,n0<=n->n0<=m->n0<=j->iter (bO C (fe C n) m c) j s=some (ex,s'):=by
  intro k
  induction k using Nat.strongRecOn with
  |ind k ih=>
   intro s hs
   obtain⟨ex,s',q,n0,hn⟩:=step k s hs
   cases ex with
   |normal=>
    obtain⟨j,hj,hI⟩:=q;obtain⟨Vf,s2,q2,n1,yj⟩:=ih j hj s' hI;refine⟨Vf,s2,q2,max n0 n1+1,λn m i h1 h2 h3=>?_⟩;obtain⟨i,rfl⟩:∃i',i=i'+1:=⟨i - 1,by omega⟩;simp only[iter,hn n m (by omega) (by omega),yj n m i (by omega) (by omega) (by omega)]
   |exit id=>
    refine⟨_,_,q,n0+1,λn m i h1 h2 h3=>?_⟩;obtain⟨i,rfl⟩:∃i',i=i'+1:=⟨i - 1,by omega⟩;simp only[iter,hn n m (by omega) (by omega)]
   |ret=>
    refine⟨_,_,q,n0+1,λn m i h1 h2 h3=>?_⟩;obtain⟨i,rfl⟩:∃i',i=i'+1:=⟨i - 1,by omega⟩;simp only[iter,hn n m (by omega) (by omega)]
 obtain⟨ex,s',q,n0,hn⟩:=key k s h0;exact⟨ex,s',q,n0,λn m h1 h2=>by simp only[bO,hn n m m h1 h2 h2]⟩
theorem Ev.region{id:Nat}{ops:Array Oper}{s:St}{Q:Ex->St->Prop}(h:ah C ops ops.toList s (Q .normal)):Ev C (.region id ops false) s Q:=by
 obtain⟨s',q,n0,hn⟩:=h;exact⟨.normal,s',q,n0,λn m h1 h2=>by simp only[bO,aad,if_false,hn n h1]⟩
theorem ah.nil{ops:Array Oper}{s:St}{Q:St->Prop}(h:Q s):ah C ops [] s Q:=⟨s,h,0,λ_ _=>rfl⟩
theorem ah.step{ops:Array Oper}{o:Oper}{r:List Oper}{s s1:St}{Q:St->Prop}(e:∀run,fF C run ops o s=some s1)(h:ah C ops r s1 Q):ah C ops (o::r) s Q:=by
 obtain⟨s',q,n0,hn⟩:=h;exact⟨s',q,n0,λn h1=>by simp only[dC,e,hn n h1]⟩
theorem ah.call{ops:Array Oper}{o:Oper}{r:List Oper}{s:St}{Q:St->Prop}{c:Call}{x:Operand}{f:FuncId}{di args:List PV}(hw:bm ops o s.ρ=some true)(ho:o.op=.call c)(hx:c.callee=.value x)(hf:ev s.ρ x=.fn f di)
  (ha:c.args.toList.map (ev s.ρ)++di=args) (hc:ai C 2 f args s.h (λv h'=>ah C ops r ⟨b9 s.ρ o.dst v,h'⟩ Q)):ah C ops (o::r) s Q:=by
 obtain⟨v,h',⟨s',q,n1,yj⟩,n0,hn⟩:=hc;refine⟨s',q,max n0 n1,λn h1=>?_⟩
 have:ar C (fe C n) 2 o.op s.ρ s.h=some (v,h'):=by
  rw[ho];simp only[ar,hx,fS,hf,ha];exact hn n (by omega)
 simp only[dC,fF,hw,this,yj n (by omega)]
theorem ax.body{f:FuncId}{fn:Func}{c:Code}{args:List PV}{h:ab}{Q:PV->ab->Prop}(hf:C.P.funcs[f]?=some fn)(hb:fn.body=some c)
  (e:Ev C c ⟨my args,h⟩ (λex s=>(ex=.normal\/ex=.ret)/\∃vs,dj C.P s.h s.ρ fn.results.toList=some vs/\Q (aY vs) s.h)):ax C f args h Q:=by
 obtain⟨ex,s,⟨hex,vs,hr,q⟩,n0,hn⟩:=e;refine⟨_,_,q,n0+1,λn h1=>?_⟩;obtain⟨n,rfl⟩:∃i',n=i'+1:=⟨n - 1,by omega⟩;show oB C (fe C n) n f args h=_;unfold oB;rw[hf];simp only[hb,hn n n (by omega) (by omega)];rcases hex with rfl |rfl <;>simp only[hr]
def aO(C:cP)(f:FuncId)(args:List PV)(r:PV):Prop:=∃n0,∀n,n0<=n->∃r0 hc r1,fe C n f args []=some (r0,hc)/\yU hc r0=some r1/\cf r1=r
theorem Sb{h:ab}{p r:PV}(e:rb h p=some r):yU h p=some r:=by unfold yU;rw[e]
theorem aO.ofX{f:FuncId}{args:List PV}{r:PV}(e:ax C f args [] (λr0 hc=>∃r1,yU hc r0=some r1/\cf r1=r)):aO C f args r:=by
 obtain⟨r0,hc,⟨r1,h1,h2⟩,n0,hn⟩:=e;exact⟨n0,λn h=>⟨r0,hc,r1,hn n h,h1,h2⟩⟩
theorem aO.of{f:FuncId}{args:List PV}{r:PV}(e:ax C f args [] (λr0 hc=>∃r1,rb hc r0=some r1/\cf r1=r)):aO C f args r:=by
 obtain⟨r0,hc,⟨r1,h1,h2⟩,n0,hn⟩:=e;exact⟨n0,λn h=>⟨r0,hc,r1,hn n h,Sb h1,h2⟩⟩
theorem aO.oC{f:FuncId}{args:List PV}{r:PV}(a:aO C f args r):∃n,oC C n f args=some r:=by
 obtain⟨n0,hn⟩:=a;obtain⟨r0,hc,r1,h1,h2,h3⟩:=hn n0 (Z5 _);exact⟨n0,by unfold Pm.oC;rw[h1];simp[h2,h3]⟩
theorem ai.pure{lv:Nat}{f:FuncId}{args:List PV}{r:PV}{h:ab}{Q:PV->ab->Prop}(hm:C.mode f=.pure)(hv:ao args=true)(a:aO C f (aQ args) r)(q:Q r h):ai C lv f args h Q:=by
 obtain⟨n0,hn⟩:=a;refine⟨r,h,q,n0,λn h1=>?_⟩;obtain⟨r0,hc,r1,e1,e2,e3⟩:=hn n h1;unfold dg;rw[hm];simp only[dD,hv,if_true,e1,e2,e3]
theorem ai.opened{f:FuncId}{args:List PV}{h:ab}{Q:PV->ab->Prop}(hm:C.mode f=.opened)
  (a:ax C f args h (λr h'=>Q r (if dQ h.length r&& (h'.take h.length).all (λo=>o.es.all (cH h.length))then h'.take h.length else h'))):ai C 2 f args h Q:=by
 obtain⟨r,h',q,n0,hn⟩:=a;refine⟨r,_,q,n0,λn h1=>?_⟩;unfold dg;rw[hm];simp only[gP,dV,Z5,if_true,hn n h1]
 split <;>rfl
theorem ai.ext{lv:Nat}{f:FuncId}{g:List PV->Option PV}{args:List PV}{r:PV}{h:ab}{Q:PV->ab->Prop}(hm:C.mode f=.ext g)(hv:ao args=true)(a:g (aQ args)=some r)(q:Q r h):ai C lv f args h Q:=by
 refine⟨r,h,q,0,λn h1=>?_⟩;unfold dg;rw[hm];simp only[hv,if_true,a,aab]
section
variable{ops:Array Oper}{d:Option Nat}{ty:TypeId}{pos:String}{af:Array Edge}{g:Option (Nat×Bool)}{r:List Oper}{ρ:Nat->PV}{h:ab}{Q:St->Prop}
theorem ah.val{op:Op}{v:PV}{h':ab}(hw:bm ops ⟨d,op,ty,pos,af,g⟩ ρ=some true)(hc:∀run,ar C run 2 op ρ h=some (v,h'))(k:ah C ops r ⟨b9 ρ d v,h'⟩ Q):ah C ops (⟨d,op,ty,pos,af,g⟩::r) ⟨ρ,h⟩ Q:=
 ah.step (s1:=⟨b9 ρ d v,h'⟩) (λrun=>by simp only[fF,hw,hc]) k
theorem ah.off{op:Op}(hw:bm ops ⟨d,op,ty,pos,af,g⟩ ρ=some false)(k:ah C ops r ⟨b9 ρ d .undef,h⟩ Q):ah C ops (⟨d,op,ty,pos,af,g⟩::r) ⟨ρ,h⟩ Q:=
 ah.step (s1:=⟨b9 ρ d .undef,h⟩) (λrun=>by simp only[fF,hw]) k
def EI:BinOp->Int->Int->Option Prop
 | .eql,a,b=>some (a=b)
 | .neq,a,b=>some (a≠b)
 | .lss,a,b=>some (a<b)
 | .leq,a,b=>some (a<=b)
 | .gtr,a,b=>some (b<a)
 | .geq,a,b=>some (b<=a)
 |_,_,_=>none
theorem ah.cmp{ue:BinOp}{t yt:TypeId}{x y:Operand}{k:IntKind}{a b:Int}{p:Prop}(hw:bm ops ⟨d,.binOp ue t x y yt,ty,pos,af,g⟩ ρ=some true)(hx:ev ρ x=.int k a)(hy:ev ρ y=.int k b)(hp:EI ue a b=some p)
  (k1:p->ah C ops r ⟨b9 ρ d (.bool true),h⟩ Q) (k2:¬p->ah C ops r ⟨b9 ρ d (.bool false),h⟩ Q):ah C ops (⟨d,.binOp ue t x y yt,ty,pos,af,g⟩::r) ⟨ρ,h⟩ Q:=by
 by_cases KL:p
 ·refine ah.val (v:=.bool true) (h':=h) hw (λrun=>?_) (k1 KL);simp only[ar,aC,hx,hy]
  cases ue <;>simp only[EI,aax,reduceCtorEq]at hp <;>subst hp <;>simp[fj,gD,KL]
 ·refine ah.val (v:=.bool false) (h':=h) hw (λrun=>?_) (k2 KL);simp only[ar,aC,hx,hy]
  cases ue <;>simp only[EI,aax,reduceCtorEq]at hp <;>subst hp <;>simp[fj,gD,KL] <;>omega
theorem ah.VH{c:Call}{x:Operand}{f:FuncId}{di args:List PV}(hw:bm ops ⟨d,.call c,ty,pos,af,g⟩ ρ=some true)(hx:c.callee=.value x)(hf:ev ρ x=.fn f di)
  (ha:c.args.toList.map (ev ρ)++di=args) (hc:ai C 2 f args h (λv h'=>ah C ops r ⟨b9 ρ d v,h'⟩ Q)):ah C ops (⟨d,.call c,ty,pos,af,g⟩::r) ⟨ρ,h⟩ Q:=
 ah.call hw rfl hx hf ha hc
end
end Go.Pm
namespace Go.Pm
inductive Kd where
 |str
 |bool
 |int (k:IntKind)
 |sl (e:TypeId)
 |arr (n:Nat) (e:TypeId)
 |st (offs:List (Nat×TypeId))
 |mp (k e:TypeId)
 |other
def og:TypeDesc->Kd
 | .string=>.str
 | .bool=>.bool
 | .int k=>.int k
 | .slice e=>.sl e
 | .array n e=>.arr n e
 | .struct fs=>.st (fs.toList.map λf=>(f.offset,f.type))
 | .map k e=>.mp k e
 |_=>.other
structure lL(P:Program) where
 ts:Nat->Option Nat
 ta:Nat->Option Bool
 tz:Nat->Option PV
 tb:Nat->Option Nat
 kd:Nat->Option Kd
 dT:∀t n,ts t=some n->cu P t=some n
 MD:∀t n,ta t=some n->Hl P t=some n
 na:∀t n,tz t=some n->iQ P t=some n
 rI:∀t n,tb t=some n->mb P t=some n
 cU:∀t n,kd t=some n->(P.underlying t).map og=some n
variable{C:cP}(T:lL C.P)
variable{ops:Array Oper}{d:Nat}{ty:TypeId}{pos:String}{af:Array Edge}{r:List Oper}{ρ:Nat->PV}{L:List (Nat×PV)}{h:ab}{Q:St->Prop}
theorem mg{P:Program}{t:TypeId}{k:Kd}(e:(P.underlying t).map og=some k):∃u,P.underlying t=some u/\og u=k:=by
 cases hu:P.underlying t with
 |none=>rw[hu]at e;simp at e
 |some u=>rw[hu]at e;exact⟨u,rfl,ZZ e⟩
theorem pF{P:Program}{t:TypeId}(e:(P.underlying t).map og=some .str):P.underlying t=some .string:=by
 obtain⟨u,h1,h2⟩:=mg e
 cases u <;>simp[og]at h2;exact h1
theorem A9{P:Program}{t:TypeId}(e:(P.underlying t).map og=some .bool):P.underlying t=some .bool:=by
 obtain⟨u,h1,h2⟩:=mg e
 cases u <;>simp[og]at h2;exact h1
theorem Hb{P:Program}{t k el:TypeId}(e:(P.underlying t).map og=some (.mp k el)):P.underlying t=some (.map k el):=by
 obtain⟨u,h1,h2⟩:=mg e
 cases u <;>simp[og]at h2
 rw[h1,h2.1,h2.2]
theorem bp{P:Program}{t el:TypeId}(e:(P.underlying t).map og=some (.sl el)):P.underlying t=some (.slice el):=by
 obtain⟨u,h1,h2⟩:=mg e
 cases u <;>simp[og]at h2;subst h2;exact h1
theorem ME{P:Program}{t el:TypeId}{n:Nat}(e:(P.underlying t).map og=some (.arr n el)):P.underlying t=some (.array n el):=by
 obtain⟨u,h1,h2⟩:=mg e
 cases u <;>simp[og]at h2;obtain⟨rfl,rfl⟩:=h2;exact h1
theorem oF{P:Program}{t:TypeId}{k:IntKind}(e:(P.underlying t).map og=some (.int k)):P.underlying t=some (.int k):=by
 obtain⟨u,h1,h2⟩:=mg e
 cases u <;>simp[og]at h2;subst h2;exact h1
theorem MF{P:Program}{t:TypeId}{os:List (Nat×TypeId)}(e:(P.underlying t).map og=some (.st os)):∃fs,P.underlying t=some (.struct fs)/\fs.toList.map (λf=>(f.offset,f.type))=os:=by
 obtain⟨u,h1,h2⟩:=mg e
 cases u <;>simp[og]at h2;exact⟨_,h1,h2⟩
def lk:List (Nat×PV)->Nat->Option PV
 |[],_=>none
 |(k,v)::L,t=>if t=k then some v else lk L t
def cM(L:List (Nat×PV)):Operand->Option PV
 | .tmp t=>lk L t
 | .const (.int k n)=>some (.int k n)
 | .const (.bool b)=>some (.bool b)
 | .const (.string s)=>some (.str s)
 | .const (.slice none 0 0)=>some (.aa true [])
 | .const (.pointer none)=>some .ek
 | .const .nilFunc=>some .aG
 | .const (.map none)=>some .gm
 | .const v=>some (cv v)
 | .func f=>some (.fn f [])
 | .global _=>none
def xU(L:List (Nat×PV)):List Operand->Option (List PV)
 |[]=>some []
 |x::xs=>match cM L x,xU L xs with
  |some v,some vs=>some (v::vs)
  |_,_=>none
theorem dz{L:List (Nat×PV)}{t:Nat}{v:PV}(e:lk L t=some v)(ρ:Nat->PV):al L ρ t=v:=by
 induction L with
 |nil=>cases e
 |cons x L ih=>
  obtain⟨k,u⟩:=x;simp only[lk]at e;simp only[al]
  split at e
  ·rename_i hk;rw[if_pos hk];exact ZZ e
  ·rename_i hk;rw[if_neg hk];exact ih e
theorem an{L:List (Nat×PV)}{x:Operand}{v:PV}(e:cM L x=some v)(ρ:Nat->PV):ev (al L ρ) x=v:=by
 unfold cM at e
 split at e <;>first
  |exact dz e ρ
  |(cases e;done)
  |(obtain rfl:=ZZ e;rfl)
theorem gC{L:List (Nat×PV)}{ρ:Nat->PV}:∀{xs:List Operand} {vs:List PV},xU L xs=some vs->xs.map (ev (al L ρ))=vs
 |[],vs,e=>by simp[xU]at e;subst e;rfl
 |x::xs,vs,e=>by
  simp only[xU]at e
  split at e
  ·rename_i v FA h1 h2
   obtain rfl:=ZZ e;simp[an h1,gC h2]
  ·cases e
theorem ck(d:Nat)(v:PV)(L:List (Nat×PV))(ρ:Nat->PV):b9 (al L ρ) (some d) v=al ((d,v)::L) ρ:=by
 funext t
 simp only[b9,nj,al]
theorem ah.eR{op:Op}{v:PV}{h':ab}(hc:∀run,ar C run 2 op (al L ρ) h=some (v,h'))(k:ah C ops r ⟨al ((d,v)::L) ρ,h'⟩ Q):ah C ops (⟨some d,op,ty,pos,af,none⟩::r) ⟨al L ρ,h⟩ Q:=
 ah.val rfl hc (by rw[ck];exact k)
theorem R.va{op:Op}{j d':Nat}{want b:Bool}(hd:(ops.toList[j]?).bind (·.dst)=some d')(hb:lk L d'=some (.bool b))(he:(b==want)=true)(k:ah C ops (⟨some d,op,ty,pos,af,none⟩::r) ⟨al L ρ,h⟩ Q):
  ah C ops (⟨some d,op,ty,pos,af,some (j,want)⟩::r) ⟨al L ρ,h⟩ Q:=by
 obtain⟨s',q,n0,hn⟩:=k;refine⟨s',q,n0,λn h1=>?_⟩;rw[<-hn n h1];simp only[dC,fF,bm,hd,dz hb,he]
theorem R.mE{op:Op}{j d':Nat}{want b:Bool}(hd:(ops.toList[j]?).bind (·.dst)=some d')(hb:lk L d'=some (.bool b))(he:(b==want)=false)(k:ah C ops r ⟨al ((d,.undef)::L) ρ,h⟩ Q):
  ah C ops (⟨some d,op,ty,pos,af,some (j,want)⟩::r) ⟨al L ρ,h⟩ Q:=ah.off (by simp only[bm,hd,dz hb,he]) (by rw[ck];exact k)
theorem R.QS{op:Op}{j d':Nat}{want:Bool}(hd:(ops.toList[j]?).bind (·.dst)=some d')(hb:lk L d'=some .undef)(k:ah C ops r ⟨al ((d,.undef)::L) ρ,h⟩ Q):
  ah C ops (⟨some d,op,ty,pos,af,some (j,want)⟩::r) ⟨al L ρ,h⟩ Q:=ah.off (by simp only[bm,hd,dz hb]) (by rw[ck];exact k)
theorem R.move{x:Operand}{v:PV}(hx:cM L x=some (v))(k:ah C ops r ⟨al ((d,v)::L) ρ,h⟩ Q):ah C ops (⟨some d,.move x,ty,pos,af,none⟩::r) ⟨al L ρ,h⟩ Q:=
 ah.eR (λrun=>by simp only[ar,aC,an hx]) k
theorem R.assign{x:Operand}{v:PV}(hx:cM L x=some (v))(k:ah C ops r ⟨al ((d,v)::L) ρ,h⟩ Q):ah C ops (⟨some d,.assign x,ty,pos,af,none⟩::r) ⟨al L ρ,h⟩ Q:=
 ah.eR (λrun=>by simp only[ar,aC,an hx]) k
theorem R.iF{c x y:Operand}{v:PV}(hc:cM L c=some (.bool true))(hx:cM L x=some (v))(k:ah C ops r ⟨al ((d,v)::L) ρ,h⟩ Q):ah C ops (⟨some d,.pick c x y,ty,pos,af,none⟩::r) ⟨al L ρ,h⟩ Q:=
 ah.eR (λrun=>by simp only[ar,aC,an hc,an hx,if_true]) k
theorem R.gT{c x y:Operand}{v:PV}(hc:cM L c=some (.bool false))(hx:cM L y=some (v))(k:ah C ops r ⟨al ((d,v)::L) ρ,h⟩ Q):ah C ops (⟨some d,.pick c x y,ty,pos,af,none⟩::r) ⟨al L ρ,h⟩ Q:=
 ah.eR (λrun=>by simp only[ar,aC,an hc,an hx,aad,if_false]) k
inductive FE(o:au):ab->ab->Nat->Prop
 |nil:FE o [] [o] 0
 |cons {x:au} {l l':ab} {n:Nat}:FE o l l' n->FE o (x::l) (x::l') (n+1)
theorem FE.eq{o:au}{l l':ab}{n:Nat}(a:FE o l l' n):l'=l++[o]/\n=l.length:=by
 induction a with
 |nil=>exact⟨rfl,rfl⟩
 |cons _ ih=>obtain⟨rfl,rfl⟩:=ih;exact⟨rfl,rfl⟩
theorem R.box{t:TypeId}{x:Operand}{v:PV}{n id:Nat}{h':ab}(hx:cM L x=some (v))(h1:(cells v).all bI=true)(hl:(cells v).length=n+1)(ha:FE ⟨.m,0,n+1,[v]⟩ h h' id)(k:ah C ops r ⟨al ((d,(.ptr id 0 0 0))::L) ρ,h'⟩ Q):
  ah C ops (⟨some d,.box t x,ty,pos,af,none⟩::r) ⟨al L ρ,h⟩ Q:=by
 obtain⟨rfl,rfl⟩:=ha.eq;exact ah.eR (λrun=>by simp[ar,aC,an hx,h1,hl,newObj]) k
theorem R.alloc{t:TypeId}{z:PV}{n id:Nat}{h':ab}(hz:T.tz t=some z)(h1:(cells z).all bI=true)(hl:(cells z).length=n+1)(ha:FE ⟨.m,0,n+1,[z]⟩ h h' id)(k:ah C ops r ⟨al ((d,(.ptr id 0 0 0))::L) ρ,h'⟩ Q):
  ah C ops (⟨some d,.alloc t,ty,pos,af,none⟩::r) ⟨al L ρ,h⟩ Q:=by
 obtain⟨rfl,rfl⟩:=ha.eq;exact ah.eR (λrun=>by simp[ar,aC,T.na _ _ hz,h1,hl,newObj]) k
theorem R.fJ{t:TypeId}{x:Operand}{p c:PV}{cs:List PV}{sz:Nat}(hx:cM L x=some (p))(hs:T.ts t=some sz)(ht:T.ta t=some false)(hp:cK h p=some (c::cs))(k:ah C ops r ⟨al ((d,c)::L) ρ,h⟩ Q):
  ah C ops (⟨some d,.load t x,ty,pos,af,none⟩::r) ⟨al L ρ,h⟩ Q:=
 ah.eR (λrun=>by simp[ar,aC,an hx,iB,T.dT _ _ hs,T.MD _ _ ht,hp]) k
inductive pG:Nat->List PV->List PV->Prop
 |zero {l:List PV}:pG 0 l []
 |succ {n:Nat} {x:PV} {l l':List PV}:pG n l l'->pG (n+1) (x::l) (x::l')
theorem pG.eq{n:Nat}{l l':List PV}(a:pG n l l'):l'=l.take n/\n<=l.length:=by
 induction a with
 |zero=>simp
 |succ _ ih=>obtain⟨rfl,h⟩:=ih;simp;omega
theorem R.k9{t:TypeId}{x:Operand}{p:PV}{cs jo:List PV}{sz:Nat}(hx:cM L x=some (p))(hs:T.ts t=some (sz+1))(ht:T.ta t=some true)(hp:cK h p=some cs)(hc:pG (sz+1) cs jo)(k:ah C ops r ⟨al ((d,(.agg jo))::L) ρ,h⟩ Q):
  ah C ops (⟨some d,.load t x,ty,pos,af,none⟩::r) ⟨al L ρ,h⟩ Q:=by
 obtain⟨rfl,hle⟩:=hc.eq;exact ah.eR (λrun=>by simp[ar,aC,an hx,iB,T.dT _ _ hs,T.MD _ _ ht,hp,hle]) k
theorem ma{s:TypeId}{f off:Nat}{ft:TypeId}{os:List (Nat×TypeId)}{sz:Nat}(hk:T.kd s=some (.st os))(hf:os[f]?=some (off,ft))(hs:T.ts ft=some (sz+1)):ou C.P s f=some (off,ft):=by
 obtain⟨fs,h1,h2⟩:=MF (T.cU _ _ hk);rw[<-h2,aaj]at hf
 cases T4:fs.toList[f]? with
 |none=>rw[T4]at hf;cases hf
 |some fl=>
  rw[T4]at hf;simp at hf;obtain⟨rfl,rfl⟩:=hf;have:fs[f]?=some fl:=by simpa using T4
  simp[ou,h1,this,T.dT _ _ hs]
theorem R.fieldAddr{s:TypeId}{x:Operand}{f id ep i o off:Nat}{ft:TypeId}{os:List (Nat×TypeId)}{sz:Nat}(hx:cM L x=some (.ptr id ep i o))(hk:T.kd s=some (.st os))(hf:os[f]?=some (off,ft))(hs:T.ts ft=some (sz+1))
  (k:ah C ops r ⟨al ((d,(.ptr id ep i (o+off)))::L) ρ,h⟩ Q):ah C ops (⟨some d,.fieldAddr s x f,ty,pos,af,none⟩::r) ⟨al L ρ,h⟩ Q:=
 ah.eR (λrun=>by simp[ar,aC,an hx,fU,ma T hk hf hs]) k
theorem R.cmp{ue:BinOp}{t yt:TypeId}{x y:Operand}{k:IntKind}{a b:Int}{p:Prop}(hx:cM L x=some (.int k a))(hy:cM L y=some (.int k b))(hp:EI ue a b=some p)
  (k1:p->ah C ops r ⟨al ((d,(.bool true))::L) ρ,h⟩ Q) (k2:¬p->ah C ops r ⟨al ((d,(.bool false))::L) ρ,h⟩ Q):ah C ops (⟨some d,.binOp ue t x y yt,ty,pos,af,none⟩::r) ⟨al L ρ,h⟩ Q:=ah.cmp rfl (an hx ρ) (an hy ρ) hp (λhh=>by rw[ck];exact k1 hh) (λhh=>by rw[ck];exact k2 hh)
def arith:BinOp->Int->Int->Option Int
 | .add,a,b=>some (a+b)
 | .sub,a,b=>some (a - b)
 | .mul,a,b=>some (a * b)
 |_,_,_=>none
theorem R.arith{ue:BinOp}{t yt:TypeId}{x y:Operand}{k:IntKind}{a b c c':Int}(hx:cM L x=some (.int k a))(hy:cM L y=some (.int k b))(hp:Pm.arith ue a b=some c)(hw:k.wrap c=c')(kk:ah C ops r ⟨al ((d,(.int k c'))::L) ρ,h⟩ Q):
  ah C ops (⟨some d,.binOp ue t x y yt,ty,pos,af,none⟩::r) ⟨al L ρ,h⟩ Q:=by
 refine ah.eR (λrun=>?_) kk;simp only[ar,aC,an hx,an hy]
 cases ue <;>simp only[Pm.arith,aax,reduceCtorEq]at hp <;>subst hp <;>simp[fj,gD,hw]
theorem R.QX{t yt:TypeId}{x y:Operand}{a b:ByteArray}(hx:cM L x=some (.str a))(hy:cM L y=some (.str b))(k1:a.toList=b.toList->ah C ops r ⟨al ((d,(.bool true))::L) ρ,h⟩ Q)(k2:a.toList≠b.toList->ah C ops r ⟨al ((d,(.bool false))::L) ρ,h⟩ Q):
  ah C ops (⟨some d,.binOp .eql t x y yt,ty,pos,af,none⟩::r) ⟨al L ρ,h⟩ Q:=by
 by_cases hh:a.toList=b.toList
 ·exact ah.eR (λrun=>by simp[ar,aC,an hx,an hy,fj,lR,hh]) (k1 hh)
 ·exact ah.eR (λrun=>by simp[ar,aC,an hx,an hy,fj,lR,hh]) (k2 hh)
def MH:BinOp->ByteArray->ByteArray->Option Bool
 | .lss,a,b=>some (Op.bytesLess a.toList b.toList)
 | .gtr,a,b=>some (!(Op.bytesLess a.toList b.toList ||a.toList==b.toList))
 | .neq,a,b=>some (!(a.toList==b.toList))
 |_,_,_=>none
theorem R.T5{ue:BinOp}{t yt:TypeId}{x y:Operand}{a b:ByteArray}{p:Bool}(hx:cM L x=some (.str a))(hy:cM L y=some (.str b))(hp:MH ue a b=some p)
  (k1:p=true->ah C ops r ⟨al ((d,.bool true)::L) ρ,h⟩ Q) (k2:p=false->ah C ops r ⟨al ((d,.bool false)::L) ρ,h⟩ Q):
  ah C ops (⟨some d,.binOp ue t x y yt,ty,pos,af,none⟩::r) ⟨al L ρ,h⟩ Q:=by
 have key:∀run,ar C run 2 (.binOp ue t x y yt) (al L ρ) h=some (.bool p,h):=λrun=>by
  simp only[ar,aC,an hx,an hy]
  cases ue <;>simp only[MH,aax,reduceCtorEq]at hp <;>subst hp <;>simp[fj,lR]
 cases p with
 |false=>exact ah.eR key (k2 rfl)
 |true=>exact ah.eR key (k1 rfl)
theorem R.not{t:TypeId}{x:Operand}{b b':Bool}(hx:cM L x=some (.bool b))(hb:(!b)=b')(k:ah C ops r ⟨al ((d,(.bool b'))::L) ρ,h⟩ Q):ah C ops (⟨some d,.unOp .not t x,ty,pos,af,none⟩::r) ⟨al L ρ,h⟩ Q:=
 ah.eR (λrun=>by simp[ar,aC,an hx,P9,hb]) k
theorem R.nilCheck{x:Operand}{id ep i o:Nat}(hx:cM L x=some (.ptr id ep i o))(k:ah C ops r ⟨al ((d,(.ptr id ep i o))::L) ρ,h⟩ Q):ah C ops (⟨some d,.nilCheck x,ty,pos,af,none⟩::r) ⟨al L ρ,h⟩ Q:=
 ah.eR (λrun=>by simp[ar,aC,an hx]) k
theorem R.extract{x:Operand}{i:Nat}{vs:List PV}{v:PV}(hx:cM L x=some (.cx vs))(hv:vs[i]?=some v)(k:ah C ops r ⟨al ((d,v)::L) ρ,h⟩ Q):ah C ops (⟨some d,.extract x i,ty,pos,af,none⟩::r) ⟨al L ρ,h⟩ Q:=
 ah.eR (λrun=>by simp[ar,aC,an hx,hv]) k
theorem R.gK{t el:TypeId}{x ix:Operand}{full:Bool}{es:List PV}{k:IntKind}{i:Nat}{v:PV}{cs:List PV}{sz:Nat}(hx:cM L x=some (.aa full es))(hi:cM L ix=some (.int k (i:Int)))(hk:T.kd t=some (.sl el))(hs:T.ts el=some (sz+1))
  (hv:es[i]?=some v) (hc:cells v=cs) (hl:cs.length=sz+1) (kk:ah C ops r ⟨al ((d,(.eH cs))::L) ρ,h⟩ Q):ah C ops (⟨some d,.indexAddr t x ix,ty,pos,af,none⟩::r) ⟨al L ρ,h⟩ Q:=by
 have cI:i<es.length:=by
  rcases aaD i es.length with h |h
  ·exact h
  ·rw[aag h]at hv;cases hv
 subst hc;have BM:es[i]=v:=by rw[Z3 cI]at hv;exact ZZ hv
 exact ah.eR (λrun=>by simp[ar,aC,an hx,an hi,cy,bp (T.cU _ _ hk),T.dT _ _ hs,cI,BM,hl]) kk
theorem R.qP{t el:TypeId}{x ix:Operand}{id ep off len:Nat}{k:IntKind}{i:Nat}{o:au}(hx:cM L x=some (.ak id ep off len))(hi:cM L ix=some (.int k (i:Int)))(hk:T.kd t=some (.sl el))(ho:getM h id ep=some o)(hs:T.ts el=some o.bC)(cI:i<len)(hle:off+len<=o.es.length)
  (kk:ah C ops r ⟨al ((d,(.ptr id ep (off+i) 0))::L) ρ,h⟩ Q):ah C ops (⟨some d,.indexAddr t x ix,ty,pos,af,none⟩::r) ⟨al L ρ,h⟩ Q:=
 ah.eR (λrun=>by simp[ar,aC,an hx,an hi,cy,bp (T.cU _ _ hk),T.dT _ _ hs,ho,cI,hle]) kk
theorem R.Be{t:TypeId}{ts:List TypeId}{x:Operand}{xs:List Operand}{s:ByteArray}(hx:cM L x=some (.str s))(hk:T.kd t=some .str)(k:ah C ops r ⟨al ((d,(.int .i64 s.size))::L) ρ,h⟩ Q):
  ah C ops (⟨some d,.call ⟨.builtin .len,(x::xs).toArray,(t::ts).toArray⟩,ty,pos,af,none⟩::r) ⟨al L ρ,h⟩ Q:=
 ah.eR (λrun=>by simp[ar,an hx,bo,ov,pF (T.cU _ _ hk)]) k
theorem R.qO{t el:TypeId}{ts:List TypeId}{x:Operand}{xs:List Operand}{full:Bool}{es:List PV}(hx:cM L x=some (.aa full es))(hk:T.kd t=some (.sl el))(k:ah C ops r ⟨al ((d,(.int .i64 es.length))::L) ρ,h⟩ Q):
  ah C ops (⟨some d,.call ⟨.builtin .len,(x::xs).toArray,(t::ts).toArray⟩,ty,pos,af,none⟩::r) ⟨al L ρ,h⟩ Q:=
 ah.eR (λrun=>by simp[ar,an hx,bo,ov,bp (T.cU _ _ hk)]) k
theorem R.yB{t el:TypeId}{ts:List TypeId}{x:Operand}{xs:List Operand}{id ep off len:Nat}{o:au}(hx:cM L x=some (.ak id ep off len))(hk:T.kd t=some (.sl el))(ho:getM h id ep=some o)(hle:off+len<=o.es.length)(k:ah C ops r ⟨al ((d,(.int .i64 len))::L) ρ,h⟩ Q):
  ah C ops (⟨some d,.call ⟨.builtin .len,(x::xs).toArray,(t::ts).toArray⟩,ty,pos,af,none⟩::r) ⟨al L ρ,h⟩ Q:=
 ah.eR (λrun=>by simp[ar,an hx,bo,ov,bp (T.cU _ _ hk),ho,hle]) k
theorem R.call{x:Operand}{xs:List Operand}{zM:Array TypeId}{f:FuncId}{di args:List PV}(hf:cM L x=some (.fn f di))(ha:xU L xs=some args)
  (hc:ai C 2 f (args++di) h (λv h'=>ah C ops r ⟨al ((d,v)::L) ρ,h'⟩ Q)):ah C ops (⟨some d,.call ⟨.value x,xs.toArray,zM⟩,ty,pos,af,none⟩::r) ⟨al L ρ,h⟩ Q:=
 ah.VH (args:=args++di) rfl rfl (an hf ρ) (by simp[gC ha]) (by simpa only[ck]using hc)
theorem Ev.iG{c:Operand}{a b:Code}{Q:Ex->St->Prop}{t:Bool}(hc:cM L c=some (.bool t))(k:Ev C (bif t then a else b) ⟨al L ρ,h⟩ Q):Ev C (.cond c a b) ⟨al L ρ,h⟩ Q:=by
 cases t
 ·exact Ev.Qw (an hc ρ) k
 ·exact Ev.Qv (an hc ρ) k
theorem ju{n:Int}(h1: -9223372036854775808<=n)(h2:n<=9223372036854775807):IntKind.i64.wrap n=n:=by
 rw[IntKind.wrap_i64];omega
def Bl:Nat->List PV->List (Nat×PV)
 |_,[]=>[]
 |n,a::xs=>(n,a)::Bl (n+1) xs
theorem gU(args:List PV):my args=al (Bl 0 args) (λ_=>.undef):=by
 have key:∀(xs:List PV) (n t:Nat),al (Bl n xs) (λ_=>PV.undef) t=if n<=t then xs.getD (t - n) .undef else .undef:=by
  intro xs
  induction xs with
  |nil=>intro n t;simp[Bl,al]
  |cons a xs ih=>
   intro n t
   simp only[Bl,al,ih]
   by_cases h:t=n
   ·subst h;simp
   ·rw[if_neg h]
    by_cases h2:n<=t
    ·rw[if_pos h2,if_pos (by omega),show t - n=(t - (n+1))+1 by omega,abX]
    ·rw[if_neg h2,if_neg (by omega)]
 funext t
 rw[key];simp[my]
def aJ(C:cP)(fn:Func)(Q:PV->ab->Prop)(ex:Ex)(s:St):Prop:=(ex=.normal\/ex=.ret)/\∃vs,dj C.P s.h s.ρ fn.results.toList=some vs/\Q (aY vs) s.h
theorem ax.dJ{f:FuncId}{fn:Func}{c:Code}{args:List PV}{h:ab}{Q:PV->ab->Prop}(hf:C.P.funcs[f]?=some fn)(hb:fn.body=some c)
  (e:Ev C c ⟨al (Bl 0 args) (λ_=>.undef),h⟩ (aJ C fn Q)):ax C f args h Q:=ax.body hf hb (by rw[gU];exact e)
def I8(L:List (Nat×PV)):List ResultVar->Option (List PV)
 |[]=>some []
 | .tmp t::r=>match lk L t,I8 L r with
  |some v,some vs=>some (v::vs)
  |_,_=>none
 |_=>none
theorem eA{P:Program}{L:List (Nat×PV)}{h:ab}{ρ:Nat->PV}:∀{l:List ResultVar} {vs:List PV},I8 L l=some vs->dj P h (al L ρ) l=some vs
 |[],vs,e=>by simp[I8]at e;subst e;rfl
 | .tmp t::r,vs,e=>by
  simp only[I8]at e
  split at e
  ·rename_i v FA h1 h2
   obtain rfl:=ZZ e;simp[dj,dz h1,eA h2]
  ·cases e
 | .cell _ _::r,vs,e=>by simp[I8]at e
theorem aJ.ret{fn:Func}{Q:PV->ab->Prop}{vs:List PV}(hr:I8 L fn.results.toList=some vs)(q:Q (aY vs) h):aJ C fn Q .ret ⟨al L ρ,h⟩:=⟨.inr rfl,vs,eA hr,q⟩
theorem aE.normal{b:Code}{Q:Ex->St->Prop}{s:St}(k:Ev C b s Q):aE C b Q .normal s:=k
theorem aE.ret{b:Code}{Q:Ex->St->Prop}{s:St}(k:Q .ret s):aE C b Q .ret s:=k
theorem aE.exit{b:Code}{Q:Ex->St->Prop}{s:St}{id:Nat}(k:Q (.exit id) s):aE C b Q (.exit id) s:=k
theorem az.normal{id:Nat}{Q:Ex->St->Prop}{s:St}(k:Q .normal s):az id Q .normal s:=k
theorem az.ret{id:Nat}{Q:Ex->St->Prop}{s:St}(k:Q .ret s):az id Q .ret s:=k
theorem az.Lr{id:Nat}{Q:Ex->St->Prop}{s:St}(k:Q .normal s):az id Q (.exit id) s:=by simp only[az,if_true];exact k
theorem az.Lt{id dY:Nat}{Q:Ex->St->Prop}{s:St}(h:(dY==id)=false)(k:Q (.exit dY) s):az id Q (.exit dY) s:=by
 have:¬dY=id:=by simpa using h
 simp only[az,if_neg this];exact k
theorem aI.normal{I:St->Prop}{Q:Ex->St->Prop}{s:St}(k:I s):aI I Q .normal s:=k
theorem aI.ret{I:St->Prop}{Q:Ex->St->Prop}{s:St}(k:Q .ret s):aI I Q .ret s:=k
theorem aI.exit{I:St->Prop}{Q:Ex->St->Prop}{s:St}{id:Nat}(k:Q (.exit id) s):aI I Q (.exit id) s:=k
def PC(L:List (Nat×PV)):List (Nat×PV)->Prop
 |[]=>True
 |(k,v)::r=>lk L k=some v/\PC L r
theorem Dz{L:List (Nat×PV)}:∀{L':List (Nat×PV)},PC L L'->∀x∈L',lk L x.1=some x.2
 |[],_,x,hx=>by cases hx
 |(k,v)::r,h,x,hx=>by
  rcases Z'.1 hx with rfl |hx
  ·exact h.1
  ·exact Dz h.2 x hx
theorem St.aR{L L':List (Nat×PV)}{ρ:Nat->PV}{h:ab}(hh:PC L L'):(⟨al L ρ,h⟩:St)=⟨al L' (al L ρ),h⟩:=by
 rw[KK (al L ρ) L' (λx hx=>dz (Dz hh x hx) ρ)]
theorem R.Bm{t:TypeId}{z:PV}{n:Nat}(hz:T.tz t=some z)(h1:(cells z).all bI=true)(hl:(cells z).length=n+1)(k:ah C ops r ⟨al ((d,(.ptr h.length 0 0 0))::L) ρ,h++[⟨.m,0,n+1,[z]⟩]⟩ Q):
  ah C ops (⟨some d,.alloc t,ty,pos,af,none⟩::r) ⟨al L ρ,h⟩ Q:=
 ah.eR (λrun=>by simp[ar,aC,T.na _ _ hz,h1,hl,newObj]) k
theorem R.Zt{t:TypeId}{x:Operand}{v:PV}{n:Nat}(hx:cM L x=some v)(h1:(cells v).all bI=true)(hl:(cells v).length=n+1)(k:ah C ops r ⟨al ((d,(.ptr h.length 0 0 0))::L) ρ,h++[⟨.m,0,n+1,[v]⟩]⟩ Q):
  ah C ops (⟨some d,.box t x,ty,pos,af,none⟩::r) ⟨al L ρ,h⟩ Q:=
 ah.eR (λrun=>by simp[ar,aC,an hx,h1,hl,newObj]) k
theorem kX{h:ab}{n:Nat}{es:List PV}:getM (h++[⟨.m,0,n,es⟩]) h.length 0=some ⟨.m,0,n,es⟩:=by simp[getM]
theorem R.Bn{t:TypeId}{a x:Operand}{e v:PV}{n:Nat}(ha:cM L a=some (.ptr h.length 0 0 0))(hx:cM L x=some v)(hs:T.ts t=some n)(hl:(cells v).length=n)(h1:(cells v).all bI=true)(he:(cells e).length=n)
  (k:ah C ops r ⟨al L ρ,h++[⟨.m,0,n,[v]⟩]⟩ Q):ah C ops (⟨none,.store t a x,ty,pos,af,none⟩::r) ⟨al L ρ,h++[⟨.m,0,n,[e]⟩]⟩ Q:=by
 have k':ah C ops r ⟨b9 (al L ρ) none .undef,h++[(⟨.m,0,n,[v]⟩:au)]⟩ Q:=k;refine ah.val (v:=.undef) (h':=h++[(⟨.m,0,n,[v]⟩:au)]) rfl (λrun=>?_) k';have hr:eI 0 n e v=v:=by unfold eI;rw[if_pos ⟨rfl,he.symm⟩]
 simp[ar,aC,an ha,an hx,gH,T.dT _ _ hs,kX,hl,he,hr];simpa using h1
theorem pcN{h:ab}{n:Nat}{e:PV}:cK (h++[⟨.m,0,n,[e]⟩]) (.ptr h.length 0 0 0)=some (cells e):=by simp[cK,kX]
theorem Zu{h:ab}{n off:Nat}{e:PV}:cK (h++[⟨.m,0,n,[e]⟩]) (.ptr h.length 0 0 off)=some ((cells e).drop off):=by simp[cK,kX]
theorem R.tJ{t:TypeId}{x:Operand}{e:PV}{jo:List PV}{n sz:Nat}(hx:cM L x=some (.ptr h.length 0 0 0))(hs:T.ts t=some (sz+1))(ht:T.ta t=some true)(hc:pG (sz+1) (cells e) jo)
  (k:ah C ops r ⟨al ((d,(.agg jo))::L) ρ,h++[⟨.m,0,n,[e]⟩]⟩ Q):ah C ops (⟨some d,.load t x,ty,pos,af,none⟩::r) ⟨al L ρ,h++[⟨.m,0,n,[e]⟩]⟩ Q:=
 R.k9 T hx hs ht pcN hc k
end Go.Pm
namespace Go.Pm
def gZ(r r':hZ):Prop:=∀f args h x,r f args h=some x->r' f args h=some x
variable{C:cP}{run run':hZ}
theorem ml(L:gZ run run'){lv:Nat}{f:FuncId}{args:List PV}{h:ab}{x:PV×ab}(e:dD run lv f args h=some x):dD run' lv f args h=some x:=by
 unfold dD at e ⊢
 split at e
 ·rename_i hv
  rw[if_pos hv]
  cases hr:run f (aQ args) []with
  |none=>rw[hr]at e;cases e
  |some y=>rw[hr]at e;rw[L _ _ _ _ hr];exact e
 ·rename_i hv
  rw[if_neg hv]
  cases ha:gI h args with
  |none=>
   rw[ha]at e;simp only at e ⊢
   cases hd:fV (pQ 8 h) args with
   |none=>rw[hd]at e;cases e
   |some a=>
    rw[hd]at e;simp only at e ⊢
    cases hr:run f (aQ a) []with
    |none=>rw[hr]at e;cases e
    |some y=>rw[hr]at e;rw[L _ _ _ _ hr];exact e
  |some a=>
   rw[ha]at e;simp only at e ⊢
   cases hr:run f (aQ a) []with
   |none=>rw[hr]at e;cases e
   |some y=>rw[hr]at e;rw[L _ _ _ _ hr];exact e
theorem jR{g g':List PV->ab->Option (PV×ab)}(L:∀a h x,g a h=some x->g' a h=some x){lv:Nat}{args:List PV}{h:ab}{x:PV×ab}(e:dV g lv args h=some x):dV g' lv args h=some x:=by
 unfold dV at e ⊢
 split at e
 ·rename_i h2;rw[if_pos h2];exact L _ _ _ e
 ·rename_i h2
  rw[if_neg h2]
  split at e
  ·rename_i h1
   rw[if_pos h1]
   cases hr:g args (h.map bR)with
   |none=>rw[hr]at e;cases e
   |some y=>rw[hr]at e;rw[L _ _ _ hr];exact e
  ·cases e
theorem mn(L:gZ run run'){lv:Nat}{f:FuncId}{args:List PV}{h:ab}{x:PV×ab}(e:gP run lv f args h=some x):gP run' lv f args h=some x:=by
 unfold gP at e ⊢
 cases hr:dV (run f) lv args h with
 |none=>rw[hr]at e;cases e
 |some y=>rw[hr]at e;rw[jR (λa h x=>L f a h x) hr];exact e
theorem xB(L:gZ run run'){lv:Nat}{f:FuncId}{args:List PV}{h:ab}{x:PV×ab}(e:dg C run lv f args h=some x):dg C run' lv f args h=some x:=by
 unfold dg at e ⊢
 cases hm:C.mode f <;>simp only[hm]at e ⊢
 ·cases e
 ·exact ml L e
 ·exact mn L e
 ·exact e
 ·exact jR (λ_ _ _ x=>x) e
 ·exact e
theorem jN(L:gZ run run'){lv:Nat}{op:Op}{ρ:Nat->PV}{h:ab}{x:PV×ab}(e:ar C run lv op ρ h=some x):ar C run' lv op ρ h=some x:=by
 unfold ar at e ⊢
 split at e
 ·split at e
  ·unfold fS at e ⊢
   split at e
   ·exact xB L e
   ·exact xB L e
   ·cases e
  ·exact e
  ·cases e
 ·exact e
theorem Dd(L:gZ run run'){ops:Array Oper}{o:Oper}{s s':St}(e:fF C run ops o s=some s'):fF C run' ops o s=some s':=by
 unfold fF at e ⊢
 split at e
 ·cases hr:ar C run 2 o.op s.ρ s.h with
  |none=>rw[hr]at e;cases e
  |some y=>rw[hr]at e;rw[jN L hr];exact e
 ·exact e
 ·cases e
theorem sq(L:gZ run run'){ops:Array Oper}:∀{l:List Oper} {s s':St},dC C run ops l s=some s'->dC C run' ops l s=some s'
 |[],s,s',e=>e
 |o::l,s,s',e=>by
  simp only[dC]at e ⊢
  cases hr:fF C run ops o s with
  |none=>rw[hr]at e;cases e
  |some y=>
   rw[hr]at e;rw[Dd L hr];exact sq L e
theorem Bb(L:gZ run run'){ops:Array Oper}{b:List Nat}{i:Nat}{o:Oper}{s s':uZ}(e:ct C run ops b i o s=some s'):ct C run' ops b i o s=some s':=by
 unfold ct at e ⊢
 split at e
 ·split at e
  ·rename_i hh
   rw[if_pos hh]
   cases hr:ar C run 1 o.op s.s.ρ s.s.h with
   |none=>rw[hr]at e;cases e
   |some y=>rw[hr]at e;rw[jN L hr];exact e
  ·rename_i hh
   rw[if_neg hh]
   split at e
   ·rename_i hl
    rw[if_pos hl]
    cases hr:ar C run 2 o.op s.s.ρ s.s.h with
    |none=>rw[hr]at e;cases e
    |some y=>rw[hr]at e;rw[jN L hr];exact e
   ·rename_i hl
    rw[if_neg hl];simp only at e ⊢
    split at e
    ·rename_i hc
     rw[if_pos hc]
     cases hr:ar C run 1 o.op s.s.ρ (cr (b.getD i 0).testBit s.L0 s.own s.s.h)with
     |none=>rw[hr]at e;cases e
     |some y=>rw[hr]at e;rw[jN L hr];exact e
    ·cases e
 ·exact e
 ·cases e
theorem qD(L:gZ run run'){ops:Array Oper}{b:List Nat}:∀{l:List Oper} {i:Nat} {s s':uZ},dE C run ops b i l s=some s'->dE C run' ops b i l s=some s'
 |[],i,s,s',e=>e
 |o::l,i,s,s',e=>by
  simp only[dE]at e ⊢
  cases hr:ct C run ops b i o s with
  |none=>rw[hr]at e;cases e
  |some y=>
   rw[hr]at e;rw[Bb L hr];exact qD L e
theorem Bc(L:gZ run run'){ops:Array Oper}{b:List Nat}{h0:ab}{i:Nat}{o:Oper}{s s':St}(e:cT C run ops b h0 i o s=some s'):cT C run' ops b h0 i o s=some s':=by
 unfold cT at e ⊢
 split at e
 ·split at e
  ·rename_i hh
   rw[if_pos hh]
   cases hr:ar C run 1 o.op s.ρ s.h with
   |none=>rw[hr]at e;cases e
   |some y=>rw[hr]at e;rw[jN L hr];exact e
  ·rename_i hh
   rw[if_neg hh]
   split at e
   ·rename_i hl
    rw[if_pos hl];exact e
   ·rename_i hl
    rw[if_neg hl]
    cases hs:(if jz o.op then aC C.P 1 o.op s.ρ s.h else none)with
    |some y=>rw[hs]at e;exact e
    |none=>
     rw[hs]at e;simp only at e ⊢
     split at e
     ·rename_i hk
      rw[if_pos hk]
      cases hr:ar C run 2 o.op s.ρ s.h with
      |none=>rw[hr]at e;cases e
      |some y=>rw[hr]at e;rw[jN L hr];exact e
     ·cases e
 ·exact e
 ·cases e
theorem qE(L:gZ run run'){ops:Array Oper}{b:List Nat}{h0:ab}:∀{l:List Oper} {i:Nat} {s s':St},cm C run ops b h0 i l s=some s'->cm C run' ops b h0 i l s=some s'
 |[],i,s,s',e=>e
 |o::l,i,s,s',e=>by
  simp only[cm]at e ⊢
  cases hr:cT C run ops b h0 i o s with
  |none=>rw[hr]at e;cases e
  |some y=>
   rw[hr]at e;rw[Bc L hr];exact qE L e
theorem Fs(L:gZ run run'){ops:Array Oper}{s s':St}(e:iS C run ops s=some s'):iS C run' ops s=some s':=by
 unfold iS at e ⊢
 cases hr:cm C run ops (before ops) (cA (gq ops (before ops) s.ρ) s.h) 0 ops.toList ⟨s.ρ,cA (gq ops (before ops) s.ρ) s.h⟩with
 |none=>rw[hr]at e;cases e
 |some y=>rw[hr]at e;rw[qE L hr];exact e
theorem pS{f f':St->Option (Ex×St)}(L:∀s x,f s=some x->f' s=some x):∀{n m:Nat} {s:St} {x:Ex×St},n<=m->iter f n s=some x->iter f' m s=some x
 |0,m,s,x,_,e=>by simp[iter]at e
 |n+1,m,s,x,hm,e=>by
  obtain⟨m,rfl⟩:∃k,m=k+1:=⟨m - 1,by omega⟩;simp only[iter]at e ⊢
  cases hr:f s with
  |none=>rw[hr]at e;cases e
  |some y=>
   rw[hr]at e;rw[L _ _ hr];obtain⟨ex,s'⟩:=y
   cases ex with
   |normal=>exact pS L (by omega) e
   |exit id=>exact e
   |ret=>exact e
theorem vX(L:gZ run run'){n m:Nat}(Ks:n<=m):∀(c:Code) {s:St} {x:Ex×St},bO C run n c s=some x->bO C run' m c s=some x:=by
 intro c
 induction c with
 |region id ops draw=>
  intro s x e
  simp only[bO]at e ⊢
  cases draw with
  |false=>
   simp only[aad,if_false]at e ⊢
   cases hr:dC C run ops ops.toList s with
   |none=>rw[hr]at e;cases e
   |some y=>rw[hr]at e;rw[sq L hr];exact e
  |true=>
   simp only[if_true]at e ⊢
   by_cases hk:rC ops=true
   ·simp only[hk,if_true]at e ⊢
    cases hr:iS C run ops s with
    |none=>rw[hr]at e;cases e
    |some y=>rw[hr]at e;rw[Fs L hr];exact e
   ·simp only[hk]at e ⊢
    cases hr:dE C run ops (before ops) 0 ops.toList ⟨s,s.h.length,[]⟩with
    |none=>rw[hr]at e;simp at e
    |some y=>rw[hr]at e;rw[qD L hr];exact e
 |seq a b iha ihb=>
  intro s x e
  simp only[bO]at e ⊢
  cases hr:bO C run n a s with
  |none=>rw[hr]at e;cases e
  |some y=>
   rw[hr]at e;rw[iha hr];obtain⟨ex,s'⟩:=y
   cases ex with
   |normal=>exact ihb e
   |exit id=>exact e
   |ret=>exact e
 |cond c a b iha ihb=>
  intro s x e
  simp only[bO]at e ⊢
  split at e
  ·exact iha e
  ·exact ihb e
  ·cases e
 |block id c ih=>
  intro s x e
  simp only[bO]at e ⊢
  cases hr:bO C run n c s with
  |none=>rw[hr]at e;cases e
  |some y=>rw[hr]at e;rw[ih hr];exact e
 |loop c ih=>
  intro s x e
  simp only[bO]at e ⊢;exact pS (λs x=>ih) Ks e
 |scope c ih=>
  intro s x e
  simp only[bO]at e ⊢;exact ih e
 |_=>
  intro s x e
  first
   |exact e
   |(simp[bO]at e;done)
   |(simp only[bO]at e ⊢;exact e)
theorem Ft(L:gZ run run'){n m:Nat}(Ks:n<=m):gZ (oB C run n) (oB C run' m):=by
 intro f args h x e
 unfold oB at e ⊢
 cases hf:C.P.funcs[f]? with
 |none=>rw[hf]at e;cases e
 |some fn=>
  rw[hf]at e;simp only at e ⊢
  cases hb:fn.body with
  |none=>rw[hb]at e;cases e
  |some c=>
   rw[hb]at e;simp only at e ⊢
   cases hr:bO C run n c ⟨my args,h⟩with
   |none=>rw[hr]at e;cases e
   |some y=>rw[hr]at e;rw[vX L Ks c hr];exact e
theorem zZ(C:cP):∀n,gZ (fe C n) (fe C (n+1))
 |0=>λf args h x e=>by cases e
 |n+1=>Ft (zZ C n) (abI n)
theorem zO(C:cP){n m:Nat}(h:n<=m):gZ (fe C n) (fe C m):=by
 induction h with
 |refl=>exact λf args h x e=>e
 |step _ ih=>exact λf args h x e=>zZ C _ f args h x (ih f args h x e)
theorem aO.kb{f:FuncId}{args:List PV}{r:PV}{n:Nat}(e:Pm.oC C n f args=some r):aO C f args r:=by
 unfold Pm.oC at e
 cases hr:fe C n f args []with
 |none=>rw[hr]at e;cases e
 |some y=>
  obtain⟨r0,hc⟩:=y;rw[hr]at e
  cases h2:yU hc r0 with
  |none=>simp[h2]at e
  |some r1=>
   simp[h2]at e;exact⟨n,λm hm=>⟨r0,hc,r1,zO C hm f args [] _ hr,h2,e⟩⟩
end Go.Pm
namespace Go.Pm
def aW(C:cP)(ops:Array Oper)(i:Nat)(l:List Oper)(x:uZ)(Q:St->Prop):Prop:=
 ∃y:uZ,Q y.s/\∃n0,∀n,n0<=n->dE C (fe C n) ops (before ops) i l x=some y
variable{C:cP}(T:lL C.P)
variable{ops:Array Oper}{i:Nat}{d:Nat}{ty:TypeId}{pos:String}{af:Array Edge}{r:List Oper}{ρ:Nat->PV}{L:List (Nat×PV)}{h:ab}{L0:Nat}{own:List Nat}{Q:St->Prop}
theorem Ev.kG{id:Nat}{Q:Ex->St->Prop}(k:aW C ops 0 ops.toList ⟨⟨al L ρ,h⟩,h.length,[]⟩ (Q .normal))(hk:rC ops=false:=by rfl):Ev C (.region id ops true) ⟨al L ρ,h⟩ Q:=by
 obtain⟨y,q,n0,hn⟩:=k;exact⟨.normal,y.s,q,n0,λn m h1 h2=>by simp only[bO,if_true,hk,aad,if_false,hn n h1,aab]⟩
theorem aW.nil{s:St}(k:Q s):aW C ops i [] ⟨s,L0,own⟩ Q:=⟨⟨s,L0,own⟩,k,0,λ_ _=>rfl⟩
theorem aW.step{o:Oper}{x x1:uZ}(e:∃n0,∀n,n0<=n->ct C (fe C n) ops (before ops) i o x=some x1)(k:aW C ops (i+1) r x1 Q):aW C ops i (o::r) x Q:=by
 obtain⟨n1,yj⟩:=e;obtain⟨y,q,n0,hn⟩:=k;exact⟨y,q,max n0 n1,λn h1=>by simp only[dE,yj n (by omega),hn n (by omega)]⟩
theorem aW.plain{op:Op}{v:PV}{h':ab}(hh:cV op=false)(hc:∀run,ar C run 1 op (al L ρ) h=some (v,h'))(k:aW C ops (i+1) r ⟨⟨al ((d,v)::L) ρ,h⟩,L0,own⟩ Q):
  aW C ops i (⟨some d,op,ty,pos,af,none⟩::r) ⟨⟨al L ρ,h⟩,L0,own⟩ Q:=by
 refine aW.step ⟨0,λn _=>?_⟩ k;simp only[ct,bm,hh,if_true,hc,ck]
theorem aW.two{op:Op}{v:PV}{h':ab}(hh:cV op=true)(hl:level ops (before ops) i=2)(hc:∃n0,∀n,n0<=n->ar C (fe C n) 2 op (al L ρ) h=some (v,h'))(k:aW C ops (i+1) r ⟨⟨al ((d,v)::L) ρ,h'⟩,h'.length,[]⟩ Q):
  aW C ops i (⟨some d,op,ty,pos,af,none⟩::r) ⟨⟨al L ρ,h⟩,L0,own⟩ Q:=by
 obtain⟨n0,hn⟩:=hc;refine aW.step ⟨n0,λn h1=>?_⟩ k;simp only[ct,bm,hh,aaG,if_false,hl,if_true,hn n h1,ck]
theorem aW.one{op:Op}{v:PV}(hh:cV op=true)(hl:level ops (before ops) i≠2)(dp:aT h=true)(kV:(op.operands.toList.all λy=>bt (aL h) (ev (al L ρ) y))=true)
  (hc:∃n0,∀n,n0<=n->ar C (fe C n) 1 op (al L ρ) h=some (v,h)) (k:aW C ops (i+1) r ⟨⟨al ((d,v)::L) ρ,h⟩,h.length,[]⟩ Q):
  aW C ops i (⟨some d,op,ty,pos,af,none⟩::r) ⟨⟨al L ρ,h⟩,h.length,[]⟩ Q:=by
 obtain⟨n0,hn⟩:=hc;refine aW.step ⟨n0,λn h1=>?_⟩ k;have hM:cr ((before ops).getD i 0).testBit h.length [] h=h:=by simp[cr]
 simp only[ct,bm,hh,aaG,if_false,hl,hM,dp,kV,and_self,if_true,hn n h1,ck];simp
theorem fw(f:Nat->Bool)(cs:List PV):bz f cs=cs.all (bt f):=by
 induction cs with
 |nil=>rfl
 |cons c r ih=>simp[bz,ih]
theorem aW.read{op:Op}{v:PV}(hh:cV op=true)(dp:aT h=true)(kV:(op.operands.toList.all λy=>bt (aL h) (ev (al L ρ) y))=true)
  (hc:∃n0,∀n lv,n0<=n->1<=lv->ar C (fe C n) lv op (al L ρ) h=some (v,h)) (k:aW C ops (i+1) r ⟨⟨al ((d,v)::L) ρ,h⟩,h.length,[]⟩ Q):
  aW C ops i (⟨some d,op,ty,pos,af,none⟩::r) ⟨⟨al L ρ,h⟩,h.length,[]⟩ Q:=by
 obtain⟨n0,hn⟩:=hc
 by_cases hl:level ops (before ops) i=2
 ·exact aW.two hh hl ⟨n0,λn h1=>hn n 2 h1 (by omega)⟩ k
 ·exact aW.one hh hl dp kV ⟨n0,λn h1=>hn n 1 h1 (Z5 _)⟩ k
theorem D.move{x:Operand}{v:PV}(hx:cM L x=some v)(k:aW C ops (i+1) r ⟨⟨al ((d,v)::L) ρ,h⟩,L0,own⟩ Q):aW C ops i (⟨some d,.move x,ty,pos,af,none⟩::r) ⟨⟨al L ρ,h⟩,L0,own⟩ Q:=
 aW.plain (h':=h) rfl (λrun=>by simp only[ar,aC,an hx]) k
theorem D.assign{x:Operand}{v:PV}(hx:cM L x=some v)(k:aW C ops (i+1) r ⟨⟨al ((d,v)::L) ρ,h⟩,L0,own⟩ Q):aW C ops i (⟨some d,.assign x,ty,pos,af,none⟩::r) ⟨⟨al L ρ,h⟩,L0,own⟩ Q:=
 aW.plain (h':=h) rfl (λrun=>by simp only[ar,aC,an hx]) k
theorem D.fieldAddr{s:TypeId}{x:Operand}{f id ep j o off:Nat}{ft:TypeId}{os:List (Nat×TypeId)}{sz:Nat}(hx:cM L x=some (.ptr id ep j o))(hk:T.kd s=some (.st os))(hf:os[f]?=some (off,ft))(hs:T.ts ft=some (sz+1))
  (k:aW C ops (i+1) r ⟨⟨al ((d,.ptr id ep j (o+off))::L) ρ,h⟩,L0,own⟩ Q):aW C ops i (⟨some d,.fieldAddr s x f,ty,pos,af,none⟩::r) ⟨⟨al L ρ,h⟩,L0,own⟩ Q:=
 aW.plain (h':=h) rfl (λrun=>by simp[ar,aC,an hx,fU,ma T hk hf hs]) k
theorem D.fJ{t:TypeId}{x:Operand}{p c:PV}{cs:List PV}{sz:Nat}(dp:aT h=true)(hx:cM L x=some p)(hv:bt (aL h) p=true)(hs:T.ts t=some sz)(ht:T.ta t=some false)(hp:cK h p=some (c::cs))
  (k:aW C ops (i+1) r ⟨⟨al ((d,c)::L) ρ,h⟩,h.length,[]⟩ Q):aW C ops i (⟨some d,.load t x,ty,pos,af,none⟩::r) ⟨⟨al L ρ,h⟩,h.length,[]⟩ Q:=
 aW.read rfl dp (by simp[Op.operands,an hx,hv]) ⟨0,λn lv _ _=>by simp[ar,aC,an hx,iB,T.dT _ _ hs,T.MD _ _ ht,hp]⟩ k
theorem D.k9{t:TypeId}{x:Operand}{p:PV}{cs jo:List PV}{sz:Nat}(dp:aT h=true)(hx:cM L x=some p)(hv:bt (aL h) p=true)(hs:T.ts t=some (sz+1))(ht:T.ta t=some true)(hp:cK h p=some cs)(hc:pG (sz+1) cs jo)
  (k:aW C ops (i+1) r ⟨⟨al ((d,.agg jo)::L) ρ,h⟩,h.length,[]⟩ Q):aW C ops i (⟨some d,.load t x,ty,pos,af,none⟩::r) ⟨⟨al L ρ,h⟩,h.length,[]⟩ Q:=by
 obtain⟨rfl,hle⟩:=hc.eq;exact aW.read rfl dp (by simp[Op.operands,an hx,hv]) ⟨0,λn lv _ _=>by simp[ar,aC,an hx,iB,T.dT _ _ hs,T.MD _ _ ht,hp,hle]⟩ k
theorem D.gK{t el:TypeId}{x ix:Operand}{full:Bool}{es:List PV}{k:IntKind}{j:Nat}{v:PV}{cs:List PV}{sz:Nat}(dp:aT h=true)(hx:cM L x=some (.aa full es))(hi:cM L ix=some (.int k (j:Int)))(hk:T.kd t=some (.sl el))(hs:T.ts el=some (sz+1))
  (hv:es[j]?=some v) (hc:cells v=cs) (hl:cs.length=sz+1) (kk:aW C ops (i+1) r ⟨⟨al ((d,.eH cs)::L) ρ,h⟩,h.length,[]⟩ Q):aW C ops i (⟨some d,.indexAddr t x ix,ty,pos,af,none⟩::r) ⟨⟨al L ρ,h⟩,h.length,[]⟩ Q:=by
 have cI:j<es.length:=by
  rcases aaD j es.length with h |h
  ·exact h
  ·rw[aag h]at hv;cases hv
 subst hc;have BM:es[j]=v:=by rw[Z3 cI]at hv;exact ZZ hv
 exact aW.read rfl dp (by simp[Op.operands,an hx,an hi,bt]) ⟨0,λn lv _ _=>by simp[ar,aC,an hx,an hi,cy,bp (T.cU _ _ hk),T.dT _ _ hs,cI,BM,hl]⟩ kk
theorem D.jV{x:Operand}{xs:List Operand}{zM:Array TypeId}{f:FuncId}{di args:List PV}{v:PV}(dp:aT h=true)(hf:cM L x=some (.fn f di))(ha:xU L xs=some args)(hm:C.mode f=.pure)(rN:ao (args++di)=true)
  (im:bz (aL h) args=true) (hcv:bz (aL h) di=true) (a:aO C f (aQ (args++di)) v)
  (k:aW C ops (i+1) r ⟨⟨al ((d,v)::L) ρ,h⟩,h.length,[]⟩ Q):aW C ops i (⟨some d,.call ⟨.value x,xs.toArray,zM⟩,ty,pos,af,none⟩::r) ⟨⟨al L ρ,h⟩,h.length,[]⟩ Q:=by
 obtain⟨n0,hn⟩:=a;have he:=gC (ρ:=ρ) ha;refine aW.read rfl dp ?_ ⟨n0,λn lv h1 h2=>?_⟩ k
 ·rw[Z1]
  intro y hy
  simp[Op.operands,Call.operands]at hy;rcases hy with rfl |hy
  ·rw[an hf];simpa[bt]using hcv
  ·rw[fw]at im;have:ev (al L ρ) y∈args:=by rw[<-he];exact aak.2 ⟨y,hy,rfl⟩
   exact Z1.1 im _ this
 ·obtain⟨r0,hc,r1,e1,e2,e3⟩:=hn n h1;simp only[ar,fS,an hf];unfold dg;rw[hm];simp only[he,dD,rN,if_true,e1,e2,e3]
end Go.Pm
namespace Go.Pm
def L2(R:Value->PV->Prop)(vs:List Value)(cs:List PV):Prop:=vs.length=cs.length/\∀j,j<cs.length->R (vs.getD j undef) (cs.getD j .any)
inductive cj(w:World)(A:Nat->Prop):Value->PV->Prop
 |int (k:IntKind) (n:Int):cj w A (.int k n) (.int k n)
 |bool (b:Bool):cj w A (.bool b) (.bool b)
 |str (s:ByteArray):cj w A (.string s) (.str s)
 |ek:cj w A (.pointer none) .ek
 |gm:cj w A (.map none) .gm
 |aG:cj w A .nilFunc .aG
 |agg (vs:List Value) (cs:List PV):vs.length=cs.length->(∀j,j<cs.length->cj w A (vs.getD j undef) (cs.getD j .any))->cj w A (.agg vs.toArray) (.agg cs)
 |cx (vs:List Value) (cs:List PV):vs.length=cs.length->(∀j,j<cs.length->cj w A (vs.getD j undef) (cs.getD j .any))->cj w A (.tuple vs.toArray) (.cx cs)
 |fn (f:FuncId) (vs:List Value) (cs:List PV):vs.length=cs.length->(∀j,j<cs.length->cj w A (vs.getD j undef) (cs.getD j .any))->cj w A (.func (.func f) #[] vs.toArray) (.fn f cs)
 |ni (f:FuncId) (k:Nat) (vs:List Value) (cs:List PV):vs.length=cs.length->(∀j,j<cs.length->cj w A (vs.getD j undef) (cs.getD j .any))->cj w A (.func (.func f) (vs.take k).toArray (vs.drop k).toArray) (.ni f k cs)
 |gF (a:Option Addr) (cap:Nat) (full:Bool):(full=true->cap=0)->cj w A (.slice a 0 cap) (.aa full [])
 |aa (b off cap sz:Nat) (full:Bool) (es:List PV) (oI:Nat->Nat->Value):es≠[]->es.length<=cap->(full=true->cap=es.length)->¬A b->0<sz->
   (∀i,i<es.length->(cells (es.getD i .any)).length=sz)->
   (∀i j,i<es.length->j<sz->w.cell? ⟨b,off+(i * sz+j),none⟩=some (oI i j))->
   (∀i j,i<es.length->j<sz->cj w A (oI i j) ((cells (es.getD i .any)).getD j .any))->
   cj w A (.slice (some ⟨b,off,none⟩) es.length cap) (.aa full es)
 |eH (b off:Nat) (cs:List PV) (oI:Nat->Value):cs≠[]->¬A b->(∀j,j<cs.length->w.cell? ⟨b,off+j,none⟩=some (oI j))->
   (∀j,j<cs.length->cj w A (oI j) (cs.getD j .any))->cj w A (.pointer (some ⟨b,off,none⟩)) (.eH cs)
inductive aD(w:World)(A:Nat->Prop)(β:List (Nat×Nat))(h:ab):Value->PV->Prop
 |val {v:Value} {p:PV}:cj w A v p->aD w A β h v p
 |undef:aD w A β h (.tuple #[]) .undef
 |any (v:Value):aD w A β h v .any
 |ak (v:Value) (id ep off len:Nat) (o:au) (bc:Nat×Nat):(∃(a:Option Addr) (l c:Nat),v=.slice a l c)->h[id]?=some o->β[id]?=some bc->o.mu≠.x->(ep<=o.ep/\0<o.bC)->
   (o.ep=ep->off+len<=o.es.length->∃cap,v=.slice (some ⟨bc.1,off * o.bC,none⟩) len cap/\off+cap=bc.2)->
   aD w A β h v (.ak id ep off len)
 |ptr (v:Value) (id ep i off:Nat) (o:au) (bc:Nat×Nat):(∃a:Addr,v=.pointer (some a))->h[id]?=some o->β[id]?=some bc->o.mu≠.x->(ep<=o.ep/\0<o.bC)->
   (o.ep=ep->v=.pointer (some ⟨bc.1,i * o.bC+off,none⟩))->
   aD w A β h v (.ptr id ep i off)
 |cB (v:Value) (id:Nat) (o:au) (bc:Nat×Nat):(∃r:Nat,v=.map (some r))->h[id]?=some o->β[id]?=some bc->o.mu≠.x->(o.ep=0->v=.map (some bc.1))->aD w A β h v (.cB id)
 |agg (vs:List Value) (cs:List PV):vs.length=cs.length->(∀j,j<cs.length->aD w A β h (vs.getD j Go.undef) (cs.getD j .any))->aD w A β h (.agg vs.toArray) (.agg cs)
 |cx (vs:List Value) (cs:List PV):vs.length=cs.length->(∀j,j<cs.length->aD w A β h (vs.getD j Go.undef) (cs.getD j .any))->aD w A β h (.tuple vs.toArray) (.cx cs)
 |fn (f:FuncId) (vs:List Value) (cs:List PV):vs.length=cs.length->(∀j,j<cs.length->aD w A β h (vs.getD j Go.undef) (cs.getD j .any))->aD w A β h (.func (.func f) #[] vs.toArray) (.fn f cs)
 |ni (f:FuncId) (k:Nat) (vs:List Value) (cs:List PV):vs.length=cs.length->(∀j,j<cs.length->aD w A β h (vs.getD j Go.undef) (cs.getD j .any))->aD w A β h (.func (.func f) (vs.take k).toArray (vs.drop k).toArray) (.ni f k cs)
def Mb(h:ab)(β:List (Nat×Nat))(b:Nat):Prop:=∃(id:Nat) (o:au) (bc:Nat×Nat),h[id]?=some o/\β[id]?=some bc/\o.mu=.m/\bc.1=b
def Av(F:Nat->Prop)(h:ab)(β:List (Nat×Nat))(b:Nat):Prop:=F b\/Mb h β b
def W5(w:World)(A:Nat->Prop)(β:List (Nat×Nat))(h:ab)(o:au)(bc:Nat×Nat):Prop:=
 ∃T cs,w.heap[bc.1]?=some (.cells cs T (0,0))/\o.es.length<=bc.2/\bc.2 * o.bC<=cs.size/\0<o.bC/\
  (∀(i:Nat) (e:PV),o.es[i]?=some e->(cells e).length=o.bC/\∀(j:Nat) (p:PV),(cells e)[j]?=some p->∃v:Value,cs[i * o.bC+j]?=some v/\aD w A β h v p)
def W6(w:World)(A:Nat->Prop)(β:List (Nat×Nat))(h:ab)(o:au)(bc:Nat×Nat):Prop:=
 o.bC=0/\∃es clock,w.heap[bc.1]?=some (.map es clock)/\es.size=o.es.length/\
  (∀(i:Nat) (e:PV),o.es[i]?=some e->∃(k v:PV) (m:MapEntry),e=.agg [k,v]/\es[i]?=some m/\aD w A β h m.key k/\aD w A β h m.val v)
def ke(w:World)(A:Nat->Prop)(β:List (Nat×Nat))(h:ab)(o:au)(bc:Nat×Nat):Prop:=W5 w A β h o bc\/W6 w A β h o bc
theorem ke.c{w:World}{A:Nat->Prop}{β:List (Nat×Nat)}{h:ab}{o:au}{bc:Nat×Nat}(r:ke w A β h o bc)(hz:0<o.bC):W5 w A β h o bc:=by
 rcases r with r |r
 ·exact r
 ·have:=r.1;omega
theorem ke.m{w:World}{A:Nat->Prop}{β:List (Nat×Nat)}{h:ab}{o:au}{bc:Nat×Nat}(r:ke w A β h o bc)(hz:o.bC=0):W6 w A β h o bc:=by
 rcases r with⟨_,_,_,_,_,h4,_⟩|r
 ·omega
 ·exact r
theorem ke.lt{w:World}{A:Nat->Prop}{β:List (Nat×Nat)}{h:ab}{o:au}{bc:Nat×Nat}(r:ke w A β h o bc):bc.1<w.heap.size:=by
 rcases r with⟨_,_,h1,_⟩|⟨_,_,_,h1,_⟩ <;>exact(aap.1 h1).1
structure aZ(w:World)(F:Nat->Prop)(β:List (Nat×Nat))(h:ab):Prop where
 len:β.length=h.length
 fin:∀b,F b->b<w.heap.size
 obj:∀(id:Nat) (o:au) (bc:Nat×Nat),h[id]?=some o->β[id]?=some bc->o.mu≠.x->ke w (Av F h β) β h o bc
 ig:∀(id dY:Nat) (o o':au) (bc de:Nat×Nat),id≠dY->h[id]?=some o->h[dY]?=some o'->β[id]?=some bc->β[dY]?=some de->o.mu=.m->o'.mu≠.x->bc.1≠de.1
 out:∀(id:Nat) (o:au) (bc:Nat×Nat),h[id]?=some o->β[id]?=some bc->(o.mu=.m\/o.mu=.f)->¬F bc.1
def Gu(h:ab)(β:List (Nat×Nat))(h':ab)(β':List (Nat×Nat)):Prop:=
 ∀(id:Nat) (o:au) (bc:Nat×Nat),h[id]?=some o->β[id]?=some bc->o.mu≠.x->
  ∃(o':au) (de:Nat×Nat),h'[id]?=some o'/\β'[id]?=some de/\o'.mu≠.x/\(o.ep<=o'.ep/\(0<o.bC->0<o'.bC))/\(o.ep=o'.ep->o'.bC=o.bC/\(0<o.bC->o'.es.length=o.es.length)/\de=bc)
theorem Gu.refl(h:ab)(β:List (Nat×Nat)):Gu h β h β:=λ_ o bc e1 e2 e3=>⟨o,bc,e1,e2,e3,⟨Z5 _,λh=>h⟩,λ_=>⟨rfl,λ_=>rfl,rfl⟩⟩
theorem Gu.trans{h h1 h2:ab}{β β1 β2:List (Nat×Nat)}(a:Gu h β h1 β1)(b:Gu h1 β1 h2 β2):Gu h β h2 β2:=by
 intro id o bc e1 e2 e3
 obtain⟨o1,c1,f1,f2,f3,f4,f5⟩:=a id o bc e1 e2 e3;obtain⟨o2,c2,g1,g2,g3,g4,g5⟩:=b id o1 c1 f1 f2 f3;have f41:=f4.1;have g41:=g4.1;refine⟨o2,c2,g1,g2,g3,⟨aaQ f4.1 g4.1,λhz=>g4.2 (f4.2 hz)⟩,λe=>?_⟩;obtain⟨p1,p2,p3⟩:=f5 (by omega);obtain⟨q1,q2,q3⟩:=g5 (by omega);exact⟨q1.trans p1,λhz=>(q2 (f4.2 hz)).trans (p2 hz),q3.trans p3⟩
structure dS(w:World)(h:ab)(β:List (Nat×Nat))(w':World)(h':ab)(β':List (Nat×Nat)):Prop where
 size:w.heap.size<=w'.heap.size
 len:h.length<=h'.length
 aR:∀b,b<w.heap.size->¬Mb h β b->w'.heap[b]?=w.heap[b]?
 shr:∀b,b<w.heap.size->Mb h' β' b->Mb h β b
 refs:Gu h β h' β'
 JD:∀(id:Nat) (o:au),h[id]?=some o->o.mu≠.m->h'[id]?=some o/\β'[id]?=β[id]?
 os:w'.os=w.os
 tape:w'.tape=w.tape
 output:w'.output=w.output
 drawn:w.drawn<=w'.drawn
theorem dS.refl(w:World)(h:ab)(β:List (Nat×Nat)):dS w h β w h β where
 size:=Z5 _
 len:=Z5 _
 aR _ _ _:=rfl
 shr _ _ m:=m
 refs:=Gu.refl h β
 JD id o h1 _:=⟨h1,rfl⟩
 os:=rfl
 tape:=rfl
 output:=rfl
 drawn:=Z5 _
theorem dS.trans{w w1 w2:World}{h h1 h2:ab}{β β1 β2:List (Nat×Nat)}(a:dS w h β w1 h1 β1)(b:dS w1 h1 β1 w2 h2 β2):dS w h β w2 h2 β2 where
 size:=aaQ a.size b.size
 len:=aaQ a.len b.len
 aR k hk hm:=by
  have h1:¬Mb h1 β1 k:=λm=>hm (a.shr k hk m)
  rw[b.aR k (aaK hk a.size) h1,a.aR k hk hm]
 shr k hk m:=a.shr k hk (b.shr k (aaK hk a.size) m)
 refs:=a.refs.trans b.refs
 JD id o e1 e2:=by
  obtain⟨f1,f2⟩:=a.JD id o e1 e2;obtain⟨g1,g2⟩:=b.JD id o f1 e2;exact⟨g1,g2.trans f2⟩
 os:=b.os.trans a.os
 tape:=b.tape.trans a.tape
 output:=b.output.trans a.output
 drawn:=aaQ a.drawn b.drawn
theorem Ha{w:World}{b off:Nat}{v:Value}(h:w.cell? ⟨b,off,none⟩=some v):b<w.heap.size:=block_lt_of_cell h
theorem mX{w w':World}{b off:Nat}(h:w'.heap[b]?=w.heap[b]?):w'.cell? ⟨b,off,none⟩=w.cell? ⟨b,off,none⟩:=by
 simp[World.cell?,h]
theorem cj.mono{w w':World}{A A':Nat->Prop}(hw:∀b,b<w.heap.size->¬A b->w'.heap[b]?=w.heap[b]?)(hA:∀b,b<w.heap.size->¬A b->¬A' b)
  {v:Value} {p:PV} (h:cj w A v p):cj w' A' v p:=by
 induction h with
 |int k n=>exact .int k n
 |bool b=>exact .bool b
 |str s=>exact .str s
 |ek=>exact .ek
 |gm=>exact .gm
 |aG=>exact .aG
 |agg vs cs hl _ ih=>exact .agg vs cs hl ih
 |cx vs cs hl _ ih=>exact .cx vs cs hl ih
 |fn f vs cs hl _ ih=>exact .fn f vs cs hl ih
 |ni f k vs cs hl _ ih=>exact .ni f k vs cs hl ih
 |gF a cap full hf=>exact .gF a cap full hf
 |aa b off cap sz full es oI h1 h2 h3 h4 h5 h6 h7 _ ih=>
  have bJ:0<es.length:=abE.2 h1;have hb:b<w.heap.size:=Ha (h7 0 0 bJ h5);exact .aa b off cap sz full es oI h1 h2 h3 (hA b hb h4) h5 h6 (λi j hi hj=>by rw[mX (hw b hb h4)];exact h7 i j hi hj) ih
 |eH b off cs oI h1 h2 h3 _ ih=>
  have bJ:0<cs.length:=abE.2 h1;have hb:b<w.heap.size:=Ha (h3 0 bJ);exact .eH b off cs oI h1 (hA b hb h2) (λj hj=>by rw[mX (hw b hb h2)];exact h3 j hj) ih
theorem cj.uK{w:World}{A A':Nat->Prop}(hA:∀b,A' b->A b){v:Value}{p:PV}(h:cj w A v p):cj w A' v p:=
 h.mono (λ_ _ _=>rfl) (λb _ hn ha=>hn (hA b ha))
theorem Av.mono{w w':World}{h h':ab}{β β':List (Nat×Nat)}{F:Nat->Prop}(s:dS w h β w' h' β')(b:Nat)(hb:b<w.heap.size)(hn:¬Av F h β b):¬Av F h' β' b:=by
 rintro(hf |hm)
 ·exact hn (.inl hf)
 ·exact hn (.inr (s.shr b hb hm))
theorem aD.RX{w w':World}{h h':ab}{β β':List (Nat×Nat)}{A A':Nat->Prop}(f:Gu h β h' β')(hw:∀b,b<w.heap.size->¬A b->w'.heap[b]?=w.heap[b]?)(hA:∀b,b<w.heap.size->¬A b->¬A' b)
  {v:Value} {p:PV} (hv:aD w A β h v p):aD w' A' β' h' v p:=by
 induction hv with
 |val hs=>exact .val (hs.mono hw hA)
 |undef=>exact .undef
 |any v=>exact .any v
 |ak v id ep off len o bc h0 h1 h2 h3 h4 h5=>
  obtain⟨o',de,f1,f2,f3,f4,f5⟩:=f id o bc h1 h2 h3;have h41:=h4.1;have f41:=f4.1;refine .ak v id ep off len o' de h0 f1 f2 f3 ⟨aaQ h4.1 f4.1,f4.2 h4.2⟩ (λe1 e2=>?_);obtain⟨g1,g2,g3⟩:=f5 (by omega);have g2:=g2 h4.2;obtain⟨cap,k1,k2⟩:=h5 (by omega) (by omega);exact⟨cap,by rw[k1,g3,g1],by rw[k2,g3]⟩
 |ptr v id ep i off o bc h0 h1 h2 h3 h4 h5=>
  obtain⟨o',de,f1,f2,f3,f4,f5⟩:=f id o bc h1 h2 h3;have h41:=h4.1;have f41:=f4.1;refine .ptr v id ep i off o' de h0 f1 f2 f3 ⟨aaQ h4.1 f4.1,f4.2 h4.2⟩ (λe1=>?_);obtain⟨g1,g2,g3⟩:=f5 (by omega);rw[h5 (by omega),g3,g1]
 |cB v id o bc h0 h1 h2 h3 h5=>
  obtain⟨o',de,f1,f2,f3,f4,f5⟩:=f id o bc h1 h2 h3;have f41:=f4.1;refine .cB v id o' de h0 f1 f2 f3 (λe1=>?_);obtain⟨g1,g2,g3⟩:=f5 (by omega);rw[h5 (by omega),g3]
 |agg vs cs hl _ ih=>exact .agg vs cs hl ih
 |cx vs cs hl _ ih=>exact .cx vs cs hl ih
 |fn f vs cs hl _ ih=>exact .fn f vs cs hl ih
 |ni f k vs cs hl _ ih=>exact .ni f k vs cs hl ih
theorem aD.mono{w w':World}{h h':ab}{β β':List (Nat×Nat)}{F:Nat->Prop}(s:dS w h β w' h' β'){v:Value}{p:PV}(hv:aD w (Av F h β) β h v p):
  aD w' (Av F h' β') β' h' v p:=hv.RX s.refs (λb hb hn=>s.aR b hb (λm=>hn (.inr m))) (λb hb hn=>Av.mono s b hb hn)
section
variable{w:World}{A:Nat->Prop}{β:List (Nat×Nat)}{h:ab}{v:Value}
theorem aD.dK{k:IntKind}{n:Int}(hv:aD w A β h v (.int k n)):v=.int k n:=by cases hv with |val hs=>cases hs;rfl
theorem aD.gd{b:Bool}(hv:aD w A β h v (.bool b)):v=.bool b:=by cases hv with |val hs=>cases hs;rfl
theorem aD.l8{s:ByteArray}(hv:aD w A β h v (.str s)):v=.string s:=by cases hv with |val hs=>cases hs;rfl
theorem aD.HG(hv:aD w A β h v .undef):v=.tuple #[]:=by
 cases hv with
 |val hs=>cases hs
 |undef=>rfl
theorem aD.rG{cs:List PV}(hv:aD w A β h v (.agg cs)):∃vs:List Value,v=.agg vs.toArray/\vs.length=cs.length/\∀j,j<cs.length->aD w A β h (vs.getD j Go.undef) (cs.getD j .any):=by
 cases hv with
 |val hs=>cases hs with |agg vs _ hl hh=>exact⟨vs,rfl,hl,λj hj=>.val (hh j hj)⟩
 |agg vs _ hl hh=>exact⟨vs,rfl,hl,hh⟩
theorem aD.u6{cs:List PV}(hv:aD w A β h v (.cx cs)):∃vs:List Value,v=.tuple vs.toArray/\vs.length=cs.length/\∀j,j<cs.length->aD w A β h (vs.getD j Go.undef) (cs.getD j .any):=by
 cases hv with
 |val hs=>cases hs with |cx vs _ hl hh=>exact⟨vs,rfl,hl,λj hj=>.val (hh j hj)⟩
 |cx vs _ hl hh=>exact⟨vs,rfl,hl,hh⟩
theorem aD.Ei{f:FuncId}{cs:List PV}(hv:aD w A β h v (.fn f cs)):∃vs:List Value,v=.func (.func f) #[] vs.toArray/\vs.length=cs.length/\∀j,j<cs.length->aD w A β h (vs.getD j Go.undef) (cs.getD j .any):=by
 cases hv with
 |val hs=>cases hs with |fn _ vs _ hl hh=>exact⟨vs,rfl,hl,λj hj=>.val (hh j hj)⟩
 |fn _ vs _ hl hh=>exact⟨vs,rfl,hl,hh⟩
theorem aD.Og{f:FuncId}{k:Nat}{cs:List PV}(hv:aD w A β h v (.ni f k cs)):∃vs:List Value,v=.func (.func f) (vs.take k).toArray (vs.drop k).toArray/\vs.length=cs.length/\∀j,j<cs.length->aD w A β h (vs.getD j Go.undef) (cs.getD j .any):=by
 cases hv with
 |val hs=>cases hs with |ni _ _ vs _ hl hh=>exact⟨vs,rfl,hl,λj hj=>.val (hh j hj)⟩
 |ni _ _ vs _ hl hh=>exact⟨vs,rfl,hl,hh⟩
theorem aD.fv{f:Bool}{es:List PV}(hv:aD w A β h v (.aa f es)):cj w A v (.aa f es):=by cases hv with |val hs=>exact hs
theorem aD.sy{cs:List PV}(hv:aD w A β h v (.eH cs)):cj w A v (.eH cs):=by cases hv with |val hs=>exact hs
theorem aD.dL{id ep off len:Nat}(hv:aD w A β h v (.ak id ep off len)):id<h.length/\(∀o:au,h[id]?=some o->ep<=o.ep/\0<o.bC)/\
  (∀(o:au) (bc:Nat×Nat),h[id]?=some o->β[id]?=some bc->o.mu≠.x->o.ep=ep->off+len<=o.es.length->∃cap,v=.slice (some ⟨bc.1,off * o.bC,none⟩) len cap/\off+cap=bc.2):=by
 cases hv with
 |val hs=>cases hs
 |ak _ _ _ _ _ o bc h0 h1 h2 h3 h4 h5=>
  refine⟨?_,λo' e=>?_,λo' de e1 e2 e3 e4 e5=>?_⟩
  ·rcases aaD id h.length with hh |hh
   ·exact hh
   ·rw[aag hh]at h1;cases h1
  ·rw[h1]at e;obtain rfl:=ZZ e;exact h4
  ·rw[h1]at e1;rw[h2]at e2;obtain rfl:=ZZ e1;obtain rfl:=ZZ e2;exact h5 e4 e5
theorem aD.Ax{id ep i off:Nat}(hv:aD w A β h v (.ptr id ep i off)):id<h.length/\(∀o:au,h[id]?=some o->ep<=o.ep/\0<o.bC)/\
  (∀(o:au) (bc:Nat×Nat),h[id]?=some o->β[id]?=some bc->o.mu≠.x->o.ep=ep->v=.pointer (some ⟨bc.1,i * o.bC+off,none⟩)):=by
 cases hv with
 |val hs=>cases hs
 |ptr _ _ _ _ _ o bc h0 h1 h2 h3 h4 h5=>
  refine⟨?_,λo' e=>?_,λo' de e1 e2 e3 e4=>?_⟩
  ·rcases aaD id h.length with hh |hh
   ·exact hh
   ·rw[aag hh]at h1;cases h1
  ·rw[h1]at e;obtain rfl:=ZZ e;exact h4
  ·rw[h1]at e1;rw[h2]at e2;obtain rfl:=ZZ e1;obtain rfl:=ZZ e2;exact h5 e4
theorem aD.C'(hv:aD w A β h v .gm):v=.map none:=by cases hv with |val hs=>cases hs;rfl
theorem aD.Db{id:Nat}(hv:aD w A β h v (.cB id)){o:au}{bc:Nat×Nat}(e1:h[id]?=some o)(e2:β[id]?=some bc)(e3:o.ep=0):v=.map (some bc.1):=by
 cases hv with
 |val hs=>cases hs
 |cB _ _ o' de h0 h1 h2 h3 h5=>
  rw[e1]at h1;rw[e2]at h2;obtain rfl:=ZZ h1;obtain rfl:=ZZ h2;exact h5 e3
end
theorem aD.Hu{w:World}{A:Nat->Prop}{β:List (Nat×Nat)}{h:ab}{v:Value}{p:PV}(hv:aD w A β h v p)(hp:aV p=true):cj w A v p:=by
 have all:∀cs:List PV,ao cs=true->∀j,j<cs.length->aV (cs.getD j .any)=true:=by
  intro cs
  induction cs with
  |nil=>intro _ j hj;simp at hj
  |cons c r ih=>
   intro h j hj
   simp[ao]at h
   cases j with
   |zero=>simpa using h.1
   |succ j=>simpa using ih h.2 j (by simpa using hj)
 induction hv with
 |val hs=>exact hs
 |undef=>simp[aV]at hp
 |any v=>simp[aV]at hp
 |ak=>simp[aV]at hp
 |ptr=>simp[aV]at hp
 |cB=>simp[aV]at hp
 |agg vs cs hl _ ih=>exact .agg vs cs hl λj hj=>ih j hj (all cs (by simpa[aV]using hp) j hj)
 |cx vs cs hl _ ih=>exact .cx vs cs hl λj hj=>ih j hj (all cs (by simpa[aV]using hp) j hj)
 |fn f vs cs hl _ ih=>exact .fn f vs cs hl λj hj=>ih j hj (all cs (by simpa[aV]using hp) j hj)
 |ni f k vs cs hl _ ih=>exact .ni f k vs cs hl λj hj=>ih j hj (all cs (by simpa[aV]using hp) j hj)
theorem cj.cells{w:World}{A:Nat->Prop}{v:Value}{p:PV}(hv:cj w A v p):v.cells.size=(Pm.cells p).length/\∀(j:Nat) (q:PV),(Pm.cells p)[j]?=some q->∃u:Value,v.cells[j]?=some u/\cj w A u q:=by
 have one:∀(v:Value) (p:PV),cj w A v p->v.cells= #[v]->Pm.cells p=[p]->v.cells.size=(Pm.cells p).length/\∀(j:Nat) (q:PV),(Pm.cells p)[j]?=some q->∃u:Value,v.cells[j]?=some u/\cj w A u q:=by
  intro v p h e1 e2
  rw[e1,e2];refine⟨rfl,λj q hq=>?_⟩
  cases j with
  |zero=>simp at hq;subst hq;exact⟨v,rfl,h⟩
  |succ j=>simp at hq
 cases hv with
 |agg vs cs hl hh=>
  refine⟨by simpa[Value.cells,Pm.cells]using hl,λj q hq=>?_⟩
  have hj:j<cs.length:=by
   rcases aaD j cs.length with h |h
   ·exact h
   ·simp[Pm.cells,aag h]at hq
  have WV:cs[j]?=some q:=hq;refine⟨vs.getD j undef,?_,?_⟩
  ·simp only[Value.cells];have:j<vs.length:=by omega
   simp[List.getD,this]
  ·have:=hh j hj;rwa[aam (l:=cs),WV]at this
 |_=>exact one _ _ (by first |exact .int _ _ |exact .bool _ |exact .str _ |exact .ek |exact .gm |exact .aG |(rename_i a b;exact .cx _ _ a b)|(rename_i a b;exact .fn _ _ _ a b)|(rename_i a b;exact .ni _ _ _ _ a b)|(rename_i a;exact .gF _ _ _ a)|(rename_i h1 h2 h3 h4 h5 h6 h7 h8;exact .aa _ _ _ _ _ _ _ h1 h2 h3 h4 h5 h6 h7 h8)|(rename_i h1 h2 h3 h4;exact .eH _ _ _ _ h1 h2 h3 h4)) rfl rfl
end Go.Pm
