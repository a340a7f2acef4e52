/-
  A part of the library Pm (joined by program). Conditions: none.
-/
import GoSem.Decode
import GoSem.Step
import Derived.Orders
import Derived.Laws.BitsLemmas
import Derived.Laws.AppendOwn
import Derived.Laws.MakeOwn
import Derived.Below
set_option linter.unusedVariables false
set_option linter.unusedSimpArgs false
set_option linter.unnecessarySimpa false
abbrev Zu:=@Option.some.inj
abbrev Zv:=@List.getElem?_append_left
abbrev Zw:=@List.all_eq_true
abbrev Zx:=@List.length_append
abbrev Zy:=@List.getElem?_eq_getElem
abbrev Zz:=@Nat.le_refl
abbrev ZA:=@List.length_cons
abbrev ZB:=@List.getElem?_set_self
abbrev ZC:=@List.getElem?_set_ne
abbrev ZD:=@Bool.and_eq_true
abbrev ZE:=@List.mem_append
abbrev ZF:=@List.mem_cons
abbrev ZG:=@Prod.mk.inj
abbrev ZH:=@Option.map_some
abbrev ZI:=@List.getElem?_append_right
abbrev ZJ:=@Bool.false_eq_true
abbrev ZK:=@List.mem_of_getElem?
abbrev ZL:=@List.eq_nil_of_length_eq_zero
abbrev ZM:=@List.getElem?_eq_none
abbrev ZN:=@List.map_cons
abbrev ZO:=@List.getElem?_take
abbrev ZP:=@List.getElem?_map
abbrev ZQ:=@List.pairwise_cons
abbrev ZR:=@List.getD_eq_getElem?_getD
abbrev ZS:=@Nat.zero_add
abbrev ZT:=@Array.getElem?_eq_some_iff
abbrev ZU:=@Bool.or_eq_true
abbrev ZV:=@List.append_nil
abbrev ZW:=@List.take_of_length_le
abbrev ZX:=@List.map_nil
abbrev ZY:=@List.mem_singleton
abbrev ZZ:=@List.append_assoc
abbrev Z0:=@List.mem_map
abbrev Z1:=@Array.getElem?_toList
abbrev Z2:=@List.getElem_mem
abbrev Z3:=@List.cons_append
abbrev Z4:=@Option.some.injEq
abbrev Z5:=@List.drop_eq_nil_of_le
abbrev Z6:=@List.take_append_of_le_length
abbrev Z7:=@List.getElem?_drop
abbrev Z8:=@Nat.lt_or_ge
abbrev Z9:=@Nat.mul_le_mul_right
abbrev Z':=@List.length_nil
abbrev aaa:=@List.getElem?_take_of_lt
abbrev aab:=@Bool.true_eq_false
abbrev aac:=@List.mem_of_mem_drop
abbrev aad:=@List.nil_append
abbrev aae:=@List.mem_of_mem_take
abbrev aaf:=@Nat.lt_of_lt_of_le
abbrev aag:=@Nat.add_mul
abbrev aah:=@Nat.eq_of_beq_eq_true
abbrev aai:=@Option.map_eq_some_iff
abbrev aaj:=@Nat.le_trans
abbrev aak:=@Ne.symm
abbrev aal:=@List.map_append
abbrev aam:=@List.eq_of_mem_replicate
abbrev aan:=@List.map_congr_left
abbrev aao:=@List.mem_filter
abbrev aap:=@List.take_length
abbrev aaq:=@List.all_cons
abbrev aar:=@List.set_set
abbrev aas:=@List.getElem?_of_mem
abbrev aat:=@List.length_take
abbrev aau:=@List.any_eq_true
abbrev aav:=@List.drop_append_of_le_length
abbrev aaw:=@List.ext_getElem?
abbrev aax:=@Nat.le_of_ble_eq_true
abbrev aay:=@UInt8.lt_iff_toNat_lt
abbrev aaz:=@List.mem_flatMap
abbrev aaA:=@List.drop_zero
abbrev aaB:=@List.length_map
abbrev aaC:=@Array.getElem?_eq_getElem
abbrev aaD:=@List.not_mem_nil
abbrev aaE:=@Bool.true_and
abbrev aaF:=@List.take_take
abbrev aaG:=@Int.eq_ofNat_of_zero_le
abbrev aaH:=@Int.toNat_natCast
abbrev aaI:=@List.all_append
abbrev aaJ:=@Array.getD_eq_getD_getElem?
abbrev aaK:=@Array.length_toList
abbrev aaL:=@Nat.zero_le
abbrev aaM:=@List.getElem?_zipWith
abbrev aaN:=@List.length_replicate
abbrev aaO:=@List.set_append_right
abbrev aaP:=@List.length_filter_le
abbrev aaQ:=@List.mem_or_eq_of_mem_set
abbrev aaR:=@Array.ext'
abbrev aaS:=@Bool.not_eq_true'
abbrev aaT:=@Nat.lt_trichotomy
abbrev aaU:=@List.any_eq_false
abbrev aaV:=@Nat.add_assoc
abbrev aaW:=@List.all_nil
abbrev aaX:=@Nat.add_zero
abbrev aaY:=@List.mem_iff_getElem?
abbrev aaZ:=@List.getElem?_toArray
abbrev aa0:=@Bool.false_or
abbrev aa1:=@List.flatMap_cons
abbrev aa2:=@List.drop_eq_getElem_cons
abbrev aa3:=@List.mem_append_left
abbrev aa4:=@List.mem_cons_of_mem
abbrev aa5:=@List.map_map
abbrev aa6:=@List.countP_cons
abbrev aa7:=@Nat.zero_mul
abbrev aa8:=@List.length_pos_iff
abbrev aa9:=@Bool.and_true
abbrev aba:=@List.mem_replicate
abbrev abb:=@List.eq_nil_iff_forall_not_mem
abbrev abc:=@Nat.min_eq_left
abbrev abd:=@Nat.le_succ
abbrev abe:=@Array.getElem?_eq_none
abbrev abf:=@Array.mem_of_getElem?
abbrev abg:=@List.take_append_drop
abbrev abh:=@Nat.sub_self
abbrev abi:=@Array.getElem?_modify
abbrev abj:=@Array.getElem?_append
abbrev abk:=@List.getElem?_zipIdx
abbrev abl:=@List.length_drop
abbrev abm:=@Nat.mod_lt
abbrev abn:=@Bool.not_true
abbrev abo:=@List.take_succ_cons
abbrev abp:=@List.getD_cons_zero
abbrev abq:=@List.getD_cons_succ
abbrev abr:=@Classical.byContradiction
abbrev abt:=@Option.map_none
abbrev abu:=@List.findIdx?_eq_none_iff
abbrev abv:=@Option.isSome_iff_exists
abbrev abw:=@Bool.true_or
abbrev abx:=@Array.getElem?_replicate
abbrev aby:=@List.filter_append
abbrev abz:=@Bool.not_false
abbrev abA:=@Option.map_id'
abbrev abB:=@List.mem_range
abbrev abC:=@Nat.mul_le_mul
abbrev abD:=@List.size_toArray
abbrev abE:=@List.range_succ_eq_map
abbrev abF:=@Bool.and_self
abbrev abG:=@List.any_cons
abbrev abH:=@List.mem_append_right
abbrev abI:=@List.set_getElem_self
abbrev abJ:=@Array.mem_toList_iff
abbrev abK:=@List.length_set
abbrev abL:=@Bool.or_eq_false_iff
abbrev abM:=@Nat.mul_comm
abbrev abN:=@List.pairwise_append
abbrev abO:=@List.getElem_of_mem
abbrev abP:=@List.getElem?_range
abbrev abQ:=@Int.toNat_of_nonneg
abbrev abR:=@Option.map_map
abbrev abS:=@List.drop_take
abbrev abT:=@List.take_zero
abbrev abU:=@List.sum_cons
abbrev abV:=@Prod.mk.injEq
structure Wq(Q:Prop):Prop where
 o:Q
theorem wXA {P Q0:Prop} (q0:Q0) (h:Wq Q0->P:=by
  intro q0
  repeat' (first |(refine Rn.go ?_;conv=>whnf)|refine .mk ?_ |refine .tt ?_ |refine .ff ?_ |refine .m2 ?_ |refine .m3 ?_ |fail)
  exact q0.1):P:=h ⟨q0⟩
theorem wXB {P Q0:Prop} (q0:Q0) (h:Wq Q0->P:=by
  intro q0
  repeat' (first |refine ah.nil ?_ |(apply R.uz;exact rfl;exact rfl;exact rfl)|(apply R.mr;exact rfl;exact rfl;exact rfl)|(apply R.P4;exact rfl;exact rfl)|(apply R.move;exact rfl)|(apply R.assign;exact rfl)|(apply R.iy;exact rfl;exact rfl)|(apply R.gO;exact rfl;exact rfl)|(apply R.fF T6;exact rfl;exact rfl;exact rfl;exact rfl)|(apply R.kN T6;exact rfl;exact rfl;exact rfl;exact rfl;exact(by repeat constructor))|(apply R.fieldAddr T6;exact rfl;exact rfl;exact rfl;exact rfl)|(apply R.nE T6;exact rfl;exact rfl;exact rfl;exact rfl;exact rfl)|(apply R.arith;exact rfl;exact rfl;exact rfl;exact(jh (by omega) (by omega)))|(apply R.max;exact rfl;exact rfl)|(apply R.neg;exact rfl;exact(jh (by omega) (by omega)))|(apply R.build T6;exact rfl;exact rfl;exact rfl;exact rfl;exact rfl;exact rfl)|(apply R.buildSlice T6;exact rfl;exact rfl;exact rfl;exact rfl;exact(by decide);exact rfl;exact rfl;exact rfl;exact rfl;exact rfl)|(apply R.LK;exact rfl;exact rfl;exact(by assumption))|(apply R.LL;exact rfl;exact rfl;exact(by assumption))|(apply R.not;exact rfl;exact rfl)|(apply R.qt T6;exact rfl;exact rfl)|(apply R.extract;exact rfl;exact rfl)|(apply R.box;exact rfl;exact rfl;exact rfl;exact .nil)|(apply R.box;exact rfl;exact rfl;exact rfl;exact(.cons .nil))|(apply R.YX;exact rfl;exact rfl;exact rfl)|(apply R.alloc T6;exact rfl;exact rfl;exact rfl;exact .nil)|(apply R.alloc T6;exact rfl;exact rfl;exact rfl;exact(.cons .nil))|(apply R.alloc T6;exact rfl;exact rfl;exact rfl;exact(.cons (.cons .nil)))|(apply R.AK T6;exact rfl;exact rfl;exact rfl)|(apply R.AL T6;exact rfl;exact rfl;exact rfl;exact rfl;exact rfl;exact rfl)|(apply R.ov T6;exact rfl;exact rfl;exact rfl;exact(by assumption);exact rfl)|(apply R.xi T6;exact rfl;exact rfl;exact rfl;exact(by assumption);exact(by repeat constructor))|(apply R.sO T6;exact rfl;exact rfl;exact rfl;exact(by repeat constructor))|(apply R.nilCheck;exact rfl)|refine Ev.seq ?_ |refine Ev.region ?_ |refine Ev.kb ?_ |refine aV.nil ?_ |(apply D.move;exact rfl)|(apply D.assign;exact rfl)|(apply D.uz;exact rfl;exact rfl;exact rfl;exact rfl)|(apply D.arith;exact rfl;exact rfl;exact rfl;exact(jh (by omega) (by omega)))|(apply D.nE T6;exact rfl;exact rfl;exact rfl;exact rfl;exact rfl)|(apply D.build T6;exact rfl;exact rfl;exact rfl;exact rfl;exact rfl;exact rfl)|(apply D.fieldAddr T6;exact rfl;exact rfl;exact rfl;exact rfl)|(apply D.fF T6;exact(by first |exact rfl |assumption);exact rfl;exact rfl;exact rfl;exact rfl;exact rfl)|(apply D.kN T6;exact(by first |exact rfl |assumption);exact rfl;exact rfl;exact rfl;exact rfl;exact rfl;exact(by repeat constructor))|(apply Ev.iz;exact rfl)|refine Ev.ret ?_ |refine Ev.skip ?_ |refine Ev.block ?_ |refine aE.normal ?_ |refine aE.ret ?_ |refine aC.normal ?_ |refine aC.ret ?_ |refine aI.normal ?_ |refine aI.ret ?_ |(apply aJ.ret;exact rfl)|(apply aJ.YZ T6;exact rfl)|(apply D.ov T6;exact(by assumption);exact rfl;exact rfl;exact rfl;exact(by assumption);exact rfl)|(apply D.xi T6;exact(by assumption);exact rfl;exact rfl;exact rfl;exact(by assumption);exact(by repeat constructor))|(apply D.sO T6;exact(by first |exact rfl |assumption);exact rfl;exact rfl;exact rfl;exact(by repeat constructor))|fail)
  exact q0.1):P:=h ⟨q0⟩
theorem wXC {P Q0 Q1:Prop} (q0:Q0) (q1:Q1) (h:Wq Q0->Wq Q1->P:=by
  intro q0 q1
  repeat' (first |(refine Rn.go ?_;conv=>whnf)|refine .mk ?_ |refine .tt ?_ |refine .ff ?_ |refine .m3 ?_ |refine .mk (λhc=>?_) λhc=>?_ |fail)
  ·revert hc;exact q0.1
  ·revert hc;exact q1.1):P:=h ⟨q0⟩ ⟨q1⟩
theorem wXD {P Q0:Prop} (q0:Q0) (h:Wq Q0->P:=by
  intro q0
  repeat' (first |refine ah.nil ?_ |(apply R.uz;exact rfl;exact rfl;exact rfl)|(apply R.mr;exact rfl;exact rfl;exact rfl)|(apply R.P4;exact rfl;exact rfl)|(apply R.move;exact rfl)|(apply R.assign;exact rfl)|(apply R.iy;exact rfl;exact rfl)|(apply R.gO;exact rfl;exact rfl)|(apply R.kN T6;exact rfl;exact rfl;exact rfl;exact rfl;exact(by repeat constructor))|(apply R.arith;exact rfl;exact rfl;exact rfl;exact(jh (by omega) (by omega)))|(apply R.build T6;exact rfl;exact rfl;exact rfl;exact rfl;exact rfl;exact rfl)|(apply R.buildSlice T6;exact rfl;exact rfl;exact rfl;exact rfl;exact(by decide);exact rfl;exact rfl;exact rfl;exact rfl;exact rfl)|(apply R.not;exact rfl;exact rfl)|(apply R.qt T6;exact rfl;exact rfl)|(apply R.alloc T6;exact rfl;exact rfl;exact rfl;exact(.cons .nil))|refine Ev.seq ?_ |refine Ev.region ?_ |refine Ev.kb ?_ |refine aV.nil ?_ |(apply D.move;exact rfl)|(apply D.assign;exact rfl)|(apply D.arith;exact rfl;exact rfl;exact rfl;exact(jh (by omega) (by omega)))|(apply Ev.iz;exact rfl)|refine Ev.ret ?_ |refine Ev.skip ?_ |refine Ev.block ?_ |refine aE.normal ?_ |refine aE.ret ?_ |refine aC.normal ?_ |refine aI.normal ?_ |(apply aJ.ret;exact rfl)|fail)
  exact q0.1):P:=h ⟨q0⟩
theorem wXE {P Q0 Q1:Prop} (q0:Q0) (q1:Q1) (h:Wq Q0->Wq Q1->P:=by
  intro q0 q1
  repeat' (first |refine ah.nil ?_ |(apply R.uz;exact rfl;exact rfl;exact rfl)|(apply R.mr;exact rfl;exact rfl;exact rfl)|(apply R.P4;exact rfl;exact rfl)|(apply R.move;exact rfl)|(apply R.assign;exact rfl)|(apply R.iy;exact rfl;exact rfl)|(apply R.gO;exact rfl;exact rfl)|(apply R.fF T6;exact rfl;exact rfl;exact rfl;exact rfl)|(apply R.kN T6;exact rfl;exact rfl;exact rfl;exact rfl;exact(by repeat constructor))|(apply R.fieldAddr T6;exact rfl;exact rfl;exact rfl;exact rfl)|(apply R.cmp;exact rfl;exact rfl;exact rfl;all_goals intro hc)|(apply R.arith;exact rfl;exact rfl;exact rfl;exact(jh (by omega) (by omega)))|(apply R.neg;exact rfl;exact(jh (by omega) (by omega)))|(apply R.build T6;exact rfl;exact rfl;exact rfl;exact rfl;exact rfl;exact rfl)|(apply R.LK;exact rfl;exact rfl;exact(by assumption))|(apply R.LL;exact rfl;exact rfl;exact(by assumption))|(apply R.not;exact rfl;exact rfl)|(apply R.AB T6;exact rfl;exact rfl)|(apply R.qt T6;exact rfl;exact rfl)|(apply R.ov T6;exact rfl;exact rfl;exact rfl;exact(by assumption);exact rfl)|(apply R.xi T6;exact rfl;exact rfl;exact rfl;exact(by assumption);exact(by repeat constructor))|(apply R.sO T6;exact rfl;exact rfl;exact rfl;exact(by repeat constructor))|refine Ev.seq ?_ |refine Ev.region ?_ |refine Ev.kb ?_ |refine aV.nil ?_ |(apply D.move;exact rfl)|(apply D.assign;exact rfl)|(apply D.uz;exact rfl;exact rfl;exact rfl;exact rfl)|(apply D.iy;exact rfl;exact rfl)|(apply D.cmp;exact rfl;exact rfl;exact rfl;all_goals intro hc)|(apply D.fieldAddr T6;exact rfl;exact rfl;exact rfl;exact rfl)|(apply D.fF T6;exact(by first |exact rfl |assumption);exact rfl;exact rfl;exact rfl;exact rfl;exact rfl)|(apply D.kN T6;exact(by first |exact rfl |assumption);exact rfl;exact rfl;exact rfl;exact rfl;exact rfl;exact(by repeat constructor))|(apply Ev.iz;exact rfl)|refine Ev.ret ?_ |refine Ev.skip ?_ |refine Ev.exit ?_ |refine Ev.block ?_ |refine aE.normal ?_ |refine aE.ret ?_ |refine aE.exit ?_ |refine aC.normal ?_ |refine aC.ret ?_ |refine aC.Qa ?_ |refine aI.normal ?_ |refine aI.ret ?_ |refine aI.exit ?_ |(apply aJ.ret;exact rfl)|fail)
  ·revert hc;exact q0.1
  ·revert hc;exact q1.1):P:=h ⟨q0⟩ ⟨q1⟩
theorem wXF {P Q0:Prop} (q0:Q0) (h:Wq Q0->P:=by
  intro q0
  repeat' (first |refine ah.nil ?_ |(apply R.uz;exact rfl;exact rfl;exact rfl)|(apply R.move;exact rfl)|(apply R.assign;exact rfl)|(apply R.iy;exact rfl;exact rfl)|(apply R.kN T6;exact rfl;exact rfl;exact rfl;exact rfl;exact(by repeat constructor))|(apply R.fieldAddr T6;exact rfl;exact rfl;exact rfl;exact rfl)|(apply R.cmp;exact rfl;exact rfl;exact rfl;all_goals intro hc;all_goals(try(exfalso;omega)))|(apply R.arith;exact rfl;exact rfl;exact rfl;exact(jh (by omega) (by omega)))|(apply R.build T6;exact rfl;exact rfl;exact rfl;exact rfl;exact rfl;exact rfl)|(apply R.buildSlice T6;exact rfl;exact rfl;exact rfl;exact rfl;exact(by decide);exact rfl;exact rfl;exact rfl;exact rfl;exact rfl)|(apply R.not;exact rfl;exact rfl)|(apply R.qt T6;exact rfl;exact rfl)|(apply R.AK T6;exact rfl;exact rfl;exact rfl)|(apply R.AL T6;exact rfl;exact rfl;exact rfl;exact rfl;exact rfl;exact rfl)|(apply R.uM T6;exact rfl;exact rfl;exact rfl;exact rfl)|refine Ev.seq ?_ |refine Ev.region ?_ |refine aV.nil ?_ |(apply D.assign;exact rfl)|(apply Ev.iz;exact rfl)|refine Ev.ret ?_ |refine Ev.skip ?_ |refine Ev.exit ?_ |refine Ev.block ?_ |refine aE.normal ?_ |refine aE.exit ?_ |refine aC.normal ?_ |refine aC.Qa ?_ |refine aI.normal ?_ |refine aI.exit ?_ |(apply aJ.ret;exact rfl)|fail)
  revert hc;exact q0.1):P:=h ⟨q0⟩
theorem wXG {P Q0:Prop} (q0:Q0) (h:Wq Q0->P:=by
  intro q0
  repeat' (first |(refine Rn.go ?_;conv=>whnf)|((fail_if_success (show Py _ _ _ _ _));refine .mk ?_)|refine .tt ?_ |refine .ff ?_ |fail)
  exact q0.1):P:=h ⟨q0⟩
theorem wXH {P Q0:Prop} (q0:Q0) (h:Wq Q0->P:=by
  intro q0
  repeat' (first |(refine Rn.go ?_;conv=>whnf)|refine .mk ?_ |refine .tt ?_ |refine .ff ?_ |refine .m2 ?_ |refine .lp λv H lp=>?_ |fail)
  revert lp;revert H;revert v;exact q0.1):P:=h ⟨q0⟩
theorem wXI {P Q0 Q1 Q2:Prop} (q0:Q0) (q1:Q1) (q2:Q2) (h:Wq Q0->Wq Q1->Wq Q2->P:=by
  intro q0 q1 q2
  repeat' (first |(refine Rn.go ?_;conv=>whnf)|refine .mk ?_ |refine .tt ?_ |refine .ff ?_ |refine .mk (λhc=>?_) λhc=>?_ |fail)
  ·revert hc;exact q0.1
  ·revert hc;revert hc;exact q1.1
  ·revert hc;revert hc;exact q2.1):P:=h ⟨q0⟩ ⟨q1⟩ ⟨q2⟩
theorem wXJ {P Q0 Q1:Prop} (q0:Q0) (q1:Q1) (h:Wq Q0->Wq Q1->P:=by
  intro q0 q1
  repeat' (first |refine ah.nil ?_ |(apply R.uz;exact rfl;exact rfl;exact rfl)|(apply R.mr;exact rfl;exact rfl;exact rfl)|(apply R.move;exact rfl)|(apply R.assign;exact rfl)|(apply R.iy;exact rfl;exact rfl)|(apply R.gO;exact rfl;exact rfl)|(apply R.fF T6;exact rfl;exact rfl;exact rfl;exact rfl)|(apply R.fieldAddr T6;exact rfl;exact rfl;exact rfl;exact rfl)|(apply R.nE T6;exact rfl;exact rfl;exact rfl;exact rfl;exact rfl)|(apply R.cmp;exact rfl;exact rfl;exact rfl;all_goals intro hc;all_goals(try(exfalso;omega)))|(apply R.arith;exact rfl;exact rfl;exact rfl;exact(jh (by omega) (by omega)))|(apply R.neg;exact rfl;exact(jh (by omega) (by omega)))|(apply R.buildSlice T6;exact rfl;exact rfl;exact rfl;exact rfl;exact(by decide);exact rfl;exact rfl;exact rfl;exact rfl;exact rfl)|(apply R.qt T6;exact rfl;exact rfl)|(apply R.uM T6;exact rfl;exact rfl;exact rfl;exact rfl)|(apply R.sO T6;exact rfl;exact rfl;exact rfl;exact(by repeat constructor))|refine Ev.seq ?_ |refine Ev.region ?_ |(apply Ev.iz;exact rfl)|refine Ev.ret ?_ |refine Ev.skip ?_ |refine Ev.exit ?_ |refine Ev.block ?_ |refine aE.normal ?_ |refine aE.ret ?_ |refine aE.exit ?_ |refine aC.normal ?_ |refine aC.ret ?_ |refine aC.Qa ?_ |refine aI.normal ?_ |refine aI.ret ?_ |refine aI.exit ?_ |(apply aJ.ret;exact rfl)|fail)
  ·revert hc;exact q0.1
  ·revert hc;exact q1.1):P:=h ⟨q0⟩ ⟨q1⟩
theorem wXK {P Q0 Q1 Q2:Prop} (q0:Q0) (q1:Q1) (q2:Q2) (h:Wq Q0->Wq Q1->Wq Q2->P:=by
  intro q0 q1 q2
  repeat' (first |(refine Rn.go ?_;conv=>whnf)|refine .mk ?_ |refine .mk (λhc=>?_) λhc=>?_ |fail)
  ·revert hc;revert hc;exact q0.1
  ·revert hc;revert hc;exact q1.1
  ·revert hc;exact q2.1):P:=h ⟨q0⟩ ⟨q1⟩ ⟨q2⟩
theorem wXL {P Q0 Q1 Q2:Prop} (q0:Q0) (q1:Q1) (q2:Q2) (h:Wq Q0->Wq Q1->Wq Q2->P:=by
  intro q0 q1 q2
  repeat' (first |refine ah.nil ?_ |(apply R.uz;exact rfl;exact rfl;exact rfl)|(apply R.mr;exact rfl;exact rfl;exact rfl)|(apply R.move;exact rfl)|(apply R.assign;exact rfl)|(apply R.iy;exact rfl;exact rfl)|(apply R.gO;exact rfl;exact rfl)|(apply R.fF T6;exact rfl;exact rfl;exact rfl;exact rfl)|(apply R.kN T6;exact rfl;exact rfl;exact rfl;exact rfl;exact(by repeat constructor))|(apply R.fieldAddr T6;exact rfl;exact rfl;exact rfl;exact rfl)|(apply R.cmp;exact rfl;exact rfl;exact rfl;all_goals intro hc)|(apply R.arith;exact rfl;exact rfl;exact rfl;exact(jh (by omega) (by omega)))|(apply R.build T6;exact rfl;exact rfl;exact rfl;exact rfl;exact rfl;exact rfl)|(apply R.AB T6;exact rfl;exact rfl)|(apply R.box;exact rfl;exact rfl;exact rfl;exact .nil)|(apply R.AK T6;exact rfl;exact rfl;exact rfl)|(apply R.AL T6;exact rfl;exact rfl;exact rfl;exact rfl;exact rfl;exact rfl)|(apply R.ov T6;exact rfl;exact rfl;exact rfl;exact(by assumption);exact rfl)|(apply R.xi T6;exact rfl;exact rfl;exact rfl;exact(by assumption);exact(by repeat constructor))|refine Ev.seq ?_ |refine Ev.region ?_ |refine Ev.kb ?_ |refine aV.nil ?_ |(apply D.move;exact rfl)|(apply D.assign;exact rfl)|(apply D.uz;exact rfl;exact rfl;exact rfl;exact rfl)|(apply D.mr;exact rfl;exact rfl;exact rfl)|(apply D.gO;exact rfl;exact rfl)|(apply D.cmp;exact rfl;exact rfl;exact rfl;all_goals intro hc)|(apply Ev.iz;exact rfl)|refine Ev.ret ?_ |refine Ev.skip ?_ |refine Ev.exit ?_ |refine Ev.block ?_ |refine aE.normal ?_ |refine aE.ret ?_ |refine aE.exit ?_ |refine aC.normal ?_ |refine aC.ret ?_ |refine aC.Qa ?_ |refine aI.exit ?_ |(apply aJ.ret;exact rfl)|fail)
  ·revert hc;exact q0.1
  ·revert hc;revert hc;exact q1.1
  ·revert hc;revert hc;exact q2.1):P:=h ⟨q0⟩ ⟨q1⟩ ⟨q2⟩
theorem wXM {P Q0 Q1:Prop} (q0:Q0) (q1:Q1) (h:Wq Q0->Wq Q1->P:=by
  intro q0 q1
  repeat' (first |(refine Rn.go ?_;conv=>whnf)|refine .mk ?_ |refine .tt ?_ |refine .mk (λhc=>?_) λhc=>?_ |refine .lp λv H lp=>?_ |fail)
  ·revert lp;revert H;revert v;revert hc;exact q0.1
  ·revert hc;exact q1.1):P:=h ⟨q0⟩ ⟨q1⟩
theorem wXN {P Q0 Q1:Prop} (q0:Q0) (q1:Q1) (h:Wq Q0->Wq Q1->P:=by
  intro q0 q1
  repeat' (first |refine ah.nil ?_ |(apply R.move;exact rfl)|(apply R.assign;exact rfl)|(apply R.kN T6;exact rfl;exact rfl;exact rfl;exact rfl;exact(by repeat constructor))|(apply R.fieldAddr T6;exact rfl;exact rfl;exact rfl;exact rfl)|(apply R.cmp;exact rfl;exact rfl;exact rfl;all_goals intro hc;all_goals(try(exfalso;omega)))|(apply R.arith;exact rfl;exact rfl;exact rfl;exact(jh (by omega) (by omega)))|(apply R.buildSlice T6;exact rfl;exact rfl;exact rfl;exact rfl;exact(by decide);exact rfl;exact rfl;exact rfl;exact rfl;exact rfl)|(apply R.qt T6;exact rfl;exact rfl)|(apply R.AK T6;exact rfl;exact rfl;exact rfl)|(apply R.AL T6;exact rfl;exact rfl;exact rfl;exact rfl;exact rfl;exact rfl)|(apply R.uM T6;exact rfl;exact rfl;exact rfl;exact rfl)|(apply R.sO T6;exact rfl;exact rfl;exact rfl;exact(by repeat constructor))|refine Ev.seq ?_ |refine Ev.region ?_ |(apply Ev.iz;exact rfl)|refine Ev.skip ?_ |refine aE.normal ?_ |refine aC.normal ?_ |refine aI.normal ?_ |fail)
  ·revert hc;revert hc;exact q0.1
  ·revert hc;revert hc;exact q1.1):P:=h ⟨q0⟩ ⟨q1⟩
theorem wXO {P Q0 Q1 Q2 Q3 Q4 Q5 Q6:Prop} (q0:Q0) (q1:Q1) (q2:Q2) (q3:Q3) (q4:Q4) (q5:Q5) (q6:Q6) (h:Wq Q0->Wq Q1->Wq Q2->Wq Q3->Wq Q4->Wq Q5->Wq Q6->P:=by
  intro q0 q1 q2 q3 q4 q5 q6
  repeat' (first |(refine Rn.go ?_;conv=>whnf)|refine .mk ?_ |refine .mk (λhc=>?_) λhc=>?_ |fail)
  ·revert hc;exact q0.1
  ·revert hc;revert hc;exact q1.1
  ·revert hc;revert hc;revert hc;exact q2.1
  ·revert hc;revert hc;revert hc;revert hc;exact q3.1
  ·revert hc;revert hc;revert hc;revert hc;revert hc;exact q4.1
  ·revert hc;revert hc;revert hc;revert hc;revert hc;revert hc;exact q5.1
  ·revert hc;revert hc;revert hc;revert hc;revert hc;revert hc;exact q6.1):P:=h ⟨q0⟩ ⟨q1⟩ ⟨q2⟩ ⟨q3⟩ ⟨q4⟩ ⟨q5⟩ ⟨q6⟩
theorem wXP {P Q0 Q1 Q2:Prop} (q0:Q0) (q1:Q1) (q2:Q2) (h:Wq Q0->Wq Q1->Wq Q2->P:=by
  intro q0 q1 q2
  repeat' (first |(apply R.jb T6 (i:=0);exact rfl;exact rfl;exact rfl;assumption)|refine ah.nil ?_ |(apply R.uz;exact rfl;exact rfl;exact rfl)|(apply R.mr;exact rfl;exact rfl;exact rfl)|(apply R.P4;exact rfl;exact rfl)|(apply R.move;exact rfl)|(apply R.assign;exact rfl)|(apply R.iy;exact rfl;exact rfl)|(apply R.gO;exact rfl;exact rfl)|(apply R.fF T6;exact rfl;exact rfl;exact rfl;exact rfl)|(apply R.kN T6;exact rfl;exact rfl;exact rfl;exact rfl;exact(by repeat constructor))|(apply R.nE T6;exact rfl;exact rfl;exact rfl;exact rfl;exact rfl)|(apply R.cmp;exact rfl;exact rfl;exact rfl;all_goals intro hc;all_goals(try(exfalso;omega)))|(apply R.arith;exact rfl;exact rfl;exact rfl;exact(jh (by omega) (by omega)))|(apply R.P9;exact rfl;exact rfl;all_goals intro hc)|(apply R.AB T6;exact rfl;exact rfl)|(apply R.qt T6;exact rfl;exact rfl)|refine Ev.seq ?_ |refine Ev.region ?_ |refine Ev.kb ?_ |refine aV.nil ?_ |(apply D.move;exact rfl)|(apply D.uz;exact rfl;exact rfl;exact rfl;exact rfl)|(apply D.mr;exact rfl;exact rfl;exact rfl)|(apply D.gO;exact rfl;exact rfl)|(apply D.cmp;exact rfl;exact rfl;exact rfl;all_goals intro hc;all_goals(try(exfalso;omega)))|(apply D.arith;exact rfl;exact rfl;exact rfl;exact(jh (by omega) (by omega)))|(apply Ev.iz;exact rfl)|refine Ev.ret ?_ |refine Ev.skip ?_ |refine aE.normal ?_ |refine aE.ret ?_ |refine aC.normal ?_ |refine aC.ret ?_ |refine aI.normal ?_ |refine aI.ret ?_ |(apply aJ.ret;exact rfl)|fail)
  ·revert hc;exact q0.1
  ·revert hc;revert hc;exact q1.1
  ·revert hc;revert hc;exact q2.1):P:=h ⟨q0⟩ ⟨q1⟩ ⟨q2⟩
theorem wXQ {P Q0 Q1 Q2 Q3:Prop} (q0:Q0) (q1:Q1) (q2:Q2) (q3:Q3) (h:Wq Q0->Wq Q1->Wq Q2->Wq Q3->P:=by
  intro q0 q1 q2 q3
  repeat' (first |refine ah.nil ?_ |(apply R.uz;exact rfl;exact rfl;exact rfl)|(apply R.mr;exact rfl;exact rfl;exact rfl)|(apply R.move;exact rfl)|(apply R.assign;exact rfl)|(apply R.iy;exact rfl;exact rfl)|(apply R.gO;exact rfl;exact rfl)|(apply R.fF T6;exact rfl;exact rfl;exact rfl;exact rfl)|(apply R.fieldAddr T6;exact rfl;exact rfl;exact rfl;exact rfl)|(apply R.cmp;exact rfl;exact rfl;exact rfl;all_goals intro hc)|(apply R.Td;exact rfl;exact rfl;exact rfl;all_goals intro hc)|(apply R.ov T6;exact rfl;exact rfl;exact rfl;exact(by assumption);exact rfl)|refine Ev.seq ?_ |refine Ev.region ?_ |(apply Ev.iz;exact rfl)|refine Ev.ret ?_ |refine Ev.skip ?_ |refine aE.normal ?_ |refine aE.ret ?_ |(apply aJ.ret;exact rfl)|fail)
  ·revert hc;exact q0.1
  ·revert hc;revert hc;exact q1.1
  ·revert hc;revert hc;revert hc;exact q2.1
  ·revert hc;revert hc;revert hc;exact q3.1):P:=h ⟨q0⟩ ⟨q1⟩ ⟨q2⟩ ⟨q3⟩
theorem wXS {P Q0 Q1 Q2 Q3 Q4:Prop} (q0:Q0) (q1:Q1) (q2:Q2) (q3:Q3) (q4:Q4) (h:Wq Q0->Wq Q1->Wq Q2->Wq Q3->Wq Q4->P:=by
  intro q0 q1 q2 q3 q4
  repeat' (first |refine ah.nil ?_ |(apply R.uz;exact rfl;exact rfl;exact rfl)|(apply R.mr;exact rfl;exact rfl;exact rfl)|(apply R.P4;exact rfl;exact rfl)|(apply R.move;exact rfl)|(apply R.assign;exact rfl)|(apply R.iy;exact rfl;exact rfl)|(apply R.gO;exact rfl;exact rfl)|(apply R.fF T6;exact rfl;exact rfl;exact rfl;exact rfl)|(apply R.fieldAddr T6;exact rfl;exact rfl;exact rfl;exact rfl)|(apply R.cmp;exact rfl;exact rfl;exact rfl;all_goals intro hc)|(apply R.P9;exact rfl;exact rfl;all_goals intro hc)|(apply R.box;exact rfl;exact rfl;exact rfl;exact .nil)|refine Ev.seq ?_ |refine Ev.region ?_ |refine Ev.ret ?_ |refine aE.normal ?_ |(apply aJ.ret;exact rfl)|fail)
  ·revert hc;revert hc;exact q0.1
  ·revert hc;revert hc;revert hc;exact q1.1
  ·revert hc;revert hc;revert hc;revert hc;exact q2.1
  ·revert hc;revert hc;revert hc;revert hc;exact q3.1
  ·revert hc;exact q4.1):P:=h ⟨q0⟩ ⟨q1⟩ ⟨q2⟩ ⟨q3⟩ ⟨q4⟩
namespace Go.Pm
inductive PV where
 |int (k:IntKind) (n:Int)
 |bool (b:Bool)
 |str (s:ByteArray)
 |agg (cs:List PV)
 |cm (vs:List PV)
 |aa (full:Bool) (es:List PV)
 |aj (id ep off len:Nat)
 |ptr (id ep i off:Nat)
 |eC (cs:List PV)
 |cB (id:Nat)
 |gf
 |dW
 |aG
 |fn (f:FuncId) (da:List PV)
 |mR (f:FuncId) (k:Nat) (cs:List PV)
 |undef
 |any
 deriving Inhabited
inductive Mu where
 |m |l |f |x
 deriving DecidableEq,Inhabited
structure au where
 mu:Mu
 ep:Nat
 bB:Nat
 es:List PV
 deriving Inhabited
abbrev ab:=List au
structure St where
 ρ:Nat->PV
 h:ab
def nH(ρ:Nat->PV)(d:Nat)(v:PV):Nat->PV:=λt=>if t=d then v else ρ t
def bV(ρ:Nat->PV)(d:Option Nat)(v:PV):Nat->PV:=
 match d with
 |some d=>nH ρ d v
 |none=>ρ
def cells:PV->List PV
 | .agg cs=>cs
 |v=>[v]
def bG:PV->Bool
 | .agg _ | .cm _ | .undef | .any=>false
 |_=>true
mutual
def aW:PV->Bool
 | .int .. | .bool _ | .str _ | .dW | .aG | .gf | .aa .. | .eC _=>true
 | .agg cs=>ar cs
 | .cm cs=>ar cs
 | .fn _ cs=>ar cs
 | .mR _ _ cs=>ar cs
 | .aj .. | .ptr .. | .cB _ | .undef | .any=>false
def ar:List PV->Bool
 |[]=>true
 |c::r=>aW c&&ar r
end
mutual
def dP:PV->Bool
 | .int .. | .bool _ | .str _ | .dW | .aG | .gf=>true
 | .agg cs=>nT cs
 | .cm cs=>nT cs
 |_=>false
def nT:List PV->Bool
 |[]=>true
 |c::r=>dP c&&nT r
end
mutual
def b9:PV->PV
 | .aa _ es=>.aa false (aU es)
 | .agg cs=>.agg (aU cs)
 | .cm cs=>.cm (aU cs)
 | .fn f cs=>.fn f (aU cs)
 | .mR f k cs=>.mR f k (aU cs)
 | .eC cs=>.eC (aU cs)
 |p=>p
def aU:List PV->List PV
 |[]=>[]
 |c::r=>b9 c::aU r
end
def T7:Value->PV
 | .int k n=>.int k n
 | .bool b=>.bool b
 | .string s=>.str s
 | .slice none 0 0=>.aa true []
 | .pointer none=>.dW
 | .nilFunc=>.aG
 | .map none=>.gf
 |_=>.any
def cv:Value->PV
 | .agg cs=>.agg (cs.toList.map T7)
 |v=>T7 v
def ev(ρ:Nat->PV):Operand->PV
 | .tmp t=>ρ t
 | .const v=>cv v
 | .func f=>.fn f []
 | .global _=>.any
def cg(P:Program)(t:TypeId):Option Nat:=(P.info? t).map (·.size)
def lT(P:Program)(t:TypeId):Option Nat:=(P.info? t).map (·.bytes)
def iL(P:Program)(t:TypeId):Option PV:=((P.info? t).bind (·.zero)).map cv
def GA(P:Program)(t:TypeId):Option Bool:=(P.underlying t).map λ| .struct _ | .array _ _=>true |_=>false
def getM(h:ab)(id ep:Nat):Option au:=
 match h[id]? with
 |some o=>if o.ep=ep/\o.mu≠.x then some o else none
 |none=>none
def ch(h:ab):PV->Option (List PV)
 | .aa _ es=>some es
 | .aj id ep off len=>match getM h id ep with
  |some o=>if off+len<=o.es.length then some ((o.es.drop off).take len)else none
  |none=>none
 |_=>none
def cC(h:ab):PV->Option (List PV)
 | .eC cs=>some cs
 | .ptr id ep i off=>match getM h id ep with
  |some o=>match o.es[i]? with
   |some e=>some ((cells e).drop off)
   |none=>none
  |none=>none
 |_=>none
def iq(P:Program)(h:ab)(t:TypeId)(p:PV):Option PV:=
 match cg P t,GA P t,cC h p with
 |some sz,some true,some cs=>if 0<sz/\sz<=cs.length then some (.agg (cs.take sz))else none
 |some _,some false,some cs=>match cs with
  |c::_=>some c
  |[]=>none
 |_,_,_=>none
def eD(off sz:Nat)(e v:PV):PV:=
 if off=0/\sz=(cells e).length then v else .agg ((cells e).take off++cells v++(cells e).drop (off+sz))
def gC(P:Program)(h:ab)(t:TypeId)(p v:PV):Option ab:=
 match p,cg P t with
 | .ptr id ep i off,some sz=>match getM h id ep with
  |some o=>match o.es[i]? with
   |some e=>if o.mu=.m/\(cells v).length=sz/\(cells v).all bG=true/\off+sz<=(cells e).length then
     some (h.set id {o with es:=o.es.set i (eD off sz e v)})else none
   |none=>none
  |none=>none
 |_,_=>none
def newObj(h:ab)(bB:Nat)(es:List PV):ab:=h++[{mu:=.m,ep:=0,bB,es}]
def qT(cs:List PV)(off:Nat)(vs:List PV):List PV:=cs.take off++vs++cs.drop (off+vs.length)
def jI(place:Nat->Option (Nat×Nat))(cs:List PV):List (Nat×PV)->Option (List PV)
 |[]=>some cs
 |(i,v)::rest=>match place i with
  |none=>none
  |some (off,size)=>
   if(cells v).length=size/\(cells v).all bG=true/\off+size<=cs.length then jI place (qT cs off (cells v)) rest else none
def ir(P:Program)(fs:Array Field)(i:Nat):Option (Nat×Nat):=
 match fs[i]? with
 |some f=>(cg P f.type).map λs=>(f.offset,s)
 |none=>none
def uU(P:Program)(t:TypeId)(parts:List (Nat×PV)):Option PV:=
 match iL P t,P.underlying t with
 |some z,some (.struct fs)=>if fs.toList.all (λf=>(cg P f.type).isSome)=true/\(cells z).all bG=true then(jI (ir P fs) (cells z) parts).map .agg else none
 |some z,some (.array _ e)=>match cg P e with
  |some size=>if(cells z).all bG=true then(jI (λi=>some (i * size,size)) (cells z) parts).map .agg else none
  |none=>none
 |_,_=>none
def xO(z:PV)(n:Nat)(parts:List (Nat×PV)):List PV:=parts.foldl (λes x=>es.set x.1 x.2) (List.replicate n z)
def dp(P:Program)(lv:Nat)(h:ab)(t:TypeId)(len:Nat)(parts:List (Nat×PV)):Option (PV×ab):=
 match P.underlying t with
 |some (.slice e)=>match cg P e,iL P e with
  |some size,some z=>
   if 0<size/\len * size<=16777216/\(cells z).length=size/\(cells z).all bG=true/\parts.all (λp=>decide ((cells p.2).length=size)&& (cells p.2).all bG&&decide (p.1<len))=true then
    if ar (xO z len parts)then some (.aa true (xO z len parts),h)
    else if 2<=lv then some (.aj h.length 0 0 len,newObj h size (xO z len parts))else none
   else none
  |_,_=>none
 |_=>none
def gy(op:BinOp)(k:IntKind)(a b:Int):Option PV:=
 match op with
 | .add=>some (.int k (k.wrap (a+b)))
 | .sub=>some (.int k (k.wrap (a - b)))
 | .mul=>some (.int k (k.wrap (a * b)))
 | .quo=>if b=0 then none else some (.int k (k.wrap (a.tdiv b)))
 | .rem=>if b=0 then none else some (.int k (a.tmod b))
 | .eql=>some (.bool (a==b))
 | .neq=>some (.bool (a !=b))
 | .lss=>some (.bool (decide (a<b)))
 | .leq=>some (.bool (decide (a<=b)))
 | .gtr=>some (.bool (decide (a>b)))
 | .geq=>some (.bool (decide (a>=b)))
 | .and=>some (.int k (k.wrap (BitVec.ofInt k.bits a&&&BitVec.ofInt k.bits b).toNat))
 | .or=>some (.int k (k.wrap (BitVec.ofInt k.bits a |||BitVec.ofInt k.bits b).toNat))
 | .xor=>some (.int k (k.wrap (BitVec.ofInt k.bits a^^^BitVec.ofInt k.bits b).toNat))
 |_=>none
def pw(op:BinOp)(k:IntKind)(x y:Int):Option PV:=
 if y<0 then none else
 match op with
 | .shl=>some (.int k (k.wrap (x * 2^ (min y.toNat k.bits))))
 | .shr=>some (.int k (x.fdiv (2^ (min y.toNat k.bits))))
 |_=>none
def lF(op:BinOp)(x y:ByteArray):Option PV:=
 match op with
 | .add=>if((x.size+y.size:Nat):Int)>IntKind.i64.max then none else some (.str (x++y))
 | .eql=>some (.bool (x.toList==y.toList))
 | .neq=>some (.bool !(x.toList==y.toList))
 | .lss=>some (.bool (Op.bytesLess x.toList y.toList))
 | .leq=>some (.bool (Op.bytesLess x.toList y.toList ||x.toList==y.toList))
 | .gtr=>some (.bool !(Op.bytesLess x.toList y.toList ||x.toList==y.toList))
 | .geq=>some (.bool !(Op.bytesLess x.toList y.toList))
 |_=>none
def fe(P:Program)(op:BinOp)(t:TypeId)(x y:PV):Option PV:=
 match x,y with
 | .int k a,.int k' b=>match op with
  | .shl | .shr=>pw op k a b
  |_=>if k=k' then gy op k a b else none
 | .str a,.str b=>lF op a b
 | .bool a,.bool b=>match P.underlying t with
  |some .bool=>match op with
   | .eql=>some (.bool (a==b))
   | .neq=>some (.bool !(a==b))
   |_=>none
  |_=>none
 |_,_=>none
def Pf(op:UnOp)(x:PV):Option PV:=
 match op,x with
 | .neg,.int k n=>some (.int k (k.wrap (0 - n)))
 | .not,.bool b=>some (.bool !b)
 |_,_=>none
def I':PV->Option Int
 | .int .u8 n=>some n
 |_=>none
def mS:List PV->Option (List Int)
 |[]=>some []
 |c::r=>match I' c with
  |some n=>match mS r with
   |some l=>some (n::l)
   |none=>none
  |none=>none
def Qe(xs:List Int):ByteArray:=⟨(xs.map λn=>UInt8.ofNat n.toNat).toArray⟩
def uV(P:Program)(src dst:TypeId)(x:PV):Option PV:=
 match P.underlying src,P.underlying dst,x with
 |some _,some (.int k),.int _ n=>some (.int k (k.wrap n))
 |some _,some .string,.str s=>some (.str s)
 |some (.slice e),some .string,.aa _ es=>match P.underlying e,mS es with
  |some (.int .u8),some l=>some (.str (Qe l))
  |_,_=>none
 |_,_,_=>none
def cx(x:Option PV)(dflt top:Nat):Option Nat:=
 match x with
 |none=>some dflt
 |some (.int _ i)=>if 0<=i/\i<=(top:Int)then some i.toNat else none
 |some _=>none
def beyond(mx hi:Option PV)(len top:Nat):Option Nat:=
 match mx,hi with
 |none,some (.int k i)=>if(len:Int)<i then cx (some (.int k i)) 0 top else none
 |_,_=>none
def bX(P:Program)(h:ab)(t:TypeId)(x:PV)(lo hi mx:Option PV):Option PV:=
 match P.underlying t,x with
 |some .string,.str s=>if mx.isSome then none else
  match cx hi s.size s.size with
  |some b=>match cx lo 0 b with
   |some a=>some (.str (s.extract a b))
   |none=>none
  |none=>none
 |some (.slice e),.aa full es=>match cg P e with
  |some sz=>match cx mx es.length es.length with
   |some m=>match cx hi es.length m with
    |some b=>match cx lo 0 b with
     |some a=>if(mx.isSome&&hi.isNone)=false/\(es[a]?).all (λv=>(cells v).length==sz)=true then some (.aa (if mx.isSome then m==b else full&&b==es.length) ((es.drop a).take (b - a)))else none
     |none=>none
    |none=>none
   |none=>none
  |none=>none
 |some (.slice e),.aj id ep off len=>match cg P e,getM h id ep with
  |some sz,some o=>if sz=o.bB/\off+len<=o.es.length then
    match beyond mx hi len (o.es.length - off)with
    |some b=>match cx lo 0 b with
     |some a=>if a=0 then some (.aj id ep off b)else if b - a=0 then some (.aa false [])else some (.aj id ep (off+a) (b - a))
     |none=>none
    |none=>
    match cx mx len len with
    |some m=>match cx hi len m with
     |some b=>match cx lo 0 b with
      |some a=>if(mx.isSome&&hi.isNone)=false then
        (if mx.isSome then(if m=a then some (.aa true [])else some .any)
         else if a=0 then some (.aj id ep off b)else if b - a=0 then some (.aa false [])else some (.aj id ep (off+a) (b - a)))
       else none
      |none=>none
     |none=>none
    |none=>none
   else none
  |_,_=>none
 |_,_=>none
def nU(P:Program)(s:TypeId)(f:Nat):Option (Nat×TypeId):=
 match P.underlying s with
 |some (.struct fs)=>match fs[f]? with
  |some fl=>match cg P fl.type with
   |some sz=>if sz=0 then none else some (fl.offset,fl.type)
   |none=>none
  |none=>none
 |_=>none
def fS(P:Program)(s:TypeId)(p:PV)(f:Nat):Option PV:=
 match nU P s f,p with
 |some (off,_),.eC cs=>if off<cs.length then some (.eC (cs.drop off))else none
 |some (off,_),.ptr id ep i o=>some (.ptr id ep i (o+off))
 |_,_=>none
def uW(P:Program)(t:TypeId)(cs:List PV)(off:Nat):Option PV:=
 match GA P t,cg P t with
 |some true,some sz=>if off+sz<=cs.length then some (.agg ((cs.drop off).take sz))else none
 |some false,some _=>match cs[off]? with
  |some c=>some c
  |none=>none
 |_,_=>none
def zH(P:Program)(s:TypeId)(x:PV)(f:Nat):Option PV:=
 match P.underlying s,x with
 |some (.struct fs),.agg cs=>match fs[f]? with
  |some fl=>uW P fl.type cs fl.offset
  |none=>none
 |_,_=>none
def cq(P:Program)(h:ab)(t:TypeId)(x ix:PV):Option PV:=
 match P.underlying t,x,ix with
 |some (.slice e),.aa _ es,.int _ i=>match cg P e with
  |some sz=>if 0<=i/\i<(es.length:Int)then
    match es[i.toNat]? with
    |some v=>if 0<sz/\(cells v).length=sz then some (.eC (cells v))else none
    |none=>none
   else none
  |none=>none
 |some (.slice e),.aj id ep off len,.int _ i=>match cg P e,getM h id ep with
  |some sz,some o=>if 0<=i/\i<(len:Int)/\sz=o.bB/\off+len<=o.es.length then some (.ptr id ep (off+i.toNat) 0)else none
  |_,_=>none
 |some (.array n e),.eC cs,.int _ i=>match cg P e with
  |some sz=>if 0<=i/\i<(n:Int)/\i.toNat * sz<cs.length then some (.eC (cs.drop (i.toNat * sz)))else none
  |none=>none
 |some (.array n e),.ptr id ep k o,.int _ i=>match cg P e with
  |some sz=>if 0<=i/\i<(n:Int)then some (.ptr id ep k (o+i.toNat * sz))else none
  |none=>none
 |_,_,_=>none
def uX(P:Program)(t:TypeId)(x ix:PV):Option PV:=
 match P.underlying t,x,ix with
 |some (.array n e),.agg cs,.int _ i=>match cg P e with
  |some sz=>if 0<=i/\i<(n:Int)then uW P e cs (i.toNat * sz)else none
  |none=>none
 |some .string,.str s,.int _ i=>if 0<=i then
   match s[i.toNat]? with
   |some b=>some (.int .u8 b.toNat)
   |none=>none
  else none
 |_,_,_=>none
def AX(h:ab)(id:Nat):Option au:=
 match getM h id 0 with
 |some o=>if o.bB=0 then some o else none
 |none=>none
def yj:PV->PV->Option Bool
 | .int k a,.int k' b=>if k=k' then some (a==b)else none
 | .str a,.str b=>some (a==b)
 | .bool a,.bool b=>some (a==b)
 |_,_=>none
def sX(k:PV):List PV->Nat->Option (Option (Nat×PV))
 |[],_=>some none
 |e::es,i=>match e with
  | .agg [k',v]=>match yj k k' with
   |some true=>some (some (i,v))
   |some false=>sX k es (i+1)
   |none=>none
  |_=>none
def xP(P:Program)(t:TypeId)(k:PV):Bool:=
 match P.underlying t,k with
 |some (.int k),.int k' _=>decide (k'=k)
 |some .string,.str _ |some .bool,.bool _=>true
 |_,_=>false
def gh(ok:Bool)(v:PV)(b:Bool):PV:=if ok then .cm [v,.bool b]else v
def mT(P:Program)(h:ab)(t:TypeId)(m k:PV)(ok:Bool):Option PV:=
 match P.underlying t with
 |some (.map kt et)=>match iL P et with
  |some z=>if xP P kt k=true then
    match m with
    | .gf=>some (gh ok z false)
    | .cB id=>match AX h id with
     |some o=>match sX k o.es 0 with
      |some (some (_,v))=>some (gh ok v true)
      |some none=>some (gh ok z false)
      |none=>none
     |none=>none
    |_=>none
   else none
  |none=>none
 |_=>none
def Qf(k v:PV)(es:List PV):Option (List PV):=
 match sX k es 0 with
 |some (some (i,_))=>some (es.set i (.agg [k,v]))
 |some none=>some (es++[.agg [k,v]])
 |none=>none
def mU(P:Program)(h:ab)(t:TypeId)(m k v:PV):Option ab:=
 match P.underlying t,m with
 |some (.map kt _),.cB id=>match AX h id with
  |some o=>if xP P kt k=true/\o.mu=.m then
    match Qf k v o.es with
    |some es=>some (h.set id {o with es})
    |none=>none
   else none
  |none=>none
 |_,_=>none
def mf(P:Program)(lv:Nat)(h:ab)(t:TypeId)(r:Option PV):Option (PV×ab):=
 if 1<=lv then
  match r,P.underlying t with
  |none,_=>some (.cB h.length,newObj h 0 [])
  |some (.int _ _),some (.map _ _)=>some (.cB h.length,newObj h 0 [])
  |_,_=>none
 else none
def nV(P:Program)(h:ab)(t:TypeId)(x:PV):Option PV:=
 match P.underlying t,x with
 |some .string,.str s=>some (.int .i64 s.size)
 |some (.array n _),_=>some (.int .i64 n)
 |some (.slice _),.aa _ es=>some (.int .i64 es.length)
 |some (.map _ _),.gf=>some (.int .i64 0)
 |some (.map _ _),.cB id=>match AX h id with
  |some o=>some (.int .i64 o.es.length)
  |none=>none
 |some (.slice _),.aj id ep off len=>match getM h id ep with
  |some o=>if off+len<=o.es.length then some (.int .i64 len)else none
  |none=>none
 |_,_=>none
def cy(P:Program)(h:ab)(z:PV)(xt:TypeId)(x:PV):Option (List PV):=
 match P.underlying xt,x with
 |some (.int _),.int _ n=>if 0<=n/\n<=1073741824 then some (List.replicate n.toNat z)else none
 |some (.slice _),x=>ch h x
 |_,_=>none
def roomy(n bytes:Nat):Bool:=decide (n * bytes<=17592186044416)&&decide (n<=17592186044416)
def jD(id:Nat):PV->Bool
 | .aj i _ _ _=>i==id
 |_=>false
def bL(P:Program)(lv:Nat)(h:ab)(st xt:TypeId)(s x:PV):Option (PV×ab):=
 match P.underlying st with
 |some (.slice e)=>match cg P e,lT P e,iL P e with
  |some sz,some bytes,some z=>match cy P h z xt x with
   |some ys=>
    if 0<sz/\bytes<=65536/\((cells z).length=sz/\(cells z).all bG=true)/\ys.all (λv=>decide ((cells v).length=sz)&& (cells v).all bG)=true then
     match s with
     | .aa full es=>
      if ys.isEmpty then some (s,h)
      else if full=true/\1<=lv/\roomy (es.length+ys.length) bytes=true/\es.all (λv=>decide ((cells v).length=sz)&& (cells v).all bG)=true then
       some (.aj h.length 0 0 (es.length+ys.length),newObj h sz (es++ys))
      else none
     | .aj id ep off len=>match getM h id ep with
      |some o=>
       if off+len<=o.es.length/\sz=o.bB then
        if ys.isEmpty then some (s,h)
        else if off=0/\2<=lv/\o.mu=.m/\jD id x=true/\len+ys.length<=o.es.length then
         some (.aj id ep 0 (len+ys.length),h.set id {o with es:=o.es.take len++ys++o.es.drop (len+ys.length)})
        else if off=0/\2<=lv/\o.mu=.m/\roomy (len+ys.length) bytes=true then
         some (.aj id (ep+1) 0 (len+ys.length),h.set id {o with ep:=ep+1,es:=o.es.take len++ys})
        else none
       else none
      |none=>none
     |_=>none
    else none
   |none=>none
  |_,_,_=>none
 |_=>none
def yk(P:Program)(lv:Nat)(h:ab)(dt:TypeId)(d x:PV):Option (PV×ab):=
 match P.underlying dt,d,ch h x with
 |some (.slice e),.aj id ep off len,some ys=>match cg P e,getM h id ep with
  |some sz,some o=>
   if 2<=lv/\o.mu=.m/\sz=o.bB/\off+len<=o.es.length/\ys.all (λv=>decide ((cells v).length=sz))=true/\(ys.take (min ys.length len)).all (λv=>decide ((cells v).length=sz)&& (cells v).all bG)=true then
    let n:=min ys.length len
    some (.int .i64 n,h.set id {o with es:=o.es.take off++ys.take n++o.es.drop (off+n)})
   else none
  |_,_=>none
 |_,_,_=>none
def lU(P:Program)(lv:Nat)(h:ab)(t:TypeId)(x:PV):Option (PV×ab):=
 match P.underlying t,x with
 |some (.slice e),.aj id ep off len=>match cg P e,iL P e,getM h id ep with
  |some sz,some z,some o=>
   if 2<=lv/\o.mu=.m/\sz=o.bB/\off+len<=o.es.length/\(cells z).length=sz/\(cells z).all bG=true then
    some (.cm [],h.set id {o with es:=o.es.take off++List.replicate len z++o.es.drop (off+len)})
   else none
  |_,_,_=>none
 |some (.slice _),.aa _ []=>some (.cm [],h)
 |_,_=>none
def Qg(P:Program)(t:TypeId)(x:PV):Option PV:=
 match P.underlying t,x with
 |some (.slice _),.aa true es=>some (.int .i64 es.length)
 |_,_=>none
def Ja:List PV->Option PV
 |[.int k a,.int _ b]=>some (.int k (if b>a then b else a))
 |_=>none
def MQ:List PV->Option PV
 |[.int k a,.int _ b]=>some (.int k (if b<a then b else a))
 |_=>none
def jk(P:Program)(lv:Nat)(h:ab)(t:TypeId)(len cap:PV):Option (PV×ab):=
 match P.underlying t,len,cap with
 |some (.slice e),.int _ n,.int _ c=>match cg P e,lT P e,iL P e with
  |some sz,some bytes,some z=>
   if 1<=lv/\0<=n/\n<=c/\c<=1073741824/\0<sz/\bytes<=65536/\(cells z).length=sz/\(cells z).all bG=true then
    some (.aj h.length 0 0 n.toNat,newObj h sz (List.replicate n.toNat z))
   else none
  |_,_,_=>none
 |_,_,_=>none
def bo(P:Program)(lv:Nat)(h:ab)(b:Builtin)(ts:List TypeId)(args:List PV):Option (PV×ab):=
 match b,ts,args with
 | .len,t::_,x::_=>(nV P h t x).map (·,h)
 | .append,st::xt::_,s::x::_=>bL P lv h st xt s x
 | .copy,dt::_,d::x::_=>yk P lv h dt d x
 | .clear,t::_,x::_=>lU P lv h t x
 | .cap,t::_,x::_=>(Qg P t x).map (·,h)
 | .max,_,xs=>(Ja xs).map (·,h)
 | .min,_,xs=>(MQ xs).map (·,h)
 |_,_,_=>none
def az(P:Program)(lv:Nat)(op:Op)(ρ:Nat->PV)(h:ab):Option (PV×ab):=
 match op with
 | .move x | .assign x=>some (ev ρ x,h)
 | .pick c a b=>match ev ρ c with
  | .bool t=>some (if t then ev ρ a else ev ρ b,h)
  |_=>none
 | .alloc t=>match iL P t with
  |some z=>if 1<=lv/\(cells z).all bG=true/\0<(cells z).length then some (.ptr h.length 0 0 0,newObj h (cells z).length [z])else none
  |none=>none
 | .box _ x=>if 1<=lv/\(cells (ev ρ x)).all bG=true/\0<(cells (ev ρ x)).length then some (.ptr h.length 0 0 0,newObj h (cells (ev ρ x)).length [ev ρ x])else none
 | .build t parts=>(uU P t (parts.toList.map λ(i,x)=>(i,ev ρ x))).map (·,h)
 | .buildSlice t n parts=>dp P lv h t n (parts.toList.map λ(i,x)=>(i,ev ρ x))
 | .load t a=>(iq P h t (ev ρ a)).map (·,h)
 | .store t a x=>if 2<=lv then(gC P h t (ev ρ a) (ev ρ x)).map (.undef,·)else none
 | .nilCheck x=>match ev ρ x with
  | .ptr id ep i o=>some (.ptr id ep i o,h)
  | .eC cs=>some (.eC cs,h)
  | .fn f cs=>some (.fn f cs,h)
  |_=>none
 | .binOp op t x y _=>(fe P op t (ev ρ x) (ev ρ y)).map (·,h)
 | .unOp op _ x=>(Pf op (ev ρ x)).map (·,h)
 | .convert s d x=>(uV P s d (ev ρ x)).map (·,h)
 | .makeFunc (.func f) first da=>if first.isEmpty then some (.fn f (da.toList.map (ev ρ)),h)else some (.mR f first.size ((first.toList++da.toList).map (ev ρ)),h)
 | .makeSlice t l c=>jk P lv h t (ev ρ l) (ev ρ c)
 | .slice t x lo hi mx=>(bX P h t (ev ρ x) (lo.map (ev ρ)) (hi.map (ev ρ)) (mx.map (ev ρ))).map (·,h)
 | .fieldAddr s x f=>(fS P s (ev ρ x) f).map (·,h)
 | .field s x f=>(zH P s (ev ρ x) f).map (·,h)
 | .indexAddr t x ix=>(cq P h t (ev ρ x) (ev ρ ix)).map (·,h)
 | .index t x ix=>(uX P t (ev ρ x) (ev ρ ix)).map (·,h)
 | .makeMap t r=>mf P lv h t (r.map (ev ρ))
 | .lookup t x k ok=>(mT P h t (ev ρ x) (ev ρ k) ok).map (·,h)
 | .mapUpdate t m k v | .insert t m k v=>if 2<=lv then(mU P h t (ev ρ m) (ev ρ k) (ev ρ v)).map (.undef,·)else none
 | .extract x i=>match ev ρ x with
  | .cm vs=>match vs[i]? with
   |some v=>some (v,h)
   |none=>none
  |_=>none
 |_=>none
def qi(h:ab)(p:PV):Option PV:=
 match p with
 | .aj id ep off len=>match getM h id ep with
  |some o=>if off+len<=o.es.length/\(o.mu=.m\/o.mu=.f)/\ar ((o.es.drop off).take len)=true then some (.aa false ((o.es.drop off).take len))else none
  |none=>none
 |p=>if aW p then some p else none
def nW(h:ab):List PV->Option (List PV)
 |[]=>some []
 |c::r=>match qi h c,nW h r with
  |some c',some r'=>some (c'::r')
  |_,_=>none
def ly(h:ab)(p:PV):Option PV:=
 match p with
 | .agg cs=>(nW h cs).map .agg
 |p=>qi h p
def iK(h:ab):List PV->Option (List PV)
 |[]=>some []
 |c::r=>match ly h c,iK h r with
  |some c',some r'=>some (c'::r')
  |_,_=>none
def rb(h:ab)(p:PV):Option PV:=
 match p with
 | .cm cs=>(iK h cs).map .cm
 |p=>ly h p
def fT(f:PV->Option PV):List PV->Option (List PV)
 |[]=>some []
 |c::r=>match f c,fT f r with
  |some c',some r'=>some (c'::r')
  |_,_=>none
def pz:Nat->ab->PV->Option PV
 |0,_,p=>if aW p then some p else none
 |n+1,h,p=>match p with
  | .aj id ep off len=>match getM h id ep with
   |some o=>if off+len<=o.es.length/\(o.mu=.m\/o.mu=.f)then(fT (pz n h) ((o.es.drop off).take len)).map (.aa false)else none
   |none=>none
  | .agg cs=>(fT (pz n h) cs).map .agg
  | .cm cs=>(fT (pz n h) cs).map .cm
  |p=>if aW p then some p else none
def yl(h:ab)(p:PV):Option PV:=match rb h p with |some r=>some r |none=>pz 8 h p
def j4(h:ab)(id:Nat):Option ab:=
 match h[id]? with
 |some o=>if ar o.es=true/\(o.mu=.m\/o.mu=.f)then some (h.set id {o with mu:=.f})else none
 |none=>none
def fh(h:ab):List Nat->Option ab
 |[]=>some h
 |id::r=>match j4 h id with
  |some h'=>fh h' r
  |none=>none
def mg(h:ab)(ids:List Nat):Bool:=ids.all λid=>match h[id]? with |some o=>decide (o.mu=.f)&&ar o.es |none=>false
def xQ:PV->List Nat
 | .aj id _ _ _=>[id]
 |_=>[]
def jJ(ps:List PV):List Nat:=ps.flatMap λp=>(cells p).flatMap xQ
def dY(n:Nat):PV->Bool
 | .aj id _ _ _=>decide (id<n)
 | .ptr id _ _ _=>decide (id<n)
 |p=>aW p
def cD(n:Nat):PV->Bool
 | .agg cs=>cs.all (dY n)
 |p=>dY n p
def dZ(n:Nat):PV->Bool
 | .cm cs=>cs.all (cD n)
 |p=>cD n p
inductive Mode where
 |no
 |pure
 |opened
 |qU (g:List PV->Option PV)
 |cu (g:List PV->ab->Option (PV×ab))
 |ext (g:List PV->Option PV)
structure cK where
 P:Program
 mode:FuncId->Mode
abbrev gU:=FuncId->List PV->ab->Option (PV×ab)
def dx(run:gU)(lv:Nat)(f:FuncId)(args:List PV)(h:ab):Option (PV×ab):=
 if ar args then
  match run f (aU args) []with
  |some (r,hc)=>match yl hc r with
   |some r'=>some (b9 r',h)
   |none=>none
  |none=>none
 else match iK h args with
  |some args'=>match run f (aU args') []with
   |some (r,hc)=>match yl hc r with
    |some r'=>if dP r'||mg h (jJ args)then some (b9 r',h)
     else if 2<=lv then(fh h (jJ args)).map (b9 r',·)else none
    |none=>none
   |none=>none
  |none=>match fT (pz 8 h) args with
   |some args'=>match run f (aU args') []with
    |some (r,hc)=>match yl hc r with
     |some r'=>if dP r' then some (b9 r',h)else none
     |none=>none
    |none=>none
   |none=>none
def bM(o:au):au:=match o.mu with | .m=>{o with mu:=.l}|_=>o
def dQ(run:List PV->ab->Option (PV×ab))(lv:Nat)(args:List PV)(h:ab):Option (PV×ab):=
 if 2<=lv then run args h
 else if 1<=lv then match run args (h.map bM)with
  |some (r,h')=>if(h'.drop h.length).all (λo=>decide (o.mu≠.l))=true then some (r,h++h'.drop h.length)else none
  |none=>none
 else none
def gK(run:gU)(lv:Nat)(f:FuncId)(args:List PV)(h:ab):Option (PV×ab):=
 match dQ (run f) lv args h with
 |some (r,h')=>if dZ h.length r&& (h'.take h.length).all (λo=>o.es.all (cD h.length))then some (r,h'.take h.length)else some (r,h')
 |none=>none
def c9(C:cK)(run:gU)(lv:Nat)(f:FuncId)(args:List PV)(h:ab):Option (PV×ab):=
 match C.mode f with
 | .no=>none
 | .pure=>dx run lv f args h
 | .opened=>gK run lv f args h
 | .qU g=>if ar args then(g (aU args)).map (·,h)else none
 | .cu g=>dQ g lv args h
 | .ext g=>if ar args then(g (aU args)).map (·,h)else none
def fO(C:cK)(run:gU)(lv:Nat)(callee:PV)(args:List PV)(h:ab):Option (PV×ab):=
 match callee with
 | .fn f da=>c9 C run lv f (args++da) h
 | .mR f k cs=>c9 C run lv f (cs.take k++args++cs.drop k) h
 |_=>none
def ao(C:cK)(run:gU)(lv:Nat)(op:Op)(ρ:Nat->PV)(h:ab):Option (PV×ab):=
 match op with
 | .call c=>match c.callee with
  | .value f=>fO C run lv (ev ρ f) (c.args.toList.map (ev ρ)) h
  | .builtin b=>bo C.P lv h b c.argTypes.toList (c.args.toList.map (ev ρ))
  | .invoke _ _=>none
 |op=>az C.P lv op ρ h
def cR:Op->Bool
 | .move _ | .assign _ | .pick .. | .binOp .. | .unOp .. | .convert .. | .extract .. | .makeFunc .. | .build .. | .field .. | .index .. | .fieldAddr .. | .nilCheck _=>false
 |_=>true
def GB(o:Oper):List Edge:=o.after.toList.filter (Region.binds .any)
def before(ops:Array Oper):List Nat:=
 ops.toList.foldl (λacc o=>acc++[(GB o).foldl (λs e=>s |||2^e.on |||acc.getD e.on 0) 0]) []
def qj(b:List Nat)(i j:Nat):Bool:=i==j ||(b.getD i 0).testBit j ||(b.getD j 0).testBit i
def level(ops:Array Oper)(b:List Nat)(i:Nat):Nat:=
 if ops.toList.zipIdx.all λ(o,j)=>!cR o.op ||qj b i j then 2 else 1
def bm(ops:Array Oper)(o:Oper)(ρ:Nat->PV):Option Bool:=
 match o.guard with
 |none=>some true
 |some (j,want)=>match(ops.toList[j]?).bind (·.dst)with
  |none=>some false
  |some d=>match ρ d with
   | .bool b=>some (b==want)
   | .undef=>some false
   |_=>none
def fA(C:cK)(run:gU)(ops:Array Oper)(o:Oper)(s:St):Option St:=
 match bm ops o s.ρ with
 |some true=>match ao C run 2 o.op s.ρ s.h with
  |some (v,h')=>some ⟨bV s.ρ o.dst v,h'⟩
  |none=>none
 |some false=>some ⟨bV s.ρ o.dst .undef,s.h⟩
 |none=>none
def dw(C:cK)(run:gU)(ops:Array Oper):List Oper->St->Option St
 |[],s=>some s
 |o::r,s=>match fA C run ops o s with
  |some s'=>dw C run ops r s'
  |none=>none
def eE(o:au):au:={o with mu:=.x}
def cc(e:Nat->Bool)(L0:Nat)(own:List Nat)(h:ab):ab:=
 h.take L0++List.zipWith (λo j=>if e j then o else eE o) (h.drop L0) own
def aL(h:ab)(id:Nat):Bool:=match h[id]? with |some o=>decide (o.mu≠.x)|none=>false
mutual
def br(f:Nat->Bool):PV->Bool
 | .aj id _ _ _=>f id
 | .ptr id _ _ _=>f id
 | .cB id=>f id
 | .agg cs=>bw f cs
 | .cm cs=>bw f cs
 | .fn _ cs=>bw f cs
 | .mR _ _ cs=>bw f cs
 |_=>true
def bw(f:Nat->Bool):List PV->Bool
 |[]=>true
 |c::r=>br f c&&bw f r
end
def aR(h:ab):Bool:=h.all λo=>decide (o.mu=.x)||bw (aL h) o.es
structure uu where
 s:St
 L0:Nat
 own:List Nat
def cf(C:cK)(run:gU)(ops:Array Oper)(b:List Nat)(i:Nat)(o:Oper)(x:uu):Option uu:=
 match bm ops o x.s.ρ with
 |some true=>
  if cR o.op=false then match ao C run 1 o.op x.s.ρ x.s.h with
   |some (r,_)=>some ⟨⟨bV x.s.ρ o.dst r,x.s.h⟩,x.L0,x.own⟩
   |none=>none
  else if level ops b i=2 then match ao C run 2 o.op x.s.ρ x.s.h with
   |some (r,h')=>some ⟨⟨bV x.s.ρ o.dst r,h'⟩,h'.length,[]⟩
   |none=>none
  else
   let M:=cc (b.getD i 0).testBit x.L0 x.own x.s.h
   if aR M=true/\(o.op.operands.toList.all λy=>br (aL M) (ev x.s.ρ y))=true then
    match ao C run 1 o.op x.s.ρ M with
    |some (r,h')=>if(h'.drop x.s.h.length).all (λo=>decide (o.mu≠.l))=true then
      some ⟨⟨bV x.s.ρ o.dst r,x.s.h++h'.drop x.s.h.length⟩,x.L0,x.own++List.replicate (h'.drop x.s.h.length).length i⟩else none
    |none=>none
   else none
 |some false=>some ⟨⟨bV x.s.ρ o.dst .undef,x.s.h⟩,x.L0,x.own⟩
 |none=>none
def dy(C:cK)(run:gU)(ops:Array Oper)(b:List Nat):Nat->List Oper->uu->Option uu
 |_,[],x=>some x
 |i,o::r,x=>match cf C run ops b i o x with
  |some x'=>dy C run ops b (i+1) r x'
  |none=>none
def gz:Op->Bool
 | .load .. | .indexAddr ..=>true
 |_=>false
def jm:Op->Bool
 | .buildSlice ..=>true
 |_=>false
def Fi(o:Oper):Option Operand:=match o.op,o.dst,o.guard with
 | .store _ a _,none,none=>some a
 |_,_,_=>none
def sinks(ops:Array Oper)(b:List Nat):Option (Operand×Operand):=
 if 2<=ops.size/\qj b (ops.size - 2) (ops.size - 1)=false then
  match(ops.toList[ops.size - 2]?).bind Fi,(ops.toList[ops.size - 1]?).bind Fi with
  |some x,some y=>some (x,y)
  |_,_=>none
 else none
def iM(ops:Array Oper)(b:List Nat)(i:Nat)(bs:Bool):Bool:=ops.toList.zipIdx.all λ(o,j)=>!(cR o.op&& !gz o.op&& (bs || !jm o.op))||qj b i j ||((sinks ops b).isSome&&decide (ops.size<=i+2)&&decide (ops.size<=j+2))
def ky(ops:Array Oper)(b:List Nat)(i:Nat):Bool:=ops.toList.zipIdx.all λ(o,j)=>!(cR o.op&& !gz o.op&& !jm o.op)||qj b i j ||((sinks ops b).isSome&&decide (ops.size<=j+2))
def mh(h h':ab):ab:=List.zipWith (λo o'=>if o.mu=.m then o' else o) h h'++h'.drop h.length
def nX(h:ab)(id:Nat):Bool:=match h[id]? with
 |some o=>decide (o.mu≠.m)
 |none=>false
def qV(op:Op)(ρ:Nat->PV):Option Nat:=match op with
 | .load _ x=>match ev ρ x with
  | .ptr id _ _ _=>some id
  |_=>none
 | .indexAddr _ x _=>match ev ρ x with
  | .aj id _ _ _=>some id
  |_=>none
 |_=>none
def Dp(ops:Array Oper)(ρ:Nat->PV)(x:Operand)(id:Nat):Bool:=(match x with | .tmp t=>!ops.toList.any (λo=>o.dst==some t)|_=>true)&& (match ev ρ x with | .ptr j _ _ _=>decide (j≠id)|_=>false)
def zI(ops:Array Oper)(b:List Nat)(i:Nat)(ρ:Nat->PV)(id:Nat):Bool:=match sinks ops b with
 |none=>true
 |some (x,y)=>(qj b i (ops.size - 2)||Dp ops ρ x id)&& (qj b i (ops.size - 1)||Dp ops ρ y id)
def kz(ops:Array Oper)(b:List Nat)(h0:ab)(i:Nat)(ρ:Nat->PV)(op:Op):Bool:=match qV op ρ with
 |none=>true
 |some id=>nX h0 id ||(ky ops b i&&zI ops b i ρ id)
def cO(C:cK)(run:gU)(ops:Array Oper)(b:List Nat)(h0:ab)(i:Nat)(o:Oper)(s:St):Option St:=
 match bm ops o s.ρ with
 |some true=>
  if cR o.op=false then match ao C run 1 o.op s.ρ s.h with
   |some (r,_)=>some ⟨bV s.ρ o.dst r,s.h⟩
   |none=>none
  else if gz o.op=true then(if kz ops b h0 i s.ρ o.op=true then match az C.P 1 o.op s.ρ s.h with
     |some (r,_)=>some ⟨bV s.ρ o.dst r,s.h⟩
     |none=>none
    else none)
  else match(if jm o.op then az C.P 1 o.op s.ρ s.h else none)with
   |some (r,_)=>some ⟨bV s.ρ o.dst r,s.h⟩
   |none=>if iM ops b i (jm o.op)=true then match ao C run 2 o.op s.ρ s.h with
     |some (r,h')=>if s.h.length<=h'.length then some ⟨bV s.ρ o.dst r,mh s.h h'⟩else none
     |none=>none
    else none
 |some false=>some ⟨bV s.ρ o.dst .undef,s.h⟩
 |none=>none
def b8(C:cK)(run:gU)(ops:Array Oper)(b:List Nat)(h0:ab):Nat->List Oper->St->Option St
 |_,[],s=>some s
 |i,o::r,s=>match cO C run ops b h0 i o s with
  |some s'=>b8 C run ops b h0 (i+1) r s'
  |none=>none
def gi(ops:Array Oper)(b:List Nat)(ρ:Nat->PV):List Nat:=ops.toList.zipIdx.flatMap λ(o,i)=>match o.op with
 | .load _ (.tmp t)=>if ops.toList.any (λo=>o.dst==some t)||ky ops b i then[]else match ρ t with
  | .ptr id _ _ _=>[id]
  |_=>[]
 |_=>[]
def cr(ids:List Nat)(h:ab):ab:=h.zipIdx.map λ(o,i)=>if ids.contains i then bM o else o
def dR(ids:List Nat)(h h':ab):ab:=h'.zipIdx.map λ(o,i)=>if ids.contains i then(match h[i]? with |some o'=>o'|none=>o)else o
def qk(ids:List Nat)(h h':ab):Bool:=h'.zipIdx.all λ(o,i)=>decide (o.mu≠.l)||(ids.contains i&&decide (i<h.length))||(match h[i]? with |some o'=>decide (o'.mu=.l)|none=>false)
def ql(ops:Array Oper)(b:List Nat)(ρ:Nat->PV):Bool:=match sinks ops b with
 |none=>true
 |some (x,y)=>match ev ρ x,ev ρ y with
  | .ptr i _ _ _,.ptr j _ _ _=>decide (i≠j)
  |_,_=>false
def iN(C:cK)(run:gU)(ops:Array Oper)(s:St):Option St:=
 match b8 C run ops (before ops) (cr (gi ops (before ops) s.ρ) s.h) 0 ops.toList ⟨s.ρ,cr (gi ops (before ops) s.ρ) s.h⟩with
 |some s'=>if qk (gi ops (before ops) s.ρ) s.h s'.h=true/\ql ops (before ops) s'.ρ=true then some ⟨s'.ρ,dR (gi ops (before ops) s.ρ) s.h s'.h⟩else none
 |none=>none
def MR(ops:Array Oper)(o:Oper):Bool:=match o.op with
 | .call ⟨.builtin .append,args,_⟩=>match args.toList with
  | .tmp t::_=>ops.toList.any λo'=>o'.dst==some t&& (match o'.op with | .call ⟨.value _,_,_⟩=>true |_=>false)
  |_=>false
 |_=>false
def Jb(ops:Array Oper):Bool:=ops.toList.zipIdx.any λ(o,i)=>match o.op,o.dst with
 | .call ⟨.builtin .append,_,_⟩,some d=>!(level ops (before ops) i==2)&&ops.toList.any λo'=>match o'.op with
  | .call ⟨.builtin .append,args,_⟩=>(match args.toList with
   | .tmp t::_=>t==d
   |_=>false)
  |_=>false
 |_,_=>false
def qW(ops:Array Oper):Bool:=(ops.toList.zipIdx.any λ(o,i)=>MR ops o&& !(level ops (before ops) i==2))||(sinks ops (before ops)).isSome ||Jb ops
inductive Ex where
 |normal
 |exit (id:Nat)
 |ret
 deriving DecidableEq
def iter(body:St->Option (Ex×St)):Nat->St->Option (Ex×St)
 |0,_=>none
 |n+1,s=>match body s with
  |some (.normal,s')=>iter body n s'
  |r=>r
def bJ(C:cK)(run:gU)(N:Nat):Code->St->Option (Ex×St)
 | .skip,s=>some (.normal,s)
 | .region _ ops draw,s=>match(if draw then(if qW ops then iN C run ops s else(dy C run ops (before ops) 0 ops.toList ⟨s,s.h.length,[]⟩).map (·.s))else dw C run ops ops.toList s)with
  |some s'=>some (.normal,s')
  |none=>none
 | .seq a b,s=>match bJ C run N a s with
  |some (.normal,s')=>bJ C run N b s'
  |r=>r
 | .cond c a b,s=>match ev s.ρ c with
  | .bool true=>bJ C run N a s
  | .bool false=>bJ C run N b s
  |_=>none
 | .block id c,s=>match bJ C run N c s with
  |some (.exit dS,s')=>if dS=id then some (.normal,s')else some (.exit dS,s')
  |r=>r
 | .loop c,s=>iter (bJ C run N c) N s
 | .exit id,s=>some (.exit id,s)
 | .label _,s=>some (.normal,s)
 | .scope c,s=>bJ C run N c s
 | .ret,s=>some (.ret,s)
 |_,_=>none
def mi(args:List PV):Nat->PV:=λt=>args.getD t .undef
def db(P:Program)(h:ab)(ρ:Nat->PV):List ResultVar->Option (List PV)
 |[]=>some []
 |r::rest=>match(match r with | .tmp t=>some (ρ t)| .cell a t=>iq P h t (ρ a)),db P h ρ rest with
  |some v,some vs=>some (v::vs)
  |_,_=>none
def aY:List PV->PV
 |[v]=>v
 |vs=>.cm vs
def nY(C:cK)(run:gU)(n:Nat):gU:=λf args h=>
 match C.P.funcs[f]? with
 |some fn=>match fn.body with
  |some c=>match bJ C run n c ⟨mi args,h⟩with
   |some (.normal,s)|some (.ret,s)=>match db C.P s.h s.ρ fn.results.toList with
    |some vs=>some (aY vs,s.h)
    |none=>none
   |_=>none
  |none=>none
 |none=>none
def eV(C:cK)(n:Nat):gU:=Nat.rec (λ_ _ _=>none) (λn r=>nY C r n) n
def nZ(C:cK)(n:Nat)(f:FuncId)(args:List PV):Option PV:=
 match eV C n f args []with
 |some (r,h)=>(yl h r).map b9
 |none=>none
def al:List (Nat×PV)->(Nat->PV)->Nat->PV
 |[],ρ,t=>ρ t
 |(k,v)::L,ρ,t=>if t=k then v else al L ρ t
theorem JY(ρ:Nat->PV):∀(L:List (Nat×PV)),(∀x∈L,ρ x.1=x.2)->al L ρ=ρ
 |[],_=>by funext t;rfl
 |(k,v)::L,h=>by
  funext t
  simp only[al]
  split
  ·rename_i hk;rw[hk];exact(h (k,v) (by simp)).symm
  ·rw[JY ρ L (λx hx=>h x (by simp[hx]))]
def Ev(C:cK)(c:Code)(s:St)(Q:Ex->St->Prop):Prop:=
 ∃ex s',Q ex s'/\∃n0,∀n m,n0<=n->n0<=m->bJ C (eV C n) m c s=some (ex,s')
def ah(C:cK)(ops:Array Oper)(l:List Oper)(s:St)(Q:St->Prop):Prop:=
 ∃s',Q s'/\∃n0,∀n,n0<=n->dw C (eV C n) ops l s=some s'
def ai(C:cK)(lv:Nat)(f:FuncId)(args:List PV)(h:ab)(Q:PV->ab->Prop):Prop:=
 ∃r h',Q r h'/\∃n0,∀n,n0<=n->c9 C (eV C n) lv f args h=some (r,h')
def ay(C:cK)(f:FuncId)(args:List PV)(h:ab)(Q:PV->ab->Prop):Prop:=
 ∃r h',Q r h'/\∃n0,∀n,n0<=n->eV C n f args h=some (r,h')
variable{C:cK}
theorem ay.mono{f:FuncId}{args:List PV}{h:ab}{Q Q':PV->ab->Prop}(a:ay C f args h Q)(hq:∀r h,Q r h->Q' r h):ay C f args h Q':=by
 obtain⟨r,h',q,e⟩:=a;exact⟨r,h',hq _ _ q,e⟩
theorem Ev.skip{s:St}{Q:Ex->St->Prop}(h:Q .normal s):Ev C .skip s Q:=⟨_,_,h,0,λ_ _ _ _=>rfl⟩
theorem Ev.label{l:Nat}{s:St}{Q:Ex->St->Prop}(h:Q .normal s):Ev C (.label l) s Q:=⟨_,_,h,0,λ_ _ _ _=>rfl⟩
theorem Ev.exit{id:Nat}{s:St}{Q:Ex->St->Prop}(h:Q (.exit id) s):Ev C (.exit id) s Q:=⟨_,_,h,0,λ_ _ _ _=>rfl⟩
theorem Ev.ret{s:St}{Q:Ex->St->Prop}(h:Q .ret s):Ev C .ret s Q:=⟨_,_,h,0,λ_ _ _ _=>rfl⟩
theorem Ev.scope{c:Code}{s:St}{Q:Ex->St->Prop}(h:Ev C c s Q):Ev C (.scope c) s Q:=by
 obtain⟨ex,s',q,n0,hn⟩:=h;exact⟨ex,s',q,n0,λn m h1 h2=>by simpa[bJ]using hn n m h1 h2⟩
def aE(C:cK)(b:Code)(Q:Ex->St->Prop):Ex->St->Prop
 | .normal,s=>Ev C b s Q
 |ex,s=>Q ex s
theorem Ev.seq{a b:Code}{s:St}{Q:Ex->St->Prop}(h:Ev C a s (aE C b Q)):Ev C (.seq a b) s Q:=by
 obtain⟨ex,s',q,n0,hn⟩:=h
 cases ex with
 |normal=>
  obtain⟨Uk,s2,q2,n1,Dc⟩:=q;exact⟨Uk,s2,q2,max n0 n1,λn m h1 h2=>by simp only[bJ,hn n m (by omega) (by omega),Dc n m (by omega) (by omega)]⟩
 |exit id=>exact⟨_,_,q,n0,λn m h1 h2=>by simp only[bJ,hn n m h1 h2]⟩
 |ret=>exact⟨_,_,q,n0,λn m h1 h2=>by simp only[bJ,hn n m h1 h2]⟩
theorem Ev.PH{c:Operand}{a b:Code}{s:St}{Q:Ex->St->Prop}(hc:ev s.ρ c=.bool true)(h:Ev C a s Q):Ev C (.cond c a b) s Q:=by
 obtain⟨ex,s',q,n0,hn⟩:=h;exact⟨ex,s',q,n0,λn m h1 h2=>by simp only[bJ,hc,hn n m h1 h2]⟩
theorem Ev.PI{c:Operand}{a b:Code}{s:St}{Q:Ex->St->Prop}(hc:ev s.ρ c=.bool false)(h:Ev C b s Q):Ev C (.cond c a b) s Q:=by
 obtain⟨ex,s',q,n0,hn⟩:=h;exact⟨ex,s',q,n0,λn m h1 h2=>by simp only[bJ,hc,hn n m h1 h2]⟩
def aC(id:Nat)(Q:Ex->St->Prop):Ex->St->Prop
 | .exit dS,s=>if dS=id then Q .normal s else Q (.exit dS) s
 |ex,s=>Q ex s
theorem Ev.block{id:Nat}{c:Code}{s:St}{Q:Ex->St->Prop}(h:Ev C c s (aC id Q)):Ev C (.block id c) s Q:=by
 obtain⟨ex,s',q,n0,hn⟩:=h
 cases ex with
 |normal=>exact⟨_,_,q,n0,λn m h1 h2=>by simp only[bJ,hn n m h1 h2]⟩
 |exit dS=>
  simp only[aC]at q
  by_cases bT:dS=id
  ·rw[if_pos bT]at q;exact⟨_,_,q,n0,λn m h1 h2=>by simp only[bJ,hn n m h1 h2,if_pos bT]⟩
  ·rw[if_neg bT]at q;exact⟨_,_,q,n0,λn m h1 h2=>by simp only[bJ,hn n m h1 h2,if_neg bT]⟩
 |ret=>exact⟨_,_,q,n0,λn m h1 h2=>by simp only[bJ,hn n m h1 h2]⟩
def aI(I:St->Prop)(Q:Ex->St->Prop):Ex->St->Prop
 | .normal,s=>I s
 |ex,s=>Q ex s
theorem Ev.loop{c:Code}{s:St}{Q:Ex->St->Prop}(I:Nat->St->Prop)(k:Nat)(h0:I k s)(step:∀k s,I k s->Ev C c s (aI (λs'=>∃j,j<k/\I j s') Q)):Ev C (.loop c) s Q:=by
 have key:∀(k:Nat) (s:St),I k s->∃ex s',Q ex s'/\∃n0,∀n m j,n0<=n->n0<=m->n0<=j->iter (bJ C (eV C n) m c) j s=some (ex,s'):=by
  intro k
  induction k using Nat.strongRecOn with
  |ind k ih=>
   intro s hs
   obtain⟨ex,s',q,n0,hn⟩:=step k s hs
   cases ex with
   |normal=>
    obtain⟨j,hj,hI⟩:=q;obtain⟨Uk,s2,q2,n1,Dc⟩:=ih j hj s' hI;refine⟨Uk,s2,q2,max n0 n1+1,λn m i h1 h2 h3=>?_⟩;obtain⟨i,rfl⟩:∃i',i=i'+1:=⟨i - 1,by omega⟩;simp only[iter,hn n m (by omega) (by omega),Dc n m i (by omega) (by omega) (by omega)]
   |exit id=>
    refine⟨_,_,q,n0+1,λn m i h1 h2 h3=>?_⟩;obtain⟨i,rfl⟩:∃i',i=i'+1:=⟨i - 1,by omega⟩;simp only[iter,hn n m (by omega) (by omega)]
   |ret=>
    refine⟨_,_,q,n0+1,λn m i h1 h2 h3=>?_⟩;obtain⟨i,rfl⟩:∃i',i=i'+1:=⟨i - 1,by omega⟩;simp only[iter,hn n m (by omega) (by omega)]
 obtain⟨ex,s',q,n0,hn⟩:=key k s h0;exact⟨ex,s',q,n0,λn m h1 h2=>by simp only[bJ,hn n m m h1 h2 h2]⟩
theorem Ev.region{id:Nat}{ops:Array Oper}{s:St}{Q:Ex->St->Prop}(h:ah C ops ops.toList s (Q .normal)):Ev C (.region id ops false) s Q:=by
 obtain⟨s',q,n0,hn⟩:=h;exact⟨.normal,s',q,n0,λn m h1 h2=>by simp only[bJ,ZJ,if_false,hn n h1]⟩
theorem ah.nil{ops:Array Oper}{s:St}{Q:St->Prop}(h:Q s):ah C ops [] s Q:=⟨s,h,0,λ_ _=>rfl⟩
theorem ah.step{ops:Array Oper}{o:Oper}{r:List Oper}{s s1:St}{Q:St->Prop}(e:∀run,fA C run ops o s=some s1)(h:ah C ops r s1 Q):ah C ops (o::r) s Q:=by
 obtain⟨s',q,n0,hn⟩:=h;exact⟨s',q,n0,λn h1=>by simp only[dw,e,hn n h1]⟩
theorem ah.call{ops:Array Oper}{o:Oper}{r:List Oper}{s:St}{Q:St->Prop}{c:Call}{x:Operand}{f:FuncId}{da args:List PV}(hw:bm ops o s.ρ=some true)(ho:o.op=.call c)(hx:c.callee=.value x)(hf:ev s.ρ x=.fn f da)
  (ha:c.args.toList.map (ev s.ρ)++da=args) (hc:ai C 2 f args s.h (λv h'=>ah C ops r ⟨bV s.ρ o.dst v,h'⟩ Q)):ah C ops (o::r) s Q:=by
 obtain⟨v,h',⟨s',q,n1,Dc⟩,n0,hn⟩:=hc;refine⟨s',q,max n0 n1,λn h1=>?_⟩
 have:ao C (eV C n) 2 o.op s.ρ s.h=some (v,h'):=by
  rw[ho];simp only[ao,hx,fO,hf,ha];exact hn n (by omega)
 simp only[dw,fA,hw,this,Dc n (by omega)]
theorem ay.body{f:FuncId}{fn:Func}{c:Code}{args:List PV}{h:ab}{Q:PV->ab->Prop}(hf:C.P.funcs[f]?=some fn)(hb:fn.body=some c)
  (e:Ev C c ⟨mi args,h⟩ (λex s=>(ex=.normal\/ex=.ret)/\∃vs,db C.P s.h s.ρ fn.results.toList=some vs/\Q (aY vs) s.h)):ay C f args h Q:=by
 obtain⟨ex,s,⟨hex,vs,hr,q⟩,n0,hn⟩:=e;refine⟨_,_,q,n0+1,λn h1=>?_⟩;obtain⟨n,rfl⟩:∃i',n=i'+1:=⟨n - 1,by omega⟩;show nY C (eV C n) n f args h=_;unfold nY;rw[hf];simp only[hb,hn n n (by omega) (by omega)];rcases hex with rfl |rfl <;>simp only[hr]
def aO(C:cK)(f:FuncId)(args:List PV)(r:PV):Prop:=∃n0,∀n,n0<=n->∃r0 hc r1,eV C n f args []=some (r0,hc)/\yl hc r0=some r1/\b9 r1=r
theorem QZ{h:ab}{p r:PV}(e:rb h p=some r):yl h p=some r:=by unfold yl;rw[e]
theorem aO.ofX{f:FuncId}{args:List PV}{r:PV}(e:ay C f args [] (λr0 hc=>∃r1,yl hc r0=some r1/\b9 r1=r)):aO C f args r:=by
 obtain⟨r0,hc,⟨r1,h1,h2⟩,n0,hn⟩:=e;exact⟨n0,λn h=>⟨r0,hc,r1,hn n h,h1,h2⟩⟩
theorem aO.of{f:FuncId}{args:List PV}{r:PV}(e:ay C f args [] (λr0 hc=>∃r1,rb hc r0=some r1/\b9 r1=r)):aO C f args r:=by
 obtain⟨r0,hc,⟨r1,h1,h2⟩,n0,hn⟩:=e;exact⟨n0,λn h=>⟨r0,hc,r1,hn n h,QZ h1,h2⟩⟩
theorem aO.nZ{f:FuncId}{args:List PV}{r:PV}(a:aO C f args r):∃n,nZ C n f args=some r:=by
 obtain⟨n0,hn⟩:=a;obtain⟨r0,hc,r1,h1,h2,h3⟩:=hn n0 (Zz _);exact⟨n0,by unfold Pm.nZ;rw[h1];simp[h2,h3]⟩
theorem ai.pure{lv:Nat}{f:FuncId}{args:List PV}{r:PV}{h:ab}{Q:PV->ab->Prop}(hm:C.mode f=.pure)(hv:ar args=true)(a:aO C f (aU args) r)(q:Q r h):ai C lv f args h Q:=by
 obtain⟨n0,hn⟩:=a;refine⟨r,h,q,n0,λn h1=>?_⟩;obtain⟨r0,hc,r1,e1,e2,e3⟩:=hn n h1;unfold c9;rw[hm];simp only[dx,hv,if_true,e1,e2,e3]
theorem ai.opened{f:FuncId}{args:List PV}{h:ab}{Q:PV->ab->Prop}(hm:C.mode f=.opened)
  (a:ay C f args h (λr h'=>Q r (if dZ h.length r&& (h'.take h.length).all (λo=>o.es.all (cD h.length))then h'.take h.length else h'))):ai C 2 f args h Q:=by
 obtain⟨r,h',q,n0,hn⟩:=a;refine⟨r,_,q,n0,λn h1=>?_⟩;unfold c9;rw[hm];simp only[gK,dQ,Zz,if_true,hn n h1]
 split <;>rfl
theorem ai.ext{lv:Nat}{f:FuncId}{g:List PV->Option PV}{args:List PV}{r:PV}{h:ab}{Q:PV->ab->Prop}(hm:C.mode f=.ext g)(hv:ar args=true)(a:g (aU args)=some r)(q:Q r h):ai C lv f args h Q:=by
 refine⟨r,h,q,0,λn h1=>?_⟩;unfold c9;rw[hm];simp only[hv,if_true,a,ZH]
section
variable{ops:Array Oper}{d:Option Nat}{ty:TypeId}{pos:String}{af:Array Edge}{g:Option (Nat×Bool)}{r:List Oper}{ρ:Nat->PV}{h:ab}{Q:St->Prop}
theorem ah.val{op:Op}{v:PV}{h':ab}(hw:bm ops ⟨d,op,ty,pos,af,g⟩ ρ=some true)(hc:∀run,ao C run 2 op ρ h=some (v,h'))(k:ah C ops r ⟨bV ρ d v,h'⟩ Q):ah C ops (⟨d,op,ty,pos,af,g⟩::r) ⟨ρ,h⟩ Q:=
 ah.step (s1:=⟨bV ρ d v,h'⟩) (λrun=>by simp only[fA,hw,hc]) k
theorem ah.off{op:Op}(hw:bm ops ⟨d,op,ty,pos,af,g⟩ ρ=some false)(k:ah C ops r ⟨bV ρ d .undef,h⟩ Q):ah C ops (⟨d,op,ty,pos,af,g⟩::r) ⟨ρ,h⟩ Q:=
 ah.step (s1:=⟨bV ρ d .undef,h⟩) (λrun=>by simp only[fA,hw]) k
def D4:BinOp->Int->Int->Option Prop
 | .eql,a,b=>some (a=b)
 | .neq,a,b=>some (a≠b)
 | .lss,a,b=>some (a<b)
 | .leq,a,b=>some (a<=b)
 | .gtr,a,b=>some (b<a)
 | .geq,a,b=>some (b<=a)
 |_,_,_=>none
theorem ah.cmp{tu:BinOp}{t yt:TypeId}{x y:Operand}{k:IntKind}{a b:Int}{p:Prop}(hw:bm ops ⟨d,.binOp tu t x y yt,ty,pos,af,g⟩ ρ=some true)(hx:ev ρ x=.int k a)(hy:ev ρ y=.int k b)(hp:D4 tu a b=some p)
  (k1:p->ah C ops r ⟨bV ρ d (.bool true),h⟩ Q) (k2:¬p->ah C ops r ⟨bV ρ d (.bool false),h⟩ Q):ah C ops (⟨d,.binOp tu t x y yt,ty,pos,af,g⟩::r) ⟨ρ,h⟩ Q:=by
 by_cases JZ:p
 ·refine ah.val (v:=.bool true) (h':=h) hw (λrun=>?_) (k1 JZ);simp only[ao,az,hx,hy]
  cases tu <;>simp only[D4,Z4,reduceCtorEq]at hp <;>subst hp <;>simp[fe,gy,JZ]
 ·refine ah.val (v:=.bool false) (h':=h) hw (λrun=>?_) (k2 JZ);simp only[ao,az,hx,hy]
  cases tu <;>simp only[D4,Z4,reduceCtorEq]at hp <;>subst hp <;>simp[fe,gy,JZ] <;>omega
theorem ah.UN{c:Call}{x:Operand}{f:FuncId}{da args:List PV}(hw:bm ops ⟨d,.call c,ty,pos,af,g⟩ ρ=some true)(hx:c.callee=.value x)(hf:ev ρ x=.fn f da)
  (ha:c.args.toList.map (ev ρ)++da=args) (hc:ai C 2 f args h (λv h'=>ah C ops r ⟨bV ρ d v,h'⟩ Q)):ah C ops (⟨d,.call c,ty,pos,af,g⟩::r) ⟨ρ,h⟩ Q:=
 ah.call hw rfl hx hf ha hc
end
end Go.Pm
namespace Go.Pm
inductive Kd where
 |str
 |bool
 |int (k:IntKind)
 |sl (e:TypeId)
 |arr (n:Nat) (e:TypeId)
 |st (offs:List (Nat×TypeId))
 |mp (k e:TypeId)
 |other
def nQ:TypeDesc->Kd
 | .string=>.str
 | .bool=>.bool
 | .int k=>.int k
 | .slice e=>.sl e
 | .array n e=>.arr n e
 | .struct fs=>.st (fs.toList.map λf=>(f.offset,f.type))
 | .map k e=>.mp k e
 |_=>.other
structure lz(P:Program) where
 ts:Nat->Option Nat
 ta:Nat->Option Bool
 tz:Nat->Option PV
 tb:Nat->Option Nat
 kd:Nat->Option Kd
 dO:∀t n,ts t=some n->cg P t=some n
 LG:∀t n,ta t=some n->GA P t=some n
 mO:∀t n,tz t=some n->iL P t=some n
 rV:∀t n,tb t=some n->lT P t=some n
 cP:∀t n,kd t=some n->(P.underlying t).map nQ=some n
variable{C:cK}(T:lz C.P)
variable{ops:Array Oper}{d:Nat}{ty:TypeId}{pos:String}{af:Array Edge}{r:List Oper}{ρ:Nat->PV}{L:List (Nat×PV)}{h:ab}{Q:St->Prop}
theorem lV{P:Program}{t:TypeId}{k:Kd}(e:(P.underlying t).map nQ=some k):∃u,P.underlying t=some u/\nQ u=k:=by
 cases hu:P.underlying t with
 |none=>rw[hu]at e;simp at e
 |some u=>rw[hu]at e;exact⟨u,rfl,Zu e⟩
theorem pd{P:Program}{t:TypeId}(e:(P.underlying t).map nQ=some .str):P.underlying t=some .string:=by
 obtain⟨u,h1,h2⟩:=lV e
 cases u <;>simp[nQ]at h2;exact h1
theorem Ax{P:Program}{t:TypeId}(e:(P.underlying t).map nQ=some .bool):P.underlying t=some .bool:=by
 obtain⟨u,h1,h2⟩:=lV e
 cases u <;>simp[nQ]at h2;exact h1
theorem Gq{P:Program}{t k el:TypeId}(e:(P.underlying t).map nQ=some (.mp k el)):P.underlying t=some (.map k el):=by
 obtain⟨u,h1,h2⟩:=lV e
 cases u <;>simp[nQ]at h2
 rw[h1,h2.1,h2.2]
theorem bp{P:Program}{t el:TypeId}(e:(P.underlying t).map nQ=some (.sl el)):P.underlying t=some (.slice el):=by
 obtain⟨u,h1,h2⟩:=lV e
 cases u <;>simp[nQ]at h2;subst h2;exact h1
theorem LH{P:Program}{t el:TypeId}{n:Nat}(e:(P.underlying t).map nQ=some (.arr n el)):P.underlying t=some (.array n el):=by
 obtain⟨u,h1,h2⟩:=lV e
 cases u <;>simp[nQ]at h2;obtain⟨rfl,rfl⟩:=h2;exact h1
theorem m'{P:Program}{t:TypeId}{k:IntKind}(e:(P.underlying t).map nQ=some (.int k)):P.underlying t=some (.int k):=by
 obtain⟨u,h1,h2⟩:=lV e
 cases u <;>simp[nQ]at h2;subst h2;exact h1
theorem LI{P:Program}{t:TypeId}{os:List (Nat×TypeId)}(e:(P.underlying t).map nQ=some (.st os)):∃fs,P.underlying t=some (.struct fs)/\fs.toList.map (λf=>(f.offset,f.type))=os:=by
 obtain⟨u,h1,h2⟩:=lV e
 cases u <;>simp[nQ]at h2;exact⟨_,h1,h2⟩
def lk:List (Nat×PV)->Nat->Option PV
 |[],_=>none
 |(k,v)::L,t=>if t=k then some v else lk L t
def cG(L:List (Nat×PV)):Operand->Option PV
 | .tmp t=>lk L t
 | .const (.int k n)=>some (.int k n)
 | .const (.bool b)=>some (.bool b)
 | .const (.string s)=>some (.str s)
 | .const (.slice none 0 0)=>some (.aa true [])
 | .const (.pointer none)=>some .dW
 | .const .nilFunc=>some .aG
 | .const (.map none)=>some .gf
 | .const v=>some (cv v)
 | .func f=>some (.fn f [])
 | .global _=>none
def xf(L:List (Nat×PV)):List Operand->Option (List PV)
 |[]=>some []
 |x::xs=>match cG L x,xf L xs with
  |some v,some vs=>some (v::vs)
  |_,_=>none
theorem dq{L:List (Nat×PV)}{t:Nat}{v:PV}(e:lk L t=some v)(ρ:Nat->PV):al L ρ t=v:=by
 induction L with
 |nil=>cases e
 |cons x L ih=>
  obtain⟨k,u⟩:=x;simp only[lk]at e;simp only[al]
  split at e
  ·rename_i hk;rw[if_pos hk];exact Zu e
  ·rename_i hk;rw[if_neg hk];exact ih e
theorem ak{L:List (Nat×PV)}{x:Operand}{v:PV}(e:cG L x=some v)(ρ:Nat->PV):ev (al L ρ) x=v:=by
 unfold cG at e
 split at e <;>first
  |exact dq e ρ
  |(cases e;done)
  |(obtain rfl:=Zu e;rfl)
theorem gw{L:List (Nat×PV)}{ρ:Nat->PV}:∀{xs:List Operand} {vs:List PV},xf L xs=some vs->xs.map (ev (al L ρ))=vs
 |[],vs,e=>by simp[xf]at e;subst e;rfl
 |x::xs,vs,e=>by
  simp only[xf]at e
  split at e
  ·rename_i v ET h1 h2
   obtain rfl:=Zu e;simp[ak h1,gw h2]
  ·cases e
theorem bZ(d:Nat)(v:PV)(L:List (Nat×PV))(ρ:Nat->PV):bV (al L ρ) (some d) v=al ((d,v)::L) ρ:=by
 funext t
 simp only[bV,nH,al]
theorem ah.eK{op:Op}{v:PV}{h':ab}(hc:∀run,ao C run 2 op (al L ρ) h=some (v,h'))(k:ah C ops r ⟨al ((d,v)::L) ρ,h'⟩ Q):ah C ops (⟨some d,op,ty,pos,af,none⟩::r) ⟨al L ρ,h⟩ Q:=
 ah.val rfl hc (by rw[bZ];exact k)
theorem R.uz{op:Op}{j d':Nat}{want b:Bool}(hd:(ops.toList[j]?).bind (·.dst)=some d')(hb:lk L d'=some (.bool b))(he:(b==want)=true)(k:ah C ops (⟨some d,op,ty,pos,af,none⟩::r) ⟨al L ρ,h⟩ Q):
  ah C ops (⟨some d,op,ty,pos,af,some (j,want)⟩::r) ⟨al L ρ,h⟩ Q:=by
 obtain⟨s',q,n0,hn⟩:=k;refine⟨s',q,n0,λn h1=>?_⟩;rw[<-hn n h1];simp only[dw,fA,bm,hd,dq hb,he]
theorem R.mr{op:Op}{j d':Nat}{want b:Bool}(hd:(ops.toList[j]?).bind (·.dst)=some d')(hb:lk L d'=some (.bool b))(he:(b==want)=false)(k:ah C ops r ⟨al ((d,.undef)::L) ρ,h⟩ Q):
  ah C ops (⟨some d,op,ty,pos,af,some (j,want)⟩::r) ⟨al L ρ,h⟩ Q:=ah.off (by simp only[bm,hd,dq hb,he]) (by rw[bZ];exact k)
theorem R.P4{op:Op}{j d':Nat}{want:Bool}(hd:(ops.toList[j]?).bind (·.dst)=some d')(hb:lk L d'=some .undef)(k:ah C ops r ⟨al ((d,.undef)::L) ρ,h⟩ Q):
  ah C ops (⟨some d,op,ty,pos,af,some (j,want)⟩::r) ⟨al L ρ,h⟩ Q:=ah.off (by simp only[bm,hd,dq hb]) (by rw[bZ];exact k)
theorem R.move{x:Operand}{v:PV}(hx:cG L x=some (v))(k:ah C ops r ⟨al ((d,v)::L) ρ,h⟩ Q):ah C ops (⟨some d,.move x,ty,pos,af,none⟩::r) ⟨al L ρ,h⟩ Q:=
 ah.eK (λrun=>by simp only[ao,az,ak hx]) k
theorem R.assign{x:Operand}{v:PV}(hx:cG L x=some (v))(k:ah C ops r ⟨al ((d,v)::L) ρ,h⟩ Q):ah C ops (⟨some d,.assign x,ty,pos,af,none⟩::r) ⟨al L ρ,h⟩ Q:=
 ah.eK (λrun=>by simp only[ao,az,ak hx]) k
theorem R.iy{c x y:Operand}{v:PV}(hc:cG L c=some (.bool true))(hx:cG L x=some (v))(k:ah C ops r ⟨al ((d,v)::L) ρ,h⟩ Q):ah C ops (⟨some d,.pick c x y,ty,pos,af,none⟩::r) ⟨al L ρ,h⟩ Q:=
 ah.eK (λrun=>by simp only[ao,az,ak hc,ak hx,if_true]) k
theorem R.gO{c x y:Operand}{v:PV}(hc:cG L c=some (.bool false))(hx:cG L y=some (v))(k:ah C ops r ⟨al ((d,v)::L) ρ,h⟩ Q):ah C ops (⟨some d,.pick c x y,ty,pos,af,none⟩::r) ⟨al L ρ,h⟩ Q:=
 ah.eK (λrun=>by simp only[ao,az,ak hc,ak hx,ZJ,if_false]) k
inductive EW(o:au):ab->ab->Nat->Prop
 |nil:EW o [] [o] 0
 |cons {x:au} {l l':ab} {n:Nat}:EW o l l' n->EW o (x::l) (x::l') (n+1)
theorem EW.eq{o:au}{l l':ab}{n:Nat}(a:EW o l l' n):l'=l++[o]/\n=l.length:=by
 induction a with
 |nil=>exact⟨rfl,rfl⟩
 |cons _ ih=>obtain⟨rfl,rfl⟩:=ih;exact⟨rfl,rfl⟩
theorem R.box{t:TypeId}{x:Operand}{v:PV}{n id:Nat}{h':ab}(hx:cG L x=some (v))(h1:(cells v).all bG=true)(hl:(cells v).length=n+1)(ha:EW ⟨.m,0,n+1,[v]⟩ h h' id)(k:ah C ops r ⟨al ((d,(.ptr id 0 0 0))::L) ρ,h'⟩ Q):
  ah C ops (⟨some d,.box t x,ty,pos,af,none⟩::r) ⟨al L ρ,h⟩ Q:=by
 obtain⟨rfl,rfl⟩:=ha.eq;exact ah.eK (λrun=>by simp[ao,az,ak hx,h1,hl,newObj]) k
theorem R.alloc{t:TypeId}{z:PV}{n id:Nat}{h':ab}(hz:T.tz t=some z)(h1:(cells z).all bG=true)(hl:(cells z).length=n+1)(ha:EW ⟨.m,0,n+1,[z]⟩ h h' id)(k:ah C ops r ⟨al ((d,(.ptr id 0 0 0))::L) ρ,h'⟩ Q):
  ah C ops (⟨some d,.alloc t,ty,pos,af,none⟩::r) ⟨al L ρ,h⟩ Q:=by
 obtain⟨rfl,rfl⟩:=ha.eq;exact ah.eK (λrun=>by simp[ao,az,T.mO _ _ hz,h1,hl,newObj]) k
theorem R.fF{t:TypeId}{x:Operand}{p c:PV}{cs:List PV}{sz:Nat}(hx:cG L x=some (p))(hs:T.ts t=some sz)(ht:T.ta t=some false)(hp:cC h p=some (c::cs))(k:ah C ops r ⟨al ((d,c)::L) ρ,h⟩ Q):
  ah C ops (⟨some d,.load t x,ty,pos,af,none⟩::r) ⟨al L ρ,h⟩ Q:=
 ah.eK (λrun=>by simp[ao,az,ak hx,iq,T.dO _ _ hs,T.LG _ _ ht,hp]) k
inductive pe:Nat->List PV->List PV->Prop
 |zero {l:List PV}:pe 0 l []
 |succ {n:Nat} {x:PV} {l l':List PV}:pe n l l'->pe (n+1) (x::l) (x::l')
theorem pe.eq{n:Nat}{l l':List PV}(a:pe n l l'):l'=l.take n/\n<=l.length:=by
 induction a with
 |zero=>simp
 |succ _ ih=>obtain⟨rfl,h⟩:=ih;simp;omega
theorem R.kN{t:TypeId}{x:Operand}{p:PV}{cs jd:List PV}{sz:Nat}(hx:cG L x=some (p))(hs:T.ts t=some (sz+1))(ht:T.ta t=some true)(hp:cC h p=some cs)(hc:pe (sz+1) cs jd)(k:ah C ops r ⟨al ((d,(.agg jd))::L) ρ,h⟩ Q):
  ah C ops (⟨some d,.load t x,ty,pos,af,none⟩::r) ⟨al L ρ,h⟩ Q:=by
 obtain⟨rfl,hle⟩:=hc.eq;exact ah.eK (λrun=>by simp[ao,az,ak hx,iq,T.dO _ _ hs,T.LG _ _ ht,hp,hle]) k
theorem lS{s:TypeId}{f off:Nat}{ft:TypeId}{os:List (Nat×TypeId)}{sz:Nat}(hk:T.kd s=some (.st os))(hf:os[f]?=some (off,ft))(hs:T.ts ft=some (sz+1)):nU C.P s f=some (off,ft):=by
 obtain⟨fs,h1,h2⟩:=LI (T.cP _ _ hk);rw[<-h2,ZP]at hf
 cases Tc:fs.toList[f]? with
 |none=>rw[Tc]at hf;cases hf
 |some fl=>
  rw[Tc]at hf;simp at hf;obtain⟨rfl,rfl⟩:=hf;have:fs[f]?=some fl:=by simpa using Tc
  simp[nU,h1,this,T.dO _ _ hs]
theorem R.fieldAddr{s:TypeId}{x:Operand}{f id ep i o off:Nat}{ft:TypeId}{os:List (Nat×TypeId)}{sz:Nat}(hx:cG L x=some (.ptr id ep i o))(hk:T.kd s=some (.st os))(hf:os[f]?=some (off,ft))(hs:T.ts ft=some (sz+1))
  (k:ah C ops r ⟨al ((d,(.ptr id ep i (o+off)))::L) ρ,h⟩ Q):ah C ops (⟨some d,.fieldAddr s x f,ty,pos,af,none⟩::r) ⟨al L ρ,h⟩ Q:=
 ah.eK (λrun=>by simp[ao,az,ak hx,fS,lS T hk hf hs]) k
theorem R.cmp{tu:BinOp}{t yt:TypeId}{x y:Operand}{k:IntKind}{a b:Int}{p:Prop}(hx:cG L x=some (.int k a))(hy:cG L y=some (.int k b))(hp:D4 tu a b=some p)
  (k1:p->ah C ops r ⟨al ((d,(.bool true))::L) ρ,h⟩ Q) (k2:¬p->ah C ops r ⟨al ((d,(.bool false))::L) ρ,h⟩ Q):ah C ops (⟨some d,.binOp tu t x y yt,ty,pos,af,none⟩::r) ⟨al L ρ,h⟩ Q:=ah.cmp rfl (ak hx ρ) (ak hy ρ) hp (λhh=>by rw[bZ];exact k1 hh) (λhh=>by rw[bZ];exact k2 hh)
def arith:BinOp->Int->Int->Option Int
 | .add,a,b=>some (a+b)
 | .sub,a,b=>some (a - b)
 | .mul,a,b=>some (a * b)
 |_,_,_=>none
theorem R.arith{tu:BinOp}{t yt:TypeId}{x y:Operand}{k:IntKind}{a b c c':Int}(hx:cG L x=some (.int k a))(hy:cG L y=some (.int k b))(hp:Pm.arith tu a b=some c)(hw:k.wrap c=c')(kk:ah C ops r ⟨al ((d,(.int k c'))::L) ρ,h⟩ Q):
  ah C ops (⟨some d,.binOp tu t x y yt,ty,pos,af,none⟩::r) ⟨al L ρ,h⟩ Q:=by
 refine ah.eK (λrun=>?_) kk;simp only[ao,az,ak hx,ak hy]
 cases tu <;>simp only[Pm.arith,Z4,reduceCtorEq]at hp <;>subst hp <;>simp[fe,gy,hw]
theorem R.P9{t yt:TypeId}{x y:Operand}{a b:ByteArray}(hx:cG L x=some (.str a))(hy:cG L y=some (.str b))(k1:a.toList=b.toList->ah C ops r ⟨al ((d,(.bool true))::L) ρ,h⟩ Q)(k2:a.toList≠b.toList->ah C ops r ⟨al ((d,(.bool false))::L) ρ,h⟩ Q):
  ah C ops (⟨some d,.binOp .eql t x y yt,ty,pos,af,none⟩::r) ⟨al L ρ,h⟩ Q:=by
 by_cases hh:a.toList=b.toList
 ·exact ah.eK (λrun=>by simp[ao,az,ak hx,ak hy,fe,lF,hh]) (k1 hh)
 ·exact ah.eK (λrun=>by simp[ao,az,ak hx,ak hy,fe,lF,hh]) (k2 hh)
def LJ:BinOp->ByteArray->ByteArray->Option Bool
 | .lss,a,b=>some (Op.bytesLess a.toList b.toList)
 | .gtr,a,b=>some (!(Op.bytesLess a.toList b.toList ||a.toList==b.toList))
 | .neq,a,b=>some (!(a.toList==b.toList))
 |_,_,_=>none
theorem R.Td{tu:BinOp}{t yt:TypeId}{x y:Operand}{a b:ByteArray}{p:Bool}(hx:cG L x=some (.str a))(hy:cG L y=some (.str b))(hp:LJ tu a b=some p)
  (k1:p=true->ah C ops r ⟨al ((d,.bool true)::L) ρ,h⟩ Q) (k2:p=false->ah C ops r ⟨al ((d,.bool false)::L) ρ,h⟩ Q):
  ah C ops (⟨some d,.binOp tu t x y yt,ty,pos,af,none⟩::r) ⟨al L ρ,h⟩ Q:=by
 have key:∀run,ao C run 2 (.binOp tu t x y yt) (al L ρ) h=some (.bool p,h):=λrun=>by
  simp only[ao,az,ak hx,ak hy]
  cases tu <;>simp only[LJ,Z4,reduceCtorEq]at hp <;>subst hp <;>simp[fe,lF]
 cases p with
 |false=>exact ah.eK key (k2 rfl)
 |true=>exact ah.eK key (k1 rfl)
theorem R.not{t:TypeId}{x:Operand}{b b':Bool}(hx:cG L x=some (.bool b))(hb:(!b)=b')(k:ah C ops r ⟨al ((d,(.bool b'))::L) ρ,h⟩ Q):ah C ops (⟨some d,.unOp .not t x,ty,pos,af,none⟩::r) ⟨al L ρ,h⟩ Q:=
 ah.eK (λrun=>by simp[ao,az,ak hx,Pf,hb]) k
theorem R.nilCheck{x:Operand}{id ep i o:Nat}(hx:cG L x=some (.ptr id ep i o))(k:ah C ops r ⟨al ((d,(.ptr id ep i o))::L) ρ,h⟩ Q):ah C ops (⟨some d,.nilCheck x,ty,pos,af,none⟩::r) ⟨al L ρ,h⟩ Q:=
 ah.eK (λrun=>by simp[ao,az,ak hx]) k
theorem R.extract{x:Operand}{i:Nat}{vs:List PV}{v:PV}(hx:cG L x=some (.cm vs))(hv:vs[i]?=some v)(k:ah C ops r ⟨al ((d,v)::L) ρ,h⟩ Q):ah C ops (⟨some d,.extract x i,ty,pos,af,none⟩::r) ⟨al L ρ,h⟩ Q:=
 ah.eK (λrun=>by simp[ao,az,ak hx,hv]) k
theorem R.gE{t el:TypeId}{x ix:Operand}{full:Bool}{es:List PV}{k:IntKind}{i:Nat}{v:PV}{cs:List PV}{sz:Nat}(hx:cG L x=some (.aa full es))(hi:cG L ix=some (.int k (i:Int)))(hk:T.kd t=some (.sl el))(hs:T.ts el=some (sz+1))
  (hv:es[i]?=some v) (hc:cells v=cs) (hl:cs.length=sz+1) (kk:ah C ops r ⟨al ((d,(.eC cs))::L) ρ,h⟩ Q):ah C ops (⟨some d,.indexAddr t x ix,ty,pos,af,none⟩::r) ⟨al L ρ,h⟩ Q:=by
 have cz:i<es.length:=by
  rcases Z8 i es.length with h |h
  ·exact h
  ·rw[ZM h]at hv;cases hv
 subst hc;have IW:es[i]=v:=by rw[Zy cz]at hv;exact Zu hv
 exact ah.eK (λrun=>by simp[ao,az,ak hx,ak hi,cq,bp (T.cP _ _ hk),T.dO _ _ hs,cz,IW,hl]) kk
theorem R.qu{t el:TypeId}{x ix:Operand}{id ep off len:Nat}{k:IntKind}{i:Nat}{o:au}(hx:cG L x=some (.aj id ep off len))(hi:cG L ix=some (.int k (i:Int)))(hk:T.kd t=some (.sl el))(ho:getM h id ep=some o)(hs:T.ts el=some o.bB)(cz:i<len)(hle:off+len<=o.es.length)
  (kk:ah C ops r ⟨al ((d,(.ptr id ep (off+i) 0))::L) ρ,h⟩ Q):ah C ops (⟨some d,.indexAddr t x ix,ty,pos,af,none⟩::r) ⟨al L ρ,h⟩ Q:=
 ah.eK (λrun=>by simp[ao,az,ak hx,ak hi,cq,bp (T.cP _ _ hk),T.dO _ _ hs,ho,cz,hle]) kk
theorem R.AB{t:TypeId}{ts:List TypeId}{x:Operand}{xs:List Operand}{s:ByteArray}(hx:cG L x=some (.str s))(hk:T.kd t=some .str)(k:ah C ops r ⟨al ((d,(.int .i64 s.size))::L) ρ,h⟩ Q):
  ah C ops (⟨some d,.call ⟨.builtin .len,(x::xs).toArray,(t::ts).toArray⟩,ty,pos,af,none⟩::r) ⟨al L ρ,h⟩ Q:=
 ah.eK (λrun=>by simp[ao,ak hx,bo,nV,pd (T.cP _ _ hk)]) k
theorem R.qt{t el:TypeId}{ts:List TypeId}{x:Operand}{xs:List Operand}{full:Bool}{es:List PV}(hx:cG L x=some (.aa full es))(hk:T.kd t=some (.sl el))(k:ah C ops r ⟨al ((d,(.int .i64 es.length))::L) ρ,h⟩ Q):
  ah C ops (⟨some d,.call ⟨.builtin .len,(x::xs).toArray,(t::ts).toArray⟩,ty,pos,af,none⟩::r) ⟨al L ρ,h⟩ Q:=
 ah.eK (λrun=>by simp[ao,ak hx,bo,nV,bp (T.cP _ _ hk)]) k
theorem R.xU{t el:TypeId}{ts:List TypeId}{x:Operand}{xs:List Operand}{id ep off len:Nat}{o:au}(hx:cG L x=some (.aj id ep off len))(hk:T.kd t=some (.sl el))(ho:getM h id ep=some o)(hle:off+len<=o.es.length)(k:ah C ops r ⟨al ((d,(.int .i64 len))::L) ρ,h⟩ Q):
  ah C ops (⟨some d,.call ⟨.builtin .len,(x::xs).toArray,(t::ts).toArray⟩,ty,pos,af,none⟩::r) ⟨al L ρ,h⟩ Q:=
 ah.eK (λrun=>by simp[ao,ak hx,bo,nV,bp (T.cP _ _ hk),ho,hle]) k
theorem R.call{x:Operand}{xs:List Operand}{yU:Array TypeId}{f:FuncId}{da args:List PV}(hf:cG L x=some (.fn f da))(ha:xf L xs=some args)
  (hc:ai C 2 f (args++da) h (λv h'=>ah C ops r ⟨al ((d,v)::L) ρ,h'⟩ Q)):ah C ops (⟨some d,.call ⟨.value x,xs.toArray,yU⟩,ty,pos,af,none⟩::r) ⟨al L ρ,h⟩ Q:=
 ah.UN (args:=args++da) rfl rfl (ak hf ρ) (by simp[gw ha]) (by simpa only[bZ]using hc)
theorem Ev.iz{c:Operand}{a b:Code}{Q:Ex->St->Prop}{t:Bool}(hc:cG L c=some (.bool t))(k:Ev C (bif t then a else b) ⟨al L ρ,h⟩ Q):Ev C (.cond c a b) ⟨al L ρ,h⟩ Q:=by
 cases t
 ·exact Ev.PI (ak hc ρ) k
 ·exact Ev.PH (ak hc ρ) k
theorem jh{n:Int}(h1: -9223372036854775808<=n)(h2:n<=9223372036854775807):IntKind.i64.wrap n=n:=by
 rw[IntKind.wrap_i64];omega
def AJ:Nat->List PV->List (Nat×PV)
 |_,[]=>[]
 |n,a::xs=>(n,a)::AJ (n+1) xs
theorem gP(args:List PV):mi args=al (AJ 0 args) (λ_=>.undef):=by
 have key:∀(xs:List PV) (n t:Nat),al (AJ n xs) (λ_=>PV.undef) t=if n<=t then xs.getD (t - n) .undef else .undef:=by
  intro xs
  induction xs with
  |nil=>intro n t;simp[AJ,al]
  |cons a xs ih=>
   intro n t
   simp only[AJ,al,ih]
   by_cases h:t=n
   ·subst h;simp
   ·rw[if_neg h]
    by_cases h2:n<=t
    ·rw[if_pos h2,if_pos (by omega),show t - n=(t - (n+1))+1 by omega,abq]
    ·rw[if_neg h2,if_neg (by omega)]
 funext t
 rw[key];simp[mi]
def aJ(C:cK)(fn:Func)(Q:PV->ab->Prop)(ex:Ex)(s:St):Prop:=(ex=.normal\/ex=.ret)/\∃vs,db C.P s.h s.ρ fn.results.toList=some vs/\Q (aY vs) s.h
theorem ay.dC{f:FuncId}{fn:Func}{c:Code}{args:List PV}{h:ab}{Q:PV->ab->Prop}(hf:C.P.funcs[f]?=some fn)(hb:fn.body=some c)
  (e:Ev C c ⟨al (AJ 0 args) (λ_=>.undef),h⟩ (aJ C fn Q)):ay C f args h Q:=ay.body hf hb (by rw[gP];exact e)
def Im(L:List (Nat×PV)):List ResultVar->Option (List PV)
 |[]=>some []
 | .tmp t::r=>match lk L t,Im L r with
  |some v,some vs=>some (v::vs)
  |_,_=>none
 |_=>none
theorem ee{P:Program}{L:List (Nat×PV)}{h:ab}{ρ:Nat->PV}:∀{l:List ResultVar} {vs:List PV},Im L l=some vs->db P h (al L ρ) l=some vs
 |[],vs,e=>by simp[Im]at e;subst e;rfl
 | .tmp t::r,vs,e=>by
  simp only[Im]at e
  split at e
  ·rename_i v ET h1 h2
   obtain rfl:=Zu e;simp[db,dq h1,ee h2]
  ·cases e
 | .cell _ _::r,vs,e=>by simp[Im]at e
theorem aJ.ret{fn:Func}{Q:PV->ab->Prop}{vs:List PV}(hr:Im L fn.results.toList=some vs)(q:Q (aY vs) h):aJ C fn Q .ret ⟨al L ρ,h⟩:=⟨.inr rfl,vs,ee hr,q⟩
theorem aE.normal{b:Code}{Q:Ex->St->Prop}{s:St}(k:Ev C b s Q):aE C b Q .normal s:=k
theorem aE.ret{b:Code}{Q:Ex->St->Prop}{s:St}(k:Q .ret s):aE C b Q .ret s:=k
theorem aE.exit{b:Code}{Q:Ex->St->Prop}{s:St}{id:Nat}(k:Q (.exit id) s):aE C b Q (.exit id) s:=k
theorem aC.normal{id:Nat}{Q:Ex->St->Prop}{s:St}(k:Q .normal s):aC id Q .normal s:=k
theorem aC.ret{id:Nat}{Q:Ex->St->Prop}{s:St}(k:Q .ret s):aC id Q .ret s:=k
theorem aC.Qa{id:Nat}{Q:Ex->St->Prop}{s:St}(k:Q .normal s):aC id Q (.exit id) s:=by simp only[aC,if_true];exact k
theorem aC.Ox{id dS:Nat}{Q:Ex->St->Prop}{s:St}(h:(dS==id)=false)(k:Q (.exit dS) s):aC id Q (.exit dS) s:=by
 have:¬dS=id:=by simpa using h
 simp only[aC,if_neg this];exact k
theorem aI.normal{I:St->Prop}{Q:Ex->St->Prop}{s:St}(k:I s):aI I Q .normal s:=k
theorem aI.ret{I:St->Prop}{Q:Ex->St->Prop}{s:St}(k:Q .ret s):aI I Q .ret s:=k
theorem aI.exit{I:St->Prop}{Q:Ex->St->Prop}{s:St}{id:Nat}(k:Q (.exit id) s):aI I Q (.exit id) s:=k
def ON(L:List (Nat×PV)):List (Nat×PV)->Prop
 |[]=>True
 |(k,v)::r=>lk L k=some v/\ON L r
theorem CV{L:List (Nat×PV)}:∀{L':List (Nat×PV)},ON L L'->∀x∈L',lk L x.1=some x.2
 |[],_,x,hx=>by cases hx
 |(k,v)::r,h,x,hx=>by
  rcases ZF.1 hx with rfl |hx
  ·exact h.1
  ·exact CV h.2 x hx
theorem St.aQ{L L':List (Nat×PV)}{ρ:Nat->PV}{h:ab}(hh:ON L L'):(⟨al L ρ,h⟩:St)=⟨al L' (al L ρ),h⟩:=by
 rw[JY (al L ρ) L' (λx hx=>dq (CV hh x hx) ρ)]
theorem R.AK{t:TypeId}{z:PV}{n:Nat}(hz:T.tz t=some z)(h1:(cells z).all bG=true)(hl:(cells z).length=n+1)(k:ah C ops r ⟨al ((d,(.ptr h.length 0 0 0))::L) ρ,h++[⟨.m,0,n+1,[z]⟩]⟩ Q):
  ah C ops (⟨some d,.alloc t,ty,pos,af,none⟩::r) ⟨al L ρ,h⟩ Q:=
 ah.eK (λrun=>by simp[ao,az,T.mO _ _ hz,h1,hl,newObj]) k
theorem R.YX{t:TypeId}{x:Operand}{v:PV}{n:Nat}(hx:cG L x=some v)(h1:(cells v).all bG=true)(hl:(cells v).length=n+1)(k:ah C ops r ⟨al ((d,(.ptr h.length 0 0 0))::L) ρ,h++[⟨.m,0,n+1,[v]⟩]⟩ Q):
  ah C ops (⟨some d,.box t x,ty,pos,af,none⟩::r) ⟨al L ρ,h⟩ Q:=
 ah.eK (λrun=>by simp[ao,az,ak hx,h1,hl,newObj]) k
theorem kK{h:ab}{n:Nat}{es:List PV}:getM (h++[⟨.m,0,n,es⟩]) h.length 0=some ⟨.m,0,n,es⟩:=by simp[getM]
theorem R.AL{t:TypeId}{a x:Operand}{e v:PV}{n:Nat}(ha:cG L a=some (.ptr h.length 0 0 0))(hx:cG L x=some v)(hs:T.ts t=some n)(hl:(cells v).length=n)(h1:(cells v).all bG=true)(he:(cells e).length=n)
  (k:ah C ops r ⟨al L ρ,h++[⟨.m,0,n,[v]⟩]⟩ Q):ah C ops (⟨none,.store t a x,ty,pos,af,none⟩::r) ⟨al L ρ,h++[⟨.m,0,n,[e]⟩]⟩ Q:=by
 have k':ah C ops r ⟨bV (al L ρ) none .undef,h++[(⟨.m,0,n,[v]⟩:au)]⟩ Q:=k;refine ah.val (v:=.undef) (h':=h++[(⟨.m,0,n,[v]⟩:au)]) rfl (λrun=>?_) k';have hr:eD 0 n e v=v:=by unfold eD;rw[if_pos ⟨rfl,he.symm⟩]
 simp[ao,az,ak ha,ak hx,gC,T.dO _ _ hs,kK,hl,he,hr];simpa using h1
theorem pcN{h:ab}{n:Nat}{e:PV}:cC (h++[⟨.m,0,n,[e]⟩]) (.ptr h.length 0 0 0)=some (cells e):=by simp[cC,kK]
theorem YY{h:ab}{n off:Nat}{e:PV}:cC (h++[⟨.m,0,n,[e]⟩]) (.ptr h.length 0 0 off)=some ((cells e).drop off):=by simp[cC,kK]
theorem R.sO{t:TypeId}{x:Operand}{e:PV}{jd:List PV}{n sz:Nat}(hx:cG L x=some (.ptr h.length 0 0 0))(hs:T.ts t=some (sz+1))(ht:T.ta t=some true)(hc:pe (sz+1) (cells e) jd)
  (k:ah C ops r ⟨al ((d,(.agg jd))::L) ρ,h++[⟨.m,0,n,[e]⟩]⟩ Q):ah C ops (⟨some d,.load t x,ty,pos,af,none⟩::r) ⟨al L ρ,h++[⟨.m,0,n,[e]⟩]⟩ Q:=
 R.kN T hx hs ht pcN hc k
end Go.Pm
namespace Go.Pm
def gS(r r':gU):Prop:=∀f args h x,r f args h=some x->r' f args h=some x
variable{C:cK}{run run':gU}
theorem l9(L:gS run run'){lv:Nat}{f:FuncId}{args:List PV}{h:ab}{x:PV×ab}(e:dx run lv f args h=some x):dx run' lv f args h=some x:=by
 unfold dx at e ⊢
 split at e
 ·rename_i hv
  rw[if_pos hv]
  cases hr:run f (aU args) []with
  |none=>rw[hr]at e;cases e
  |some y=>rw[hr]at e;rw[L _ _ _ _ hr];exact e
 ·rename_i hv
  rw[if_neg hv]
  cases ha:iK h args with
  |none=>
   rw[ha]at e;simp only at e ⊢
   cases hd:fT (pz 8 h) args with
   |none=>rw[hd]at e;cases e
   |some a=>
    rw[hd]at e;simp only at e ⊢
    cases hr:run f (aU a) []with
    |none=>rw[hr]at e;cases e
    |some y=>rw[hr]at e;rw[L _ _ _ _ hr];exact e
  |some a=>
   rw[ha]at e;simp only at e ⊢
   cases hr:run f (aU a) []with
   |none=>rw[hr]at e;cases e
   |some y=>rw[hr]at e;rw[L _ _ _ _ hr];exact e
theorem jF{g g':List PV->ab->Option (PV×ab)}(L:∀a h x,g a h=some x->g' a h=some x){lv:Nat}{args:List PV}{h:ab}{x:PV×ab}(e:dQ g lv args h=some x):dQ g' lv args h=some x:=by
 unfold dQ at e ⊢
 split at e
 ·rename_i h2;rw[if_pos h2];exact L _ _ _ e
 ·rename_i h2
  rw[if_neg h2]
  split at e
  ·rename_i h1
   rw[if_pos h1]
   cases hr:g args (h.map bM)with
   |none=>rw[hr]at e;cases e
   |some y=>rw[hr]at e;rw[L _ _ _ hr];exact e
  ·cases e
theorem ma(L:gS run run'){lv:Nat}{f:FuncId}{args:List PV}{h:ab}{x:PV×ab}(e:gK run lv f args h=some x):gK run' lv f args h=some x:=by
 unfold gK at e ⊢
 cases hr:dQ (run f) lv args h with
 |none=>rw[hr]at e;cases e
 |some y=>rw[hr]at e;rw[jF (λa h x=>L f a h x) hr];exact e
theorem wL(L:gS run run'){lv:Nat}{f:FuncId}{args:List PV}{h:ab}{x:PV×ab}(e:c9 C run lv f args h=some x):c9 C run' lv f args h=some x:=by
 unfold c9 at e ⊢
 cases hm:C.mode f <;>simp only[hm]at e ⊢
 ·cases e
 ·exact l9 L e
 ·exact ma L e
 ·exact e
 ·exact jF (λ_ _ _ x=>x) e
 ·exact e
theorem jA(L:gS run run'){lv:Nat}{op:Op}{ρ:Nat->PV}{h:ab}{x:PV×ab}(e:ao C run lv op ρ h=some x):ao C run' lv op ρ h=some x:=by
 unfold ao at e ⊢
 split at e
 ·split at e
  ·unfold fO at e ⊢
   split at e
   ·exact wL L e
   ·exact wL L e
   ·cases e
  ·exact e
  ·cases e
 ·exact e
theorem CA(L:gS run run'){ops:Array Oper}{o:Oper}{s s':St}(e:fA C run ops o s=some s'):fA C run' ops o s=some s':=by
 unfold fA at e ⊢
 split at e
 ·cases hr:ao C run 2 o.op s.ρ s.h with
  |none=>rw[hr]at e;cases e
  |some y=>rw[hr]at e;rw[jA L hr];exact e
 ·exact e
 ·cases e
theorem rI(L:gS run run'){ops:Array Oper}:∀{l:List Oper} {s s':St},dw C run ops l s=some s'->dw C run' ops l s=some s'
 |[],s,s',e=>e
 |o::l,s,s',e=>by
  simp only[dw]at e ⊢
  cases hr:fA C run ops o s with
  |none=>rw[hr]at e;cases e
  |some y=>
   rw[hr]at e;rw[CA L hr];exact rI L e
theorem Az(L:gS run run'){ops:Array Oper}{b:List Nat}{i:Nat}{o:Oper}{s s':uu}(e:cf C run ops b i o s=some s'):cf C run' ops b i o s=some s':=by
 unfold cf at e ⊢
 split at e
 ·split at e
  ·rename_i hh
   rw[if_pos hh]
   cases hr:ao C run 1 o.op s.s.ρ s.s.h with
   |none=>rw[hr]at e;cases e
   |some y=>rw[hr]at e;rw[jA L hr];exact e
  ·rename_i hh
   rw[if_neg hh]
   split at e
   ·rename_i hl
    rw[if_pos hl]
    cases hr:ao C run 2 o.op s.s.ρ s.s.h with
    |none=>rw[hr]at e;cases e
    |some y=>rw[hr]at e;rw[jA L hr];exact e
   ·rename_i hl
    rw[if_neg hl];simp only at e ⊢
    split at e
    ·rename_i hc
     rw[if_pos hc]
     cases hr:ao C run 1 o.op s.s.ρ (cc (b.getD i 0).testBit s.L0 s.own s.s.h)with
     |none=>rw[hr]at e;cases e
     |some y=>rw[hr]at e;rw[jA L hr];exact e
    ·cases e
 ·exact e
 ·cases e
theorem qf(L:gS run run'){ops:Array Oper}{b:List Nat}:∀{l:List Oper} {i:Nat} {s s':uu},dy C run ops b i l s=some s'->dy C run' ops b i l s=some s'
 |[],i,s,s',e=>e
 |o::l,i,s,s',e=>by
  simp only[dy]at e ⊢
  cases hr:cf C run ops b i o s with
  |none=>rw[hr]at e;cases e
  |some y=>
   rw[hr]at e;rw[Az L hr];exact qf L e
theorem AA(L:gS run run'){ops:Array Oper}{b:List Nat}{h0:ab}{i:Nat}{o:Oper}{s s':St}(e:cO C run ops b h0 i o s=some s'):cO C run' ops b h0 i o s=some s':=by
 unfold cO at e ⊢
 split at e
 ·split at e
  ·rename_i hh
   rw[if_pos hh]
   cases hr:ao C run 1 o.op s.ρ s.h with
   |none=>rw[hr]at e;cases e
   |some y=>rw[hr]at e;rw[jA L hr];exact e
  ·rename_i hh
   rw[if_neg hh]
   split at e
   ·rename_i hl
    rw[if_pos hl];exact e
   ·rename_i hl
    rw[if_neg hl]
    cases hs:(if jm o.op then az C.P 1 o.op s.ρ s.h else none)with
    |some y=>rw[hs]at e;exact e
    |none=>
     rw[hs]at e;simp only at e ⊢
     split at e
     ·rename_i hk
      rw[if_pos hk]
      cases hr:ao C run 2 o.op s.ρ s.h with
      |none=>rw[hr]at e;cases e
      |some y=>rw[hr]at e;rw[jA L hr];exact e
     ·cases e
 ·exact e
 ·cases e
theorem qg(L:gS run run'){ops:Array Oper}{b:List Nat}{h0:ab}:∀{l:List Oper} {i:Nat} {s s':St},b8 C run ops b h0 i l s=some s'->b8 C run' ops b h0 i l s=some s'
 |[],i,s,s',e=>e
 |o::l,i,s,s',e=>by
  simp only[b8]at e ⊢
  cases hr:cO C run ops b h0 i o s with
  |none=>rw[hr]at e;cases e
  |some y=>
   rw[hr]at e;rw[AA L hr];exact qg L e
theorem EL(L:gS run run'){ops:Array Oper}{s s':St}(e:iN C run ops s=some s'):iN C run' ops s=some s':=by
 unfold iN at e ⊢
 cases hr:b8 C run ops (before ops) (cr (gi ops (before ops) s.ρ) s.h) 0 ops.toList ⟨s.ρ,cr (gi ops (before ops) s.ρ) s.h⟩with
 |none=>rw[hr]at e;cases e
 |some y=>rw[hr]at e;rw[qg L hr];exact e
theorem pB{f f':St->Option (Ex×St)}(L:∀s x,f s=some x->f' s=some x):∀{n m:Nat} {s:St} {x:Ex×St},n<=m->iter f n s=some x->iter f' m s=some x
 |0,m,s,x,_,e=>by simp[iter]at e
 |n+1,m,s,x,hm,e=>by
  obtain⟨m,rfl⟩:∃k,m=k+1:=⟨m - 1,by omega⟩;simp only[iter]at e ⊢
  cases hr:f s with
  |none=>rw[hr]at e;cases e
  |some y=>
   rw[hr]at e;rw[L _ _ hr];obtain⟨ex,s'⟩:=y
   cases ex with
   |normal=>exact pB L (by omega) e
   |exit id=>exact e
   |ret=>exact e
theorem vq(L:gS run run'){n m:Nat}(Ns:n<=m):∀(c:Code) {s:St} {x:Ex×St},bJ C run n c s=some x->bJ C run' m c s=some x:=by
 intro c
 induction c with
 |region id ops draw=>
  intro s x e
  simp only[bJ]at e ⊢
  cases draw with
  |false=>
   simp only[ZJ,if_false]at e ⊢
   cases hr:dw C run ops ops.toList s with
   |none=>rw[hr]at e;cases e
   |some y=>rw[hr]at e;rw[rI L hr];exact e
  |true=>
   simp only[if_true]at e ⊢
   by_cases hk:qW ops=true
   ·simp only[hk,if_true]at e ⊢
    cases hr:iN C run ops s with
    |none=>rw[hr]at e;cases e
    |some y=>rw[hr]at e;rw[EL L hr];exact e
   ·simp only[hk]at e ⊢
    cases hr:dy C run ops (before ops) 0 ops.toList ⟨s,s.h.length,[]⟩with
    |none=>rw[hr]at e;simp at e
    |some y=>rw[hr]at e;rw[qf L hr];exact e
 |seq a b iha ihb=>
  intro s x e
  simp only[bJ]at e ⊢
  cases hr:bJ C run n a s with
  |none=>rw[hr]at e;cases e
  |some y=>
   rw[hr]at e;rw[iha hr];obtain⟨ex,s'⟩:=y
   cases ex with
   |normal=>exact ihb e
   |exit id=>exact e
   |ret=>exact e
 |cond c a b iha ihb=>
  intro s x e
  simp only[bJ]at e ⊢
  split at e
  ·exact iha e
  ·exact ihb e
  ·cases e
 |block id c ih=>
  intro s x e
  simp only[bJ]at e ⊢
  cases hr:bJ C run n c s with
  |none=>rw[hr]at e;cases e
  |some y=>rw[hr]at e;rw[ih hr];exact e
 |loop c ih=>
  intro s x e
  simp only[bJ]at e ⊢;exact pB (λs x=>ih) Ns e
 |scope c ih=>
  intro s x e
  simp only[bJ]at e ⊢;exact ih e
 |_=>
  intro s x e
  first
   |exact e
   |(simp[bJ]at e;done)
   |(simp only[bJ]at e ⊢;exact e)
theorem EM(L:gS run run'){n m:Nat}(Ns:n<=m):gS (nY C run n) (nY C run' m):=by
 intro f args h x e
 unfold nY at e ⊢
 cases hf:C.P.funcs[f]? with
 |none=>rw[hf]at e;cases e
 |some fn=>
  rw[hf]at e;simp only at e ⊢
  cases hb:fn.body with
  |none=>rw[hb]at e;cases e
  |some c=>
   rw[hb]at e;simp only at e ⊢
   cases hr:bJ C run n c ⟨mi args,h⟩with
   |none=>rw[hr]at e;cases e
   |some y=>rw[hr]at e;rw[vq L Ns c hr];exact e
theorem zm(C:cK):∀n,gS (eV C n) (eV C (n+1))
 |0=>λf args h x e=>by cases e
 |n+1=>EM (zm C n) (abd n)
theorem yW(C:cK){n m:Nat}(h:n<=m):gS (eV C n) (eV C m):=by
 induction h with
 |refl=>exact λf args h x e=>e
 |step _ ih=>exact λf args h x e=>zm C _ f args h x (ih f args h x e)
theorem aO.od{f:FuncId}{args:List PV}{r:PV}{n:Nat}(e:Pm.nZ C n f args=some r):aO C f args r:=by
 unfold Pm.nZ at e
 cases hr:eV C n f args []with
 |none=>rw[hr]at e;cases e
 |some y=>
  obtain⟨r0,hc⟩:=y;rw[hr]at e
  cases h2:yl hc r0 with
  |none=>simp[h2]at e
  |some r1=>
   simp[h2]at e;exact⟨n,λm hm=>⟨r0,hc,r1,yW C hm f args [] _ hr,h2,e⟩⟩
end Go.Pm
namespace Go.Pm
def aV(C:cK)(ops:Array Oper)(i:Nat)(l:List Oper)(x:uu)(Q:St->Prop):Prop:=
 ∃y:uu,Q y.s/\∃n0,∀n,n0<=n->dy C (eV C n) ops (before ops) i l x=some y
variable{C:cK}(T:lz C.P)
variable{ops:Array Oper}{i:Nat}{d:Nat}{ty:TypeId}{pos:String}{af:Array Edge}{r:List Oper}{ρ:Nat->PV}{L:List (Nat×PV)}{h:ab}{L0:Nat}{own:List Nat}{Q:St->Prop}
theorem Ev.kb{id:Nat}{Q:Ex->St->Prop}(k:aV C ops 0 ops.toList ⟨⟨al L ρ,h⟩,h.length,[]⟩ (Q .normal))(hk:qW ops=false:=by rfl):Ev C (.region id ops true) ⟨al L ρ,h⟩ Q:=by
 obtain⟨y,q,n0,hn⟩:=k;exact⟨.normal,y.s,q,n0,λn m h1 h2=>by simp only[bJ,if_true,hk,ZJ,if_false,hn n h1,ZH]⟩
theorem aV.nil{s:St}(k:Q s):aV C ops i [] ⟨s,L0,own⟩ Q:=⟨⟨s,L0,own⟩,k,0,λ_ _=>rfl⟩
theorem aV.step{o:Oper}{x x1:uu}(e:∃n0,∀n,n0<=n->cf C (eV C n) ops (before ops) i o x=some x1)(k:aV C ops (i+1) r x1 Q):aV C ops i (o::r) x Q:=by
 obtain⟨n1,Dc⟩:=e;obtain⟨y,q,n0,hn⟩:=k;exact⟨y,q,max n0 n1,λn h1=>by simp only[dy,Dc n (by omega),hn n (by omega)]⟩
theorem aV.plain{op:Op}{v:PV}{h':ab}(hh:cR op=false)(hc:∀run,ao C run 1 op (al L ρ) h=some (v,h'))(k:aV C ops (i+1) r ⟨⟨al ((d,v)::L) ρ,h⟩,L0,own⟩ Q):
  aV C ops i (⟨some d,op,ty,pos,af,none⟩::r) ⟨⟨al L ρ,h⟩,L0,own⟩ Q:=by
 refine aV.step ⟨0,λn _=>?_⟩ k;simp only[cf,bm,hh,if_true,hc,bZ]
theorem aV.two{op:Op}{v:PV}{h':ab}(hh:cR op=true)(hl:level ops (before ops) i=2)(hc:∃n0,∀n,n0<=n->ao C (eV C n) 2 op (al L ρ) h=some (v,h'))(k:aV C ops (i+1) r ⟨⟨al ((d,v)::L) ρ,h'⟩,h'.length,[]⟩ Q):
  aV C ops i (⟨some d,op,ty,pos,af,none⟩::r) ⟨⟨al L ρ,h⟩,L0,own⟩ Q:=by
 obtain⟨n0,hn⟩:=hc;refine aV.step ⟨n0,λn h1=>?_⟩ k;simp only[cf,bm,hh,aab,if_false,hl,if_true,hn n h1,bZ]
theorem aV.one{op:Op}{v:PV}(hh:cR op=true)(hl:level ops (before ops) i≠2)(di:aR h=true)(kH:(op.operands.toList.all λy=>br (aL h) (ev (al L ρ) y))=true)
  (hc:∃n0,∀n,n0<=n->ao C (eV C n) 1 op (al L ρ) h=some (v,h)) (k:aV C ops (i+1) r ⟨⟨al ((d,v)::L) ρ,h⟩,h.length,[]⟩ Q):
  aV C ops i (⟨some d,op,ty,pos,af,none⟩::r) ⟨⟨al L ρ,h⟩,h.length,[]⟩ Q:=by
 obtain⟨n0,hn⟩:=hc;refine aV.step ⟨n0,λn h1=>?_⟩ k;have hM:cc ((before ops).getD i 0).testBit h.length [] h=h:=by simp[cc]
 simp only[cf,bm,hh,aab,if_false,hl,hM,di,kH,and_self,if_true,hn n h1,bZ];simp
theorem fI(f:Nat->Bool)(cs:List PV):bw f cs=cs.all (br f):=by
 induction cs with
 |nil=>rfl
 |cons c r ih=>simp[bw,ih]
theorem aV.read{op:Op}{v:PV}(hh:cR op=true)(di:aR h=true)(kH:(op.operands.toList.all λy=>br (aL h) (ev (al L ρ) y))=true)
  (hc:∃n0,∀n lv,n0<=n->1<=lv->ao C (eV C n) lv op (al L ρ) h=some (v,h)) (k:aV C ops (i+1) r ⟨⟨al ((d,v)::L) ρ,h⟩,h.length,[]⟩ Q):
  aV C ops i (⟨some d,op,ty,pos,af,none⟩::r) ⟨⟨al L ρ,h⟩,h.length,[]⟩ Q:=by
 obtain⟨n0,hn⟩:=hc
 by_cases hl:level ops (before ops) i=2
 ·exact aV.two hh hl ⟨n0,λn h1=>hn n 2 h1 (by omega)⟩ k
 ·exact aV.one hh hl di kH ⟨n0,λn h1=>hn n 1 h1 (Zz _)⟩ k
theorem D.move{x:Operand}{v:PV}(hx:cG L x=some v)(k:aV C ops (i+1) r ⟨⟨al ((d,v)::L) ρ,h⟩,L0,own⟩ Q):aV C ops i (⟨some d,.move x,ty,pos,af,none⟩::r) ⟨⟨al L ρ,h⟩,L0,own⟩ Q:=
 aV.plain (h':=h) rfl (λrun=>by simp only[ao,az,ak hx]) k
theorem D.assign{x:Operand}{v:PV}(hx:cG L x=some v)(k:aV C ops (i+1) r ⟨⟨al ((d,v)::L) ρ,h⟩,L0,own⟩ Q):aV C ops i (⟨some d,.assign x,ty,pos,af,none⟩::r) ⟨⟨al L ρ,h⟩,L0,own⟩ Q:=
 aV.plain (h':=h) rfl (λrun=>by simp only[ao,az,ak hx]) k
theorem D.fieldAddr{s:TypeId}{x:Operand}{f id ep j o off:Nat}{ft:TypeId}{os:List (Nat×TypeId)}{sz:Nat}(hx:cG L x=some (.ptr id ep j o))(hk:T.kd s=some (.st os))(hf:os[f]?=some (off,ft))(hs:T.ts ft=some (sz+1))
  (k:aV C ops (i+1) r ⟨⟨al ((d,.ptr id ep j (o+off))::L) ρ,h⟩,L0,own⟩ Q):aV C ops i (⟨some d,.fieldAddr s x f,ty,pos,af,none⟩::r) ⟨⟨al L ρ,h⟩,L0,own⟩ Q:=
 aV.plain (h':=h) rfl (λrun=>by simp[ao,az,ak hx,fS,lS T hk hf hs]) k
theorem D.fF{t:TypeId}{x:Operand}{p c:PV}{cs:List PV}{sz:Nat}(di:aR h=true)(hx:cG L x=some p)(hv:br (aL h) p=true)(hs:T.ts t=some sz)(ht:T.ta t=some false)(hp:cC h p=some (c::cs))
  (k:aV C ops (i+1) r ⟨⟨al ((d,c)::L) ρ,h⟩,h.length,[]⟩ Q):aV C ops i (⟨some d,.load t x,ty,pos,af,none⟩::r) ⟨⟨al L ρ,h⟩,h.length,[]⟩ Q:=
 aV.read rfl di (by simp[Op.operands,ak hx,hv]) ⟨0,λn lv _ _=>by simp[ao,az,ak hx,iq,T.dO _ _ hs,T.LG _ _ ht,hp]⟩ k
theorem D.kN{t:TypeId}{x:Operand}{p:PV}{cs jd:List PV}{sz:Nat}(di:aR h=true)(hx:cG L x=some p)(hv:br (aL h) p=true)(hs:T.ts t=some (sz+1))(ht:T.ta t=some true)(hp:cC h p=some cs)(hc:pe (sz+1) cs jd)
  (k:aV C ops (i+1) r ⟨⟨al ((d,.agg jd)::L) ρ,h⟩,h.length,[]⟩ Q):aV C ops i (⟨some d,.load t x,ty,pos,af,none⟩::r) ⟨⟨al L ρ,h⟩,h.length,[]⟩ Q:=by
 obtain⟨rfl,hle⟩:=hc.eq;exact aV.read rfl di (by simp[Op.operands,ak hx,hv]) ⟨0,λn lv _ _=>by simp[ao,az,ak hx,iq,T.dO _ _ hs,T.LG _ _ ht,hp,hle]⟩ k
theorem D.gE{t el:TypeId}{x ix:Operand}{full:Bool}{es:List PV}{k:IntKind}{j:Nat}{v:PV}{cs:List PV}{sz:Nat}(di:aR h=true)(hx:cG L x=some (.aa full es))(hi:cG L ix=some (.int k (j:Int)))(hk:T.kd t=some (.sl el))(hs:T.ts el=some (sz+1))
  (hv:es[j]?=some v) (hc:cells v=cs) (hl:cs.length=sz+1) (kk:aV C ops (i+1) r ⟨⟨al ((d,.eC cs)::L) ρ,h⟩,h.length,[]⟩ Q):aV C ops i (⟨some d,.indexAddr t x ix,ty,pos,af,none⟩::r) ⟨⟨al L ρ,h⟩,h.length,[]⟩ Q:=by
 have cz:j<es.length:=by
  rcases Z8 j es.length with h |h
  ·exact h
  ·rw[ZM h]at hv;cases hv
 subst hc;have IW:es[j]=v:=by rw[Zy cz]at hv;exact Zu hv
 exact aV.read rfl di (by simp[Op.operands,ak hx,ak hi,br]) ⟨0,λn lv _ _=>by simp[ao,az,ak hx,ak hi,cq,bp (T.cP _ _ hk),T.dO _ _ hs,cz,IW,hl]⟩ kk
theorem D.jK{x:Operand}{xs:List Operand}{yU:Array TypeId}{f:FuncId}{da args:List PV}{v:PV}(di:aR h=true)(hf:cG L x=some (.fn f da))(ha:xf L xs=some args)(hm:C.mode f=.pure)(xZ:ar (args++da)=true)
  (ia:bw (aL h) args=true) (hcv:bw (aL h) da=true) (a:aO C f (aU (args++da)) v)
  (k:aV C ops (i+1) r ⟨⟨al ((d,v)::L) ρ,h⟩,h.length,[]⟩ Q):aV C ops i (⟨some d,.call ⟨.value x,xs.toArray,yU⟩,ty,pos,af,none⟩::r) ⟨⟨al L ρ,h⟩,h.length,[]⟩ Q:=by
 obtain⟨n0,hn⟩:=a;have he:=gw (ρ:=ρ) ha;refine aV.read rfl di ?_ ⟨n0,λn lv h1 h2=>?_⟩ k
 ·rw[Zw]
  intro y hy
  simp[Op.operands,Call.operands]at hy;rcases hy with rfl |hy
  ·rw[ak hf];simpa[br]using hcv
  ·rw[fI]at ia;have:ev (al L ρ) y∈args:=by rw[<-he];exact Z0.2 ⟨y,hy,rfl⟩
   exact Zw.1 ia _ this
 ·obtain⟨r0,hc,r1,e1,e2,e3⟩:=hn n h1;simp only[ao,fO,ak hf];unfold c9;rw[hm];simp only[he,dx,xZ,if_true,e1,e2,e3]
end Go.Pm
namespace Go.Pm
def L2(R:Value->PV->Prop)(vs:List Value)(cs:List PV):Prop:=vs.length=cs.length/\∀j,j<cs.length->R (vs.getD j undef) (cs.getD j .any)
inductive bY(w:World)(A:Nat->Prop):Value->PV->Prop
 |int (k:IntKind) (n:Int):bY w A (.int k n) (.int k n)
 |bool (b:Bool):bY w A (.bool b) (.bool b)
 |str (s:ByteArray):bY w A (.string s) (.str s)
 |dW:bY w A (.pointer none) .dW
 |gf:bY w A (.map none) .gf
 |aG:bY w A .nilFunc .aG
 |agg (vs:List Value) (cs:List PV):vs.length=cs.length->(∀j,j<cs.length->bY w A (vs.getD j undef) (cs.getD j .any))->bY w A (.agg vs.toArray) (.agg cs)
 |cm (vs:List Value) (cs:List PV):vs.length=cs.length->(∀j,j<cs.length->bY w A (vs.getD j undef) (cs.getD j .any))->bY w A (.tuple vs.toArray) (.cm cs)
 |fn (f:FuncId) (vs:List Value) (cs:List PV):vs.length=cs.length->(∀j,j<cs.length->bY w A (vs.getD j undef) (cs.getD j .any))->bY w A (.func (.func f) #[] vs.toArray) (.fn f cs)
 |mR (f:FuncId) (k:Nat) (vs:List Value) (cs:List PV):vs.length=cs.length->(∀j,j<cs.length->bY w A (vs.getD j undef) (cs.getD j .any))->bY w A (.func (.func f) (vs.take k).toArray (vs.drop k).toArray) (.mR f k cs)
 |gA (a:Option Addr) (cap:Nat) (full:Bool):(full=true->cap=0)->bY w A (.slice a 0 cap) (.aa full [])
 |aa (b off cap sz:Nat) (full:Bool) (es:List PV) (oh:Nat->Nat->Value):es≠[]->es.length<=cap->(full=true->cap=es.length)->¬A b->0<sz->
   (∀i,i<es.length->(cells (es.getD i .any)).length=sz)->
   (∀i j,i<es.length->j<sz->w.cell? ⟨b,off+(i * sz+j),none⟩=some (oh i j))->
   (∀i j,i<es.length->j<sz->bY w A (oh i j) ((cells (es.getD i .any)).getD j .any))->
   bY w A (.slice (some ⟨b,off,none⟩) es.length cap) (.aa full es)
 |eC (b off:Nat) (cs:List PV) (oh:Nat->Value):cs≠[]->¬A b->(∀j,j<cs.length->w.cell? ⟨b,off+j,none⟩=some (oh j))->
   (∀j,j<cs.length->bY w A (oh j) (cs.getD j .any))->bY w A (.pointer (some ⟨b,off,none⟩)) (.eC cs)
inductive aD(w:World)(A:Nat->Prop)(β:List (Nat×Nat))(h:ab):Value->PV->Prop
 |val {v:Value} {p:PV}:bY w A v p->aD w A β h v p
 |undef:aD w A β h (.tuple #[]) .undef
 |any (v:Value):aD w A β h v .any
 |aj (v:Value) (id ep off len:Nat) (o:au) (bc:Nat×Nat):(∃(a:Option Addr) (l c:Nat),v=.slice a l c)->h[id]?=some o->β[id]?=some bc->o.mu≠.x->(ep<=o.ep/\0<o.bB)->
   (o.ep=ep->off+len<=o.es.length->∃cap,v=.slice (some ⟨bc.1,off * o.bB,none⟩) len cap/\off+cap=bc.2)->
   aD w A β h v (.aj id ep off len)
 |ptr (v:Value) (id ep i off:Nat) (o:au) (bc:Nat×Nat):(∃a:Addr,v=.pointer (some a))->h[id]?=some o->β[id]?=some bc->o.mu≠.x->(ep<=o.ep/\0<o.bB)->
   (o.ep=ep->v=.pointer (some ⟨bc.1,i * o.bB+off,none⟩))->
   aD w A β h v (.ptr id ep i off)
 |cB (v:Value) (id:Nat) (o:au) (bc:Nat×Nat):(∃r:Nat,v=.map (some r))->h[id]?=some o->β[id]?=some bc->o.mu≠.x->(o.ep=0->v=.map (some bc.1))->aD w A β h v (.cB id)
 |agg (vs:List Value) (cs:List PV):vs.length=cs.length->(∀j,j<cs.length->aD w A β h (vs.getD j Go.undef) (cs.getD j .any))->aD w A β h (.agg vs.toArray) (.agg cs)
 |cm (vs:List Value) (cs:List PV):vs.length=cs.length->(∀j,j<cs.length->aD w A β h (vs.getD j Go.undef) (cs.getD j .any))->aD w A β h (.tuple vs.toArray) (.cm cs)
 |fn (f:FuncId) (vs:List Value) (cs:List PV):vs.length=cs.length->(∀j,j<cs.length->aD w A β h (vs.getD j Go.undef) (cs.getD j .any))->aD w A β h (.func (.func f) #[] vs.toArray) (.fn f cs)
 |mR (f:FuncId) (k:Nat) (vs:List Value) (cs:List PV):vs.length=cs.length->(∀j,j<cs.length->aD w A β h (vs.getD j Go.undef) (cs.getD j .any))->aD w A β h (.func (.func f) (vs.take k).toArray (vs.drop k).toArray) (.mR f k cs)
def Mb(h:ab)(β:List (Nat×Nat))(b:Nat):Prop:=∃(id:Nat) (o:au) (bc:Nat×Nat),h[id]?=some o/\β[id]?=some bc/\o.mu=.m/\bc.1=b
def Av(F:Nat->Prop)(h:ab)(β:List (Nat×Nat))(b:Nat):Prop:=F b\/Mb h β b
def V1(w:World)(A:Nat->Prop)(β:List (Nat×Nat))(h:ab)(o:au)(bc:Nat×Nat):Prop:=
 ∃T cs,w.heap[bc.1]?=some (.cells cs T (0,0))/\o.es.length<=bc.2/\bc.2 * o.bB<=cs.size/\0<o.bB/\
  (∀(i:Nat) (e:PV),o.es[i]?=some e->(cells e).length=o.bB/\∀(j:Nat) (p:PV),(cells e)[j]?=some p->∃v:Value,cs[i * o.bB+j]?=some v/\aD w A β h v p)
def V2(w:World)(A:Nat->Prop)(β:List (Nat×Nat))(h:ab)(o:au)(bc:Nat×Nat):Prop:=
 o.bB=0/\∃es clock,w.heap[bc.1]?=some (.map es clock)/\es.size=o.es.length/\
  (∀(i:Nat) (e:PV),o.es[i]?=some e->∃(k v:PV) (m:MapEntry),e=.agg [k,v]/\es[i]?=some m/\aD w A β h m.key k/\aD w A β h m.val v)
def jU(w:World)(A:Nat->Prop)(β:List (Nat×Nat))(h:ab)(o:au)(bc:Nat×Nat):Prop:=V1 w A β h o bc\/V2 w A β h o bc
theorem jU.c{w:World}{A:Nat->Prop}{β:List (Nat×Nat)}{h:ab}{o:au}{bc:Nat×Nat}(r:jU w A β h o bc)(hz:0<o.bB):V1 w A β h o bc:=by
 rcases r with r |r
 ·exact r
 ·have:=r.1;omega
theorem jU.m{w:World}{A:Nat->Prop}{β:List (Nat×Nat)}{h:ab}{o:au}{bc:Nat×Nat}(r:jU w A β h o bc)(hz:o.bB=0):V2 w A β h o bc:=by
 rcases r with⟨_,_,_,_,_,h4,_⟩|r
 ·omega
 ·exact r
theorem jU.lt{w:World}{A:Nat->Prop}{β:List (Nat×Nat)}{h:ab}{o:au}{bc:Nat×Nat}(r:jU w A β h o bc):bc.1<w.heap.size:=by
 rcases r with⟨_,_,h1,_⟩|⟨_,_,_,h1,_⟩ <;>exact(ZT.1 h1).1
structure aZ(w:World)(F:Nat->Prop)(β:List (Nat×Nat))(h:ab):Prop where
 len:β.length=h.length
 fin:∀b,F b->b<w.heap.size
 obj:∀(id:Nat) (o:au) (bc:Nat×Nat),h[id]?=some o->β[id]?=some bc->o.mu≠.x->jU w (Av F h β) β h o bc
 hC:∀(id dS:Nat) (o o':au) (bc c8:Nat×Nat),id≠dS->h[id]?=some o->h[dS]?=some o'->β[id]?=some bc->β[dS]?=some c8->o.mu=.m->o'.mu≠.x->bc.1≠c8.1
 out:∀(id:Nat) (o:au) (bc:Nat×Nat),h[id]?=some o->β[id]?=some bc->(o.mu=.m\/o.mu=.f)->¬F bc.1
def FQ(h:ab)(β:List (Nat×Nat))(h':ab)(β':List (Nat×Nat)):Prop:=
 ∀(id:Nat) (o:au) (bc:Nat×Nat),h[id]?=some o->β[id]?=some bc->o.mu≠.x->
  ∃(o':au) (c8:Nat×Nat),h'[id]?=some o'/\β'[id]?=some c8/\o'.mu≠.x/\(o.ep<=o'.ep/\(0<o.bB->0<o'.bB))/\(o.ep=o'.ep->o'.bB=o.bB/\(0<o.bB->o'.es.length=o.es.length)/\c8=bc)
theorem FQ.refl(h:ab)(β:List (Nat×Nat)):FQ h β h β:=λ_ o bc e1 e2 e3=>⟨o,bc,e1,e2,e3,⟨Zz _,λh=>h⟩,λ_=>⟨rfl,λ_=>rfl,rfl⟩⟩
theorem FQ.trans{h h1 h2:ab}{β β1 β2:List (Nat×Nat)}(a:FQ h β h1 β1)(b:FQ h1 β1 h2 β2):FQ h β h2 β2:=by
 intro id o bc e1 e2 e3
 obtain⟨o1,c1,f1,f2,f3,f4,f5⟩:=a id o bc e1 e2 e3;obtain⟨o2,c2,g1,g2,g3,g4,g5⟩:=b id o1 c1 f1 f2 f3;have f41:=f4.1;have g41:=g4.1;refine⟨o2,c2,g1,g2,g3,⟨aaj f4.1 g4.1,λhz=>g4.2 (f4.2 hz)⟩,λe=>?_⟩;obtain⟨p1,p2,p3⟩:=f5 (by omega);obtain⟨q1,q2,q3⟩:=g5 (by omega);exact⟨q1.trans p1,λhz=>(q2 (f4.2 hz)).trans (p2 hz),q3.trans p3⟩
structure dN(w:World)(h:ab)(β:List (Nat×Nat))(w':World)(h':ab)(β':List (Nat×Nat)):Prop where
 size:w.heap.size<=w'.heap.size
 len:h.length<=h'.length
 aQ:∀b,b<w.heap.size->¬Mb h β b->w'.heap[b]?=w.heap[b]?
 shr:∀b,b<w.heap.size->Mb h' β' b->Mb h β b
 refs:FQ h β h' β'
 IV:∀(id:Nat) (o:au),h[id]?=some o->o.mu≠.m->h'[id]?=some o/\β'[id]?=β[id]?
 os:w'.os=w.os
 tape:w'.tape=w.tape
 output:w'.output=w.output
 drawn:w.drawn<=w'.drawn
theorem dN.refl(w:World)(h:ab)(β:List (Nat×Nat)):dN w h β w h β where
 size:=Zz _
 len:=Zz _
 aQ _ _ _:=rfl
 shr _ _ m:=m
 refs:=FQ.refl h β
 IV id o h1 _:=⟨h1,rfl⟩
 os:=rfl
 tape:=rfl
 output:=rfl
 drawn:=Zz _
theorem dN.trans{w w1 w2:World}{h h1 h2:ab}{β β1 β2:List (Nat×Nat)}(a:dN w h β w1 h1 β1)(b:dN w1 h1 β1 w2 h2 β2):dN w h β w2 h2 β2 where
 size:=aaj a.size b.size
 len:=aaj a.len b.len
 aQ k hk hm:=by
  have h1:¬Mb h1 β1 k:=λm=>hm (a.shr k hk m)
  rw[b.aQ k (aaf hk a.size) h1,a.aQ k hk hm]
 shr k hk m:=a.shr k hk (b.shr k (aaf hk a.size) m)
 refs:=a.refs.trans b.refs
 IV id o e1 e2:=by
  obtain⟨f1,f2⟩:=a.IV id o e1 e2;obtain⟨g1,g2⟩:=b.IV id o f1 e2;exact⟨g1,g2.trans f2⟩
 os:=b.os.trans a.os
 tape:=b.tape.trans a.tape
 output:=b.output.trans a.output
 drawn:=aaj a.drawn b.drawn
theorem Gp{w:World}{b off:Nat}{v:Value}(h:w.cell? ⟨b,off,none⟩=some v):b<w.heap.size:=block_lt_of_cell h
theorem ku{w w':World}{b off:Nat}(h:w'.heap[b]?=w.heap[b]?):w'.cell? ⟨b,off,none⟩=w.cell? ⟨b,off,none⟩:=by
 simp[World.cell?,h]
theorem bY.mono{w w':World}{A A':Nat->Prop}(hw:∀b,b<w.heap.size->¬A b->w'.heap[b]?=w.heap[b]?)(hA:∀b,b<w.heap.size->¬A b->¬A' b)
  {v:Value} {p:PV} (h:bY w A v p):bY w' A' v p:=by
 induction h with
 |int k n=>exact .int k n
 |bool b=>exact .bool b
 |str s=>exact .str s
 |dW=>exact .dW
 |gf=>exact .gf
 |aG=>exact .aG
 |agg vs cs hl _ ih=>exact .agg vs cs hl ih
 |cm vs cs hl _ ih=>exact .cm vs cs hl ih
 |fn f vs cs hl _ ih=>exact .fn f vs cs hl ih
 |mR f k vs cs hl _ ih=>exact .mR f k vs cs hl ih
 |gA a cap full hf=>exact .gA a cap full hf
 |aa b off cap sz full es oh h1 h2 h3 h4 h5 h6 h7 _ ih=>
  have bI:0<es.length:=aa8.2 h1;have hb:b<w.heap.size:=Gp (h7 0 0 bI h5);exact .aa b off cap sz full es oh h1 h2 h3 (hA b hb h4) h5 h6 (λi j hi hj=>by rw[ku (hw b hb h4)];exact h7 i j hi hj) ih
 |eC b off cs oh h1 h2 h3 _ ih=>
  have bI:0<cs.length:=aa8.2 h1;have hb:b<w.heap.size:=Gp (h3 0 bI);exact .eC b off cs oh h1 (hA b hb h2) (λj hj=>by rw[ku (hw b hb h2)];exact h3 j hj) ih
theorem bY.ub{w:World}{A A':Nat->Prop}(hA:∀b,A' b->A b){v:Value}{p:PV}(h:bY w A v p):bY w A' v p:=
 h.mono (λ_ _ _=>rfl) (λb _ hn ha=>hn (hA b ha))
theorem Av.mono{w w':World}{h h':ab}{β β':List (Nat×Nat)}{F:Nat->Prop}(s:dN w h β w' h' β')(b:Nat)(hb:b<w.heap.size)(hn:¬Av F h β b):¬Av F h' β' b:=by
 rintro(hf |hm)
 ·exact hn (.inl hf)
 ·exact hn (.inr (s.shr b hb hm))
theorem aD.QU{w w':World}{h h':ab}{β β':List (Nat×Nat)}{A A':Nat->Prop}(f:FQ h β h' β')(hw:∀b,b<w.heap.size->¬A b->w'.heap[b]?=w.heap[b]?)(hA:∀b,b<w.heap.size->¬A b->¬A' b)
  {v:Value} {p:PV} (hv:aD w A β h v p):aD w' A' β' h' v p:=by
 induction hv with
 |val hs=>exact .val (hs.mono hw hA)
 |undef=>exact .undef
 |any v=>exact .any v
 |aj v id ep off len o bc h0 h1 h2 h3 h4 h5=>
  obtain⟨o',c8,f1,f2,f3,f4,f5⟩:=f id o bc h1 h2 h3;have h41:=h4.1;have f41:=f4.1;refine .aj v id ep off len o' c8 h0 f1 f2 f3 ⟨aaj h4.1 f4.1,f4.2 h4.2⟩ (λe1 e2=>?_);obtain⟨g1,g2,g3⟩:=f5 (by omega);have g2:=g2 h4.2;obtain⟨cap,k1,k2⟩:=h5 (by omega) (by omega);exact⟨cap,by rw[k1,g3,g1],by rw[k2,g3]⟩
 |ptr v id ep i off o bc h0 h1 h2 h3 h4 h5=>
  obtain⟨o',c8,f1,f2,f3,f4,f5⟩:=f id o bc h1 h2 h3;have h41:=h4.1;have f41:=f4.1;refine .ptr v id ep i off o' c8 h0 f1 f2 f3 ⟨aaj h4.1 f4.1,f4.2 h4.2⟩ (λe1=>?_);obtain⟨g1,g2,g3⟩:=f5 (by omega);rw[h5 (by omega),g3,g1]
 |cB v id o bc h0 h1 h2 h3 h5=>
  obtain⟨o',c8,f1,f2,f3,f4,f5⟩:=f id o bc h1 h2 h3;have f41:=f4.1;refine .cB v id o' c8 h0 f1 f2 f3 (λe1=>?_);obtain⟨g1,g2,g3⟩:=f5 (by omega);rw[h5 (by omega),g3]
 |agg vs cs hl _ ih=>exact .agg vs cs hl ih
 |cm vs cs hl _ ih=>exact .cm vs cs hl ih
 |fn f vs cs hl _ ih=>exact .fn f vs cs hl ih
 |mR f k vs cs hl _ ih=>exact .mR f k vs cs hl ih
theorem aD.mono{w w':World}{h h':ab}{β β':List (Nat×Nat)}{F:Nat->Prop}(s:dN w h β w' h' β'){v:Value}{p:PV}(hv:aD w (Av F h β) β h v p):
  aD w' (Av F h' β') β' h' v p:=hv.QU s.refs (λb hb hn=>s.aQ b hb (λm=>hn (.inr m))) (λb hb hn=>Av.mono s b hb hn)
section
variable{w:World}{A:Nat->Prop}{β:List (Nat×Nat)}{h:ab}{v:Value}
theorem aD.dF{k:IntKind}{n:Int}(hv:aD w A β h v (.int k n)):v=.int k n:=by cases hv with |val hs=>cases hs;rfl
theorem aD.ga{b:Bool}(hv:aD w A β h v (.bool b)):v=.bool b:=by cases hv with |val hs=>cases hs;rfl
theorem aD.lQ{s:ByteArray}(hv:aD w A β h v (.str s)):v=.string s:=by cases hv with |val hs=>cases hs;rfl
theorem aD.GU(hv:aD w A β h v .undef):v=.tuple #[]:=by
 cases hv with
 |val hs=>cases hs
 |undef=>rfl
theorem aD.q8{cs:List PV}(hv:aD w A β h v (.agg cs)):∃vs:List Value,v=.agg vs.toArray/\vs.length=cs.length/\∀j,j<cs.length->aD w A β h (vs.getD j Go.undef) (cs.getD j .any):=by
 cases hv with
 |val hs=>cases hs with |agg vs _ hl hh=>exact⟨vs,rfl,hl,λj hj=>.val (hh j hj)⟩
 |agg vs _ hl hh=>exact⟨vs,rfl,hl,hh⟩
theorem aD.uw{cs:List PV}(hv:aD w A β h v (.cm cs)):∃vs:List Value,v=.tuple vs.toArray/\vs.length=cs.length/\∀j,j<cs.length->aD w A β h (vs.getD j Go.undef) (cs.getD j .any):=by
 cases hv with
 |val hs=>cases hs with |cm vs _ hl hh=>exact⟨vs,rfl,hl,λj hj=>.val (hh j hj)⟩
 |cm vs _ hl hh=>exact⟨vs,rfl,hl,hh⟩
theorem aD.DI{f:FuncId}{cs:List PV}(hv:aD w A β h v (.fn f cs)):∃vs:List Value,v=.func (.func f) #[] vs.toArray/\vs.length=cs.length/\∀j,j<cs.length->aD w A β h (vs.getD j Go.undef) (cs.getD j .any):=by
 cases hv with
 |val hs=>cases hs with |fn _ vs _ hl hh=>exact⟨vs,rfl,hl,λj hj=>.val (hh j hj)⟩
 |fn _ vs _ hl hh=>exact⟨vs,rfl,hl,hh⟩
theorem aD.Nq{f:FuncId}{k:Nat}{cs:List PV}(hv:aD w A β h v (.mR f k cs)):∃vs:List Value,v=.func (.func f) (vs.take k).toArray (vs.drop k).toArray/\vs.length=cs.length/\∀j,j<cs.length->aD w A β h (vs.getD j Go.undef) (cs.getD j .any):=by
 cases hv with
 |val hs=>cases hs with |mR _ _ vs _ hl hh=>exact⟨vs,rfl,hl,λj hj=>.val (hh j hj)⟩
 |mR _ _ vs _ hl hh=>exact⟨vs,rfl,hl,hh⟩
theorem aD.fp{f:Bool}{es:List PV}(hv:aD w A β h v (.aa f es)):bY w A v (.aa f es):=by cases hv with |val hs=>exact hs
theorem aD.rO{cs:List PV}(hv:aD w A β h v (.eC cs)):bY w A v (.eC cs):=by cases hv with |val hs=>exact hs
theorem aD.dG{id ep off len:Nat}(hv:aD w A β h v (.aj id ep off len)):id<h.length/\(∀o:au,h[id]?=some o->ep<=o.ep/\0<o.bB)/\
  (∀(o:au) (bc:Nat×Nat),h[id]?=some o->β[id]?=some bc->o.mu≠.x->o.ep=ep->off+len<=o.es.length->∃cap,v=.slice (some ⟨bc.1,off * o.bB,none⟩) len cap/\off+cap=bc.2):=by
 cases hv with
 |val hs=>cases hs
 |aj _ _ _ _ _ o bc h0 h1 h2 h3 h4 h5=>
  refine⟨?_,λo' e=>?_,λo' c8 e1 e2 e3 e4 e5=>?_⟩
  ·rcases Z8 id h.length with hh |hh
   ·exact hh
   ·rw[ZM hh]at h1;cases h1
  ·rw[h1]at e;obtain rfl:=Zu e;exact h4
  ·rw[h1]at e1;rw[h2]at e2;obtain rfl:=Zu e1;obtain rfl:=Zu e2;exact h5 e4 e5
theorem aD.zN{id ep i off:Nat}(hv:aD w A β h v (.ptr id ep i off)):id<h.length/\(∀o:au,h[id]?=some o->ep<=o.ep/\0<o.bB)/\
  (∀(o:au) (bc:Nat×Nat),h[id]?=some o->β[id]?=some bc->o.mu≠.x->o.ep=ep->v=.pointer (some ⟨bc.1,i * o.bB+off,none⟩)):=by
 cases hv with
 |val hs=>cases hs
 |ptr _ _ _ _ _ o bc h0 h1 h2 h3 h4 h5=>
  refine⟨?_,λo' e=>?_,λo' c8 e1 e2 e3 e4=>?_⟩
  ·rcases Z8 id h.length with hh |hh
   ·exact hh
   ·rw[ZM hh]at h1;cases h1
  ·rw[h1]at e;obtain rfl:=Zu e;exact h4
  ·rw[h1]at e1;rw[h2]at e2;obtain rfl:=Zu e1;obtain rfl:=Zu e2;exact h5 e4
theorem aD.Cw(hv:aD w A β h v .gf):v=.map none:=by cases hv with |val hs=>cases hs;rfl
theorem aD.Cy{id:Nat}(hv:aD w A β h v (.cB id)){o:au}{bc:Nat×Nat}(e1:h[id]?=some o)(e2:β[id]?=some bc)(e3:o.ep=0):v=.map (some bc.1):=by
 cases hv with
 |val hs=>cases hs
 |cB _ _ o' c8 h0 h1 h2 h3 h5=>
  rw[e1]at h1;rw[e2]at h2;obtain rfl:=Zu h1;obtain rfl:=Zu h2;exact h5 e3
end
theorem aD.GI{w:World}{A:Nat->Prop}{β:List (Nat×Nat)}{h:ab}{v:Value}{p:PV}(hv:aD w A β h v p)(hp:aW p=true):bY w A v p:=by
 have all:∀cs:List PV,ar cs=true->∀j,j<cs.length->aW (cs.getD j .any)=true:=by
  intro cs
  induction cs with
  |nil=>intro _ j hj;simp at hj
  |cons c r ih=>
   intro h j hj
   simp[ar]at h
   cases j with
   |zero=>simpa using h.1
   |succ j=>simpa using ih h.2 j (by simpa using hj)
 induction hv with
 |val hs=>exact hs
 |undef=>simp[aW]at hp
 |any v=>simp[aW]at hp
 |aj=>simp[aW]at hp
 |ptr=>simp[aW]at hp
 |cB=>simp[aW]at hp
 |agg vs cs hl _ ih=>exact .agg vs cs hl λj hj=>ih j hj (all cs (by simpa[aW]using hp) j hj)
 |cm vs cs hl _ ih=>exact .cm vs cs hl λj hj=>ih j hj (all cs (by simpa[aW]using hp) j hj)
 |fn f vs cs hl _ ih=>exact .fn f vs cs hl λj hj=>ih j hj (all cs (by simpa[aW]using hp) j hj)
 |mR f k vs cs hl _ ih=>exact .mR f k vs cs hl λj hj=>ih j hj (all cs (by simpa[aW]using hp) j hj)
theorem bY.cells{w:World}{A:Nat->Prop}{v:Value}{p:PV}(hv:bY w A v p):v.cells.size=(Pm.cells p).length/\∀(j:Nat) (q:PV),(Pm.cells p)[j]?=some q->∃u:Value,v.cells[j]?=some u/\bY w A u q:=by
 have one:∀(v:Value) (p:PV),bY w A v p->v.cells= #[v]->Pm.cells p=[p]->v.cells.size=(Pm.cells p).length/\∀(j:Nat) (q:PV),(Pm.cells p)[j]?=some q->∃u:Value,v.cells[j]?=some u/\bY w A u q:=by
  intro v p h e1 e2
  rw[e1,e2];refine⟨rfl,λj q hq=>?_⟩
  cases j with
  |zero=>simp at hq;subst hq;exact⟨v,rfl,h⟩
  |succ j=>simp at hq
 cases hv with
 |agg vs cs hl hh=>
  refine⟨by simpa[Value.cells,Pm.cells]using hl,λj q hq=>?_⟩
  have hj:j<cs.length:=by
   rcases Z8 j cs.length with h |h
   ·exact h
   ·simp[Pm.cells,ZM h]at hq
  have VR:cs[j]?=some q:=hq;refine⟨vs.getD j undef,?_,?_⟩
  ·simp only[Value.cells];have:j<vs.length:=by omega
   simp[List.getD,this]
  ·have:=hh j hj;rwa[ZR (l:=cs),VR]at this
 |_=>exact one _ _ (by first |exact .int _ _ |exact .bool _ |exact .str _ |exact .dW |exact .gf |exact .aG |(rename_i a b;exact .cm _ _ a b)|(rename_i a b;exact .fn _ _ _ a b)|(rename_i a b;exact .mR _ _ _ _ a b)|(rename_i a;exact .gA _ _ _ a)|(rename_i h1 h2 h3 h4 h5 h6 h7 h8;exact .aa _ _ _ _ _ _ _ h1 h2 h3 h4 h5 h6 h7 h8)|(rename_i h1 h2 h3 h4;exact .eC _ _ _ _ h1 h2 h3 h4)) rfl rfl
end Go.Pm
