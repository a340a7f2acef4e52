/-
  Pm, a part. Conditions: none.
-/
import GoSem.Decode
import GoSem.Step
import Derived.Orders
import Derived.DeepKeys2
import Derived.Laws.AppendOwn
import Derived.Laws.MakeOwn
import Derived.Below
set_option linter.unusedVariables false
set_option linter.unusedSimpArgs false
set_option linter.unnecessarySimpa false
set_option linter.unusedSectionVars false
theorem yxa{P:Prop}(h:P:=by omega):P:=h
theorem yxb{P:Prop}(h:P:=by simp):P:=h
theorem yxc{P:Prop}(h:P:=by assumption):P:=h
theorem yxd{P:Prop}(h:P:=by simp;omega):P:=h
theorem yxe{P:Prop}(h:P:=by decide):P:=h
theorem yxf{P:Prop}(h:P:=by rw[e];simp):P:=h
theorem yxg{P:Prop}(h:P:=by exact rfl):P:=h
theorem yxh{P:Prop}(h:P:=by rw[j];rfl):P:=h
theorem yxi{P:Prop}(h:P:=by simp[bJ]):P:=h
theorem yxj{P:Prop}(h:P:=by simp[y]):P:=h
theorem yxk{P:Prop}(h:P:=by simp[aw,aW]):P:=h
theorem yxl{P:Prop}(h:P:=by simp[U]):P:=h
theorem yxm{P:Prop}(h:P:=by repeat constructor):P:=h
theorem yxn{P:Prop}(h:P:=by rw[mK];exact H):P:=h
theorem yxo{P:Prop}(h:P:=by have:=cc Z;omega):P:=h
theorem yxp{P:Prop}(h:P:=by first |assumption |simp):P:=h
theorem yxq{P:Prop}(h:P:=by simpa[aY,b9]using a):P:=h
theorem yxr{P:Prop}(h:P:=by rw[hv];simp[bJ]):P:=h
theorem yxs{P:Prop}(h:P:=by first |exact rfl |assumption):P:=h
theorem yxt{P:Prop}(h:P:=by simp only[bq,qn]at J;exact gy J a):P:=h
abbrev af7:=@Option.some.inj
abbrev af8:=@List.getElem?_append_left
abbrev af9:=@List.all_eq_true
abbrev aga:=@List.getElem?_set_ne
abbrev agb:=@Nat.le_refl
abbrev agc:=@List.getElem?_set_self
abbrev agd:=@List.getElem?_eq_getElem
abbrev age:=@Bool.and_eq_true
abbrev agf:=@List.length_append
abbrev agh:=@List.mem_append
abbrev agi:=@List.mem_cons
abbrev agj:=@List.length_cons
abbrev agk:=@Prod.mk.inj
abbrev agl:=@List.getElem?_append_right
abbrev agm:=@List.eq_nil_of_length_eq_zero
abbrev agn:=@Bool.false_eq_true
abbrev ago:=@Option.map_some
abbrev agp:=@List.map_cons
abbrev agq:=@List.mem_of_getElem?
abbrev agr:=@List.getElem?_eq_none
abbrev ags:=@List.append_assoc
abbrev agt:=@List.getElem?_map
abbrev agu:=@List.mem_singleton
abbrev agv:=@List.mem_map
abbrev agw:=@Array.getElem?_eq_some_iff
abbrev agx:=@Option.some.injEq
abbrev agy:=@List.getElem?_take
abbrev agz:=@Nat.zero_add
abbrev agA:=@List.getD_eq_getElem?_getD
abbrev agB:=@List.take_of_length_le
abbrev agC:=@List.append_nil
abbrev agD:=@List.getElem?_take_of_lt
abbrev agE:=@List.pairwise_cons
abbrev agF:=@List.map_nil
abbrev agG:=@Array.getElem?_toList
abbrev agH:=@List.length_nil
abbrev agI:=@Nat.le_trans
abbrev agJ:=@Bool.or_eq_true
abbrev agK:=@Nat.lt_of_lt_of_le
abbrev agL:=@List.cons_append
abbrev agM:=@Nat.lt_or_ge
abbrev agN:=@List.map_append
abbrev agO:=@List.getElem_mem
abbrev agP:=@List.getElem?_drop
abbrev agQ:=@Bool.true_eq_false
abbrev agR:=@Nat.mul_le_mul_right
abbrev agS:=@List.nil_append
abbrev agU:=@List.drop_eq_nil_of_le
abbrev agV:=@Ne.symm
abbrev agW:=@Nat.eq_of_beq_eq_true
abbrev agX:=@List.take_append_of_le_length
abbrev agY:=@List.length_map
abbrev agZ:=@List.ext_getElem?
abbrev ag0:=@Nat.add_mul
abbrev ag1:=@Array.getD_eq_getD_getElem?
abbrev ag2:=@Option.map_eq_some_iff
abbrev ag3:=@List.mem_nil_iff
abbrev ag4:=@List.length_take
abbrev ag5:=@List.length_singleton
abbrev ag6:=@List.mem_flatMap
abbrev ag7:=@Nat.zero_le
abbrev ag8:=@List.eq_of_mem_replicate
abbrev ag9:=@List.all_append
abbrev aha:=@List.mem_filter
abbrev ahb:=@List.not_mem_nil
abbrev ahc:=@Array.getElem?_eq_getElem
abbrev ahd:=@Bool.and_self
abbrev ahe:=@List.take_length
abbrev ahf:=@List.length_filter_le
abbrev ahg:=@Bool.not_eq_true'
abbrev ahh:=@List.all_cons
abbrev ahi:=@List.mem_of_mem_take
abbrev ahj:=@List.drop_append_of_le_length
abbrev ahk:=@List.map_congr_left
abbrev ahl:=@Array.length_toList
abbrev ahm:=@Nat.le_of_ble_eq_true
abbrev ahn:=@List.set_append_right
abbrev aho:=@Array.getElem?_append
abbrev ahp:=@UInt8.lt_iff_toNat_lt
abbrev ahq:=@List.mem_replicate
abbrev ahr:=@List.mem_of_mem_drop
abbrev ahs:=@List.drop_zero
abbrev aht:=@List.foldl_cons
abbrev ahu:=@List.take_append_drop
abbrev ahv:=@List.mem_iff_getElem?
abbrev ahw:=@Array.mem_of_getElem?
abbrev ahx:=@List.length_replicate
abbrev ahy:=@List.any_eq_true
abbrev ahz:=@Nat.le_succ
abbrev ahA:=@Bool.true_and
abbrev ahB:=@List.getElem?_of_mem
abbrev ahC:=@List.flatMap_cons
abbrev ahD:=@List.length_pos_iff
abbrev ahE:=@Array.getElem?_eq_none
abbrev ahF:=@List.set_set
abbrev ahG:=@List.all_nil
abbrev ahH:=@Array.ext'
abbrev ahI:=@Array.getElem?_replicate
abbrev ahJ:=@Nat.add_zero
abbrev ahK:=@Nat.sub_self
abbrev ahL:=@List.any_eq_false
abbrev ahM:=@Nat.add_assoc
abbrev ahN:=@Bool.false_or
abbrev ahO:=@Bool.and_true
abbrev ahP:=@List.sum_cons
abbrev ahQ:=@List.range_succ_eq_map
abbrev ahR:=@List.getElem?_zipWith
abbrev ahS:=@List.getElem?_toArray
abbrev ahT:=@Classical.choose_spec
abbrev ahU:=@List.any_cons
abbrev ahV:=@Int.toNat_natCast
abbrev ahW:=@List.drop_eq_getElem_cons
abbrev ahX:=@List.mem_append_left
abbrev ahY:=@List.getElem?_eq_some_iff
abbrev ahZ:=@Bool.or_eq_false_iff
abbrev ah0:=@List.mem_or_eq_of_mem_set
abbrev ah1:=@Option.isSome_iff_exists
abbrev ah2:=@List.countP_cons
abbrev ah3:=@Nat.zero_mul
abbrev ah4:=@List.getD_cons_zero
abbrev ah5:=@Int.eq_ofNat_of_zero_le
abbrev ah6:=@Bool.not_true
abbrev ah7:=@Prod.mk.injEq
abbrev ah8:=@Option.map_none
abbrev ah9:=@Nat.min_eq_left
abbrev aia:=@List.filter_append
abbrev aib:=@Nat.lt_trichotomy
abbrev aic:=@Bool.not_false
abbrev aid:=@List.countP_le_length
abbrev aie:=@List.map_map
abbrev aif:=@List.take_take
abbrev aih:=@Nat.mul_le_mul
abbrev aii:=@Array.getElem?_modify
abbrev aij:=@Array.mem_toList_iff
abbrev aik:=@List.getElem?_zipIdx
abbrev ail:=@List.length_drop
abbrev aim:=@List.pairwise_append
abbrev ain:=@List.getD_cons_succ
abbrev aio:=@List.nodup_cons
abbrev aip:=@List.findIdx?_eq_none_iff
abbrev aiq:=@Bool.true_or
abbrev air:=@Option.map_id'
abbrev ais:=@List.mem_range
abbrev ait:=@List.length_eq_zero_iff
abbrev aiu:=@List.size_toArray
abbrev aiv:=@List.pairwise_map
abbrev aiw:=@List.map_toArray
abbrev aix:=@Option.bind_some
abbrev aiy:=@List.mem_append_right
abbrev aiz:=@List.cons.injEq
abbrev aiA:=@List.length_set
abbrev aiB:=@Nat.mod_lt
abbrev aiC:=@List.mem_cons_of_mem
abbrev aiD:=@Nat.mul_comm
abbrev aiE:=@List.getElem_of_mem
abbrev aiF:=@List.getElem?_range
abbrev aiG:=@Int.toNat_of_nonneg
abbrev aiH:=@Option.map_map
abbrev aiI:=@List.append_of_mem
abbrev aiJ:=@Array.append_empty
structure Wq(Q:Prop):Prop where
 o:Q
theorem wA {P Q0:Prop} (q0:Q0) (h:Wq Q0->P:=by
  intro q0
  repeat' (first |(refine Rn.go ?_;conv=>whnf)|refine .mk ?_ |refine .tt ?_ |refine .ff ?_ |refine .m2 ?_ |refine .m3 ?_ |fail)
  exact q0.1):P:=h ⟨q0⟩
theorem wB {P Q0:Prop} (q0:Q0) (h:Wq Q0->P:=by
  intro q0
  repeat' (first |refine ai.nil ?_ |(apply R.FN;exact rfl;exact rfl;exact rfl)|(apply R.vA;exact rfl;exact rfl;exact rfl)|(apply R.gUn;exact rfl;exact rfl)|(apply R.move;exact rfl)|(apply R.assign;exact rfl)|(apply R.oV;exact rfl;exact rfl)|(apply R.nD;exact rfl;exact rfl)|(apply R.kr T6;exact rfl;exact rfl;exact rfl;exact rfl)|(apply R.vK T6;exact rfl;exact rfl;exact rfl;exact rfl;exact yxm)|(apply R.fieldAddr T6;exact rfl;exact rfl;exact rfl;exact rfl)|(apply R.arith;exact rfl;exact rfl;exact rfl;exact(oQ yxa yxa))|(apply R.max;exact rfl;exact rfl)|(apply R.build T6;exact rfl;exact rfl;exact rfl;exact rfl;exact rfl;exact rfl)|(apply R.buildSlice T6;exact rfl;exact rfl;exact rfl;exact rfl;exact yxe;exact rfl;exact rfl;exact rfl;exact rfl;exact rfl)|(apply R.Tv;exact rfl;exact rfl;exact yxc)|(apply R.not;exact rfl;exact rfl)|(apply R.xp T6;exact rfl;exact rfl)|(apply R.extract;exact rfl;exact rfl)|(apply R.box;exact rfl;exact rfl;exact rfl;exact .nil)|(apply R.box;exact rfl;exact rfl;exact rfl;exact(.cons .nil))|(apply R.afn;exact rfl;exact rfl;exact rfl)|(apply R.alloc T6;exact rfl;exact rfl;exact rfl;exact .nil)|(apply R.alloc T6;exact rfl;exact rfl;exact rfl;exact(.cons .nil))|(apply R.alloc T6;exact rfl;exact rfl;exact rfl;exact(.cons (.cons .nil)))|(apply R.abz T6;exact rfl;exact rfl;exact rfl)|(apply R.abA T6;exact rfl;exact rfl;exact rfl;exact rfl;exact rfl;exact rfl)|(apply R.uC T6;exact rfl;exact rfl;exact rfl;exact yxc;exact rfl)|(apply R.KU T6;exact rfl;exact rfl;exact rfl;exact yxc;exact yxm)|(apply R.Fl T6;exact rfl;exact rfl;exact rfl;exact yxm)|(apply R.nilCheck;exact rfl)|refine Ev.seq ?_ |refine Ev.region ?_ |refine Ev.lT ?_ |refine bh.nil ?_ |(apply D.move;exact rfl)|(apply D.assign;exact rfl)|(apply D.FN;exact rfl;exact rfl;exact rfl;exact rfl)|(apply D.arith;exact rfl;exact rfl;exact rfl;exact(oQ yxa yxa))|(apply D.KR T6;exact rfl;exact rfl;exact rfl;exact rfl;exact rfl)|(apply D.build T6;exact rfl;exact rfl;exact rfl;exact rfl;exact rfl;exact rfl)|(apply D.fieldAddr T6;exact rfl;exact rfl;exact rfl;exact rfl)|(apply D.kr T6;exact yxs;exact rfl;exact rfl;exact rfl;exact rfl;exact rfl)|(apply D.vK T6;exact yxs;exact rfl;exact rfl;exact rfl;exact rfl;exact rfl;exact yxm)|(apply Ev.ie;exact rfl)|refine Ev.ret ?_ |refine Ev.skip ?_ |refine Ev.block ?_ |refine aE.normal ?_ |refine aE.ret ?_ |refine az.normal ?_ |refine az.ret ?_ |refine aO.normal ?_ |refine aO.ret ?_ |(apply aL.ret;exact rfl)|(apply aL.afp T6;exact rfl)|(apply D.uC T6;exact yxc;exact rfl;exact rfl;exact rfl;exact yxc;exact rfl)|(apply D.KU T6;exact yxc;exact rfl;exact rfl;exact rfl;exact yxc;exact yxm)|(apply D.Fl T6;exact yxs;exact rfl;exact rfl;exact rfl;exact yxm)|fail)
  exact q0.1):P:=h ⟨q0⟩
theorem wC {P Q0 Q1:Prop} (q0:Q0) (q1:Q1) (h:Wq Q0->Wq Q1->P:=by
  intro q0 q1
  repeat' (first |(refine Rn.go ?_;conv=>whnf)|refine .mk ?_ |refine .tt ?_ |refine .ff ?_ |refine .m3 ?_ |refine .mk (λhc=>?_) λhc=>?_ |fail)
  ·revert hc;exact q0.1
  ·revert hc;exact q1.1):P:=h ⟨q0⟩ ⟨q1⟩
theorem wD {P Q0:Prop} (q0:Q0) (h:Wq Q0->P:=by
  intro q0
  repeat' (first |refine ai.nil ?_ |(apply R.FN;exact rfl;exact rfl;exact rfl)|(apply R.vA;exact rfl;exact rfl;exact rfl)|(apply R.gUn;exact rfl;exact rfl)|(apply R.move;exact rfl)|(apply R.assign;exact rfl)|(apply R.oV;exact rfl;exact rfl)|(apply R.nD;exact rfl;exact rfl)|(apply R.arith;exact rfl;exact rfl;exact rfl;exact(oQ yxa yxa))|(apply R.not;exact rfl;exact rfl)|(apply R.xp T6;exact rfl;exact rfl)|refine Ev.seq ?_ |refine Ev.region ?_ |refine Ev.lT ?_ |refine bh.nil ?_ |(apply D.move;exact rfl)|(apply D.assign;exact rfl)|(apply D.arith;exact rfl;exact rfl;exact rfl;exact(oQ yxa yxa))|(apply Ev.ie;exact rfl)|refine Ev.ret ?_ |refine Ev.skip ?_ |refine Ev.block ?_ |refine aE.normal ?_ |refine aE.ret ?_ |refine az.normal ?_ |refine aO.normal ?_ |(apply aL.ret;exact rfl)|fail)
  exact q0.1):P:=h ⟨q0⟩
theorem wE {P Q0 Q1:Prop} (q0:Q0) (q1:Q1) (h:Wq Q0->Wq Q1->P:=by
  intro q0 q1
  repeat' (first |refine ai.nil ?_ |(apply R.FN;exact rfl;exact rfl;exact rfl)|(apply R.vA;exact rfl;exact rfl;exact rfl)|(apply R.move;exact rfl)|(apply R.assign;exact rfl)|(apply R.oV;exact rfl;exact rfl)|(apply R.nD;exact rfl;exact rfl)|(apply R.kr T6;exact rfl;exact rfl;exact rfl;exact rfl)|(apply R.vK T6;exact rfl;exact rfl;exact rfl;exact rfl;exact yxm)|(apply R.fieldAddr T6;exact rfl;exact rfl;exact rfl;exact rfl)|(apply R.cmp;exact rfl;exact rfl;exact rfl;all_goals intro hc)|(apply R.arith;exact rfl;exact rfl;exact rfl;exact(oQ yxa yxa))|(apply R.neg;exact rfl;exact(oQ yxa yxa))|(apply R.build T6;exact rfl;exact rfl;exact rfl;exact rfl;exact rfl;exact rfl)|(apply R.Tv;exact rfl;exact rfl;exact yxc)|(apply R.afz;exact rfl;exact rfl;exact yxc)|(apply R.not;exact rfl;exact rfl)|(apply R.Kt T6;exact rfl;exact rfl)|(apply R.xp T6;exact rfl;exact rfl)|(apply R.uC T6;exact rfl;exact rfl;exact rfl;exact yxc;exact rfl)|(apply R.KU T6;exact rfl;exact rfl;exact rfl;exact yxc;exact yxm)|(apply R.Fl T6;exact rfl;exact rfl;exact rfl;exact yxm)|refine Ev.seq ?_ |refine Ev.region ?_ |refine Ev.lT ?_ |refine bh.nil ?_ |(apply D.move;exact rfl)|(apply D.assign;exact rfl)|(apply D.FN;exact rfl;exact rfl;exact rfl;exact rfl)|(apply D.oV;exact rfl;exact rfl)|(apply D.cmp;exact rfl;exact rfl;exact rfl;all_goals intro hc)|(apply D.fieldAddr T6;exact rfl;exact rfl;exact rfl;exact rfl)|(apply D.kr T6;exact yxs;exact rfl;exact rfl;exact rfl;exact rfl;exact rfl)|(apply Ev.ie;exact rfl)|refine Ev.ret ?_ |refine Ev.skip ?_ |refine Ev.exit ?_ |refine Ev.block ?_ |refine aE.normal ?_ |refine aE.ret ?_ |refine aE.exit ?_ |refine az.normal ?_ |refine az.ret ?_ |refine az.UC ?_ |refine aO.normal ?_ |refine aO.ret ?_ |refine aO.exit ?_ |(apply aL.ret;exact rfl)|fail)
  ·revert hc;exact q0.1
  ·revert hc;exact q1.1):P:=h ⟨q0⟩ ⟨q1⟩
theorem wF {P Q0:Prop} (q0:Q0) (h:Wq Q0->P:=by
  intro q0
  repeat' (first |refine ai.nil ?_ |(apply R.move;exact rfl)|(apply R.assign;exact rfl)|(apply R.vK T6;exact rfl;exact rfl;exact rfl;exact rfl;exact yxm)|(apply R.cmp;exact rfl;exact rfl;exact rfl;all_goals intro hc;all_goals(try(exfalso;omega)))|(apply R.arith;exact rfl;exact rfl;exact rfl;exact(oQ yxa yxa))|(apply R.xp T6;exact rfl;exact rfl)|refine Ev.seq ?_ |refine Ev.region ?_ |(apply Ev.ie;exact rfl)|refine Ev.ret ?_ |refine Ev.skip ?_ |refine Ev.exit ?_ |refine Ev.block ?_ |refine aE.normal ?_ |refine aE.exit ?_ |refine az.normal ?_ |refine az.UC ?_ |refine aO.normal ?_ |refine aO.exit ?_ |(apply aL.ret;exact rfl)|fail)
  revert hc;exact q0.1):P:=h ⟨q0⟩
theorem wG {P Q0:Prop} (q0:Q0) (h:Wq Q0->P:=by
  intro q0
  repeat' (first |(refine Rn.go ?_;conv=>whnf)|((fail_if_success (show UI _ _ _ _ _));refine .mk ?_)|refine .tt ?_ |refine .ff ?_ |fail)
  exact q0.1):P:=h ⟨q0⟩
theorem wH {P Q0:Prop} (q0:Q0) (h:Wq Q0->P:=by
  intro q0
  repeat' (first |(refine Rn.go ?_;conv=>whnf)|refine .mk ?_ |refine .tt ?_ |refine .ff ?_ |refine .lp λv H lp=>?_ |fail)
  revert lp;revert H;revert v;exact q0.1):P:=h ⟨q0⟩
theorem wI {P Q0 Q1 Q2:Prop} (q0:Q0) (q1:Q1) (q2:Q2) (h:Wq Q0->Wq Q1->Wq Q2->P:=by
  intro q0 q1 q2
  repeat' (first |(refine Rn.go ?_;conv=>whnf)|refine .mk ?_ |refine .tt ?_ |refine .ff ?_ |refine .mk (λhc=>?_) λhc=>?_ |fail)
  ·revert hc;exact q0.1
  ·revert hc;revert hc;exact q1.1
  ·revert hc;revert hc;exact q2.1):P:=h ⟨q0⟩ ⟨q1⟩ ⟨q2⟩
theorem wJ {P Q0 Q1 Q2:Prop} (q0:Q0) (q1:Q1) (q2:Q2) (h:Wq Q0->Wq Q1->Wq Q2->P:=by
  intro q0 q1 q2
  repeat' (first |(refine Rn.go ?_;conv=>whnf)|refine .mk ?_ |refine .tt ?_ |refine .mk (λhc=>?_) λhc=>?_ |fail)
  ·revert hc;revert hc;exact q0.1
  ·revert hc;revert hc;exact q1.1
  ·revert hc;exact q2.1):P:=h ⟨q0⟩ ⟨q1⟩ ⟨q2⟩
theorem wK {P Q0 Q1:Prop} (q0:Q0) (q1:Q1) (h:Wq Q0->Wq Q1->P:=by
  intro q0 q1
  repeat' (first |(refine Rn.go ?_;conv=>whnf)|refine .mk ?_ |refine .tt ?_ |refine .mk (λhc=>?_) λhc=>?_ |refine .lp λv H lp=>?_ |fail)
  ·revert lp;revert H;revert v;revert hc;exact q0.1
  ·revert hc;exact q1.1):P:=h ⟨q0⟩ ⟨q1⟩
theorem wM {P Q0 Q1 Q2 Q3 Q4 Q5 Q6:Prop} (q0:Q0) (q1:Q1) (q2:Q2) (q3:Q3) (q4:Q4) (q5:Q5) (q6:Q6) (h:Wq Q0->Wq Q1->Wq Q2->Wq Q3->Wq Q4->Wq Q5->Wq Q6->P:=by
  intro q0 q1 q2 q3 q4 q5 q6
  repeat' (first |(refine Rn.go ?_;conv=>whnf)|refine .mk ?_ |refine .mk (λhc=>?_) λhc=>?_ |fail)
  ·revert hc;exact q0.1
  ·revert hc;revert hc;exact q1.1
  ·revert hc;revert hc;revert hc;exact q2.1
  ·revert hc;revert hc;revert hc;revert hc;exact q3.1
  ·revert hc;revert hc;revert hc;revert hc;revert hc;exact q4.1
  ·revert hc;revert hc;revert hc;revert hc;revert hc;revert hc;exact q5.1
  ·revert hc;revert hc;revert hc;revert hc;revert hc;revert hc;exact q6.1):P:=h ⟨q0⟩ ⟨q1⟩ ⟨q2⟩ ⟨q3⟩ ⟨q4⟩ ⟨q5⟩ ⟨q6⟩
theorem lenE{v:Type}{l p q:List v}{x:v}(e:l=p++x::q):l.length=p.length+(q.length+1):=by
 rw[e,agf,agj]
namespace Go.Pm
variable{w w':World}{A A' F:Nat->Prop}{Z:List (Nat×Nat)}{bc:Nat×Nat}{V b cap ep f i k len lv off sz:Nat}{R:Value}
inductive PV where
 |int (k:IntKind) (n:Int)
 |bool (b:Bool)
 |str (s:ByteArray)
 |agg (cs:List PV)
 |b8 (vs:List PV)
 |aa (full:Bool) (es:List PV)
 |an (id ep off len:Nat)
 |ptr (id ep i off:Nat)
 |eX (cs:List PV)
 |cq (id:Nat)
 |jD
 |ji
 |mM
 |fn (f:FuncId) (dp:List PV)
 |pK (f:FuncId) (k:Nat) (cs:List PV)
 |undef
 |any
 deriving Inhabited
variable{p q x z:PV}{cs es:List PV}
abbrev PV.I(n:Int):PV:=.int .i64 n
abbrev _root_.Go.Value.I(n:Int):Go.Value:=.int .i64 n
abbrev Nm:List PV:=[.I 0,.str ByteArray.empty,.I 0,.aa true []]
inductive Mu where
 |m |l |f |x
 deriving DecidableEq,Inhabited
structure ax where
 mu:Mu
 ep:Nat
 bQ:Nat
 es:List PV
 deriving Inhabited
variable{o:ax}
abbrev ab:=List ax
variable{h h':ab}
structure St where
 Y:Nat->PV
 h:ab
def oD(Y:Nat->PV)(d:Nat)(v:PV):Nat->PV:=λt=>if t=d then v else Y t
def bZ(Y:Nat->PV)(d:Option Nat)(v:PV):Nat->PV:=
 match d with
 |some d=>oD Y d v
 |none=>Y
def cells:PV->List PV
 | .agg cs=>cs
 |v=>[v]
def bP:PV->Bool
 | .agg _ | .b8 _ | .undef | .any=>false
 |_=>true
mutual
def aW:PV->Bool
 | .int .. | .bool _ | .str _ | .ji | .mM | .jD | .aa .. | .eX _=>true
 | .agg Y=>aw Y
 | .b8 Y=>aw Y
 | .fn _ Y=>aw Y
 | .pK _ _ Y=>aw Y
 | .an .. | .ptr .. | .cq _ | .undef | .any=>false
def aw:List PV->Bool
 |[]=>true
 |c::r=>aW c&&aw r
end
mutual
def fm:PV->Bool
 | .int .. | .bool _ | .str _ | .ji | .mM | .jD=>true
 | .agg cs=>rH cs
 | .b8 cs=>rH cs
 |_=>false
def rH:List PV->Bool
 |[]=>true
 |c::r=>fm c&&rH r
end
mutual
def b9:PV->PV
 | .aa _ S=>.aa false (aY S)
 | .agg Y=>.agg (aY Y)
 | .b8 Y=>.b8 (aY Y)
 | .fn f Y=>.fn f (aY Y)
 | .pK f k Y=>.pK f k (aY Y)
 | .eX Y=>.eX (aY Y)
 |p=>p
def aY:List PV->List PV
 |[]=>[]
 |c::r=>b9 c::aY r
end
def cv0:Value->PV
 | .int k n=>.int k n
 | .bool b=>.bool b
 | .string s=>.str s
 | .slice none 0 0=>.aa true []
 | .pointer none=>.ji
 | .nilFunc=>.mM
 | .map none=>.jD
 |_=>.any
def cv:Value->PV
 | .agg cs=>.agg (cs.toList.map cv0)
 |v=>cv0 v
def zA(g:Nat):Option PV:=match g with |0=>some (.aa false [.str ⟨#[97,110,121]⟩,.str ⟨#[97,103,101,110,116]⟩,.str ⟨#[110,111,110,99,101]⟩,.str ⟨#[107,101,121]⟩,.str ⟨#[100,97,116,97]⟩,.str ⟨#[116,97,103]⟩])|_=>none
def ev(Y:Nat->PV):Operand->PV
 | .tmp t=>Y t
 | .const v=>cv v
 | .func f=>.fn f []
 | .global g=>match zA g with
  |some p=>.eX [p]
  |none=>.any
def dF(P:Program)(t:TypeId):Option Nat:=(P.info? t).map (·.size)
def pu(P:Program)(t:TypeId):Option Nat:=(P.info? t).map (·.bytes)
def jN(P:Program)(t:TypeId):Option PV:=((P.info? t).bind (·.zero)).map cv
def Nn(P:Program)(t:TypeId):Option Bool:=(P.underlying t).map λ| .struct _ | .array _ _=>true |_=>false
def getM(h:ab)(V ep:Nat):Option ax:=
 match h[V]? with
 |some o=>if o.ep=ep/\o.mu≠.x then some o else none
 |none=>none
def cr(h:ab):PV->Option (List PV)
 | .aa _ S=>some S
 | .an id g U K=>match getM h id g with
  |some o=>if U+K<=o.es.length then some ((o.es.drop U).take K)else none
  |none=>none
 |_=>none
def dP(h:ab):PV->Option (List PV)
 | .eX cs=>some cs
 | .ptr id g i U=>match getM h id g with
  |some o=>match o.es[i]? with
   |some e=>some ((cells e).drop U)
   |none=>none
  |none=>none
 |_=>none
def jO(P:Program)(h:ab)(t:TypeId)(p:PV):Option PV:=
 match dF P t,Nn P t,dP h p with
 |some q,some true,some Y=>if 0<q/\q<=Y.length then some (.agg (Y.take q))else none
 |some _,some false,some Y=>match Y with
  |c::_=>some c
  |[]=>none
 |_,_,_=>none
def gw(off sz:Nat)(e v:PV):PV:=
 if off=0/\sz=(cells e).length then v else .agg ((cells e).take off++cells v++(cells e).drop (off+sz))
def jc(P:Program)(h:ab)(t:TypeId)(p v:PV):Option ab:=
 match p,dF P t with
 | .ptr id g i U,some q=>match getM h id g with
  |some o=>match o.es[i]? with
   |some e=>if o.mu=.m/\(cells v).length=q/\(cells v).all bP=true/\U+q<=(cells e).length then
     some (h.set id {o with es:=o.es.set i (gw U q e v)})else none
   |none=>none
  |none=>none
 |_,_=>none
def newObj(h:ab)(B:Nat)(es:List PV):ab:=h++[{mu:=.m,ep:=0,bQ:=B,es}]
def rI(cs:List PV)(off:Nat)(vs:List PV):List PV:=cs.take off++vs++cs.drop (off+vs.length)
def kN(P:Nat->Option (Nat×Nat))(cs:List PV):List (Nat×PV)->Option (List PV)
 |[]=>some cs
 |(i,v)::R=>match P i with
  |none=>none
  |some (U,N)=>
   if(cells v).length=N/\(cells v).all bP=true/\U+N<=cs.length then kN P (rI cs U (cells v)) R else none
def jP(P:Program)(V:Array Field)(i:Nat):Option (Nat×Nat):=
 match V[i]? with
 |some f=>(dF P f.type).map λs=>(f.offset,s)
 |none=>none
def xh(P:Program)(t:TypeId)(O:List (Nat×PV)):Option PV:=
 match jN P t,P.underlying t with
 |some z,some (.struct V)=>if V.toList.all (λf=>(dF P f.type).isSome)=true/\(cells z).all bP=true then(kN (jP P V) (cells z) O).map .agg else none
 |some z,some (.array _ e)=>match dF P e with
  |some N=>if(cells z).all bP=true then(kN (λi=>some (i * N,N)) (cells z) O).map .agg else none
  |none=>none
 |_,_=>none
def Ch(z:PV)(n:Nat)(O:List (Nat×PV)):List PV:=O.foldl (λS x=>S.set x.1 x.2) (List.replicate n z)
def ek(P:Program)(lv:Nat)(h:ab)(t:TypeId)(len:Nat)(O:List (Nat×PV)):Option (PV×ab):=
 match P.underlying t with
 |some (.slice e)=>match dF P e,jN P e with
  |some N,some z=>
   if 0<N/\len * N<=16777216/\(cells z).length=N/\(cells z).all bP=true/\O.all (λp=>decide ((cells p.2).length=N)&& (cells p.2).all bP&&decide (p.1<len))=true then
    if aw (Ch z len O)then some (.aa true (Ch z len O),h)
    else if 2<=lv then some (.an h.length 0 0 len,newObj h N (Ch z len O))else none
   else none
  |_,_=>none
 |_=>none
def ja(H:BinOp)(k:IntKind)(a b:Int):Option PV:=
 match H with
 | .add=>some (.int k (k.wrap (a+b)))
 | .sub=>some (.int k (k.wrap (a - b)))
 | .mul=>some (.int k (k.wrap (a * b)))
 | .quo=>if b=0 then none else some (.int k (k.wrap (a.tdiv b)))
 | .rem=>if b=0 then none else some (.int k (a.tmod b))
 | .eql=>some (.bool (a==b))
 | .neq=>some (.bool (a !=b))
 | .lss=>some (.bool (decide (a<b)))
 | .leq=>some (.bool (decide (a<=b)))
 | .gtr=>some (.bool (decide (a>b)))
 | .geq=>some (.bool (decide (a>=b)))
 | .and=>some (.int k (k.wrap (BitVec.ofInt k.bits a&&&BitVec.ofInt k.bits b).toNat))
 | .or=>some (.int k (k.wrap (BitVec.ofInt k.bits a |||BitVec.ofInt k.bits b).toNat))
 | .xor=>some (.int k (k.wrap (BitVec.ofInt k.bits a^^^BitVec.ofInt k.bits b).toNat))
 |_=>none
def s9(H:BinOp)(k:IntKind)(x y:Int):Option PV:=
 if y<0 then none else
 match H with
 | .shl=>some (.int k (k.wrap (x * 2^ (min y.toNat k.bits))))
 | .shr=>some (.int k (x.fdiv (2^ (min y.toNat k.bits))))
 |_=>none
def pL(H:BinOp)(x y:ByteArray):Option PV:=
 match H with
 | .add=>if((x.size+y.size:Nat):Int)>IntKind.i64.max then none else some (.str (x++y))
 | .eql=>some (.bool (x.toList==y.toList))
 | .neq=>some (.bool !(x.toList==y.toList))
 | .lss=>some (.bool (Op.bytesLess x.toList y.toList))
 | .leq=>some (.bool (Op.bytesLess x.toList y.toList ||x.toList==y.toList))
 | .gtr=>some (.bool !(Op.bytesLess x.toList y.toList ||x.toList==y.toList))
 | .geq=>some (.bool !(Op.bytesLess x.toList y.toList))
 |_=>none
def kQ:PV->PV->Option Bool
 | .int k a,.int k' b=>if k=k' then some (a==b)else none
 | .str a,.str b=>some (a==b)
 | .bool a,.bool b=>some (a==b)
 |_,_=>none
def rJ:PV->Option Value
 | .int k n=>some (.int k n)
 | .str s=>some (.string s)
 | .bool b=>some (.bool b)
 |_=>none
def oN:List PV->Option (List Value)
 |[]=>some []
 |c::r=>match rJ c,oN r with
  |some v,some W=>some (v::W)
  |_,_=>none
def FG(P:Program)(t:TypeId):Bool:=match P.underlying t with |some (.array _ _)|some (.struct _)=>true |_=>false
def rL(P:Program)(t:TypeId):PV->Bool
 | .agg cs=>match oN cs with
  |some W=>FG P t&&P.keyTypeAt 3 t&&P.tiled 3 t&& (keyOf P t (.agg W.toArray)).isSome
  |none=>false
 |_=>false
def FH(a b:PV):Bool:=match kQ a b with |some r=>r |none=>false
def nr:List PV->List PV->Bool
 |[],[]=>true
 |a::r,b::s=>FH a b&&nr r s
 |_,_=>false
def XM(P:Program)(t:TypeId)(x y:PV):Option Bool:=
 match x,y with
 | .agg f,.agg D=>if(rL P t x&&rL P t y&& !(P.eqGuardType P.depth t))=true then some (nr f D)else none
 |_,_=>none
def fS(P:Program)(H:BinOp)(t:TypeId)(x y:PV):Option PV:=
 match x,y with
 | .int k a,.int k' b=>match H with
  | .shl | .shr=>s9 H k a b
  |_=>if k=k' then ja H k a b else none
 | .str a,.str b=>pL H a b
 | .bool a,.bool b=>match P.underlying t with
  |some .bool=>match H with
   | .eql=>some (.bool (a==b))
   | .neq=>some (.bool !(a==b))
   |_=>none
  |_=>none
 | .agg a,.agg b=>match H with
  | .eql=>(XM P t (.agg a) (.agg b)).map .bool
  | .neq=>(XM P t (.agg a) (.agg b)).map λr=>.bool !r
  |_=>none
 |_,_=>none
def Zi(H:UnOp)(x:PV):Option PV:=
 match H,x with
 | .neg,.int k n=>some (.int k (k.wrap (0 - n)))
 | .not,.bool b=>some (.bool !b)
 |_,_=>none
def Qb:PV->Option Int
 | .int .u8 n=>some n
 |_=>none
def qy:List PV->Option (List Int)
 |[]=>some []
 |c::r=>match Qb c with
  |some n=>match qy r with
   |some l=>some (n::l)
   |none=>none
  |none=>none
def Zj(xs:List Int):ByteArray:=⟨(xs.map λn=>UInt8.ofNat n.toNat).toArray⟩
def zB(P:Program)(a d:TypeId)(x:PV):Option PV:=
 match P.underlying a,P.underlying d,x with
 |some _,some (.int k),.int _ n=>some (.int k (k.wrap n))
 |some _,some .string,.str s=>some (.str s)
 |some (.slice e),some .string,.aa _ S=>match P.underlying e,qy S with
  |some (.int .u8),some l=>some (.str (Zj l))
  |_,_=>none
 |_,_,_=>none
def dq(x:Option PV)(d t:Nat):Option Nat:=
 match x with
 |none=>some d
 |some (.int _ i)=>if 0<=i/\i<=(t:Int)then some i.toNat else none
 |some _=>none
def beyond(u B:Option PV)(len t:Nat):Option Nat:=
 match u,B with
 |none,some (.int k i)=>if(len:Int)<i then dq (some (.int k i)) 0 t else none
 |_,_=>none
def cS(P:Program)(h:ab)(t:TypeId)(x:PV)(z B u:Option PV):Option PV:=
 match P.underlying t,x with
 |some .string,.str s=>if u.isSome then none else
  match dq B s.size s.size with
  |some b=>match dq z 0 b with
   |some a=>some (.str (s.extract a b))
   |none=>none
  |none=>none
 |some (.slice e),.aa full S=>match dF P e with
  |some q=>match dq u S.length S.length with
   |some m=>match dq B S.length m with
    |some b=>match dq z 0 b with
     |some a=>if(u.isSome&&B.isNone)=false/\(S[a]?).all (λv=>(cells v).length==q)=true then some (.aa (if u.isSome then m==b else full&&b==S.length) ((S.drop a).take (b - a)))else none
     |none=>none
    |none=>none
   |none=>none
  |none=>none
 |some (.slice e),.an id g U K=>match dF P e,getM h id g with
  |some q,some o=>if q=o.bQ/\U+K<=o.es.length then
    match beyond u B K (o.es.length - U)with
    |some b=>match dq z 0 b with
     |some a=>if a=0 then some (.an id g U b)else if b - a=0 then some (.aa false [])else some (.an id g (U+a) (b - a))
     |none=>none
    |none=>
    match dq u K K with
    |some m=>match dq B K m with
     |some b=>match dq z 0 b with
      |some a=>if(u.isSome&&B.isNone)=false then
        (if u.isSome then(if m=a then some (.aa true [])else some .any)
         else if a=0 then some (.an id g U b)else if b - a=0 then some (.aa false [])else some (.an id g (U+a) (b - a)))
       else none
      |none=>none
     |none=>none
    |none=>none
   else none
  |_,_=>none
 |_,_=>none
def rM(P:Program)(s:TypeId)(f:Nat):Option (Nat×TypeId):=
 match P.underlying s with
 |some (.struct V)=>match V[f]? with
  |some n=>match dF P n.type with
   |some q=>if q=0 then none else some (n.offset,n.type)
   |none=>none
  |none=>none
 |_=>none
def iu(P:Program)(s:TypeId)(p:PV)(f:Nat):Option PV:=
 match rM P s f,p with
 |some (U,_),.eX Y=>if U<Y.length then some (.eX (Y.drop U))else none
 |some (U,_),.ptr id g i o=>some (.ptr id g i (o+U))
 |_,_=>none
def zC(P:Program)(t:TypeId)(cs:List PV)(off:Nat):Option PV:=
 match Nn P t,dF P t with
 |some true,some q=>if off+q<=cs.length then some (.agg ((cs.drop off).take q))else none
 |some false,some _=>match cs[off]? with
  |some c=>some c
  |none=>none
 |_,_=>none
def Ef(P:Program)(s:TypeId)(x:PV)(f:Nat):Option PV:=
 match P.underlying s,x with
 |some (.struct V),.agg Y=>match V[f]? with
  |some n=>zC P n.type Y n.offset
  |none=>none
 |_,_=>none
def cT(P:Program)(h:ab)(t:TypeId)(x Z:PV):Option PV:=
 match P.underlying t,x,Z with
 |some (.slice e),.aa _ S,.int _ i=>match dF P e with
  |some q=>if 0<=i/\i<(S.length:Int)then
    match S[i.toNat]? with
    |some v=>if 0<q/\(cells v).length=q then some (.eX (cells v))else none
    |none=>none
   else none
  |none=>none
 |some (.slice e),.an id g U K,.int _ i=>match dF P e,getM h id g with
  |some q,some o=>if 0<=i/\i<(K:Int)/\q=o.bQ/\U+K<=o.es.length then some (.ptr id g (U+i.toNat) 0)else none
  |_,_=>none
 |some (.array n e),.eX Y,.int _ i=>match dF P e with
  |some q=>if 0<=i/\i<(n:Int)/\i.toNat * q<Y.length then some (.eX (Y.drop (i.toNat * q)))else none
  |none=>none
 |some (.array n e),.ptr id g k o,.int _ i=>match dF P e with
  |some q=>if 0<=i/\i<(n:Int)then some (.ptr id g k (o+i.toNat * q))else none
  |none=>none
 |_,_,_=>none
def zD(P:Program)(t:TypeId)(x Z:PV):Option PV:=
 match P.underlying t,x,Z with
 |some (.array n e),.agg Y,.int _ i=>match dF P e with
  |some q=>if 0<=i/\i<(n:Int)then zC P e Y (i.toNat * q)else none
  |none=>none
 |some .string,.str s,.int _ i=>if 0<=i then
   match s[i.toNat]? with
   |some b=>some (.int .u8 b.toNat)
   |none=>none
  else none
 |_,_,_=>none
def xi(h:ab)(V:Nat):Option ax:=
 match getM h V 0 with
 |some o=>if o.bQ=0 then some o else none
 |none=>none
def oO(k:PV):List PV->Nat->Option (Option (Nat×PV))
 |[],_=>some none
 |e::S,i=>match e with
  | .agg [B,v]=>match kQ k B with
   |some true=>some (some (i,v))
   |some false=>oO k S (i+1)
   |none=>none
  |_=>none
def rz(P:Program)(t:TypeId)(k:PV):Bool:=
 match P.underlying t,k with
 |some (.int k),.int k' _=>decide (k'=k)
 |some .string,.str _ |some .bool,.bool _=>true
 |_,_=>false
def re(k:List PV):List PV->Nat->Option (Nat×PV)
 |[],_=>none
 |e::S,i=>match e with
  | .agg [.agg B,v]=>if nr k B=true then some (i,v)else re k S (i+1)
  |_=>re k S (i+1)
def Zk(P:Program)(O:TypeId):PV->Bool
 | .agg [k,_]=>rL P O k
 |_=>false
def Ci(P:Program)(t:TypeId)(k:PV):Bool:=rz P t k ||rL P t k
def rN(P:Program)(O:TypeId)(k:PV)(es:List PV):Option (Option (Nat×PV)):=
 if rz P O k=true then oO k es 0
 else match k with
  | .agg cs=>if(rL P O k&&es.all (Zk P O))=true then some (re cs es 0)else none
  |_=>none
def No(P:Program)(O:TypeId)(k v:PV)(es:List PV):Option (List PV):=
 match rN P O k es with
 |some (some (i,_))=>some (es.set i (.agg [k,v]))
 |some none=>some (es++[.agg [k,v]])
 |none=>none
def fQ(G:Bool)(v:PV)(b:Bool):PV:=if G then .b8 [v,.bool b]else v
def lQ(P:Program)(h:ab)(t:TypeId)(m k:PV)(G:Bool):Option PV:=
 match P.underlying t with
 |some (.map O R)=>match jN P R with
  |some z=>if Ci P O k=true then
    match m with
    | .jD=>some (fQ G z false)
    | .cq id=>match xi h id with
     |some o=>match rN P O k o.es with
      |some (some (_,v))=>some (fQ G v true)
      |some none=>some (fQ G z false)
      |none=>none
     |none=>none
    |_=>none
   else none
  |none=>none
 |_=>none
def Qc(k v:PV)(es:List PV):Option (List PV):=
 match oO k es 0 with
 |some (some (i,_))=>some (es.set i (.agg [k,v]))
 |some none=>some (es++[.agg [k,v]])
 |none=>none
def iQ(P:Program)(h:ab)(t:TypeId)(m k v:PV):Option ab:=
 match P.underlying t,m with
 |some (.map O _),.cq V=>match xi h V with
  |some o=>if Ci P O k=true/\o.mu=.m then
    match No P O k v o.es with
    |some S=>some (h.set V {o with es:=S})
    |none=>none
   else none
  |none=>none
 |_,_=>none
def lY(P:Program)(lv:Nat)(h:ab)(t:TypeId)(r:Option PV):Option (PV×ab):=
 if 1<=lv then
  match r,P.underlying t with
  |none,_=>some (.cq h.length,newObj h 0 [])
  |some (.int _ _),some (.map _ _)=>some (.cq h.length,newObj h 0 [])
  |_,_=>none
 else none
def qz(P:Program)(h:ab)(t:TypeId)(x:PV):Option PV:=
 match P.underlying t,x with
 |some .string,.str s=>some (.int .i64 s.size)
 |some (.array n _),_=>some (.int .i64 n)
 |some (.slice _),.aa _ S=>some (.int .i64 S.length)
 |some (.map _ _),.jD=>some (.int .i64 0)
 |some (.map _ _),.cq V=>match xi h V with
  |some o=>some (.int .i64 o.es.length)
  |none=>none
 |some (.slice _),.an V g U K=>match getM h V g with
  |some o=>if U+K<=o.es.length then some (.int .i64 K)else none
  |none=>none
 |_,_=>none
def cH(P:Program)(h:ab)(z:PV)(xt:TypeId)(x:PV):Option (List PV):=
 match P.underlying xt,x with
 |some (.int _),.int _ n=>if 0<=n/\n<=1073741824 then some (List.replicate n.toNat z)else none
 |some (.slice _),x=>cr h x
 |_,_=>none
def roomy(n bytes:Nat):Bool:=decide (n * bytes<=17592186044416)&&decide (n<=17592186044416)
def mN(V:Nat):PV->Bool
 | .an i _ _ _=>i==V
 |_=>false
def bR(P:Program)(lv:Nat)(h:ab)(st xt:TypeId)(s x:PV):Option (PV×ab):=
 match P.underlying st with
 |some (.slice e)=>match dF P e,pu P e,jN P e with
  |some q,some Y,some z=>match cH P h z xt x with
   |some Q=>
    if 0<q/\Y<=65536/\((cells z).length=q/\(cells z).all bP=true)/\Q.all (λv=>decide ((cells v).length=q)&& (cells v).all bP)=true then
     match s with
     | .aa full S=>
      if Q.isEmpty then some (s,h)
      else if full=true/\1<=lv/\roomy (S.length+Q.length) Y=true/\S.all (λv=>decide ((cells v).length=q)&& (cells v).all bP)=true then
       some (.an h.length 0 0 (S.length+Q.length),newObj h q (S++Q))
      else none
     | .an id g U K=>match getM h id g with
      |some o=>
       if U+K<=o.es.length/\q=o.bQ then
        if Q.isEmpty then some (s,h)
        else if U=0/\2<=lv/\o.mu=.m/\mN id x=true/\K+Q.length<=o.es.length then
         some (.an id g 0 (K+Q.length),h.set id {o with es:=o.es.take K++Q++o.es.drop (K+Q.length)})
        else if U=0/\2<=lv/\o.mu=.m/\roomy (K+Q.length) Y=true then
         some (.an id (g+1) 0 (K+Q.length),h.set id {o with ep:=g+1,es:=o.es.take K++Q})
        else none
       else none
      |none=>none
     |_=>none
    else none
   |none=>none
  |_,_,_=>none
 |_=>none
def CD(P:Program)(lv:Nat)(h:ab)(A:TypeId)(d x:PV):Option (PV×ab):=
 match P.underlying A,d,cr h x with
 |some (.slice e),.an id g U K,some Q=>match dF P e,getM h id g with
  |some q,some o=>
   if 2<=lv/\o.mu=.m/\q=o.bQ/\U+K<=o.es.length/\Q.all (λv=>decide ((cells v).length=q))=true/\(Q.take (min Q.length K)).all (λv=>decide ((cells v).length=q)&& (cells v).all bP)=true then
    let n:=min Q.length K
    some (.int .i64 n,h.set id {o with es:=o.es.take U++Q.take n++o.es.drop (U+n)})
   else none
  |_,_=>none
 |_,_,_=>none
def qA(P:Program)(lv:Nat)(h:ab)(t:TypeId)(x:PV):Option (PV×ab):=
 match P.underlying t,x with
 |some (.slice e),.an id g U K=>match dF P e,jN P e,getM h id g with
  |some q,some z,some o=>
   if 2<=lv/\o.mu=.m/\q=o.bQ/\U+K<=o.es.length/\(cells z).length=q/\(cells z).all bP=true then
    some (.b8 [],h.set id {o with es:=o.es.take U++List.replicate K z++o.es.drop (U+K)})
   else none
  |_,_,_=>none
 |some (.slice _),.aa _ []=>some (.b8 [],h)
 |_,_=>none
def Zl(P:Program)(t:TypeId)(x:PV):Option PV:=
 match P.underlying t,x with
 |some (.slice _),.aa true S=>some (.int .i64 S.length)
 |_,_=>none
def Qd:List PV->Option PV
 |[.int k a,.int _ b]=>some (.int k (if b>a then b else a))
 |_=>none
def U4:List PV->Option PV
 |[.int k a,.int _ b]=>some (.int k (if b<a then b else a))
 |_=>none
def kY(P:Program)(lv:Nat)(h:ab)(t:TypeId)(len cap:PV):Option (PV×ab):=
 match P.underlying t,len,cap with
 |some (.slice e),.int _ n,.int _ c=>match dF P e,pu P e,jN P e with
  |some q,some Y,some z=>
   if 1<=lv/\0<=n/\n<=c/\c<=1073741824/\0<q/\Y<=65536/\(cells z).length=q/\(cells z).all bP=true then
    some (.an h.length 0 0 n.toNat,newObj h q (List.replicate n.toNat z))
   else none
  |_,_,_=>none
 |_,_,_=>none
def bA(P:Program)(lv:Nat)(h:ab)(b:Builtin)(ts:List TypeId)(args:List PV):Option (PV×ab):=
 match b,ts,args with
 | .len,t::_,x::_=>(qz P h t x).map (·,h)
 | .append,Y::N::_,s::x::_=>bR P lv h Y N s x
 | .copy,A::_,d::x::_=>CD P lv h A d x
 | .clear,t::_,x::_=>qA P lv h t x
 | .cap,t::_,x::_=>(Zl P t x).map (·,h)
 | .max,_,f=>(Qd f).map (·,h)
 | .min,_,f=>(U4 f).map (·,h)
 |_,_,_=>none
def aD(P:Program)(lv:Nat)(H:Op)(Y:Nat->PV)(h:ab):Option (PV×ab):=
 match H with
 | .move x | .assign x=>some (ev Y x,h)
 | .pick c a b=>match ev Y c with
  | .bool t=>some (if t then ev Y a else ev Y b,h)
  |_=>none
 | .alloc t=>match jN P t with
  |some z=>if 1<=lv/\(cells z).all bP=true/\0<(cells z).length then some (.ptr h.length 0 0 0,newObj h (cells z).length [z])else none
  |none=>none
 | .box _ x=>if 1<=lv/\(cells (ev Y x)).all bP=true/\0<(cells (ev Y x)).length then some (.ptr h.length 0 0 0,newObj h (cells (ev Y x)).length [ev Y x])else none
 | .build t O=>(xh P t (O.toList.map λ(i,x)=>(i,ev Y x))).map (·,h)
 | .buildSlice t n O=>ek P lv h t n (O.toList.map λ(i,x)=>(i,ev Y x))
 | .load t a=>(jO P h t (ev Y a)).map (·,h)
 | .store t a x=>if 2<=lv then(jc P h t (ev Y a) (ev Y x)).map (.undef,·)else none
 | .nilCheck x=>match ev Y x with
  | .ptr id g i o=>some (.ptr id g i o,h)
  | .eX e=>some (.eX e,h)
  | .fn f e=>some (.fn f e,h)
  |_=>none
 | .binOp H t x y _=>(fS P H t (ev Y x) (ev Y y)).map (·,h)
 | .unOp H _ x=>(Zi H (ev Y x)).map (·,h)
 | .convert s d x=>(zB P s d (ev Y x)).map (·,h)
 | .makeFunc (.func f) first M=>if first.isEmpty then some (.fn f (M.toList.map (ev Y)),h)else some (.pK f first.size ((first.toList++M.toList).map (ev Y)),h)
 | .makeSlice t l c=>kY P lv h t (ev Y l) (ev Y c)
 | .slice t x j B u=>(cS P h t (ev Y x) (j.map (ev Y)) (B.map (ev Y)) (u.map (ev Y))).map (·,h)
 | .fieldAddr s x f=>(iu P s (ev Y x) f).map (·,h)
 | .field s x f=>(Ef P s (ev Y x) f).map (·,h)
 | .indexAddr t x Z=>(cT P h t (ev Y x) (ev Y Z)).map (·,h)
 | .index t x Z=>(zD P t (ev Y x) (ev Y Z)).map (·,h)
 | .makeMap t r=>lY P lv h t (r.map (ev Y))
 | .lookup t x k G=>(lQ P h t (ev Y x) (ev Y k) G).map (·,h)
 | .mapUpdate t m k v | .insert t m k v=>if 2<=lv then(iQ P h t (ev Y m) (ev Y k) (ev Y v)).map (.undef,·)else none
 | .extract x i=>match ev Y x with
  | .b8 vs=>match vs[i]? with
   |some v=>some (v,h)
   |none=>none
  |_=>none
 |_=>none
def rf(h:ab)(p:PV):Option PV:=
 match p with
 | .an id g U K=>match getM h id g with
  |some o=>if U+K<=o.es.length/\(o.mu=.m\/o.mu=.f)/\aw ((o.es.drop U).take K)=true then some (.aa false ((o.es.drop U).take K))else none
  |none=>none
 |p=>if aW p then some p else none
def oE(h:ab):List PV->Option (List PV)
 |[]=>some []
 |c::r=>match rf h c,oE h r with
  |some a,some i=>some (a::i)
  |_,_=>none
def kZ(h:ab)(p:PV):Option PV:=
 match p with
 | .agg cs=>(oE h cs).map .agg
 |p=>rf h p
def iR(h:ab):List PV->Option (List PV)
 |[]=>some []
 |c::r=>match kZ h c,iR h r with
  |some a,some i=>some (a::i)
  |_,_=>none
def rb(h:ab)(p:PV):Option PV:=
 match p with
 | .b8 cs=>(iR h cs).map .b8
 |p=>kZ h p
def fT(f:PV->Option PV):List PV->Option (List PV)
 |[]=>some []
 |c::r=>match f c,fT f r with
  |some a,some i=>some (a::i)
  |_,_=>none
def mW:Nat->ab->PV->Option PV
 |0,_,p=>if aW p then some p else none
 |n+1,h,p=>match p with
  | .an id g U K=>match getM h id g with
   |some o=>if U+K<=o.es.length/\(o.mu=.m\/o.mu=.f)then(fT (mW n h) ((o.es.drop U).take K)).map (.aa false)else none
   |none=>none
  | .agg cs=>(fT (mW n h) cs).map .agg
  | .b8 cs=>(fT (mW n h) cs).map .b8
  |p=>if aW p then some p else none
def yb(h:ab)(p:PV):Option PV:=match rb h p with |some r=>some r |none=>mW 8 h p
def mO(h:ab)(V:Nat):Option ab:=
 match h[V]? with
 |some o=>if aw o.es=true/\(o.mu=.m\/o.mu=.f)then some (h.set V {o with mu:=.f})else none
 |none=>none
def gm(h:ab):List Nat->Option ab
 |[]=>some h
 |V::r=>match mO h V with
  |some d=>gm d r
  |none=>none
def pM(h:ab)(t:List Nat):Bool:=t.all λV=>match h[V]? with |some o=>decide (o.mu=.f)&&aw o.es |none=>false
def tJ:PV->List Nat
 | .an id _ _ _=>[id]
 |_=>[]
def jQ(F:List PV):List Nat:=F.flatMap λp=>(cells p).flatMap tJ
def eu(n:Nat):PV->Bool
 | .an id _ _ _=>decide (id<n)
 | .ptr id _ _ _=>decide (id<n)
 |p=>aW p
def cY(n:Nat):PV->Bool
 | .agg cs=>cs.all (eu n)
 |p=>eu n p
def eI(n:Nat):PV->Bool
 | .b8 cs=>cs.all (cY n)
 |p=>cY n p
inductive Mode where
 |no
 |pure
 |opened
 |ri (g:List PV->Option PV)
 |de (g:List PV->ab->Option (PV×ab))
 |ext (g:List PV->Option PV)
structure cA where
 P:Program
 mode:FuncId->Mode
abbrev hZ:=FuncId->List PV->ab->Option (PV×ab)
def dL(run:hZ)(lv:Nat)(f:FuncId)(args:List PV)(h:ab):Option (PV×ab):=
 if aw args then
  match run f (aY args) []with
  |some (r,G)=>match yb G r with
   |some i=>some (b9 i,h)
   |none=>none
  |none=>none
 else match iR h args with
  |some D=>match run f (aY D) []with
   |some (r,G)=>match yb G r with
    |some i=>if fm i||pM h (jQ args)then some (b9 i,h)
     else if 2<=lv then(gm h (jQ args)).map (b9 i,·)else none
    |none=>none
   |none=>none
  |none=>match fT (mW 8 h) args with
   |some D=>match run f (aY D) []with
    |some (r,G)=>match yb G r with
     |some i=>if fm i then some (b9 i,h)else none
     |none=>none
    |none=>none
   |none=>none
def cm(o:ax):ax:=match o.mu with | .m=>{o with mu:=.l}|_=>o
def eP(run:List PV->ab->Option (PV×ab))(lv:Nat)(args:List PV)(h:ab):Option (PV×ab):=
 if 2<=lv then run args h
 else if 1<=lv then match run args (h.map cm)with
  |some (r,d)=>if(d.drop h.length).all (λo=>decide (o.mu≠.l))=true then some (r,h++d.drop h.length)else none
  |none=>none
 else none
def jj(run:hZ)(lv:Nat)(f:FuncId)(args:List PV)(h:ab):Option (PV×ab):=
 match eP (run f) lv args h with
 |some (r,d)=>if eI h.length r&& (d.take h.length).all (λo=>o.es.all (cY h.length))then some (r,d.take h.length)else some (r,d)
 |none=>none
def dG(C:cA)(run:hZ)(lv:Nat)(f:FuncId)(args:List PV)(h:ab):Option (PV×ab):=
 match C.mode f with
 | .no=>none
 | .pure=>dL run lv f args h
 | .opened=>jj run lv f args h
 | .ri g=>if aw args then(g (aY args)).map (·,h)else none
 | .de g=>eP g lv args h
 | .ext g=>if aw args then(g (aY args)).map (·,h)else none
def gp(C:cA)(run:hZ)(lv:Nat)(a:PV)(args:List PV)(h:ab):Option (PV×ab):=
 match a with
 | .fn f M=>dG C run lv f (args++M) h
 | .pK f k Y=>dG C run lv f (Y.take k++args++Y.drop k) h
 |_=>none
def ar(C:cA)(run:hZ)(lv:Nat)(H:Op)(Y:Nat->PV)(h:ab):Option (PV×ab):=
 match H with
 | .call c=>match c.callee with
  | .value f=>gp C run lv (ev Y f) (c.args.toList.map (ev Y)) h
  | .builtin b=>bA C.P lv h b c.argTypes.toList (c.args.toList.map (ev Y))
  | .invoke _ _=>none
 |H=>aD C.P lv H Y h
def cI:Op->Bool
 | .move _ | .assign _ | .pick .. | .binOp .. | .unOp .. | .convert .. | .extract .. | .makeFunc .. | .build .. | .field .. | .index .. | .fieldAddr .. | .nilCheck _=>false
 |_=>true
def I6(o:Oper):List Edge:=o.after.toList.filter (Region.binds .any)
def before(ops:Array Oper):List Nat:=
 ops.toList.foldl (λu o=>u++[(I6 o).foldl (λs e=>s |||2^e.on |||u.getD e.on 0) 0]) []
def um(b:List Nat)(i j:Nat):Bool:=i==j ||(b.getD i 0).testBit j ||(b.getD j 0).testBit i
def level(ops:Array Oper)(b:List Nat)(i:Nat):Nat:=
 if ops.toList.zipIdx.all λ(o,j)=>!cI o.op ||um b i j then 2 else 1
def bC(ops:Array Oper)(o:Oper)(Y:Nat->PV):Option Bool:=
 match o.guard with
 |none=>some true
 |some (j,t)=>match(ops.toList[j]?).bind (·.dst)with
  |none=>some false
  |some d=>match Y d with
   | .bool b=>some (b==t)
   | .undef=>some false
   |_=>none
def gL(C:cA)(run:hZ)(ops:Array Oper)(o:Oper)(s:St):Option St:=
 match bC ops o s.Y with
 |some true=>match ar C run 2 o.op s.Y s.h with
  |some (v,d)=>some ⟨bZ s.Y o.dst v,d⟩
  |none=>none
 |some false=>some ⟨bZ s.Y o.dst .undef,s.h⟩
 |none=>none
def eB(C:cA)(run:hZ)(ops:Array Oper):List Oper->St->Option St
 |[],s=>some s
 |o::r,s=>match gL C run ops o s with
  |some U=>eB C run ops r U
  |none=>none
def fE(o:ax):ax:={o with mu:=.x}
def cO(e:Nat->Bool)(Z:Nat)(P:List Nat)(h:ab):ab:=
 h.take Z++List.zipWith (λo j=>if e j then o else fE o) (h.drop Z) P
def bj(h:ab)(V:Nat):Bool:=match h[V]? with |some o=>decide (o.mu≠.x)|none=>false
mutual
def bq(f:Nat->Bool):PV->Bool
 | .an id _ _ _=>f id
 | .ptr id _ _ _=>f id
 | .cq id=>f id
 | .agg Y=>bB f Y
 | .b8 Y=>bB f Y
 | .fn _ Y=>bB f Y
 | .pK _ _ Y=>bB f Y
 |_=>true
def bB(f:Nat->Bool):List PV->Bool
 |[]=>true
 |c::r=>bq f c&&bB f r
end
def br(h:ab):Bool:=h.all λo=>decide (o.mu=.x)||bB (bj h) o.es
structure zd where
 s:St
 L0:Nat
 own:List Nat
def cM(C:cA)(run:hZ)(ops:Array Oper)(b:List Nat)(i:Nat)(o:Oper)(x:zd):Option zd:=
 match bC ops o x.s.Y with
 |some true=>
  if cI o.op=false then match ar C run 1 o.op x.s.Y x.s.h with
   |some (r,_)=>some ⟨⟨bZ x.s.Y o.dst r,x.s.h⟩,x.L0,x.own⟩
   |none=>none
  else if level ops b i=2 then match ar C run 2 o.op x.s.Y x.s.h with
   |some (r,d)=>some ⟨⟨bZ x.s.Y o.dst r,d⟩,d.length,[]⟩
   |none=>none
  else
   let M:=cO (b.getD i 0).testBit x.L0 x.own x.s.h
   if br M=true/\(o.op.operands.toList.all λy=>bq (bj M) (ev x.s.Y y))=true then
    match ar C run 1 o.op x.s.Y M with
    |some (r,d)=>if(d.drop x.s.h.length).all (λo=>decide (o.mu≠.l))=true then
      some ⟨⟨bZ x.s.Y o.dst r,x.s.h++d.drop x.s.h.length⟩,x.L0,x.own++List.replicate (d.drop x.s.h.length).length i⟩else none
    |none=>none
   else none
 |some false=>some ⟨⟨bZ x.s.Y o.dst .undef,x.s.h⟩,x.L0,x.own⟩
 |none=>none
def dQ(C:cA)(run:hZ)(ops:Array Oper)(b:List Nat):Nat->List Oper->zd->Option zd
 |_,[],x=>some x
 |i,o::r,x=>match cM C run ops b i o x with
  |some d=>dQ C run ops b (i+1) r d
  |none=>none
def fF:Op->Bool
 | .load .. | .indexAddr ..=>true
 |_=>false
def k9:Op->Bool
 | .buildSlice ..=>true
 |_=>false
def Lv(o:Oper):Option Operand:=match o.op,o.dst,o.guard with
 | .store _ a _,none,none=>some a
 |_,_,_=>none
def sinks(ops:Array Oper)(b:List Nat):Option (Operand×Operand):=
 if 2<=ops.size/\um b (ops.size - 2) (ops.size - 1)=false then
  match(ops.toList[ops.size - 2]?).bind Lv,(ops.toList[ops.size - 1]?).bind Lv with
  |some x,some y=>some (x,y)
  |_,_=>none
 else none
def j'(ops:Array Oper)(b:List Nat)(i:Nat)(D:Bool):Bool:=ops.toList.zipIdx.all λ(o,j)=>!(cI o.op&& !fF o.op&& (D || !k9 o.op))||um b i j ||((sinks ops b).isSome&&decide (ops.size<=i+2)&&decide (ops.size<=j+2))
def nt(ops:Array Oper)(b:List Nat)(i:Nat):Bool:=ops.toList.zipIdx.all λ(o,j)=>!(cI o.op&& !fF o.op&& !k9 o.op)||um b i j ||((sinks ops b).isSome&&decide (ops.size<=j+2))
def pN(h h':ab):ab:=List.zipWith (λo y=>if o.mu=.m then y else o) h h'++h'.drop h.length
def qB(h:ab)(V:Nat):Bool:=match h[V]? with
 |some o=>decide (o.mu≠.m)
 |none=>false
def rP(H:Op)(Y:Nat->PV):Option Nat:=match H with
 | .load _ x=>match ev Y x with
  | .ptr id _ _ _=>some id
  |_=>none
 | .indexAddr _ x _=>match ev Y x with
  | .an id _ _ _=>some id
  |_=>none
 |_=>none
def I7(ops:Array Oper)(Y:Nat->PV)(x:Operand)(V:Nat):Bool:=(match x with | .tmp t=>!ops.toList.any (λo=>o.dst==some t)|_=>true)&& (match ev Y x with | .ptr j _ _ _=>decide (j≠V)|_=>false)
def Eg(ops:Array Oper)(b:List Nat)(i:Nat)(Y:Nat->PV)(V:Nat):Bool:=match sinks ops b with
 |none=>true
 |some (x,y)=>(um b i (ops.size - 2)||I7 ops Y x V)&& (um b i (ops.size - 1)||I7 ops Y y V)
def mq(ops:Array Oper)(b:List Nat)(h0:ab)(i:Nat)(Y:Nat->PV)(H:Op):Bool:=match rP H Y with
 |none=>true
 |some V=>qB h0 V ||(nt ops b i&&Eg ops b i Y V)
def du(C:cA)(run:hZ)(ops:Array Oper)(b:List Nat)(h0:ab)(i:Nat)(o:Oper)(s:St):Option St:=
 match bC ops o s.Y with
 |some true=>
  if cI o.op=false then match ar C run 1 o.op s.Y s.h with
   |some (r,_)=>some ⟨bZ s.Y o.dst r,s.h⟩
   |none=>none
  else if fF o.op=true then(if mq ops b h0 i s.Y o.op=true then match aD C.P 1 o.op s.Y s.h with
     |some (r,_)=>some ⟨bZ s.Y o.dst r,s.h⟩
     |none=>none
    else none)
  else match(if k9 o.op then aD C.P 1 o.op s.Y s.h else none)with
   |some (r,_)=>some ⟨bZ s.Y o.dst r,s.h⟩
   |none=>if j' ops b i (k9 o.op)=true then match ar C run 2 o.op s.Y s.h with
     |some (r,d)=>if s.h.length<=d.length then some ⟨bZ s.Y o.dst r,pN s.h d⟩else none
     |none=>none
    else none
 |some false=>some ⟨bZ s.Y o.dst .undef,s.h⟩
 |none=>none
def cF(C:cA)(run:hZ)(ops:Array Oper)(b:List Nat)(h0:ab):Nat->List Oper->St->Option St
 |_,[],s=>some s
 |i,o::r,s=>match du C run ops b h0 i o s with
  |some U=>cF C run ops b h0 (i+1) r U
  |none=>none
def iS(ops:Array Oper)(b:List Nat)(Y:Nat->PV):List Nat:=ops.toList.zipIdx.flatMap λ(o,i)=>match o.op with
 | .load _ (.tmp t)=>if nt ops b i then[]else match ops.toList.find? (λo=>o.dst==some t)with
  |none=>(match Y t with
   | .ptr id _ _ _=>[id]
   |_=>[])
  |some o=>match o.op with
   | .fieldAddr _ (.tmp u) _=>if ops.toList.any (λo=>o.dst==some u)then[]else(match Y u with
    | .ptr id _ _ _=>[id]
    |_=>[])
   |_=>[]
 |_=>[]
def cJ(t:List Nat)(h:ab):ab:=h.zipIdx.map λ(o,i)=>if t.contains i then cm o else o
def eZ(t:List Nat)(h h':ab):ab:=h'.zipIdx.map λ(o,i)=>if t.contains i then(match h[i]? with |some y=>y|none=>o)else o
def uo(t:List Nat)(h h':ab):Bool:=h'.zipIdx.all λ(o,i)=>decide (o.mu≠.l)||(t.contains i&&decide (i<h.length))||(match h[i]? with |some y=>decide (y.mu=.l)|none=>false)
def uq(ops:Array Oper)(b:List Nat)(Y:Nat->PV):Bool:=match sinks ops b with
 |none=>true
 |some (x,y)=>match ev Y x,ev Y y with
  | .ptr i _ _ _,.ptr j _ _ _=>decide (i≠j)
  |_,_=>false
def ka(C:cA)(run:hZ)(ops:Array Oper)(s:St):Option St:=
 match cF C run ops (before ops) (cJ (iS ops (before ops) s.Y) s.h) 0 ops.toList ⟨s.Y,cJ (iS ops (before ops) s.Y) s.h⟩with
 |some U=>if uo (iS ops (before ops) s.Y) s.h U.h=true/\uq ops (before ops) U.Y=true then some ⟨U.Y,eZ (iS ops (before ops) s.Y) s.h U.h⟩else none
 |none=>none
def U5(ops:Array Oper)(o:Oper):Bool:=match o.op with
 | .call ⟨.builtin .append,V,_⟩=>match V.toList with
  | .tmp t::_=>ops.toList.any λy=>y.dst==some t&& (match y.op with | .call ⟨.value _,_,_⟩=>true |_=>false)
  |_=>false
 |_=>false
def Qe(ops:Array Oper):Bool:=ops.toList.zipIdx.any λ(o,i)=>match o.op,o.dst with
 | .call ⟨.builtin .append,_,_⟩,some d=>!(level ops (before ops) i==2)&&ops.toList.any λy=>match y.op with
  | .call ⟨.builtin .append,V,_⟩=>(match V.toList with
   | .tmp t::_=>t==d
   |_=>false)
  |_=>false
 |_,_=>false
def pO(ops:Array Oper):Bool:=(ops.toList.zipIdx.any λ(o,i)=>U5 ops o&& !(level ops (before ops) i==2))||(sinks ops (before ops)).isSome ||Qe ops
def oF:Op->Bool
 | .alloc _ | .makeMap _ none=>true
 |_=>false
def nu:Op->Bool
 | .store .. | .mapUpdate .. | .insert ..=>true
 |_=>false
def I8:Op->Bool
 | .call ⟨.value _,_,_⟩=>true
 |_=>false
def vn:Op->Bool
 | .slice .. | .call ⟨.builtin .len,_,_⟩=>true
 |_=>false
def U6(Y:Nat->PV)(x:Operand):Bool:=match ev Y x with
 | .str _=>true
 |_=>false
def Qf(H:Op)(Y:Nat->PV):Bool:=match H with
 | .slice _ x _ _ _=>U6 Y x
 | .call ⟨.builtin .len,V,_⟩=>(match V.toList with
  |x::_=>U6 Y x
  |_=>false)
 |_=>false
def acb(ops:Array Oper)(b:List Nat)(i:Nat):Bool:=ops.toList.zipIdx.all λ(o,j)=>!(oF o.op ||nu o.op)||decide (i<=j)||(b.getD i 0).testBit j
def kb(ops:Array Oper):Bool:=(ops.toList.zipIdx.any λ(o,i)=>nu o.op&& !(level ops (before ops) i==2))&&ops.toList.zipIdx.all λ(o,i)=>o.guard.isNone&& (!cI o.op ||fF o.op ||oF o.op ||I8 o.op ||vn o.op ||(nu o.op&&acb ops (before ops) i))
def Qg(H:Op)(Y:Nat->PV):Option Nat:=match H with
 | .store _ a _=>(match ev Y a with
  | .ptr id _ _ _=>some id
  |_=>none)
 | .mapUpdate _ m _ _ | .insert _ m _ _=>(match ev Y m with
  | .cq id=>some id
  |_=>none)
 |_=>none
def wtA:Op->Option Operand
 | .store _ a _=>some a
 | .mapUpdate _ m _ _ | .insert _ m _ _=>some m
 |_=>none
def Eh(ops:Array Oper)(Y:Nat->PV):List Nat:=ops.toList.filterMap λo=>match wtA o.op with
 |some (.tmp t)=>if ops.toList.any (λo=>o.dst==some t)then none else Qg o.op Y
 |_=>none
def zE:Mode->Bool
 | .pure | .ri _ | .ext _=>true
 |_=>false
def rQ(C:cA)(H:Op)(Y:Nat->PV):Bool:=match H with
 | .call ⟨.value f,V,_⟩=>(match ev Y f with
  | .fn g M=>aw (V.toList.map (ev Y)++M)&&zE (C.mode g)
  |_=>false)
 |_=>false
def Lw(W:List Nat)(H:Op)(Y:Nat->PV):Bool:=match rP H Y with
 |some V=>!W.contains V
 |none=>true
def fe(C:cA)(run:hZ)(W:List Nat)(h0:ab)(o:Oper)(s:St):Option St:=
 if cI o.op=false then match ar C run 1 o.op s.Y s.h with
  |some (r,_)=>some ⟨bZ s.Y o.dst r,s.h⟩
  |none=>none
 else if fF o.op=true then(if Lw W o.op s.Y=true then match aD C.P 1 o.op s.Y h0 with
   |some (r,_)=>some ⟨bZ s.Y o.dst r,s.h⟩
   |none=>none
  else none)
 else if vn o.op=true then(if Qf o.op s.Y=true then match ar C run 1 o.op s.Y s.h with
   |some (r,_)=>some ⟨bZ s.Y o.dst r,s.h⟩
   |none=>none
  else none)
 else if I8 o.op=true then(if rQ C o.op s.Y=true then match ar C run 1 o.op s.Y s.h with
   |some (r,_)=>some ⟨bZ s.Y o.dst r,s.h⟩
   |none=>none
  else none)
 else if oF o.op=true then match aD C.P 1 o.op s.Y s.h with
  |some (r,d)=>some ⟨bZ s.Y o.dst r,d⟩
  |none=>none
 else match Qg o.op s.Y with
  |some V=>if(decide (h0.length<=V)||W.contains V)=true then match aD C.P 2 o.op s.Y s.h with
    |some (r,d)=>some ⟨bZ s.Y o.dst r,d⟩
    |none=>none
   else none
  |none=>none
def eQ(C:cA)(run:hZ)(W:List Nat)(h0:ab):List Oper->St->Option St
 |[],s=>some s
 |o::r,s=>match fe C run W h0 o s with
  |some U=>eQ C run W h0 r U
  |none=>none
inductive Ex where
 |normal
 |exit (id:Nat)
 |ret
 deriving DecidableEq
def iter(b:St->Option (Ex×St)):Nat->St->Option (Ex×St)
 |0,_=>none
 |n+1,s=>match b s with
  |some (.normal,U)=>iter b n U
  |r=>r
def bT(C:cA)(run:hZ)(N:Nat):Code->St->Option (Ex×St)
 | .skip,s=>some (.normal,s)
 | .region _ O D,s=>match(if D then(if pO O then ka C run O s else if kb O then eQ C run (Eh O s.Y) s.h O.toList s else(dQ C run O (before O) 0 O.toList ⟨s,s.h.length,[]⟩).map (·.s))else eB C run O O.toList s)with
  |some U=>some (.normal,U)
  |none=>none
 | .seq a b,s=>match bT C run N a s with
  |some (.normal,U)=>bT C run N b U
  |r=>r
 | .cond c a b,s=>match ev s.Y c with
  | .bool true=>bT C run N a s
  | .bool false=>bT C run N b s
  |_=>none
 | .block V c,s=>match bT C run N c s with
  |some (.exit S,U)=>if S=V then some (.normal,U)else some (.exit S,U)
  |r=>r
 | .loop c,s=>iter (bT C run N c) N s
 | .exit V,s=>some (.exit V,s)
 | .label _,s=>some (.normal,s)
 | .scope c,s=>bT C run N c s
 | .ret,s=>some (.ret,s)
 |_,_=>none
def pP(args:List PV):Nat->PV:=λt=>args.getD t .undef
def dM(P:Program)(h:ab)(Y:Nat->PV):List ResultVar->Option (List PV)
 |[]=>some []
 |r::R=>match(match r with | .tmp t=>some (Y t)| .cell a t=>jO P h t (Y a)),dM P h Y R with
  |some v,some W=>some (v::W)
  |_,_=>none
def bo:List PV->PV
 |[v]=>v
 |vs=>.b8 vs
def rj(C:cA)(run:hZ)(n:Nat):hZ:=λf V h=>
 match C.P.funcs[f]? with
 |some i=>match i.body with
  |some c=>match bT C run n c ⟨pP V,h⟩with
   |some (.normal,s)|some (.ret,s)=>match dM C.P s.h s.Y i.results.toList with
    |some W=>some (bo W,s.h)
    |none=>none
   |_=>none
  |none=>none
 |none=>none
def dC(C:cA)(n:Nat):hZ:=Nat.rec (λ_ _ _=>none) (λn r=>rj C r n) n
def rk(C:cA)(n:Nat)(f:FuncId)(args:List PV):Option PV:=
 match dC C n f args []with
 |some (r,h)=>(yb h r).map b9
 |none=>none
def L2(R:Value->PV->Prop)(vs:List Value)(cs:List PV):Prop:=vs.length=cs.length/\∀j,j<cs.length->R (vs.getD j undef) (cs.getD j .any)
inductive cd(w:World)(A:Nat->Prop):Value->PV->Prop
 |int (k:IntKind) (n:Int):cd w A (.int k n) (.int k n)
 |bool (b:Bool):cd w A (.bool b) (.bool b)
 |str (s:ByteArray):cd w A (.string s) (.str s)
 |ji:cd w A (.pointer none) .ji
 |jD:cd w A (.map none) .jD
 |mM:cd w A .nilFunc .mM
 |agg (vs:List Value) (cs:List PV):vs.length=cs.length->(∀j,j<cs.length->cd w A (vs.getD j undef) (cs.getD j .any))->cd w A (.agg vs.toArray) (.agg cs)
 |b8 (vs:List Value) (cs:List PV):vs.length=cs.length->(∀j,j<cs.length->cd w A (vs.getD j undef) (cs.getD j .any))->cd w A (.tuple vs.toArray) (.b8 cs)
 |fn (f:FuncId) (vs:List Value) (cs:List PV):vs.length=cs.length->(∀j,j<cs.length->cd w A (vs.getD j undef) (cs.getD j .any))->cd w A (.func (.func f) #[] vs.toArray) (.fn f cs)
 |pK (f:FuncId) (k:Nat) (vs:List Value) (cs:List PV):vs.length=cs.length->(∀j,j<cs.length->cd w A (vs.getD j undef) (cs.getD j .any))->cd w A (.func (.func f) (vs.take k).toArray (vs.drop k).toArray) (.pK f k cs)
 |gJ (a:Option Addr) (cap:Nat) (full:Bool):(full=true->cap=0)->cd w A (.slice a 0 cap) (.aa full [])
 |aa (b off cap sz:Nat) (full:Bool) (es:List PV) (qw:Nat->Nat->Value):es≠[]->es.length<=cap->(full=true->cap=es.length)->¬A b->0<sz->
   (∀i,i<es.length->(cells (es.getD i .any)).length=sz)->
   (∀i j,i<es.length->j<sz->w.cell? ⟨b,off+(i * sz+j),none⟩=some (qw i j))->
   (∀i j,i<es.length->j<sz->cd w A (qw i j) ((cells (es.getD i .any)).getD j .any))->
   cd w A (.slice (some ⟨b,off,none⟩) es.length cap) (.aa full es)
 |eX (b off:Nat) (cs:List PV) (qw:Nat->Value):cs≠[]->¬A b->(∀j,j<cs.length->w.cell? ⟨b,off+j,none⟩=some (qw j))->
   (∀j,j<cs.length->cd w A (qw j) (cs.getD j .any))->cd w A (.pointer (some ⟨b,off,none⟩)) (.eX cs)
inductive aG(w:World)(A:Nat->Prop)(Z:List (Nat×Nat))(h:ab):Value->PV->Prop
 |val {v:Value} {p:PV}:cd w A v p->aG w A Z h v p
 |undef:aG w A Z h (.tuple #[]) .undef
 |any (v:Value):aG w A Z h v .any
 |an (v:Value) (id ep off len:Nat) (o:ax) (bc:Nat×Nat):(∃(a:Option Addr) (l c:Nat),v=.slice a l c)->h[id]?=some o->Z[id]?=some bc->o.mu≠.x->(ep<=o.ep/\0<o.bQ)->
   (o.ep=ep->off+len<=o.es.length->∃cap,v=.slice (some ⟨bc.1,off * o.bQ,none⟩) len cap/\off+cap=bc.2)->
   aG w A Z h v (.an id ep off len)
 |ptr (v:Value) (id ep i off:Nat) (o:ax) (bc:Nat×Nat):(∃a:Addr,v=.pointer (some a))->h[id]?=some o->Z[id]?=some bc->o.mu≠.x->(ep<=o.ep/\0<o.bQ)->
   (o.ep=ep->v=.pointer (some ⟨bc.1,i * o.bQ+off,none⟩))->
   aG w A Z h v (.ptr id ep i off)
 |cq (v:Value) (id:Nat) (o:ax) (bc:Nat×Nat):(∃r:Nat,v=.map (some r))->h[id]?=some o->Z[id]?=some bc->o.mu≠.x->(o.ep=0->v=.map (some bc.1))->aG w A Z h v (.cq id)
 |agg (vs:List Value) (cs:List PV):vs.length=cs.length->(∀j,j<cs.length->aG w A Z h (vs.getD j Go.undef) (cs.getD j .any))->aG w A Z h (.agg vs.toArray) (.agg cs)
 |b8 (vs:List Value) (cs:List PV):vs.length=cs.length->(∀j,j<cs.length->aG w A Z h (vs.getD j Go.undef) (cs.getD j .any))->aG w A Z h (.tuple vs.toArray) (.b8 cs)
 |fn (f:FuncId) (vs:List Value) (cs:List PV):vs.length=cs.length->(∀j,j<cs.length->aG w A Z h (vs.getD j Go.undef) (cs.getD j .any))->aG w A Z h (.func (.func f) #[] vs.toArray) (.fn f cs)
 |pK (f:FuncId) (k:Nat) (vs:List Value) (cs:List PV):vs.length=cs.length->(∀j,j<cs.length->aG w A Z h (vs.getD j Go.undef) (cs.getD j .any))->aG w A Z h (.func (.func f) (vs.take k).toArray (vs.drop k).toArray) (.pK f k cs)
def Mb(h:ab)(Z:List (Nat×Nat))(b:Nat):Prop:=∃(V:Nat) (o:ax) (n:Nat×Nat),h[V]?=some o/\Z[V]?=some n/\o.mu=.m/\n.1=b
def Av(F:Nat->Prop)(h:ab)(Z:List (Nat×Nat))(b:Nat):Prop:=F b\/Mb h Z b
def adU(w:World)(A:Nat->Prop)(Z:List (Nat×Nat))(h:ab)(o:ax)(bc:Nat×Nat):Prop:=
 ∃T Y,w.heap[bc.1]?=some (.cells Y T (0,0))/\o.es.length<=bc.2/\bc.2 * o.bQ<=Y.size/\0<o.bQ/\
  (∀(i:Nat) (e:PV),o.es[i]?=some e->(cells e).length=o.bQ/\∀(j:Nat) (p:PV),(cells e)[j]?=some p->∃v:Value,Y[i * o.bQ+j]?=some v/\aG w A Z h v p)
def adV(w:World)(A:Nat->Prop)(Z:List (Nat×Nat))(h:ab)(o:ax)(bc:Nat×Nat):Prop:=
 o.bQ=0/\∃S u,w.heap[bc.1]?=some (.map S u)/\S.size=o.es.length/\
  (∀(i:Nat) (e:PV),o.es[i]?=some e->∃(k v:PV) (m:MapEntry),e=.agg [k,v]/\S[i]?=some m/\aG w A Z h m.key k/\aG w A Z h m.val v)
def kJ(w:World)(A:Nat->Prop)(Z:List (Nat×Nat))(h:ab)(o:ax)(bc:Nat×Nat):Prop:=adU w A Z h o bc\/adV w A Z h o bc
theorem kJ.c(r:kJ w A Z h o bc)(M:0<o.bQ):adU w A Z h o bc:=by
 rcases r with r |r;exact r;have:=r.1;omega
theorem kJ.m(r:kJ w A Z h o bc)(M:o.bQ=0):adV w A Z h o bc:=by
 rcases r with⟨_,_,_,_,_,G,_⟩|r;omega;exact r
theorem kJ.lt(r:kJ w A Z h o bc):bc.1<w.heap.size:=by
 rcases r with⟨_,_,O,_⟩|⟨_,_,_,O,_⟩ <;>exact(agw.1 O).1
def eA(w:World)(A:Nat->Prop):Prop:=∀(g:Nat) (p:PV),zA g=some p->¬A g/\∃v:Value,w.cell? ⟨g,0,none⟩=some v/\cd w A v p
structure bp(w:World)(F:Nat->Prop)(Z:List (Nat×Nat))(h:ab):Prop where
 len:Z.length=h.length
 fin:∀b,F b->b<w.heap.size
 obj:∀(id:Nat) (o:ax) (bc:Nat×Nat),h[id]?=some o->Z[id]?=some bc->o.mu≠.x->kJ w (Av F h Z) Z h o bc
 iv:∀(id ee:Nat) (o o':ax) (bc dB:Nat×Nat),id≠ee->h[id]?=some o->h[ee]?=some o'->Z[id]?=some bc->Z[ee]?=some dB->o.mu=.m->o'.mu≠.x->bc.1≠dB.1
 out:∀(id:Nat) (o:ax) (bc:Nat×Nat),h[id]?=some o->Z[id]?=some bc->(o.mu=.m\/o.mu=.f)->¬F bc.1
 fG:eA w (Av F h Z)
def FJ(h:ab)(Z:List (Nat×Nat))(h':ab)(q:List (Nat×Nat)):Prop:=
 ∀(V:Nat) (o:ax) (n:Nat×Nat),h[V]?=some o->Z[V]?=some n->o.mu≠.x->
  ∃(y:ax) (z:Nat×Nat),h'[V]?=some y/\q[V]?=some z/\y.mu≠.x/\(o.ep<=y.ep/\(0<o.bQ->0<y.bQ))/\(o.ep=y.ep->y.bQ=o.bQ/\(0<o.bQ->y.es.length=o.es.length)/\z=n)
theorem FJ.refl(h:ab)(Z:List (Nat×Nat)):FJ h Z h Z:=λ_ o n D N P=>⟨o,n,D,N,P,⟨agb _,λh=>h⟩,λ_=>⟨rfl,λ_=>rfl,rfl⟩⟩
theorem FJ.trans{h h1 X:ab}{Z J g:List (Nat×Nat)}(a:FJ h Z h1 J)(b:FJ h1 J X g):FJ h Z X g:=by
 intro V o n D d P
 obtain⟨y,A,R,f,i,G,F⟩:=a V o n D d P;obtain⟨z,t,K,q,u,N,v⟩:=b V y A R f i;have j:=G.1;have w:=N.1;refine⟨z,t,K,q,u,⟨agI G.1 N.1,λM=>N.2 (G.2 M)⟩,λe=>?_⟩;obtain⟨B,H,O⟩:=F yxa;obtain⟨U,Q,S⟩:=v yxa;exact⟨U.trans B,λM=>(Q (G.2 M)).trans (H M),S.trans O⟩
def NE[i:Inhabited Prop]:Prop:=i.default
variable[iD:Inhabited Prop]
structure eN(w:World)(h:ab)(Z:List (Nat×Nat))(w':World)(h':ab)(Z':List (Nat×Nat)):Prop where
 size:w.heap.size<=w'.heap.size
 len:h.length<=h'.length
 ba:∀b,b<w.heap.size->¬Mb h Z b->w'.heap[b]?=w.heap[b]?
 shr:∀b,b<w.heap.size->Mb h' Z' b->Mb h Z b
 refs:FJ h Z h' Z'
 Ja:∀(id:Nat) (o:ax),h[id]?=some o->o.mu≠.m->h'[id]?=some o/\Z'[id]?=Z[id]?
 os:w'.os=w.os
 tape:w'.tape=w.tape
 output:w'.output=w.output
 drawn:NE->w.drawn<=w'.drawn
theorem eN.refl(w:World)(h:ab)(Z:List (Nat×Nat)):eN w h Z w h Z where
 size:=agb _
 len:=agb _
 ba _ _ _:=rfl
 shr _ _ m:=m
 refs:=FJ.refl h Z
 Ja id o h1 _:=⟨h1,rfl⟩
 os:=rfl
 tape:=rfl
 output:=rfl
 drawn:=λ_=>agb _
theorem eN.trans{w i n:World}{h h1 X:ab}{Z J g:List (Nat×Nat)}(a:eN w h Z i h1 J)(b:eN i h1 J n X g):eN w h Z n X g where
 size:=agI a.size b.size
 len:=agI a.len b.len
 ba k hk hm:=by
  have h1:¬Mb h1 J k:=λm=>hm (a.shr k hk m)
  rw[b.ba k (agK hk a.size) h1,a.ba k hk hm]
 shr k hk m:=a.shr k hk (b.shr k (agK hk a.size) m)
 refs:=a.refs.trans b.refs
 Ja id o e1 e2:=by
  obtain⟨R,e⟩:=a.Ja id o e1 e2;obtain⟨K,f⟩:=b.Ja id o R e2;exact⟨K,f.trans e⟩
 os:=b.os.trans a.os
 tape:=b.tape.trans a.tape
 output:=b.output.trans a.output
 drawn:=λd=>agI (a.drawn d) (b.drawn d)
theorem zn{v:Value}(h:w.cell? ⟨b,off,none⟩=some v):b<w.heap.size:=block_lt_of_cell h
theorem na(h:w'.heap[b]?=w.heap[b]?):w'.cell? ⟨b,off,none⟩=w.cell? ⟨b,off,none⟩:=by
 simp[World.cell?,h]
theorem cd.mono(z:∀b,b<w.heap.size->¬A b->w'.heap[b]?=w.heap[b]?)(u:∀b,b<w.heap.size->¬A b->¬A' b)
  {v:Value} {p:PV} (h:cd w A v p):cd w' A' v p:=by
 induction h with
 |int k n=>exact .int k n
 |bool b=>exact .bool b
 |str s=>exact .str s
 |ji=>exact .ji
 |jD=>exact .jD
 |mM=>exact .mM
 |agg W Y e _ P=>exact .agg W Y e P
 |b8 W Y e _ P=>exact .b8 W Y e P
 |fn f W Y e _ P=>exact .fn f W Y e P
 |pK f k W Y e _ P=>exact .pK f k W Y e P
 |gJ a d y B=>exact .gJ a d y B
 |aa b U d F y S K O X Q G t N H _ P=>
  have q:0<S.length:=ahD.2 O;have g:b<w.heap.size:=zn (H 0 0 q t);exact .aa b U d F y S K O X Q (u b g G) t N (λi j D M=>by rw[na (z b g G)];exact H i j D M) P
 |eX b U Y K O X Q _ P=>
  have q:0<Y.length:=ahD.2 O;have g:b<w.heap.size:=zn (Q 0 q);exact .eX b U Y K O (u b g X) (λj M=>by rw[na (z b g X)];exact Q j M) P
theorem cd.jk(t:∀b,A' b->A b){v:Value}(h:cd w A v p):cd w A' v p:=
 h.mono (λ_ _ _=>rfl) (λb _ z j=>z (t b j))
theorem Av.mono{q:List (Nat×Nat)}(s:eN w h Z w' h' q)(b:Nat)(W:b<w.heap.size)(hn:¬Av F h Z b):¬Av F h' q b:=by
 rintro(u |d);exact hn (.inl u);exact hn (.inr (s.shr b W d))
theorem aG.UJ{N:List (Nat×Nat)}(f:FJ h Z h' N)(hw:∀b,b<w.heap.size->¬A b->w'.heap[b]?=w.heap[b]?)(hA:∀b,b<w.heap.size->¬A b->¬A' b)
  {v:Value} {p:PV} (hv:aG w A Z h v p):aG w' A' N h' v p:=by
 induction hv with
 |val hs=>exact .val (hs.mono hw hA)
 |undef=>exact .undef
 |any v=>exact .any v
 |an v V H U M o n B O X Q a q=>
  obtain⟨y,z,R,g,e,G,F⟩:=f V o n O X Q;have J:=a.1;have j:=G.1;refine .an v V H U M y z B R g e ⟨agI a.1 G.1,G.2 a.2⟩ (λS e2=>?_);obtain⟨K,t,D⟩:=F yxa;have t:=t a.2;obtain⟨u,k1,k2⟩:=q yxa yxa;exact⟨u,by rw[k1,D,K],by rw[k2,D]⟩
 |ptr v V H i U o n B O X Q a q=>
  obtain⟨y,z,R,g,e,G,F⟩:=f V o n O X Q;have J:=a.1;have j:=G.1;refine .ptr v V H i U y z B R g e ⟨agI a.1 G.1,G.2 a.2⟩ (λS=>?_);obtain⟨K,t,D⟩:=F yxa;rw[q yxa,D,K]
 |cq v V o n B O X Q q=>
  obtain⟨y,z,R,g,e,G,F⟩:=f V o n O X Q;have j:=G.1;refine .cq v V y z B R g e (λS=>?_);obtain⟨K,t,D⟩:=F yxa;rw[q yxa,D]
 |agg W Y d _ P=>exact .agg W Y d P
 |b8 W Y d _ P=>exact .b8 W Y d P
 |fn f W Y d _ P=>exact .fn f W Y d P
 |pK f k W Y d _ P=>exact .pK f k W Y d P
theorem aG.mono{w w':World}{h h':ab}{Z q:List (Nat×Nat)}{F:Nat->Prop}(s:eN w h Z w' h' q){v:Value}{p:PV}(J:aG w (Av F h Z) Z h v p):
  aG w' (Av F h' q) q h' v p:=J.UJ s.refs (λb W z=>s.ba b W (λm=>z (.inr m))) (λb W z=>Av.mono s b W z)
theorem eA.mono{w w':World}{A A':Nat->Prop}(H:∀b,b<w.heap.size->¬A b->w'.heap[b]?=w.heap[b]?)(t:∀b,b<w.heap.size->¬A b->¬A' b)(G:eA w A):eA w' A':=λg p e=>by
 obtain⟨O,v,X,Q⟩:=G g p e;have N:=zn X;exact⟨t g N O,v,by rw[na (H g N O)];exact X,Q.mono H t⟩
theorem eA.xa{q:List (Nat×Nat)}(s:eN w h Z w' h' q)(G:eA w (Av F h Z)):eA w' (Av F h' q):=G.mono (λb W z=>s.ba b W (λm=>z (.inr m))) (λb W z=>Av.mono s b W z)
theorem eA.jk{w:World}{A A':Nat->Prop}(t:∀b,A' b->A b)(G:eA w A):eA w A':=λg p e=>by
 obtain⟨O,v,X,Q⟩:=G g p e;exact⟨λh=>O (t g h),v,X,Q.jk t⟩
theorem eA.rel(G:eA w A){g:Nat}(e:zA g=some p):cd w A (.pointer (some ⟨g,0,none⟩)) (.eX [p]):=by
 obtain⟨O,v,X,Q⟩:=G g p e;refine .eX g 0 [p] (λ_=>v) yxb O (λj M=>?_) (λj M=>?_);simp at M;subst M;exact X;simp at M;subst M;exact Q
section
variable{w:World}{A:Nat->Prop}{Z:List (Nat×Nat)}{h:ab}{v:Value}
theorem aG.dO{k:IntKind}{n:Int}(J:aG w A Z h v (.int k n)):v=.int k n:=by cases J with |val S=>cases S;rfl
theorem aG.gz{b:Bool}(J:aG w A Z h v (.bool b)):v=.bool b:=by cases J with |val S=>cases S;rfl
theorem aG.jB{s:ByteArray}(J:aG w A Z h v (.str s)):v=.string s:=by cases J with |val S=>cases S;rfl
theorem aG.NK(J:aG w A Z h v .undef):v=.tuple #[]:=by
 cases J with
 |val S=>cases S
 |undef=>rfl
theorem aG.lS(J:aG w A Z h v (.agg cs)):∃vs:List Value,v=.agg vs.toArray/\vs.length=cs.length/\∀j,j<cs.length->aG w A Z h (vs.getD j Go.undef) (cs.getD j .any):=by
 cases J with
 |val S=>cases S with |agg vs _ a R=>exact⟨vs,rfl,a,λj M=>.val (R j M)⟩
 |agg vs _ a R=>exact⟨vs,rfl,a,R⟩
theorem aG.qG(J:aG w A Z h v (.b8 cs)):∃vs:List Value,v=.tuple vs.toArray/\vs.length=cs.length/\∀j,j<cs.length->aG w A Z h (vs.getD j Go.undef) (cs.getD j .any):=by
 cases J with
 |val S=>cases S with |b8 vs _ a R=>exact⟨vs,rfl,a,λj M=>.val (R j M)⟩
 |b8 vs _ a R=>exact⟨vs,rfl,a,R⟩
theorem aG.zH{f:FuncId}(J:aG w A Z h v (.fn f cs)):∃vs:List Value,v=.func (.func f) #[] vs.toArray/\vs.length=cs.length/\∀j,j<cs.length->aG w A Z h (vs.getD j Go.undef) (cs.getD j .any):=by
 cases J with
 |val S=>cases S with |fn _ vs _ a R=>exact⟨vs,rfl,a,λj M=>.val (R j M)⟩
 |fn _ vs _ a R=>exact⟨vs,rfl,a,R⟩
theorem aG.Lx{f:FuncId}(J:aG w A Z h v (.pK f k cs)):∃vs:List Value,v=.func (.func f) (vs.take k).toArray (vs.drop k).toArray/\vs.length=cs.length/\∀j,j<cs.length->aG w A Z h (vs.getD j Go.undef) (cs.getD j .any):=by
 cases J with
 |val S=>cases S with |pK _ _ vs _ a R=>exact⟨vs,rfl,a,λj M=>.val (R j M)⟩
 |pK _ _ vs _ a R=>exact⟨vs,rfl,a,R⟩
theorem aG.fI{f:Bool}(J:aG w A Z h v (.aa f es)):cd w A v (.aa f es):=by cases J with |val S=>exact S
theorem aG.wL(J:aG w A Z h v (.eX cs)):cd w A v (.eX cs):=by cases J with |val S=>exact S
theorem aG.eC(J:aG w A Z h v (.an V ep off len)):V<h.length/\(∀o:ax,h[V]?=some o->ep<=o.ep/\0<o.bQ)/\
  (∀(o:ax) (bc:Nat×Nat),h[V]?=some o->Z[V]?=some bc->o.mu≠.x->o.ep=ep->off+len<=o.es.length->∃cap,v=.slice (some ⟨bc.1,off * o.bQ,none⟩) len cap/\off+cap=bc.2):=by
 cases J with
 |val S=>cases S
 |an _ _ _ _ _ o bc B O X Q G d=>
  refine⟨?_,λy e=>?_,λy z D N P M i=>?_⟩
  ·rcases agM V h.length with R |R
   ·exact R
   ·rw[agr R]at O;cases O
  rw[O]at e;obtain rfl:=af7 e;exact G
  ·rw[O]at D;rw[X]at N;obtain rfl:=af7 D;obtain rfl:=af7 N;exact d M i
theorem aG.vu(J:aG w A Z h v (.ptr V ep i off)):V<h.length/\(∀o:ax,h[V]?=some o->ep<=o.ep/\0<o.bQ)/\
  (∀(o:ax) (bc:Nat×Nat),h[V]?=some o->Z[V]?=some bc->o.mu≠.x->o.ep=ep->v=.pointer (some ⟨bc.1,i * o.bQ+off,none⟩)):=by
 cases J with
 |val S=>cases S
 |ptr _ _ _ _ _ o bc B O X Q G d=>
  refine⟨?_,λy e=>?_,λy z D N P M=>?_⟩
  ·rcases agM V h.length with R |R
   ·exact R
   ·rw[agr R]at O;cases O
  rw[O]at e;obtain rfl:=af7 e;exact G
  ·rw[O]at D;rw[X]at N;obtain rfl:=af7 D;obtain rfl:=af7 N;exact d M
theorem aG.Hv(J:aG w A Z h v .jD):v=.map none:=by cases J with |val S=>cases S;rfl
theorem aG.Hx(J:aG w A Z h v (.cq V))(D:h[V]?=some o)(N:Z[V]?=some bc)(P:o.ep=0):v=.map (some bc.1):=by
 cases J with
 |val S=>cases S
 |cq _ _ y z B O X Q d=>
  rw[D]at O;rw[N]at X;obtain rfl:=af7 O;obtain rfl:=af7 X;exact d P
end
theorem aG.CN{v:Value}(J:aG w A Z h v p)(K:aW p=true):cd w A v p:=by
 have b:∀Y:List PV,aw Y=true->∀j,j<Y.length->aW (Y.getD j .any)=true:=by
  intro Y
  induction Y with
  |nil=>intro _ j M;simp at M
  |cons c r P=>
   intro h j M
   simp[aw]at h
   cases j with
   |zero=>simpa using h.1
   |succ j=>simpa using P h.2 j (by simpa using M)
 induction J with
 |val S=>exact S
 |undef=>simp[aW]at K
 |any v=>simp[aW]at K
 |an=>simp[aW]at K
 |ptr=>simp[aW]at K
 |cq=>simp[aW]at K
 |agg W Y a _ P=>exact .agg W Y a λj M=>P j M (b Y (by simpa[aW]using K) j M)
 |b8 W Y a _ P=>exact .b8 W Y a λj M=>P j M (b Y (by simpa[aW]using K) j M)
 |fn f W Y a _ P=>exact .fn f W Y a λj M=>P j M (b Y (by simpa[aW]using K) j M)
 |pK f k W Y a _ P=>exact .pK f k W Y a λj M=>P j M (b Y (by simpa[aW]using K) j M)
theorem cd.cells{w:World}{A:Nat->Prop}{v:Value}{p:PV}(J:cd w A v p):v.cells.size=(Pm.cells p).length/\∀(j:Nat) (q:PV),(Pm.cells p)[j]?=some q->∃u:Value,v.cells[j]?=some u/\cd w A u q:=by
 have V:∀(v:Value) (p:PV),cd w A v p->v.cells= #[v]->Pm.cells p=[p]->v.cells.size=(Pm.cells p).length/\∀(j:Nat) (q:PV),(Pm.cells p)[j]?=some q->∃u:Value,v.cells[j]?=some u/\cd w A u q:=by
  intro v p h D N
  rw[D,N];refine⟨rfl,λj q y=>?_⟩
  cases j with
  |zero=>simp at y;subst y;exact⟨v,rfl,h⟩
  |succ j=>simp at y
 cases J with
 |agg W Y g R=>
  refine⟨by simpa[Value.cells,Pm.cells]using g,λj q y=>?_⟩
  have M:j<Y.length:=by
   rcases agM j Y.length with h |h;exact h;simp[Pm.cells,agr h]at y
  have e:Y[j]?=some q:=y;refine⟨W.getD j undef,?_,?_⟩
  ·simp only[Value.cells];have:j<W.length:=yxa
   simp[List.getD,this]
  ·have:=R j M;rwa[agA (l:=Y),e]at this
 |_=>exact V _ _ (by first |exact .int _ _ |exact .bool _ |exact .str _ |exact .ji |exact .jD |exact .mM |(rename_i a b;exact .b8 _ _ a b)|(rename_i a b;exact .fn _ _ _ a b)|(rename_i a b;exact .pK _ _ _ _ a b)|(rename_i a;exact .gJ _ _ _ a)|(rename_i O X Q G d f H n;exact .aa _ _ _ _ _ _ _ O X Q G d f H n)|(rename_i O X Q G;exact .eX _ _ _ _ O X Q G)) rfl rfl
theorem sw{R:Nat->Value->Prop}:∀(n:Nat),(∀j,j<n->∃u,R j u)->∃vs:List Value,vs.length=n/\∀j,j<n->R j (vs.getD j undef)
 |0,_=>⟨[],rfl,λj M=>absurd M (Nat.not_lt_zero _)⟩
 |n+1,h=>by
  obtain⟨vs,A,z⟩:=sw n (λj M=>h j yxa);obtain⟨u,y⟩:=h n yxa;refine⟨vs++[u],by simp[A],λj M=>?_⟩
  by_cases H:j<n
  ·have:(vs++[u]).getD j undef=vs.getD j undef:=by simp[List.getD,af8 (show j<vs.length by omega)]
   rw[this];exact z j H
  ·obtain rfl:j=n:=by omega
   have:(vs++[u]).getD j undef=u:=by simp[List.getD,<-A]
   rw[this];exact y
theorem getM_some(e:getM h V ep=some o):h[V]?=some o/\o.ep=ep/\o.mu≠.x:=by
 unfold getM at e
 split at e
 ·rename_i y f
  split at e
  ·rename_i G
   obtain rfl:=af7 e;exact⟨f,G.1,G.2⟩
  cases e
 cases e
theorem fh(A:Z.length=h.length)(e:h[V]?=some o):∃bc,Z[V]?=some bc:=by
 have:V<h.length:=by
  rcases agM V h.length with O |O;exact O;rw[agr O]at e;cases e
 exact⟨Z[V]' yxa,agd yxa⟩
theorem ag{v:Type}{l:List v}{x:v}(h:l[i]?=some x):i<l.length:=by
 rcases agM i l.length with O |O;exact O;rw[agr O]at h;cases h
theorem Mb.lt{w:World}{F:Nat->Prop}{Z:List (Nat×Nat)}{h:ab}(H:bp w F Z h){b:Nat}(m:Mb h Z b):b<w.heap.size:=by
 obtain⟨V,o,n,D,N,P,rfl⟩:=m;exact(H.obj V o n D N (by rw[P];simp)).lt
theorem Av.lt{w:World}{F:Nat->Prop}{Z:List (Nat×Nat)}{h:ab}(H:bp w F Z h){b:Nat}(m:Av F h Z b):b<w.heap.size:=by
 rcases m with m |m;exact H.fin b m;exact Mb.lt H m
structure dH(w w':World):Prop where
 size:w.heap.size<=w'.heap.size
 ba:∀b,b<w.heap.size->w'.heap[b]?=w.heap[b]?
 os:w'.os=w.os
 tape:w'.tape=w.tape
 output:w'.output=w.output
 drawn:NE->w.drawn<=w'.drawn
theorem dH.refl(w:World):dH w w:=⟨agb _,λ_ _=>rfl,rfl,rfl,rfl,λ_=>agb _⟩
theorem dH.trans{a b c:World}(x:dH a b)(y:dH b c):dH a c:=
 ⟨agI x.size y.size,λk g=>(y.ba k (agK g x.size)).trans (x.ba k g),y.os.trans x.os,y.tape.trans x.tape,y.output.trans x.output,λd=>agI (x.drawn d) (y.drawn d)⟩
theorem dH.alloc(w:World)(o:Obj):dH w (w.alloc o):=⟨by simp,λb W=>heap_alloc_old w o b W,rfl,rfl,rfl,λ_=>agb _⟩
theorem dH.drew(w:World):dH w w.drew:=⟨agb _,λ_ _=>rfl,rfl,rfl,rfl,λ_=>ahz _⟩
theorem dH.xa(g:dH w w')(h:ab)(Z:List (Nat×Nat)):eN w h Z w' h Z where
 size:=g.size
 len:=agb _
 ba b hb _:=g.ba b hb
 shr _ _ m:=m
 refs:=FJ.refl h Z
 Ja id o h1 _:=⟨h1,rfl⟩
 os:=g.os
 tape:=g.tape
 output:=g.output
 drawn:=g.drawn
theorem kJ.mono{w w':World}{F:Nat->Prop}{h h':ab}{Z a:List (Nat×Nat)}(s:eN w h Z w' h' a){o:ax}{bc:Nat×Nat}(W:w'.heap[bc.1]?=w.heap[bc.1]?)
  (r:kJ w (Av F h Z) Z h o bc):kJ w' (Av F h' a) a h' o bc:=by
 rcases r with⟨T,Y,O,X,Q,G,d⟩|⟨B,S,u,O,X,Q⟩
 ·refine .inl ⟨T,Y,W.trans O,X,Q,G,λi e q=>⟨(d i e q).1,λj p K=>?_⟩⟩;obtain⟨v,f,A⟩:=(d i e q).2 j p K;exact⟨v,f,A.mono s⟩
 ·refine .inr ⟨B,S,u,W.trans O,X,λi e q=>?_⟩;obtain⟨k,v,m,U,z,g,V⟩:=Q i e q;exact⟨k,v,m,U,z,g.mono s,V.mono s⟩
theorem bp.Cm(H:bp w F Z h)(g:dH w w'):bp w' F Z h where
 len:=H.len
 fin b hb:=agK (H.fin b hb) g.size
 obj id o bc e1 e2 e3:=by
  have r:=H.obj id o bc e1 e2 e3;exact kJ.mono (g.xa h Z) (g.ba _ r.lt) r
 iv:=H.iv
 out:=H.out
 fG:=H.fG.xa (g.xa h Z)
theorem bp.acZ(H:bp w F Z h)(f:Obj)(o:ax)(cap:Nat)
  (d:w'.heap=w.heap.push f) (ho:w'.os=w.os) (ht:w'.tape=w.tape) (hu:w'.output=w.output)
  (hm:o.mu=.m)
  (U:eN w h Z w' (h++[o]) (Z++[(w.heap.size,cap)])->w'.heap[w.heap.size]?=some f->kJ w' (Av F (h++[o]) (Z++[(w.heap.size,cap)])) (Z++[(w.heap.size,cap)]) (h++[o]) o (w.heap.size,cap))
  (X:NE->w.drawn<=w'.drawn:=by first |exact λ_=>agb _ |exact λ_=>ahz _):
  bp w' F (Z++[(w.heap.size,cap)]) (h++[o])/\eN w h Z w' (h++[o]) (Z++[(w.heap.size,cap)]):=by
 have jz:w'.heap.size=w.heap.size+1:=by rw[d];simp
 have v:∀b,b<w.heap.size->w'.heap[b]?=w.heap[b]?:=λb W=>by rw[d,Array.getElem?_push,if_neg yxa]
 have B:w'.heap[w.heap.size]?=some f:=by rw[d];simp
 have K:=H.len
 have i:∀V,V<h.length->(h++[o])[V]?=h[V]?/\(Z++[(w.heap.size,cap)])[V]?=Z[V]?:=λV t=>
  ⟨af8 t,af8 yxa⟩
 have e:(h++[o])[h.length]?=some o/\(Z++[(w.heap.size,cap)])[h.length]?=some (w.heap.size,cap):=by
  constructor
  simp;rw[<-K];simp
 have split:∀V (y:ax) (z:Nat×Nat),(h++[o])[V]?=some y->(Z++[(w.heap.size,cap)])[V]?=some z->
   (V<h.length/\h[V]?=some y/\Z[V]?=some z)\/(V=h.length/\y=o/\z=(w.heap.size,cap)):=by
  intro V y z D N
  by_cases t:V<h.length
  ·left;rw[(i V t).1]at D;rw[(i V t).2]at N;exact⟨t,D,N⟩
  ·right
   have:V<(h++[o]).length:=ag D;obtain rfl:V=h.length:=by simp at this;omega
   rw[e.1]at D;rw[e.2]at N;exact⟨rfl,(af7 D).symm,(af7 N).symm⟩
 have S:eN w h Z w' (h++[o]) (Z++[(w.heap.size,cap)]):=by
  refine⟨by omega,by simp,λb W _=>v b W,?_,?_,?_,ho,ht,hu,X⟩
  ·rintro b W ⟨V,y,z,D,N,P,rfl⟩;rcases split V y z D N with⟨_,R,g⟩|⟨_,rfl,rfl⟩;exact⟨V,y,z,R,g,P,rfl⟩;simp at W
  ·intro V y z D N P
   have t:=ag D;exact⟨y,z,by rw[(i V t).1];exact D,by rw[(i V t).2];exact N,P,⟨agb _,λh=>h⟩,λ_=>⟨rfl,λ_=>rfl,rfl⟩⟩
  ·intro V y D _
   have t:=ag D;exact⟨by rw[(i V t).1];exact D,(i V t).2⟩
 refine⟨⟨by simp[K],λb W=>by have:=H.fin b W;omega,?_,?_,?_,H.fG.xa S⟩,S⟩
 ·intro V y z D N P
  rcases split V y z D N with⟨_,R,g⟩|⟨_,rfl,rfl⟩
  ·have r:=H.obj V y z R g P;exact kJ.mono S (v _ r.lt) r
  exact U S B
 ·intro V a u q G j Q D N P M Y O
  rcases split V u G D P with⟨_,R,g⟩|⟨t,rfl,rfl⟩ <;>rcases split a q j N M with⟨_,n,A⟩|⟨J,rfl,rfl⟩
  exact H.iv V a u q G j Q R n g A Y O
  ·have:=Mb.lt H ⟨V,u,G,R,g,Y,rfl⟩;simp;omega
  ·have:=(H.obj a q j n A O).lt;simp;omega
  omega
 ·intro V y z D N P
  rcases split V y z D N with⟨_,R,g⟩|⟨_,rfl,rfl⟩;exact H.out V y z R g P
  intro hf;have:=H.fin _ hf;simp at this
theorem bp.new(H:bp w F Z h)(T:TypeId)(cs:Array Value)(o:ax)(cap:Nat)
  (b:w'.heap=w.heap.push (.cells cs T)) (f:w'.os=w.os) (a:w'.tape=w.tape) (y:w'.output=w.output)
  (d:o.mu=.m) (h1:o.es.length<=cap) (X:cap * o.bQ<=cs.size) (Q:0<o.bQ)
  (G:∀(i:Nat) (e:PV),o.es[i]?=some e->(cells e).length=o.bQ/\∀(j:Nat) (p:PV),(cells e)[j]?=some p->∃v:Value,cs[i * o.bQ+j]?=some v/\aG w (Av F h Z) Z h v p)
  (J:NE->w.drawn<=w'.drawn:=by first |exact λ_=>agb _ |exact λ_=>ahz _):
  bp w' F (Z++[(w.heap.size,cap)]) (h++[o])/\eN w h Z w' (h++[o]) (Z++[(w.heap.size,cap)]):=
 H.acZ (.cells cs T) o cap b f a y d (λS n=>.inl ⟨T,cs,n,h1,X,Q,λi e q=>⟨(G i e q).1,λj p K=>by
  obtain⟨v,g,A⟩:=(G i e q).2 j p K;exact⟨v,g,A.mono S⟩⟩⟩) J
theorem bp.aaD(H:bp w F Z h):
  bp (w.alloc (.map #[] 0)) F (Z++[(w.heap.size,0)]) (newObj h 0 [])/\eN w h Z (w.alloc (.map #[] 0)) (newObj h 0 []) (Z++[(w.heap.size,0)]):=
 H.acZ (w':=w.alloc (.map #[] 0)) (.map #[] 0) {mu:=.m,ep:=0,bQ:=0,es:=[]} 0 rfl rfl rfl rfl rfl (λS n=>.inr ⟨rfl,#[],0,n,rfl,λi e q=>by simp at q⟩)
theorem bp.ac0(H:bp w F Z h)(d:h[V]?=some o)(X:Z[V]?=some bc)(n:o.mu=.m)
  (U:List PV) (a:Nat) (z:Nat×Nat)
  (jz:w.heap.size<=w'.heap.size) (uJ:∀b,b<w.heap.size->b≠bc.1->w'.heap[b]?=w.heap[b]?)
  (R:(z=bc/\(o.ep=a->U.length=o.es.length\/o.bQ=0))\/(w.heap.size<=z.1/\o.ep<a))
  (v:o.ep<=a) (ho:w'.os=w.os) (ht:w'.tape=w.tape) (hu:w'.output=w.output)
  (hR:eN w h Z w' (h.set V {o with es:=U,ep:=a}) (Z.set V z)->kJ w' (Av F (h.set V {o with es:=U,ep:=a}) (Z.set V z)) (Z.set V z) (h.set V {o with es:=U,ep:=a}) {o with es:=U,ep:=a} z)
  (hd:NE->w.drawn<=w'.drawn:=by first |exact λ_=>agb _ |exact λ_=>ahz _):
  bp w' F (Z.set V z) (h.set V {o with es:=U,ep:=a})/\eN w h Z w' (h.set V {o with es:=U,ep:=a}) (Z.set V z):=by
 have K:=H.len;have bL:=ag d;have afH:bc.1<w.heap.size:=Mb.lt H ⟨V,o,bc,d,X,n,rfl⟩;have pT:(h.set V {o with es:=U,ep:=a})[V]?=some {o with es:=U,ep:=a}:=by simp[bL]
 have A:(Z.set V z)[V]?=some z:=by simp[K,bL]
 have i:∀k,k≠V->(h.set V {o with es:=U,ep:=a})[k]?=h[k]?:=λk g=>aga (agV g)
 have j:∀k,k≠V->(Z.set V z)[k]?=Z[k]?:=λk g=>aga (agV g)
 have S:eN w h Z w' (h.set V {o with es:=U,ep:=a}) (Z.set V z):=by
  refine⟨jz,by simp,λb W hm=>uJ b W (λe=>hm ⟨V,o,bc,d,X,n,e.symm⟩),?_,?_,?_,ho,ht,hu,hd⟩
  ·rintro b W ⟨k,y,f,D,N,P,rfl⟩
   by_cases g:k=V
   ·subst g;rw[A]at N;obtain rfl:=af7 N;rcases R with⟨rfl,_⟩|⟨t,_⟩;exact⟨k,o,z,d,X,n,rfl⟩;omega
   ·rw[i k g]at D;rw[j k g]at N;exact⟨k,y,f,D,N,P,rfl⟩
  ·intro k y f D N P
   by_cases g:k=V
   ·subst g;rw[d]at D;rw[X]at N;obtain rfl:=af7 D;obtain rfl:=af7 N;refine⟨_,z,pT,A,by rw[n];simp,⟨v,λh=>h⟩,λe=>⟨rfl,?_,?_⟩⟩
    ·intro hz
     rcases R with⟨_,J⟩|⟨_,cK⟩;exact(J e).resolve_right yxa;simp at e;omega
    ·rcases R with⟨J,_⟩|⟨_,cK⟩
     ·exact J
     ·simp at e;omega
   exact⟨y,f,by rw[i k g];exact D,by rw[j k g];exact N,P,⟨agb _,λh=>h⟩,λ_=>⟨rfl,λ_=>rfl,rfl⟩⟩
  ·intro k y D N
   have g:k≠V:=by
    rintro rfl;rw[d]at D;obtain rfl:=af7 D;exact N n
   exact⟨by rw[i k g];exact D,j k g⟩
 refine⟨⟨by simp[K],λb W=>agK (H.fin b W) jz,?_,?_,?_,H.fG.xa S⟩,S⟩
 ·intro k y f D N P
  by_cases g:k=V
  ·subst g;rw[pT]at D;rw[A]at N;obtain rfl:=af7 D;obtain rfl:=af7 N;exact hR S
  ·rw[i k g]at D;rw[j k g]at N;have r:=H.obj k y f D N P;exact kJ.mono S (uJ _ r.lt (λe=>H.iv V k o y bc f (agV g) d D X N n P e.symm)) r
 ·intro k B o1 o2 G u Q D N P M Y O
  by_cases g:k=V
  ·subst g;have q:B≠k:=agV Q;rw[i B q]at N;rw[j B q]at M;rw[A]at P;obtain rfl:=af7 P;rcases R with⟨rfl,_⟩|⟨t,_⟩;exact H.iv k B o o2 z u Q d N X M n O
   ·have:=(H.obj B o2 u N M O).lt;omega
  ·rw[i k g]at D;rw[j k g]at P
   by_cases q:B=V
   ·subst q;rw[A]at M;obtain rfl:=af7 M;rcases R with⟨rfl,_⟩|⟨t,_⟩;exact λe=>H.iv B k o o1 z G (agV Q) d D X P n (by rw[Y];simp) e.symm
    ·have:=Mb.lt H ⟨k,o1,G,D,P,Y,rfl⟩;omega
   ·rw[i B q]at N;rw[j B q]at M;exact H.iv k B o1 o2 G u Q D N P M Y O
 ·intro k y f D N P
  by_cases g:k=V
  ·subst g;rw[A]at N;obtain rfl:=af7 N;rcases R with⟨rfl,_⟩|⟨t,_⟩;exact H.out k o z d X (.inl n)
   intro hf;have:=H.fin _ hf;omega
  ·rw[i k g]at D;rw[j k g]at N;exact H.out k y f D N P
theorem bp.set{w w':World}{F:Nat->Prop}{Z:List (Nat×Nat)}{h:ab}(H:bp w F Z h){V:Nat}{o:ax}{bc:Nat×Nat}(g:h[V]?=some o)(X:Z[V]?=some bc)(n:o.mu=.m)
  (T:TypeId) (cs:Array Value) (U:List PV) (P:Nat) (z:Nat×Nat)
  (D:w.heap.size<=w'.heap.size) (Q:w'.heap[z.1]?=some (.cells cs T (0,0))) (N:∀b,b<w.heap.size->b≠bc.1->w'.heap[b]?=w.heap[b]?)
  (R:(z=bc/\(o.ep=P->U.length=o.es.length))\/(w.heap.size<=z.1/\o.ep<P))
  (t:o.ep<=P) (u:w'.os=w.os) (y:w'.tape=w.tape) (A:w'.output=w.output)
  (h1:U.length<=z.2) (f:z.2 * o.bQ<=cs.size)
  (G:∀(i:Nat) (e:PV),U[i]?=some e->(cells e).length=o.bQ/\∀(j:Nat) (p:PV),(cells e)[j]?=some p->∃v:Value,cs[i * o.bQ+j]?=some v/\aG w (Av F h Z) Z h v p)
  (J:NE->w.drawn<=w'.drawn:=by first |exact λ_=>agb _ |exact λ_=>ahz _) (a:0<o.bQ:=by first |assumption |omega):
  bp w' F (Z.set V z) (h.set V {o with es:=U,ep:=P})/\eN w h Z w' (h.set V {o with es:=U,ep:=P}) (Z.set V z):=by
 have d:0<o.bQ:=a
 exact H.ac0 g X n U P z D N (R.imp (λh=>⟨h.1,λe=>.inl (h.2 e)⟩) (λh=>h)) t u y A (λS=>.inl ⟨T,cs,Q,h1,f,d,λi e q=>⟨(G i e q).1,λj p K=>by
  obtain⟨v,B,M⟩:=(G i e q).2 j p K;exact⟨v,B,M.mono S⟩⟩⟩) J
theorem bp.zm(H:bp w F Z h)(M:0<sz:=by first |assumption |omega):
  aG w' A (Z++[(b,cap)]) (newObj h sz es) (.slice (some ⟨b,0,none⟩) len cap) (.an h.length 0 0 len):=
 .an _ _ _ _ _ {mu:=.m,ep:=0,bQ:=sz,es} (b,cap) ⟨_,_,_,rfl⟩ (by simp[newObj]) (by rw[<-H.len];simp) yxb ⟨ag7 _,M⟩ (λ_ _=>⟨cap,by simp,by simp⟩)
theorem bp.aaF(H:bp w F Z h)(M:0<sz:=by first |assumption |omega):
  aG w' A (Z++[(b,cap)]) (newObj h sz es) (.pointer (some ⟨b,0,none⟩)) (.ptr h.length 0 0 0):=
 .ptr _ _ _ _ _ {mu:=.m,ep:=0,bQ:=sz,es} (b,cap) ⟨_,rfl⟩ (by simp[newObj]) (by rw[<-H.len];simp) yxb ⟨ag7 _,M⟩ (λ_=>by simp)
theorem bp.Md(H:bp w F Z h)(g:h[V]?=some o)(n:o.mu=.m)(M:0<o.bQ:=by first |assumption |omega):
  aG w' A (Z.set V (b,cap)) (h.set V {o with es:=es,ep:=ep}) (.slice (some ⟨b,0,none⟩) len cap) (.an V ep 0 len):=
 .an _ _ _ _ _ {o with es:=es,ep:=ep} (b,cap) ⟨_,_,_,rfl⟩ (by simp[ag g]) (by simp[H.len,ag g]) (by simp[n]) ⟨agb _,M⟩ (λ_ _=>⟨cap,by simp,by simp⟩)
def EP(P:Program)(lv:Nat)(w:World)(F:Nat->Prop)(Z:List (Nat×Nat))(h:ab)(s:Sem Value)(p:PV)(h':ab):Prop:=
 ∃v X q,s.run P w=.ok v X/\aG X (Av F h' q) q h' v p/\bp X F q h'/\eN w h Z X h' q/\(lv<=1->dH w X)
theorem EP.still{P:Program}(H:bp w F Z h){s:Sem Value}{v:Value}(e:s.run P w=.ok v w)(r:aG w (Av F h Z) Z h v p):
  EP P lv w F Z h s p h:=⟨v,w,Z,e,r,H,eN.refl w h Z,λ_=>dH.refl w⟩
variable{P:Program}{w:World}{F:Nat->Prop}{Z:List (Nat×Nat)}{h:ab}
theorem db{t:TypeId}{n:Nat}(e:dF P t=some n)(w:World):(sizeOf t).run P w=.ok n w:=by
 unfold dF at e
 cases B:P.info? t with
 |none=>rw[B]at e;simp at e
 |some i=>rw[B]at e;simp at e;subst e;simp[sizeOf,typeInfo,B]
theorem bV{t:TypeId}{d:TypeDesc}(e:P.underlying t=some d)(w:World):(underlying t).run P w=.ok d w:=by simp[underlying,e]
theorem wz{t:TypeId}{b:Bool}(e:Nn P t=some b)(w:World):(isAgg t).run P w=.ok b w:=by
 unfold Nn at e
 cases y:P.underlying t with
 |none=>rw[y]at e;simp at e
 |some d=>
  rw[y]at e;simp at e;subst e;simp only[isAgg,Sem.run_bind,bV y,Result.andThen_ok]
  split <;>rename_i h <;>simp_all
theorem MK(w:World)(A:Nat->Prop)(Z:List (Nat×Nat))(h:ab)(v:Value):aG w A Z h v (cv0 v):=by
 unfold cv0
 split
 exact .val (.int _ _);exact .val (.bool _);exact .val (.str _);exact .val (.gJ none 0 true (λ_=>rfl));exact .val .ji;exact .val .mM;exact .val .jD;exact .any _
theorem Kv(w:World)(A:Nat->Prop)(Z:List (Nat×Nat))(h:ab)(v:Value):aG w A Z h v (cv v):=by
 unfold cv
 split
 ·rename_i Y
  have:=aG.agg (w:=w) (A:=A) (Z:=Z) (h:=h) Y.toList (Y.toList.map cv0) yxb (λj M=>by
   have n:j<Y.toList.length:=by simpa using M
   simp only[List.getD,agt];rw[agd n];simpa using MK w A Z h _)
  simpa using this
 exact MK w A Z h _
theorem xQ{t:TypeId}(e:jN P t=some z)(w:World)(A:Nat->Prop)(Z:List (Nat×Nat))(h:ab):∃v,(zeroValue t).run P w=.ok v w/\aG w A Z h v z:=by
 unfold jN at e
 cases B:P.info? t with
 |none=>rw[B]at e;simp at e
 |some i=>
  rw[B]at e;simp only[aix]at e
  cases M:i.zero with
  |none=>rw[M]at e;simp at e
  |some v=>
   rw[M]at e;simp at e;subst e;exact⟨v,by simp[zeroValue,typeInfo,B,M],Kv w A Z h v⟩
theorem aG.cells{A:Nat->Prop}{v:Value}{p:PV}(J:aG w A Z h v p)(K:(Pm.cells p).all bP=true):
  v.cells.size=(Pm.cells p).length/\(∀(j:Nat) (q:PV),(Pm.cells p)[j]?=some q->∃u:Value,v.cells[j]?=some u/\aG w A Z h u q/\u.oneCell'=true):=by
 have V:∀(u:Value) (q:PV),aG w A Z h u q->bP q=true->u.oneCell'=true/\u.cells= #[u]:=by
  intro u q r f
  cases r with
  |val S=>cases S <;>first |exact⟨rfl,rfl⟩|simp[bP]at f
  |undef=>simp[bP]at f
  |any=>simp[bP]at f
  |an v d g U F o n B=>obtain⟨a,l,c,rfl⟩:=B;exact⟨rfl,rfl⟩
  |ptr v d g i U o n B=>obtain⟨a,rfl⟩:=B;exact⟨rfl,rfl⟩
  |cq v d o n B=>obtain⟨a,rfl⟩:=B;exact⟨rfl,rfl⟩
  |agg=>simp[bP]at f
  |b8=>simp[bP]at f
  |fn=>exact⟨rfl,rfl⟩
  |pK=>exact⟨rfl,rfl⟩
 have b:(∀Y,p≠.agg Y)->v.cells.size=(Pm.cells p).length/\(∀(j:Nat) (q:PV),(Pm.cells p)[j]?=some q->∃u:Value,v.cells[j]?=some u/\aG w A Z h u q/\u.oneCell'=true):=by
  intro P
  have G:Pm.cells p=[p]:=by cases p <;>first |rfl |exact absurd rfl (P _)
  rw[G]at K ⊢;obtain⟨O,X⟩:=V v p J (by simpa using K);rw[X];refine⟨rfl,λj q y=>?_⟩
  cases j with
  |zero=>simp at y;subst y;exact⟨v,rfl,J,O⟩
  |succ j=>simp at y
 cases p with
 |agg Y=>
  obtain⟨W,rfl,t,z⟩:=J.lS;refine⟨by simpa[Value.cells,Pm.cells]using t,λj q y=>?_⟩;have e:Y[j]?=some q:=y;have M:=ag e;have R:j<W.length:=yxa
  have H:=z j M;have D:W.getD j Go.undef=W[j]:=by simp[List.getD,R]
  have N:Y.getD j .any=q:=by simp[List.getD,e]
  rw[D,N]at H;have f:bP q=true:=af9.1 K q (agq e);exact⟨W[j],by simp[Value.cells,R],H,(V _ _ H f).1⟩
 |_=>exact b (λY=>by simp)
theorem DD(H:bp w F Z h){v:Value}(J:aG w (Av F h Z) Z h v p)(e:dP h p=some cs):
  ∃b off,(cs≠[]->v=.pointer (some ⟨b,off,none⟩))/\∀(j:Nat) (q:PV),cs[j]?=some q->∃u:Value,w.cell? ⟨b,off+j,none⟩=some u/\aG w (Av F h Z) Z h u q:=by
 unfold dP at e
 split at e
 ·rename_i B
  obtain rfl:=af7 e;have S:=J.wL
  cases S with
  |eX b off _ K O X Q G=>
   refine⟨b,off,λ_=>rfl,λj q y=>?_⟩;have M:=ag y;refine⟨K j,Q j M,?_⟩;have:=G j M;rw[agA,y]at this;exact .val this
 ·rename_i V A i off
  split at e
  ·rename_i o f
   obtain⟨D,N,P⟩:=getM_some f
   split at e
   ·rename_i d a
    obtain rfl:=af7 e;obtain⟨n,W⟩:=fh H.len D;obtain⟨O,X,Q⟩:=J.vu;have:=Q o n D W P N;obtain⟨T,cs,g,R,U,k4,t⟩:=(H.obj V o n D W P).c (X o D).2;refine⟨n.1,i * o.bQ+off,λ_=>this,λj q y=>?_⟩;rw[agP]at y;obtain⟨u,Y,z⟩:=(t i d a).2 (off+j) q y;refine⟨u,?_,z⟩;rw[cell_of_row w n.1 _ cs T (0,0) g,ahM];exact Y
   cases e
  cases e
 cases e
theorem fu(b off n:Nat):(⟨b,off,none⟩:Addr).add n=⟨b,off+n,none⟩:=by unfold Addr.add;split <;>simp_all
theorem Bc(w:World)(b off n:Nat)(R:Nat->Value->Prop)(G:∀j,j<n->∃u,w.cell? ⟨b,off+j,none⟩=some u/\R j u):
  ∃vs:List Value,vs.length=n/\(loadCells ⟨b,off,none⟩ n).run P w=.ok vs.toArray w/\∀j,j<n->R j (vs.getD j undef):=by
 obtain⟨vs,A,z⟩:=sw n G;refine⟨vs,A,?_,λj M=>(z j M).2⟩
 have:=run_loadCells_list (P:=P) (w:=w) ⟨b,off,none⟩ vs (λj v J=>by
  have M:=ag J;rw[fu];have:=(z j yxa).1;rwa[agA,J]at this)
 rwa[A]at this
theorem HN(H:bp w F Z h){v:Value}{t:TypeId}(J:aG w (Av F h Z) Z h v p)(e:jO P h t p=some q):
  ∃u,(Instr.loadAt t v).run P w=.ok u w/\aG w (Av F h Z) Z h u q:=by
 unfold jO at e
 split at e
 ·rename_i g Y i X Q
  split at e
  ·rename_i a
   obtain rfl:=af7 e;obtain⟨b,U,f,A⟩:=DD H J Q
   by_cases z:Y=[]
   subst z;simp at a;omega
   ·have a:=a.2;rw[f z]
    obtain⟨W,y,B,D⟩:=Bc (P:=P) w b U g (λj u=>aG w (Av F h Z) Z h u (Y.getD j .any)) (λj M=>by
     have n:j<Y.length:=yxa
     obtain⟨u,d,O⟩:=A j Y[j] (agd n);exact⟨u,d,by simpa[List.getD,n]using O⟩)
    refine⟨.agg W.toArray,?_,?_⟩;simp only[Instr.loadAt,Instr.sureAddr,Sem.run_bind,Sem.run_pure,Result.andThen_ok,loadVar,wz X,db i,B,if_true]
    ·refine .agg W _ yxd (λj M=>?_);simp at M;have:=D j yxa;simpa[List.getD,agy,show j<g by omega]using this
  cases e
 ·rename_i g Y i X Q
  obtain⟨b,U,f,A⟩:=DD H J Q
  cases Y with
  |nil=>simp at e
  |cons c r=>
   simp at e;subst e;obtain⟨u,d,O⟩:=A 0 c rfl;rw[f yxb];refine⟨u,?_,O⟩;simp only[Instr.loadAt,Instr.sureAddr,Sem.run_bind,Sem.run_pure,Result.andThen_ok,loadVar,wz X,agn,if_false,run_load];rw[show(⟨b,U,none⟩:Addr)=⟨b,U+0,none⟩ by simp,d]
 cases e
theorem wN{s:TypeId}{F:TypeId}(e:rM P s f=some (off,F))(a:Addr)(w:World):
  (Instr.fieldAt s (.pointer (some a)) f).run P w=.ok (.pointer (some (a.add off))) w:=by
 unfold rM at e
 split at e
 ·rename_i V y
  split at e
  ·rename_i n u
   split at e
   ·rename_i q S
    split at e
    cases e
    ·rename_i M
     simp at e;obtain⟨rfl,rfl⟩:=e;simp[Instr.fieldAt,bV y,u,Instr.sureAddr,fieldPlace,db S,M]
   cases e
  cases e
 cases e
theorem Cz(H:bp w F Z h){v:Value}{s:TypeId}(J:aG w (Av F h Z) Z h v p)(e:iu P s p f=some q):
  ∃u,(Instr.fieldAt s v f).run P w=.ok u w/\aG w (Av F h Z) Z h u q:=by
 unfold iu at e
 split at e
 ·rename_i U t Y O
  split at e
  ·rename_i N
   obtain rfl:=af7 e;have S:=J.wL
   cases S with
   |eX b o _ K d A Q B=>
    refine⟨_,wN O _ w,?_⟩;rw[fu];refine .val (.eX b (o+U) _ (λj=>K (U+j)) ?_ A (λj M=>?_) (λj M=>?_))
    ·intro z
     have:=congrArg List.length z;simp at this;omega
    ·simp at M;have:=Q (U+j) yxa;rwa[<-ahM]at this
    ·simp at M;have:=B (U+j) yxa;simpa[List.getD,agP]using this
  cases e
 ·rename_i U t V g i o O
  obtain rfl:=af7 e
  cases J with
  |val S=>cases S
  |ptr _ _ _ _ _ G n y d A Q B D=>
   obtain⟨a,rfl⟩:=y;refine⟨_,wN O _ w,.ptr _ V g i (o+U) G n ⟨_,rfl⟩ d A Q B (λR=>?_)⟩;have:=D R;simp at this;rw[this,fu,ahM]
 cases e
theorem aG.part{A:Nat->Prop}{v:Value}{cs:List PV}(J:aG w A Z h v (.agg cs)){t:TypeId}{off:Nat}{q:PV}(e:zC P t cs off=some q):
  ∃vs:Array Value,v=.agg vs/\∃u,(part t vs off).run P w=.ok u w/\aG w A Z h u q:=by
 obtain⟨vs,rfl,d,z⟩:=J.lS;refine⟨vs.toArray,rfl,?_⟩;unfold zC at e
 split at e
 ·rename_i a O X
  split at e
  ·rename_i b
   obtain rfl:=af7 e;refine⟨.agg ((vs.drop off).take a).toArray,?_,.agg _ _ yxd (λj M=>?_)⟩
   ·simp only[Go.part,Sem.run_bind,wz O,db X,Result.andThen_ok,if_true,Sem.run_pure]
    congr 2
    apply ahH;simp[List.extract_eq_take_drop]
   ·simp at M;have:=z (off+j) yxa;simpa[List.getD,agy,agP,show j<a by omega]using this
  cases e
 ·rename_i a O X
  split at e
  ·rename_i c G
   obtain rfl:=af7 e;have M:=ag G;have:=z off M;refine⟨vs[off]' yxa,?_,?_⟩;simp[Go.part,wz O,show off<vs.length by omega];simpa[List.getD,G,show off<vs.length by omega]using this
  cases e
 cases e
theorem OL{v:Value}{s:TypeId}(J:aG w A Z h v p)(e:Ef P s p f=some q):
  ∃u,(Instr.field s v f).run P w=.ok u w/\aG w A Z h u q:=by
 unfold Ef at e
 split at e
 ·rename_i V Y y
  split at e
  ·rename_i n a
   obtain⟨W,rfl,u,O,X⟩:=J.part e;exact⟨u,by simp[Instr.field,bV y,asAgg,a,O],X⟩
  cases e
 cases e
theorem OM{v V:Value}{i:PV}{t:TypeId}(J:aG w A Z h v p)(B:aG w A Z h V i)(e:zD P t p i=some q):
  ∃u,(Instr.index t v V).run P w=.ok u w/\aG w A Z h u q:=by
 unfold zD at e
 split at e
 ·rename_i n d Y k i y
  obtain rfl:=B.dO
  split at e
  ·rename_i a S
   split at e
   ·rename_i G
    obtain⟨f,rfl,u,O,X⟩:=J.part e;exact⟨u,by simp[Instr.index,asIntOf,bV y,G,db S,O],X⟩
   cases e
  cases e
 ·rename_i s k i y
  obtain rfl:=B.dO;obtain rfl:=J.jB
  split at e
  ·rename_i G
   split at e
   ·rename_i b W
    obtain rfl:=af7 e;exact⟨_,by simp[Instr.index,asIntOf,bV y,G,W],.val (.int _ _)⟩
   cases e
  cases e
 cases e
theorem cd.iC{v:Value}{full:Bool}(J:cd w A v (.aa full es)):∃a cap,v=.slice a es.length cap/\es.length<=cap/\(full=true->cap=es.length):=by
 cases J with
 |gJ a cap _ u=>exact⟨a,cap,rfl,ag7 _,u⟩
 |aa b U cap q _ _ K O X Q=>exact⟨_,cap,rfl,X,Q⟩
theorem CA(H:bp w F Z h){v vi:Value}{i:PV}{t:TypeId}(J:aG w (Av F h Z) Z h v p)(z:aG w (Av F h Z) Z h vi i)(e:cT P h t p i=some q):
  ∃u,(Instr.indexAt t v vi).run P w=.ok u w/\aG w (Av F h Z) Z h u q:=by
 unfold cT at e
 split at e
 ·rename_i N full es k i y
  obtain rfl:=z.dO
  split at e
  ·rename_i d S
   split at e
   ·rename_i G
    split at e
    ·rename_i x V
     split at e
     ·rename_i X
      obtain rfl:=af7 e;have g:=ag V;have W:=J.fI
      cases W with
      |gJ=>simp at g
      |aa b U K LK _ _ qw k1 A Q B k5 k6 k7 k8=>
       have jz:LK=d:=by
        have:=k6 i.toNat g;rw[agA,V]at this;exact this.symm.trans X.2
       subst jz;refine⟨.pointer (some ⟨b,U+i.toNat * LK,none⟩),?_,.val (.eX b _ _ (qw i.toNat) ?_ B (λj M=>?_) (λj M=>?_))⟩;simp[Instr.indexAt,asIntOf,bV y,G,db S,fu]
       intro R;rw[R]at X;simp at X;omega
       rw[ahM];exact k7 _ j g yxa
       ·have:=k8 i.toNat j g yxa;rwa[agA (l:=es),V]at this
     cases e
    cases e
   cases e
  cases e
 ·rename_i N Y O U len k i y
  obtain rfl:=z.dO
  split at e
  ·rename_i d o S ho
   split at e
   ·rename_i G
    obtain rfl:=af7 e;obtain⟨D,e2,e3⟩:=getM_some ho;obtain⟨f,hb⟩:=fh H.len D;obtain⟨h1,h2,h3⟩:=J.eC;obtain⟨K,rfl,A⟩:=h3 o f D hb e3 e2 G.2.2.2;obtain⟨V1,Ae,rfl,hc4⟩:=G;refine⟨.pointer (some ⟨f.1,U * o.bQ+i.toNat * o.bQ,none⟩),?_,.ptr _ Y O _ 0 o f ⟨_,rfl⟩ D hb e3 (h2 o D) (λn4=>?_)⟩;simp[Instr.indexAt,asIntOf,bV y,V1,Ae,db S,fu];rw[ag0];simp
   cases e
  cases e
 ·rename_i n N cs k i y
  obtain rfl:=z.dO
  split at e
  ·rename_i d S
   split at e
   ·rename_i G
    obtain rfl:=af7 e;have W:=J.wL
    cases W with
    |eX b U _ qw k1 A Q B=>
     refine⟨.pointer (some ⟨b,U+i.toNat * d,none⟩),?_,.val (.eX b _ _ (λj=>qw (i.toNat * d+j)) ?_ A (λj M=>?_) (λj M=>?_))⟩;simp[Instr.indexAt,asIntOf,bV y,G.1,G.2.1,db S,fu,Instr.sureAddr]
     ·intro R
      have:=congrArg List.length R;simp at this;omega
     ·simp at M;have:=Q (i.toNat * d+j) yxa;rwa[<-ahM]at this
     ·simp at M;have:=B (i.toNat * d+j) yxa;simpa[List.getD,agP]using this
   cases e
  cases e
 ·rename_i n N Y O kk o k i y
  obtain rfl:=z.dO
  split at e
  ·rename_i d S
   split at e
   ·rename_i G
    obtain rfl:=af7 e
    cases J with
    |val S=>cases S
    |ptr _ _ _ _ _ oo f h0 k1 A Q B k5=>
     obtain⟨a,rfl⟩:=h0;refine⟨.pointer (some (a.add (i.toNat * d))),?_,.ptr _ Y O kk _ oo f ⟨_,rfl⟩ k1 A Q B (λn4=>?_)⟩;simp[Instr.indexAt,asIntOf,bV y,G.1,G.2,db S,Instr.sureAddr]
     ·have:=k5 n4;simp at this;rw[this,fu,ahM]
   cases e
  cases e
 cases e
theorem Dx(e:xi h V=some o):h[V]?=some o/\o.ep=0/\o.mu≠.x/\o.bQ=0:=by
 unfold xi at e
 split at e
 ·rename_i y f
  split at e
  ·rename_i M
   obtain rfl:=af7 e;obtain⟨O,X,Q⟩:=getM_some f;exact⟨O,X,Q,M⟩
  cases e
 cases e
theorem SJ(H:bp w F Z h){v:Value}(J:aG w (Av F h Z) Z h v (.cq V))(f:xi h V=some o):
  ∃(bc:Nat×Nat) (es:Array MapEntry) (u:Nat),v=.map (some bc.1)/\w.heap[bc.1]?=some (.map es u)/\es.size=o.es.length/\
   (∀(i:Nat) (e:PV),o.es[i]?=some e->∃(k v:PV) (m:MapEntry),e=.agg [k,v]/\es[i]?=some m/\aG w (Av F h Z) Z h m.key k/\aG w (Av F h Z) Z h m.val v):=by
 obtain⟨D,N,P,M⟩:=Dx f;obtain⟨bc,W⟩:=fh H.len D;obtain⟨_,es,u,a,A,Q⟩:=(H.obj V o bc D W P).m M;exact⟨bc,es,u,J.Hx D W N,a,A,Q⟩
theorem og{u:Nat}{es:Array MapEntry}(e:w.heap[b]?=some (.map es u)):(getObj b).run P w=.ok (.map es u) w:=by simp[getObj,Sem.run,e]
theorem WB(H:bp w F Z h){v:Value}{t:TypeId}{ts:Array TypeId}{ty:TypeId}{rest:List Value}(b:ts[0]?=some t)(J:aG w (Av F h Z) Z h v p)(e:qz P h t p=some q):
  (∃u,(Builtin.len_ ts ty (v::rest).toArray).run P w=.ok u w/\aG w (Av F h Z) Z h u q):=by
 unfold qz at e
 split at e
 ·rename_i s y
  obtain rfl:=af7 e;obtain rfl:=J.jB;exact⟨_,by simp[Builtin.len_,b,bV y,goInt],.val (.int _ _)⟩
 ·rename_i n z y
  obtain rfl:=af7 e;refine⟨_,?_,.val (.int _ _)⟩
  cases v <;>simp[Builtin.len_,b,bV y,goInt]
 ·rename_i z A S y
  obtain rfl:=af7 e;obtain⟨a,j,rfl,_⟩:=J.fI.iC;exact⟨_,by simp[Builtin.len_,b,bV y,goInt],.val (.int _ _)⟩
 ·rename_i y
  obtain rfl:=af7 e;obtain rfl:=J.Hv;exact⟨_,by simp[Builtin.len_,b,bV y,goInt],.val (.int _ _)⟩
 ·rename_i kt X V y
  split at e
  ·rename_i o g
   obtain rfl:=af7 e;obtain⟨i,S,d,M,B,O,k4⟩:=SJ H J g;subst M;exact⟨_,by simp[Builtin.len_,b,bV y,goInt,og B,O],.val (.int _ _)⟩
  cases e
 ·rename_i z V R U K y
  split at e
  ·rename_i o g
   split at e
   ·rename_i f
    obtain rfl:=af7 e;obtain⟨D,N,G⟩:=getM_some g;obtain⟨i,W⟩:=fh H.len D;obtain⟨Y,h2,Q⟩:=J.eC;obtain⟨j,rfl,B⟩:=Q o i D W G N f;exact⟨_,by simp[Builtin.len_,b,bV y,goInt],.val (.int _ _)⟩
   cases e
  cases e
 cases e
theorem iJ{v:Type}(l m:List v)(a k:Nat)(A:a+m.length<=l.length):
  (l.take a++m++l.drop (a+m.length))[k]?=if k<a then l[k]? else if k<a+m.length then m[k - a]? else l[k]?:=by
 by_cases O:k<a
 rw[if_pos O,ags,af8 yxd,agy,if_pos O]
 ·rw[if_neg O]
  by_cases X:k<a+m.length
  ·rw[if_pos X,ags,agl yxd];have:(List.take a l).length=a:=by simp;omega
   rw[this,af8 yxa]
  ·rw[if_neg X,agl yxd,agP]
   congr 1
   simp;omega
theorem Fg(off sz:Nat)(e v:PV)(J:(Pm.cells v).length=sz):Pm.cells (gw off sz e v)=(Pm.cells e).take off++Pm.cells v++(Pm.cells e).drop (off+sz):=by
 unfold gw
 split
 ·rename_i G
  obtain⟨rfl,X⟩:=G;simp[X]
 rfl
theorem mD{s:Nat}(h:i<k):i * s+s<=k * s:=by
 have:=agR s (show i+1<=k from h);rwa[ag0,Nat.one_mul]at this
theorem abf{u:Value}(r:aG w A Z h u q)(f:bP q=true):u.oneCell'=true:=by
 cases r with
 |val S=>cases S <;>first |rfl |simp[bP]at f
 |undef=>simp[bP]at f
 |any=>simp[bP]at f
 |an v V g U K o n B=>obtain⟨a,l,c,rfl⟩:=B;rfl
 |ptr v V g i U o n B=>obtain⟨a,rfl⟩:=B;rfl
 |cq v V o n B=>obtain⟨a,rfl⟩:=B;rfl
 |agg=>simp[bP]at f
 |b8=>simp[bP]at f
 |fn=>rfl
 |pK=>rfl
theorem ON(H:bp w F Z h){v:Value}{t:TypeId}(hv:aG w (Av F h Z) Z h v p)(hx:aG w (Av F h Z) Z h R x)(e:jc P h t p x=some h'):
  ∃w' Z',(Instr.storeAt t v R).run P w=.ok () w'/\bp w' F Z' h'/\eN w h Z w' h' Z':=by
 unfold jc at e
 split at e
 ·rename_i V ep i U B hs
  split at e
  ·rename_i o ho
   split at e
   ·rename_i el cL
    split at e
    ·rename_i hc
     obtain⟨c1,z,c3,c4⟩:=hc;obtain rfl:=af7 e;obtain⟨D,e2,e3⟩:=getM_some ho;obtain⟨n,W⟩:=fh H.len D;obtain⟨h1,h2,h3⟩:=hv.vu;obtain rfl:=h3 o n D W e3 e2;obtain⟨T,Y,k1,k2,k3,k4,k5⟩:=(H.obj V o n D W e3).c (h2 o D).2;obtain⟨x1,x2⟩:=hx.cells c3;have hi:=ag cL;have vN:=k5 i el cL;have IX:i * o.bQ+o.bQ<=Y.size:=agI (mD hi) (agI (agR _ k2) k3);have mH:i * o.bQ+U+0+R.cells.toList.length<=Y.size:=by simp[x1,z];omega
     have qx:=run_storeCells_at P n.1 (i * o.bQ+U) T R.cells.toList 0 Y w k1 mH (λu hu=>by
      obtain⟨j,Q⟩:=ahB hu;have S:=ag Q;simp only[ahl]at S;obtain⟨u',a,O,m3⟩:=x2 j (Pm.cells x)[j] (agd yxa);have:R.cells[j]?=some u:=by simpa using Q
      rw[a]at this;obtain rfl:=af7 this;exact m3)
     simp only[ahJ]at qx;have K:R.cells.toList.length=B:=by simp[x1,z]
     rw[K]at qx;refine⟨w.setRow n.1 (Y.toList.take (i * o.bQ+U)++R.cells.toList++Y.toList.drop (i * o.bQ+U+B)).toArray,Z,?_,?_⟩
     ·simp only[Instr.storeAt,Instr.sureAddr,Sem.run_bind,Sem.run_pure,Result.andThen_ok,storeVar,db hs];rw[if_neg (by simp[x1,z])];exact qx
     ·have hZ:Z=Z.set V n:=by
       apply agZ
       intro k
       by_cases hk:k=V
       subst hk;rw[agc (by have:=H.len;have:=ag D;omega)];exact W;rw[aga (agV hk)]
      have:=bp.set H D W c1 (w':=w.setRow n.1 (Y.toList.take (i * o.bQ+U)++R.cells.toList++Y.toList.drop (i * o.bQ+U+B)).toArray) T
       (Y.toList.take (i * o.bQ+U)++R.cells.toList++Y.toList.drop (i * o.bQ+U+B)).toArray (o.es.set i (gw U B el x)) o.ep n yxb
       (setRow_heap w n.1 Y _ T (0,0) k1) (λb W bD=>setRow_other w n.1 b _ bD) (.inl ⟨rfl,λ_=>by simp⟩) (agb _) rfl rfl rfl (by simpa using k2)
       yxd (λf e' d=>?_)
      ·rw[<-hZ]at this;exact this
      ·by_cases g:f=i
       ·subst g;rw[agc hi]at d;obtain rfl:=af7 d;rw[Fg _ _ _ _ z];refine⟨by simp[z,vN.1];omega,λj q y=>?_⟩;have M:=z.symm;subst M;rw[iJ _ _ _ _ yxa]at y
        have X:(Y.toList.take (f * o.bQ+U)++R.cells.toList++Y.toList.drop (f * o.bQ+U+(Pm.cells x).length)).toArray[f * o.bQ+j]?=if j<U then Y[f * o.bQ+j]? else if j<U+(Pm.cells x).length then R.cells[j - U]? else Y[f * o.bQ+j]?:=by
         rw[ahS,<-K,iJ _ _ _ _ (by rw[K];simp;omega),K]
         by_cases A:j<U
         rw[if_pos yxa,if_pos A];simp
         ·rw[if_neg yxa,if_neg A]
          by_cases G:j<U+(Pm.cells x).length
          ·rw[if_pos yxa,if_pos G];rw[show f * o.bQ+j - (f * o.bQ+U)=j - U by omega];simp
          rw[if_neg yxa,if_neg G];simp
        rw[X]
        split at y
        ·rename_i N
         obtain⟨u,a,O⟩:=vN.2 j q y;exact⟨u,by simp[N,a],O⟩
        ·rename_i Ej
         split at y
         ·rename_i N
          obtain⟨u,a,O,m3⟩:=x2 (j - U) q y;exact⟨u,by rw[if_neg Ej,if_pos N];exact a,O⟩
         ·rename_i J
          obtain⟨u,a,O⟩:=vN.2 j q y;exact⟨u,by rw[if_neg Ej,if_neg J];exact a,O⟩
       ·rw[aga (agV g)]at d;obtain⟨A,G⟩:=k5 f e' d;refine⟨A,λj q y=>?_⟩;obtain⟨u,a,O⟩:=G j q y;refine⟨u,?_,O⟩;have Q:j<o.bQ:=by rw[<-A];exact ag y
        rw[ahS,<-K,iJ _ _ _ _ (by rw[K];simp;omega),K];rcases Nat.lt_or_gt_of_ne g with hl |hg
        ·have:=mD (s:=o.bQ) hl;rw[if_pos yxa];simpa using a
        ·have:=mD (s:=o.bQ) hg;rw[if_neg yxa,if_neg yxa];simpa using a
    cases e
   cases e
  cases e
 cases e
theorem ML(H:bp w F Z h)(t:TypeId)(U:aG w (Av F h Z) Z h R x)(h1:(Pm.cells x).all bP=true)(X:0<(Pm.cells x).length):
  EP P lv w F Z h (Instr.box t R) (.ptr h.length 0 0 0) (newObj h (Pm.cells x).length [x]):=by
 obtain⟨Q,b⟩:=U.cells h1
 obtain⟨A,S⟩:=bp.new H (w':=w.alloc (.cells R.cells t)) t R.cells {mu:=.m,ep:=0,bQ:=(Pm.cells x).length,es:=[x]} 1 rfl rfl rfl rfl rfl yxb (by simp[Q]) X (λi e q=>by
  cases i with
  |zero=>
   simp at q;subst q;refine⟨rfl,λj p K=>?_⟩;obtain⟨u,Y,O,a⟩:=b j p K;exact⟨u,by simpa using Y,O⟩
  |succ i=>simp at q)
 refine⟨.pointer (some ⟨w.heap.size,0,none⟩),_,_,rfl,H.aaF X,A,S,λ_=>dH.alloc w _⟩
theorem OO(H:bp w F Z h)(t:TypeId)(e:jN P t=some z)(h1:(Pm.cells z).all bP=true)(X:0<(Pm.cells z).length):
  EP P lv w F Z h (Instr.alloc t true (.tuple #[])) (.ptr h.length 0 0 0) (newObj h (Pm.cells z).length [z]):=by
 obtain⟨v,M,a⟩:=xQ e w (Av F h Z) Z h;obtain⟨u,d,q,b,V⟩:=ML (P:=P) (lv:=lv) H t a h1 X;refine⟨u,d,q,?_,V⟩;simp only[Instr.alloc,Sem.run_bind,M,Result.andThen_ok];exact b
end Go.Pm
