/-
  A part of the library Pm and its contracts (joined by program): PmOps PmOps2 PmOps3 PmOps4 PmStep. Conditions: none.
-/
import Derived.Test.YtejhjciockgicaaGreatPzAA
set_option linter.unusedVariables false
set_option linter.unusedSimpArgs false
section
namespace Go.Pm
variable {P:Program} {w:World} {F:Nat→Prop} {β:List (Nat × Nat)} {h:AHeap}
theorem tsize_run {t:TypeId} {n:Nat} (e:tsize P t=some n) (w:World):(sizeOf t).run P w=.ok n w:=by
 unfold tsize at e
 cases hi:P.info? t with
 | none=>rw [hi] at e;simp at e
 | some i=>rw [hi] at e;simp at e;subst e;simp [sizeOf,typeInfo,hi]
theorem und_run {t:TypeId} {d:TypeDesc} (e:P.underlying t=some d) (w:World):(underlying t).run P w=.ok d w:=by simp [underlying,e]
theorem tagg_run {t:TypeId} {b:Bool} (e:tagg P t=some b) (w:World):(isAgg t).run P w=.ok b w:=by
 unfold tagg at e
 cases hu:P.underlying t with
 | none=>rw [hu] at e;simp at e
 | some d=>
  rw [hu] at e;simp at e;subst e
  simp only [isAgg,Sem.run_bind,und_run hu,Result.andThen_ok]
  split <;> rename_i h <;> simp_all
theorem cv0_rel (w:World) (A:Nat→Prop) (β:List (Nat × Nat)) (h:AHeap) (v:Value):VRel w A β h v (cv0 v):=by
 unfold cv0
 split
 ·exact .val (.int _ _)
 ·exact .val (.bool _)
 ·exact .val (.str _)
 ·exact .val (.snapE none 0 true (fun _=>rfl))
 ·exact .val .nilp
 ·exact .val .nilf
 ·exact .any _
theorem cv_rel (w:World) (A:Nat→Prop) (β:List (Nat × Nat)) (h:AHeap) (v:Value):VRel w A β h v (cv v):=by
 unfold cv
 split
 ·rename_i cs
  have:=VRel.agg (w:=w) (A:=A) (β:=β) (h:=h) cs.toList (cs.toList.map cv0) (by simp) (fun j hj=>by
   have hj':j<cs.toList.length:=by simpa using hj
   simp only [List.getD,List.getElem?_map]
   rw [List.getElem?_eq_getElem hj']
   simpa using cv0_rel w A β h _)
  simpa using this
 ·exact cv0_rel w A β h _
theorem tzero_run {t:TypeId} {z:PV} (e:tzero P t=some z) (w:World) (A:Nat→Prop) (β:List (Nat × Nat)) (h:AHeap):∃ v,(zeroValue t).run P w=.ok v w∧VRel w A β h v z:=by
 unfold tzero at e
 cases hi:P.info? t with
 | none=>rw [hi] at e;simp at e
 | some i=>
  rw [hi] at e
  simp only [Option.bind_some] at e
  cases hz:i.zero with
  | none=>rw [hz] at e;simp at e
  | some v=>
   rw [hz] at e
   simp at e
   subst e
   exact ⟨v,by simp [zeroValue,typeInfo,hi,hz],cv_rel w A β h v⟩
theorem VRel.cells {A:Nat→Prop} {v:Value} {p:PV} (hv:VRel w A β h v p) (hp:(Pm.cells p).all oneC=true) :
  v.cells.size=(Pm.cells p).length∧(∀ (j:Nat) (q:PV),(Pm.cells p)[j]?=some q→∃ u:Value,v.cells[j]?=some u∧VRel w A β h u q∧u.oneCell'=true):=by
 have one:∀ (u:Value) (q:PV),VRel w A β h u q→oneC q=true→u.oneCell'=true∧u.cells = #[u]:=by
  intro u q r ho
  cases r with
  | val hs=>cases hs <;> first | exact ⟨rfl,rfl⟩ | simp [oneC] at ho
  | undef=>simp [oneC] at ho
  | any=>simp [oneC] at ho
  | mref v id ep off len o bc h0=>obtain ⟨a,l,c,rfl⟩:=h0;exact ⟨rfl,rfl⟩
  | ptr v id ep i off o bc h0=>obtain ⟨a,rfl⟩:=h0;exact ⟨rfl,rfl⟩
  | agg=>simp [oneC] at ho
  | tup=>simp [oneC] at ho
  | fn=>exact ⟨rfl,rfl⟩
  | bfn=>exact ⟨rfl,rfl⟩
 have single:(∀ cs,p≠.agg cs)→v.cells.size=(Pm.cells p).length∧(∀ (j:Nat) (q:PV),(Pm.cells p)[j]?=some q→∃ u:Value,v.cells[j]?=some u∧VRel w A β h u q∧u.oneCell'=true):=by
  intro hna
  have hc:Pm.cells p=[p]:=by cases p <;> first | rfl | exact absurd rfl (hna _)
  rw [hc] at hp ⊢
  obtain ⟨h1,h2⟩:=one v p hv (by simpa using hp)
  rw [h2]
  refine ⟨rfl,fun j q hq=>?_⟩
  cases j with
  | zero=>simp at hq;subst hq;exact ⟨v,rfl,hv,h1⟩
  | succ j=>simp at hq
 cases p with
 | agg cs=>
  obtain ⟨vs,rfl,hl,hr⟩:=hv.agg_inv
  refine ⟨by simpa [Value.cells,Pm.cells] using hl,fun j q hq=>?_⟩
  have hq':cs[j]?=some q:=hq
  have hj:=lt_of_some hq'
  have hj2:j<vs.length:=by omega
  have hr':=hr j hj
  have e1:vs.getD j Go.undef=vs[j]:=by simp [List.getD,hj2]
  have e2:cs.getD j .any=q:=by simp [List.getD,hq']
  rw [e1,e2] at hr'
  have ho:oneC q=true:=List.all_eq_true.1 hp q (List.mem_of_getElem? hq')
  exact ⟨vs[j],by simp [Value.cells,hj2],hr',(one _ _ hr' ho).1⟩
 | _=>exact single (fun cs=>by simp)
theorem pcells_at (H:HRel w F β h) {v:Value} {p:PV} {cs:List PV} (hv:VRel w (Av F h β) β h v p) (e:pcells h p=some cs) :
  ∃ b off,(cs≠[]→v=.pointer (some ⟨b,off,none⟩))∧∀ (j:Nat) (q:PV),cs[j]?=some q→∃ u:Value,w.cell? ⟨b,off+j,none⟩=some u∧VRel w (Av F h β) β h u q:=by
 unfold pcells at e
 split at e
 ·rename_i cs'
  obtain rfl:=Option.some.inj e
  have hs:=hv.sptr_inv
  cases hs with
  | sptr b off _ cvs h1 h2 h3 h4=>
   refine ⟨b,off,fun _=>rfl,fun j q hq=>?_⟩
   have hj:=lt_of_some hq
   refine ⟨cvs j,h3 j hj,?_⟩
   have:=h4 j hj
   rw [List.getD_eq_getElem?_getD,hq] at this
   exact .val this
 ·rename_i id ep i off
  split at e
  ·rename_i o ho
   obtain ⟨e1,e2,e3⟩:=getM_some ho
   split at e
   ·rename_i el hel
    obtain rfl:=Option.some.inj e
    obtain ⟨bc,hb⟩:=beta_at H.len e1
    obtain ⟨h1,h2,h3⟩:=hv.ptr_inv
    have:=h3 o bc e1 hb e3 e2
    obtain ⟨T,cs,k1,k2,k3,k4,k5⟩:=H.obj id o bc e1 hb e3
    refine ⟨bc.1,i * o.esz+off,fun _=>this,fun j q hq=>?_⟩
    rw [List.getElem?_drop] at hq
    obtain ⟨u,m1,m2⟩:=(k5 i el hel).2 (off+j) q hq
    refine ⟨u,?_,m2⟩
    rw [cell_of_row w bc.1 _ cs T (0,0) k1,Nat.add_assoc]
    exact m1
   ·cases e
  ·cases e
 ·cases e
theorem addr_add (b off n:Nat):(⟨b,off,none⟩:Addr).add n=⟨b,off+n,none⟩:=by unfold Addr.add;split <;> simp_all
theorem load_cells_run (w:World) (b off n:Nat) (R:Nat→Value→Prop) (hc:∀ j,j<n→∃ u,w.cell? ⟨b,off+j,none⟩=some u∧R j u) :
  ∃ vs:List Value,vs.length=n∧(loadCells ⟨b,off,none⟩ n).run P w=.ok vs.toArray w∧∀ j,j<n→R j (vs.getD j undef):=by
 obtain ⟨vs,hl,hr⟩:=exists_list n hc
 refine ⟨vs,hl,?_,fun j hj=>(hr j hj).2⟩
 have:=run_loadCells_list (P:=P) (w:=w) ⟨b,off,none⟩ vs (fun j v hv=>by
  have hj:=lt_of_some hv
  rw [addr_add]
  have:=(hr j (by omega)).1
  rwa [List.getD_eq_getElem?_getD,hv] at this)
 rwa [hl] at this
theorem load_run (H:HRel w F β h) {v:Value} {p q:PV} {t:TypeId} (hv:VRel w (Av F h β) β h v p) (e:loadP P h t p=some q) :
  ∃ u,(Instr.loadAt t v).run P w=.ok u w∧VRel w (Av F h β) β h u q:=by
 unfold loadP at e
 split at e
 ·rename_i sz cs h1 h2 h3
  split at e
  ·rename_i hle
   obtain rfl:=Option.some.inj e
   obtain ⟨b,off,k1,k2⟩:=pcells_at H hv h3
   by_cases hn:cs=[]
   ·subst hn;simp at hle;omega
   ·have hle:=hle.2
    rw [k1 hn]
    obtain ⟨vs,l1,l2,l3⟩:=load_cells_run (P:=P) w b off sz (fun j u=>VRel w (Av F h β) β h u (cs.getD j .any)) (fun j hj=>by
     have hj':j<cs.length:=by omega
     obtain ⟨u,m1,m2⟩:=k2 j cs[j] (List.getElem?_eq_getElem hj')
     exact ⟨u,m1,by simpa [List.getD,hj'] using m2⟩)
    refine ⟨.agg vs.toArray,?_,?_⟩
    ·simp only [Instr.loadAt,Instr.sureAddr,Sem.run_bind,Sem.run_pure,Result.andThen_ok,loadVar,tagg_run h2,tsize_run h1,l2,if_true]
    ·refine .agg vs _ (by simp;omega) (fun j hj=>?_)
     simp at hj
     have:=l3 j (by omega)
     simpa [List.getD,List.getElem?_take,show j<sz by omega] using this
  ·cases e
 ·rename_i sz cs h1 h2 h3
  obtain ⟨b,off,k1,k2⟩:=pcells_at H hv h3
  cases cs with
  | nil=>simp at e
  | cons c r=>
   simp at e;subst e
   obtain ⟨u,m1,m2⟩:=k2 0 c rfl
   rw [k1 (by simp)]
   refine ⟨u,?_,m2⟩
   simp only [Instr.loadAt,Instr.sureAddr,Sem.run_bind,Sem.run_pure,Result.andThen_ok,loadVar,tagg_run h2,Bool.false_eq_true,if_false,run_load]
   rw [show (⟨b,off,none⟩:Addr)=⟨b,off+0,none⟩ by simp,m1]
 ·cases e
theorem fieldOff_run {s:TypeId} {f off:Nat} {ft:TypeId} (e:fieldOff P s f=some (off,ft)) (a:Addr) (w:World) :
  (Instr.fieldAt s (.pointer (some a)) f).run P w=.ok (.pointer (some (a.add off))) w:=by
 unfold fieldOff at e
 split at e
 ·rename_i fs hu
  split at e
  ·rename_i fl hf
   split at e
   ·rename_i sz hs
    split at e
    ·cases e
    ·rename_i hz
     simp at e
     obtain ⟨rfl,rfl⟩:=e
     simp [Instr.fieldAt,und_run hu,hf,Instr.sureAddr,fieldPlace,tsize_run hs,hz]
   ·cases e
  ·cases e
 ·cases e
theorem fieldAddr_run (H:HRel w F β h) {v:Value} {p q:PV} {s:TypeId} {f:Nat} (hv:VRel w (Av F h β) β h v p) (e:fieldAddrP P s p f=some q) :
  ∃ u,(Instr.fieldAt s v f).run P w=.ok u w∧VRel w (Av F h β) β h u q:=by
 unfold fieldAddrP at e
 split at e
 ·rename_i off ft cs h1
  split at e
  ·rename_i hlt
   obtain rfl:=Option.some.inj e
   have hs:=hv.sptr_inv
   cases hs with
   | sptr b o _ cvs k1 k2 k3 k4=>
    refine ⟨_,fieldOff_run h1 _ w,?_⟩
    rw [addr_add]
    refine .val (.sptr b (o+off) _ (fun j=>cvs (off+j)) ?_ k2 (fun j hj=>?_) (fun j hj=>?_))
    ·intro hn
     have:=congrArg List.length hn
     simp at this;omega
    ·simp at hj
     have:=k3 (off+j) (by omega)
     rwa [← Nat.add_assoc] at this
    ·simp at hj
     have:=k4 (off+j) (by omega)
     simpa [List.getD,List.getElem?_drop] using this
  ·cases e
 ·rename_i off ft id ep i o h1
  obtain rfl:=Option.some.inj e
  cases hv with
  | val hs=>cases hs
  | ptr _ _ _ _ _ oo bc h0 k1 k2 k3 k4 k5=>
   obtain ⟨a,rfl⟩:=h0
   refine ⟨_,fieldOff_run h1 _ w,.ptr _ id ep i (o+off) oo bc ⟨_,rfl⟩ k1 k2 k3 k4 (fun n4=>?_)⟩
   have:=k5 n4
   simp at this
   rw [this,addr_add,Nat.add_assoc]
 ·cases e
theorem VRel.part {A:Nat→Prop} {v:Value} {cs:List PV} (hv:VRel w A β h v (.agg cs)) {t:TypeId} {off:Nat} {q:PV} (e:partP P t cs off=some q) :
  ∃ vs:Array Value,v=.agg vs∧∃ u,(part t vs off).run P w=.ok u w∧VRel w A β h u q:=by
 obtain ⟨vs,rfl,hl,hr⟩:=hv.agg_inv
 refine ⟨vs.toArray,rfl,?_⟩
 unfold partP at e
 split at e
 ·rename_i sz h1 h2
  split at e
  ·rename_i hle
   obtain rfl:=Option.some.inj e
   refine ⟨.agg ((vs.drop off).take sz).toArray,?_,.agg _ _ (by simp;omega) (fun j hj=>?_)⟩
   ·simp only [Go.part,Sem.run_bind,tagg_run h1,tsize_run h2,Result.andThen_ok,if_true,Sem.run_pure]
    congr 2
    apply Array.ext'
    simp [List.extract_eq_take_drop]
   ·simp at hj
    have:=hr (off+j) (by omega)
    simpa [List.getD,List.getElem?_take,List.getElem?_drop,show j<sz by omega] using this
  ·cases e
 ·rename_i sz h1 h2
  split at e
  ·rename_i c hc
   obtain rfl:=Option.some.inj e
   have hj:=lt_of_some hc
   have:=hr off hj
   refine ⟨vs[off]'(by omega),?_,?_⟩
   ·simp [Go.part,tagg_run h1,show off<vs.length by omega]
   ·simpa [List.getD,hc,show off<vs.length by omega] using this
  ·cases e
 ·cases e
theorem field_run {v:Value} {p q:PV} {s:TypeId} {f:Nat} {A:Nat→Prop} (hv:VRel w A β h v p) (e:fieldP P s p f=some q) :
  ∃ u,(Instr.field s v f).run P w=.ok u w∧VRel w A β h u q:=by
 unfold fieldP at e
 split at e
 ·rename_i fs cs hu
  split at e
  ·rename_i fl hf
   obtain ⟨vs,rfl,u,h1,h2⟩:=hv.part e
   exact ⟨u,by simp [Instr.field,und_run hu,asAgg,hf,h1],h2⟩
  ·cases e
 ·cases e
theorem index_run {v vi:Value} {p i q:PV} {t:TypeId} {A:Nat→Prop} (hv:VRel w A β h v p) (hi:VRel w A β h vi i) (e:indexP P t p i=some q) :
  ∃ u,(Instr.index t v vi).run P w=.ok u w∧VRel w A β h u q:=by
 unfold indexP at e
 split at e
 ·rename_i n el cs k i hu
  obtain rfl:=hi.int_inv
  split at e
  ·rename_i sz hs
   split at e
   ·rename_i hc
    obtain ⟨vs,rfl,u,h1,h2⟩:=hv.part e
    exact ⟨u,by simp [Instr.index,asIntOf,und_run hu,hc,tsize_run hs,h1],h2⟩
   ·cases e
  ·cases e
 ·rename_i s k i hu
  obtain rfl:=hi.int_inv
  obtain rfl:=hv.str_inv
  split at e
  ·rename_i hc
   split at e
   ·rename_i b hb
    obtain rfl:=Option.some.inj e
    exact ⟨_,by simp [Instr.index,asIntOf,und_run hu,hc,hb],.val (.int _ _)⟩
   ·cases e
  ·cases e
 ·cases e
theorem SRel.snap_len {A:Nat→Prop} {v:Value} {full:Bool} {es:List PV} (hv:SRel w A v (.snap full es)):∃ a cap,v=.slice a es.length cap∧es.length≤cap∧(full=true→cap=es.length):=by
 cases hv with
 | snapE a cap _ hf=>exact ⟨a,cap,rfl,Nat.zero_le _,hf⟩
 | snap b off cap sz _ _ cvs h1 h2 h3=>exact ⟨_,cap,rfl,h2,h3⟩
theorem indexAddr_run (H:HRel w F β h) {v vi:Value} {p i q:PV} {t:TypeId} (hv:VRel w (Av F h β) β h v p) (hi:VRel w (Av F h β) β h vi i) (e:indexAddrP P h t p i=some q) :
  ∃ u,(Instr.indexAt t v vi).run P w=.ok u w∧VRel w (Av F h β) β h u q:=by
 unfold indexAddrP at e
 split at e
 ·rename_i el full es k i hu
  obtain rfl:=hi.int_inv
  split at e
  ·rename_i sz hs
   split at e
   ·rename_i hc
    split at e
    ·rename_i x hx
     split at e
     ·rename_i hz
      obtain rfl:=Option.some.inj e
      have hlt:=lt_of_some hx
      have hsr:=hv.snap_inv
      cases hsr with
      | snapE=>simp at hlt
      | snap b off cap sz' _ _ cvs k1 k2 k3 k4 k5 k6 k7 k8=>
       have hsz:sz'=sz:=by
        have:=k6 i.toNat hlt
        rw [List.getD_eq_getElem?_getD,hx] at this
        exact this.symm.trans hz.2
       subst hsz
       refine ⟨.pointer (some ⟨b,off+i.toNat * sz',none⟩),?_,.val (.sptr b _ _ (cvs i.toNat) ?_ k4 (fun j hj=>?_) (fun j hj=>?_))⟩
       ·simp [Instr.indexAt,asIntOf,und_run hu,hc,tsize_run hs,addr_add]
       ·intro hn;rw [hn] at hz;simp at hz;omega
       ·rw [Nat.add_assoc];exact k7 _ j hlt (by omega)
       ·have:=k8 i.toNat j hlt (by omega)
        rwa [List.getD_eq_getElem?_getD (l:=es),hx] at this
     ·cases e
    ·cases e
   ·cases e
  ·cases e
 ·rename_i el id ep off len k i hu
  obtain rfl:=hi.int_inv
  split at e
  ·rename_i sz o hs ho
   split at e
   ·rename_i hc
    obtain rfl:=Option.some.inj e
    obtain ⟨e1,e2,e3⟩:=getM_some ho
    obtain ⟨bc,hb⟩:=beta_at H.len e1
    obtain ⟨h1,h2,h3⟩:=hv.mref_inv
    obtain ⟨cap,rfl,k2⟩:=h3 o bc e1 hb e3 e2 hc.2.2.2
    obtain ⟨hc1,hc2,rfl,hc4⟩:=hc
    refine ⟨.pointer (some ⟨bc.1,off * o.esz+i.toNat * o.esz,none⟩),?_,.ptr _ id ep _ 0 o bc ⟨_,rfl⟩ e1 hb e3 (h2 o e1) (fun n4=>?_)⟩
    ·simp [Instr.indexAt,asIntOf,und_run hu,hc1,hc2,tsize_run hs,addr_add]
    ·rw [Nat.add_mul];simp
   ·cases e
  ·cases e
 ·rename_i n el cs k i hu
  obtain rfl:=hi.int_inv
  split at e
  ·rename_i sz hs
   split at e
   ·rename_i hc
    obtain rfl:=Option.some.inj e
    have hsr:=hv.sptr_inv
    cases hsr with
    | sptr b off _ cvs k1 k2 k3 k4=>
     refine ⟨.pointer (some ⟨b,off+i.toNat * sz,none⟩),?_,.val (.sptr b _ _ (fun j=>cvs (i.toNat * sz+j)) ?_ k2 (fun j hj=>?_) (fun j hj=>?_))⟩
     ·simp [Instr.indexAt,asIntOf,und_run hu,hc.1,hc.2.1,tsize_run hs,addr_add,Instr.sureAddr]
     ·intro hn
      have:=congrArg List.length hn
      simp at this;omega
     ·simp at hj
      have:=k3 (i.toNat * sz+j) (by omega)
      rwa [← Nat.add_assoc] at this
     ·simp at hj
      have:=k4 (i.toNat * sz+j) (by omega)
      simpa [List.getD,List.getElem?_drop] using this
   ·cases e
  ·cases e
 ·rename_i n el id ep kk o k i hu
  obtain rfl:=hi.int_inv
  split at e
  ·rename_i sz hs
   split at e
   ·rename_i hc
    obtain rfl:=Option.some.inj e
    cases hv with
    | val hs=>cases hs
    | ptr _ _ _ _ _ oo bc h0 k1 k2 k3 k4 k5=>
     obtain ⟨a,rfl⟩:=h0
     refine ⟨.pointer (some (a.add (i.toNat * sz))),?_,.ptr _ id ep kk _ oo bc ⟨_,rfl⟩ k1 k2 k3 k4 (fun n4=>?_)⟩
     ·simp [Instr.indexAt,asIntOf,und_run hu,hc.1,hc.2,tsize_run hs,Instr.sureAddr]
     ·have:=k5 n4
      simp at this
      rw [this,addr_add,Nat.add_assoc]
   ·cases e
  ·cases e
 ·cases e
theorem len_run (H:HRel w F β h) {v:Value} {p q:PV} {t:TypeId} {ts:Array TypeId} {ty:TypeId} {rest:List Value} (ht:ts[0]?=some t) (hv:VRel w (Av F h β) β h v p) (e:lenP P h t p=some q) :
  (∃ u,(Builtin.len_ ts ty (v::rest).toArray).run P w=.ok u w∧VRel w (Av F h β) β h u q):=by
 unfold lenP at e
 split at e
 ·rename_i s hu
  obtain rfl:=Option.some.inj e
  obtain rfl:=hv.str_inv
  exact ⟨_,by simp [Builtin.len_,ht,und_run hu,goInt],.val (.int _ _)⟩
 ·rename_i n el hu
  obtain rfl:=Option.some.inj e
  refine ⟨_,?_,.val (.int _ _)⟩
  cases v <;> simp [Builtin.len_,ht,und_run hu,goInt]
 ·rename_i el full es hu
  obtain rfl:=Option.some.inj e
  obtain ⟨a,cap,rfl,_⟩:=hv.snap_inv.snap_len
  exact ⟨_,by simp [Builtin.len_,ht,und_run hu,goInt],.val (.int _ _)⟩
 ·rename_i el id ep off len hu
  split at e
  ·rename_i o ho
   split at e
   ·rename_i hle
    obtain rfl:=Option.some.inj e
    obtain ⟨e1,e2,e3⟩:=getM_some ho
    obtain ⟨bc,hb⟩:=beta_at H.len e1
    obtain ⟨h1,h2,h3⟩:=hv.mref_inv
    obtain ⟨cap,rfl,k2⟩:=h3 o bc e1 hb e3 e2 hle
    exact ⟨_,by simp [Builtin.len_,ht,und_run hu,goInt],.val (.int _ _)⟩
   ·cases e
  ·cases e
 ·cases e
theorem splice_get {α:Type} (l m:List α) (a k:Nat) (hl:a+m.length≤l.length) :
  (l.take a++m++l.drop (a+m.length))[k]?=if k<a then l[k]? else if k<a+m.length then m[k - a]? else l[k]?:=by
 by_cases h1:k<a
 ·rw [if_pos h1,List.append_assoc,List.getElem?_append_left (by simp;omega),List.getElem?_take,if_pos h1]
 ·rw [if_neg h1]
  by_cases h2:k<a+m.length
  ·rw [if_pos h2,List.append_assoc,List.getElem?_append_right (by simp;omega)]
   have:(List.take a l).length=a:=by simp;omega
   rw [this,List.getElem?_append_left (by omega)]
  ·rw [if_neg h2,List.getElem?_append_right (by simp;omega),List.getElem?_drop]
   congr 1
   simp
   omega
theorem cells_recell (off sz:Nat) (e v:PV) (hv:(Pm.cells v).length=sz):Pm.cells (recell off sz e v)=(Pm.cells e).take off++Pm.cells v++(Pm.cells e).drop (off+sz):=by
 unfold recell
 split
 ·rename_i hc
  obtain ⟨rfl,h2⟩:=hc
  simp [h2]
 ·rfl
theorem mul_lt {i k s:Nat} (h:i<k):i * s+s≤k * s:=by
 have:=Nat.mul_le_mul_right s (show i+1≤k from h)
 rwa [Nat.add_mul,Nat.one_mul] at this
theorem one_of {A:Nat→Prop} {u:Value} {q:PV} (r:VRel w A β h u q) (ho:oneC q=true):u.oneCell'=true:=by
 cases r with
 | val hs=>cases hs <;> first | rfl | simp [oneC] at ho
 | undef=>simp [oneC] at ho
 | any=>simp [oneC] at ho
 | mref v id ep off len o bc h0=>obtain ⟨a,l,c,rfl⟩:=h0;rfl
 | ptr v id ep i off o bc h0=>obtain ⟨a,rfl⟩:=h0;rfl
 | agg=>simp [oneC] at ho
 | tup=>simp [oneC] at ho
 | fn=>rfl
 | bfn=>rfl
theorem store_run (H:HRel w F β h) {v vx:Value} {p x:PV} {t:TypeId} {h':AHeap} (hv:VRel w (Av F h β) β h v p) (hx:VRel w (Av F h β) β h vx x) (e:storeP P h t p x=some h') :
  ∃ w' β',(Instr.storeAt t v vx).run P w=.ok () w'∧HRel w' F β' h'∧Stp w h β w' h' β':=by
 unfold storeP at e
 split at e
 ·rename_i id ep i off sz hs
  split at e
  ·rename_i o ho
   split at e
   ·rename_i el hel
    split at e
    ·rename_i hc
     obtain ⟨c1,c2,c3,c4⟩:=hc
     obtain rfl:=Option.some.inj e
     obtain ⟨e1,e2,e3⟩:=getM_some ho
     obtain ⟨bc,hb⟩:=beta_at H.len e1
     obtain ⟨h1,h2,h3⟩:=hv.ptr_inv
     obtain rfl:=h3 o bc e1 hb e3 e2
     obtain ⟨T,cs,k1,k2,k3,k4,k5⟩:=H.obj id o bc e1 hb e3
     obtain ⟨x1,x2⟩:=hx.cells c3
     have hi:=lt_of_some hel
     have hel2:=k5 i el hel
     have hib:i * o.esz+o.esz≤cs.size:=Nat.le_trans (mul_lt hi) (Nat.le_trans (Nat.mul_le_mul_right _ k2) k3)
     have hroom:i * o.esz+off+0+vx.cells.toList.length≤cs.size:=by simp [x1,c2];omega
     have hst:=run_storeCells_at P bc.1 (i * o.esz+off) T vx.cells.toList 0 cs w k1 hroom (fun u hu=>by
      obtain ⟨j,hj⟩:=List.getElem?_of_mem hu
      have hjl:=lt_of_some hj
      simp only [Array.length_toList] at hjl
      obtain ⟨u',m1,m2,m3⟩:=x2 j (Pm.cells x)[j] (List.getElem?_eq_getElem (by omega))
      have:vx.cells[j]?=some u:=by simpa using hj
      rw [m1] at this
      obtain rfl:=Option.some.inj this
      exact m3)
     simp only [Nat.add_zero] at hst
     have hlen:vx.cells.toList.length=sz:=by simp [x1,c2]
     rw [hlen] at hst
     refine ⟨w.setRow bc.1 (cs.toList.take (i * o.esz+off)++vx.cells.toList++cs.toList.drop (i * o.esz+off+sz)).toArray,β,?_,?_⟩
     ·simp only [Instr.storeAt,Instr.sureAddr,Sem.run_bind,Sem.run_pure,Result.andThen_ok,storeVar,tsize_run hs]
      rw [if_neg (by simp [x1,c2])]
      exact hst
     ·have hβ:β=β.set id bc:=by
       apply List.ext_getElem?
       intro k
       by_cases hk:k=id
       ·subst hk;rw [List.getElem?_set_self (by have:=H.len;have:=lt_of_some e1;omega)];exact hb
       ·rw [List.getElem?_set_ne (Ne.symm hk)]
      have:=HRel.set H e1 hb c1 (w':=w.setRow bc.1 (cs.toList.take (i * o.esz+off)++vx.cells.toList++cs.toList.drop (i * o.esz+off+sz)).toArray) T
       (cs.toList.take (i * o.esz+off)++vx.cells.toList++cs.toList.drop (i * o.esz+off+sz)).toArray (o.es.set i (recell off sz el x)) o.ep bc (by simp)
       (setRow_heap w bc.1 cs _ T (0,0) k1) (fun b hb hne=>setRow_other w bc.1 b _ hne) (.inl ⟨rfl,fun _=>by simp⟩) (Nat.le_refl _) rfl rfl rfl (by simpa using k2)
       (by simp;omega) (fun i' e' he'=>?_)
      ·rw [← hβ] at this
       exact this
      ·by_cases hii:i'=i
       ·subst hii
        rw [List.getElem?_set_self hi] at he'
        obtain rfl:=Option.some.inj he'
        rw [cells_recell _ _ _ _ c2]
        refine ⟨by simp [c2,hel2.1];omega,fun j q hq=>?_⟩
        have c2':=c2.symm
        subst c2'
        rw [splice_get _ _ _ _ (by omega)] at hq
        have key:(cs.toList.take (i' * o.esz+off)++vx.cells.toList++cs.toList.drop (i' * o.esz+off+(Pm.cells x).length)).toArray[i' * o.esz+j]?=if j<off then cs[i' * o.esz+j]? else if j<off+(Pm.cells x).length then vx.cells[j - off]? else cs[i' * o.esz+j]?:=by
         rw [List.getElem?_toArray,← hlen,splice_get _ _ _ _ (by rw [hlen];simp;omega),hlen]
         by_cases q1:j<off
         ·rw [if_pos (by omega),if_pos q1];simp
         ·rw [if_neg (by omega),if_neg q1]
          by_cases q2:j<off+(Pm.cells x).length
          ·rw [if_pos (by omega),if_pos q2]
           rw [show i' * o.esz+j - (i' * o.esz+off)=j - off by omega];simp
          ·rw [if_neg (by omega),if_neg q2];simp
        rw [key]
        split at hq
        ·rename_i hlt
         obtain ⟨u,m1,m2⟩:=hel2.2 j q hq
         exact ⟨u,by simp [hlt,m1],m2⟩
        ·rename_i hge
         split at hq
         ·rename_i hlt
          obtain ⟨u,m1,m2,m3⟩:=x2 (j - off) q hq
          exact ⟨u,by rw [if_neg hge,if_pos hlt];exact m1,m2⟩
         ·rename_i hge2
          obtain ⟨u,m1,m2⟩:=hel2.2 j q hq
          exact ⟨u,by rw [if_neg hge,if_neg hge2];exact m1,m2⟩
       ·rw [List.getElem?_set_ne (Ne.symm hii)] at he'
        obtain ⟨q1,q2⟩:=k5 i' e' he'
        refine ⟨q1,fun j q hq=>?_⟩
        obtain ⟨u,m1,m2⟩:=q2 j q hq
        refine ⟨u,?_,m2⟩
        have hj:j<o.esz:=by rw [← q1];exact lt_of_some hq
        rw [List.getElem?_toArray,← hlen,splice_get _ _ _ _ (by rw [hlen];simp;omega),hlen]
        rcases Nat.lt_or_gt_of_ne hii with hl | hg
        ·have:=mul_lt (s:=o.esz) hl
         rw [if_pos (by omega)];simpa using m1
        ·have:=mul_lt (s:=o.esz) hg
         rw [if_neg (by omega),if_neg (by omega)];simpa using m1
    ·cases e
   ·cases e
  ·cases e
 ·cases e
theorem box_run {lv:Nat} (H:HRel w F β h) {vx:Value} {x:PV} (t:TypeId) (hx:VRel w (Av F h β) β h vx x) (h1:(Pm.cells x).all oneC=true) (h2:0<(Pm.cells x).length) :
  Sim P lv w F β h (Instr.box t vx) (.ptr h.length 0 0 0) (newObj h (Pm.cells x).length [x]):=by
 obtain ⟨x1,x2⟩:=hx.cells h1
 obtain ⟨HH,S⟩:=HRel.new H (w':=w.alloc (.cells vx.cells t)) t vx.cells { mu:=.m,ep:=0,esz:=(Pm.cells x).length,es:=[x] } 1 rfl rfl rfl rfl rfl (by simp) (by simp [x1]) h2 (fun i e he=>by
  cases i with
  | zero=>
   simp at he;subst he
   refine ⟨rfl,fun j p hp=>?_⟩
   obtain ⟨u,m1,m2,m3⟩:=x2 j p hp
   exact ⟨u,by simpa using m1,m2⟩
  | succ i=>simp at he)
 refine ⟨.pointer (some ⟨w.heap.size,0,none⟩),_,_,rfl,H.ptrNew,HH,S,fun _=>Grew.alloc w _⟩
theorem alloc_run {lv:Nat} (H:HRel w F β h) {z:PV} (t:TypeId) (e:tzero P t=some z) (h1:(Pm.cells z).all oneC=true) (h2:0<(Pm.cells z).length) :
  Sim P lv w F β h (Instr.alloc t true (.tuple #[])) (.ptr h.length 0 0 0) (newObj h (Pm.cells z).length [z]):=by
 obtain ⟨v,hz,hr⟩:=tzero_run e w (Av F h β) β h
 obtain ⟨u,w',β',r1,r2⟩:=box_run (P:=P) (lv:=lv) H t hr h1 h2
 refine ⟨u,w',β',?_,r2⟩
 simp only [Instr.alloc,Sem.run_bind,hz,Result.andThen_ok]
 exact r1
end Go.Pm
end
section
namespace Go.Pm
variable {P:Program} {w:World} {F:Nat→Prop} {β:List (Nat × Nat)} {h:AHeap}
def Flat (w:World) (A:Nat→Prop) (β:List (Nat × Nat)) (h:AHeap) (sz:Nat) (cs:List Value) (es:List PV):Prop:=
 cs.length=es.length * sz∧∀ (i:Nat) (e:PV),es[i]?=some e→(Pm.cells e).length=sz∧∀ (j:Nat) (q:PV),(Pm.cells e)[j]?=some q→∃ u:Value,cs[i * sz+j]?=some u∧VRel w A β h u q
theorem Flat.nil (w:World) (A:Nat→Prop) (β:List (Nat × Nat)) (h:AHeap) (sz:Nat):Flat w A β h sz [] []:=⟨by simp,fun i e he=>by simp at he⟩
theorem Flat.append {A:Nat→Prop} {sz:Nat} {cs cs':List Value} {es es':List PV} (a:Flat w A β h sz cs es) (b:Flat w A β h sz cs' es'):Flat w A β h sz (cs++cs') (es++es'):=by
 refine ⟨by simp [a.1,b.1,Nat.add_mul],fun i e he=>?_⟩
 by_cases hi:i<es.length
 ·rw [List.getElem?_append_left hi] at he
  obtain ⟨h1,h2⟩:=a.2 i e he
  refine ⟨h1,fun j q hq=>?_⟩
  obtain ⟨u,k1,k2⟩:=h2 j q hq
  exact ⟨u,by rw [List.getElem?_append_left (lt_of_some k1)];exact k1,k2⟩
 ·rw [List.getElem?_append_right (by omega)] at he
  obtain ⟨h1,h2⟩:=b.2 _ e he
  refine ⟨h1,fun j q hq=>?_⟩
  obtain ⟨u,k1,k2⟩:=h2 j q hq
  refine ⟨u,?_,k2⟩
  have hm:i * sz=(i - es.length) * sz+es.length * sz:=by rw [← Nat.add_mul];congr 1;omega
  rw [List.getElem?_append_right (by rw [a.1,hm];omega),a.1,hm]
  rw [show (i - es.length) * sz+es.length * sz+j - es.length * sz=(i - es.length) * sz+j by omega]
  exact k1
theorem Flat.take {A:Nat→Prop} {sz:Nat} {cs:List Value} {es:List PV} (a:Flat w A β h sz cs es) (n:Nat) (hn:n≤es.length):Flat w A β h sz (cs.take (n * sz)) (es.take n):=by
 have hle:n * sz≤es.length * sz:=Nat.mul_le_mul_right _ hn
 refine ⟨by simp only [List.length_take,a.1];rw [Nat.min_eq_left hn,Nat.min_eq_left hle],fun i e he=>?_⟩
 rw [List.getElem?_take] at he
 split at he
 ·rename_i hi
  obtain ⟨h1,h2⟩:=a.2 i e he
  refine ⟨h1,fun j q hq=>?_⟩
  obtain ⟨u,k1,k2⟩:=h2 j q hq
  refine ⟨u,?_,k2⟩
  have hj:=lt_of_some hq
  have:=mul_lt (s:=sz) hi
  rw [List.getElem?_take,if_pos (by omega)]
  exact k1
 ·cases he
theorem Flat.ones {A:Nat→Prop} {sz:Nat} {cs:List Value} {es:List PV} (a:Flat w A β h sz cs es) (hs:0<sz) (ho:es.all (fun v=>decide ((Pm.cells v).length=sz) && (Pm.cells v).all oneC)=true):∀ u∈cs,u.oneCell'=true:=by
 intro u hu
 obtain ⟨k,hk⟩:=List.getElem?_of_mem hu
 have hkl:=lt_of_some hk
 rw [a.1] at hkl
 have hi:k / sz<es.length:=(Nat.div_lt_iff_lt_mul hs).2 hkl
 have hel:=List.getElem?_eq_getElem hi
 obtain ⟨h1,h2⟩:=a.2 _ _ hel
 have hj:k % sz<(Pm.cells es[k / sz]).length:=by rw [h1];exact Nat.mod_lt _ hs
 obtain ⟨u',m1,m2⟩:=h2 _ _ (List.getElem?_eq_getElem hj)
 rw [Nat.mul_comm,Nat.div_add_mod,hk] at m1
 obtain rfl:=Option.some.inj m1
 have hall:=List.all_eq_true.1 ho _ (List.getElem_mem hi)
 simp only [Bool.and_eq_true] at hall
 exact one_of m2 (List.all_eq_true.1 hall.2 _ (List.getElem_mem hj))
theorem elems_flat (H:HRel w F β h) {v:Value} {p:PV} {ys:List PV} {sz:Nat} (hv:VRel w (Av F h β) β h v p) (e:elems h p=some ys) (hz:∀ y∈ys,(Pm.cells y).length=sz) :
  ∃ a cap,v=.slice a ys.length cap∧ys.length≤cap∧∃ cs:List Value,Flat w (Av F h β) β h sz cs ys ∧
   (∀ w',w'.heap=w.heap→∀ n,n≤ys.length→(Builtin.firstCells sz n v).run P w'=.ok (cs.take (n * sz)).toArray w'):=by
 have main:∀ (b off cap:Nat) (R:Nat→Nat→Value→Prop),(∀ i j,i<ys.length→j<sz→∃ u,w.cell? ⟨b,off+(i * sz+j),none⟩=some u∧R i j u) →
   ∃ cs:List Value,cs.length=ys.length * sz∧(∀ i j,i<ys.length→j<sz→∃ u,cs[i * sz+j]?=some u∧R i j u) ∧
    ∀ w',w'.heap=w.heap→∀ n,n≤ys.length→(Builtin.firstCells sz n (.slice (some ⟨b,off,none⟩) ys.length cap)).run P w'=.ok (cs.take (n * sz)).toArray w':=by
  intro b off cap R hc
  obtain ⟨cs,l1,l2⟩:=exists_list (R:=fun k u=>w.cell? ⟨b,off+k,none⟩=some u∧R (k / sz) (k % sz) u) (ys.length * sz) (fun k hk=>by
   have hs:0<sz:=by
    rcases Nat.eq_zero_or_pos sz with h0 | h0
    ·subst h0;simp at hk
    ·exact h0
   obtain ⟨u,m1,m2⟩:=hc (k / sz) (k % sz) ((Nat.div_lt_iff_lt_mul hs).2 hk) (Nat.mod_lt _ hs)
   refine ⟨u,?_,m2⟩
   rw [← m1,Nat.mul_comm,Nat.div_add_mod])
  have at_k:∀ i j,i<ys.length→j<sz→i * sz+j<ys.length * sz:=fun i j hi hj=>by have:=mul_lt (s:=sz) hi;omega
  refine ⟨cs,l1,fun i j hi hj=>?_,fun w' hw' n hn=>?_⟩
  ·have hk:=at_k i j hi hj
   have:=(l2 (i * sz+j) hk).2
   have hs:0<sz:=by omega
   rw [show (i * sz+j) / sz=i by rw [Nat.mul_comm,Nat.mul_add_div hs,Nat.div_eq_of_lt hj,Nat.add_zero],show (i * sz+j) % sz=j by rw [Nat.mul_comm,Nat.mul_add_mod,Nat.mod_eq_of_lt hj]] at this
   refine ⟨cs[i * sz+j]'(by omega),List.getElem?_eq_getElem _,?_⟩
   simpa [List.getD,show i * sz+j<cs.length by omega] using this
  ·have hle:n * sz≤ys.length * sz:=Nat.mul_le_mul_right _ hn
   have:=run_firstCells_some (P:=P) w' sz n ⟨b,off,none⟩ ys.length cap (cs.take (n * sz)) (by simp only [List.length_take,l1];omega) (fun j v hj=>by
    have hjl:=lt_of_some hj
    simp only [List.length_take,l1] at hjl
    rw [List.getElem?_take,if_pos (by omega)] at hj
    have:=(l2 j (by omega)).1
    rw [addr_add,cell_keep (w:=w) (w':=w') (by rw [hw']),this]
    simp [List.getD,hj])
   exact this
 unfold elems at e
 split at e
 ·rename_i full es
  obtain rfl:=Option.some.inj e
  have hs:=hv.snap_inv
  cases hs with
  | snapE a cap _ hf=>
   refine ⟨a,cap,rfl,Nat.zero_le _,[],Flat.nil _ _ _ _ _,fun w' hw' n hn=>?_⟩
   ·obtain rfl:n=0:=by simpa using hn
    cases a <;> simp [Builtin.firstCells,loadCells,loadCellsFrom]
  | snap b off cap sz' _ _ cvs k1 k2 k3 k4 k5 k6 k7 k8=>
   have hsz:sz'=sz:=by
    have hp:0<es.length:=List.length_pos_iff.2 k1
    rw [← k6 0 hp]
    apply hz
    rw [List.getD_eq_getElem?_getD,List.getElem?_eq_getElem hp]
    exact List.getElem_mem hp
   subst hsz
   obtain ⟨cs,l1,l2,l3⟩:=main b off cap (fun i j u=>SRel w (Av F h β) u ((Pm.cells (es.getD i .any)).getD j .any)) (fun i j hi hj=>⟨cvs i j,k7 i j hi hj,k8 i j hi hj⟩)
   refine ⟨_,cap,rfl,k2,cs,⟨l1,fun i e he=>?_⟩,l3⟩
   ·have hi:=lt_of_some he
    have e1:es.getD i .any=e:=by simp [List.getD,he]
    have e2:=k6 i hi
    rw [e1] at e2
    refine ⟨e2,fun j q hq=>?_⟩
    have hj:=lt_of_some hq
    obtain ⟨u,m1,m2⟩:=l2 i j hi (by omega)
    refine ⟨u,m1,?_⟩
    rw [e1] at m2
    have e3:(Pm.cells e).getD j .any=q:=by simp [List.getD,hq]
    rw [e3] at m2
    exact .val m2
 ·rename_i id ep off len
  split at e
  ·rename_i o ho
   split at e
   ·rename_i hle
    obtain rfl:=Option.some.inj e
    obtain ⟨e1,e2,e3⟩:=getM_some ho
    obtain ⟨bc,hb⟩:=beta_at H.len e1
    obtain ⟨h1,h2,h3⟩:=hv.mref_inv
    obtain ⟨cap,rfl,c2⟩:=h3 o bc e1 hb e3 e2 hle
    obtain ⟨T,cs0,k1,k2,k3,k4,k5⟩:=H.obj id o bc e1 hb e3
    have hlen:((o.es.drop off).take len).length=len:=by simp;omega
    have at_i:∀ i,i<len→∃ e,((o.es.drop off).take len)[i]?=some e∧o.es[off+i]?=some e:=fun i hi=>by
     refine ⟨o.es[off+i]'(by omega),?_,List.getElem?_eq_getElem (by omega)⟩
     rw [List.getElem?_take,if_pos hi,List.getElem?_drop]
     exact List.getElem?_eq_getElem (by omega)
    by_cases hl0:len=0
    ·subst hl0
     refine ⟨some ⟨bc.1,off * o.esz,none⟩,cap,by simp,by simp,[],by simpa using Flat.nil _ _ _ _ _,fun w' hw' n hn=>?_⟩
     ·obtain rfl:n=0:=by simpa using hn
      simp [Builtin.firstCells,loadCells,loadCellsFrom]
    ·have hsz:o.esz=sz:=by
      obtain ⟨el,m1,m2⟩:=at_i 0 (by omega)
      rw [← (k5 _ el m2).1]
      exact hz el (List.mem_of_getElem? m1)
     subst hsz
     obtain ⟨cs,l1,l2,l3⟩:=main bc.1 (off * o.esz) cap (fun i j u=>∀ el q,o.es[off+i]?=some el→(Pm.cells el)[j]?=some q→VRel w (Av F h β) β h u q) (fun i j hi hj=>by
      rw [hlen] at hi
      obtain ⟨el,m1,m2⟩:=at_i i hi
      obtain ⟨n1,n2⟩:=k5 _ el m2
      obtain ⟨u,p1,p2⟩:=n2 j (Pm.cells el)[j] (List.getElem?_eq_getElem (by omega))
      refine ⟨u,?_,fun el' q r1 r2=>?_⟩
      ·rw [cell_of_row w bc.1 _ cs0 T (0,0) k1,← Nat.add_assoc,← Nat.add_mul]
       exact p1
      ·rw [m2] at r1
       obtain rfl:=Option.some.inj r1
       rw [List.getElem?_eq_getElem (by omega)] at r2
       obtain rfl:=Option.some.inj r2
       exact p2)
     rw [hlen] at l2 l3 ⊢
     refine ⟨_,cap,rfl,by omega,cs,⟨by rw [l1,hlen],fun i el he=>?_⟩,fun w' hw' n hn=>l3 w' hw' n hn⟩
     ·have hi:=lt_of_some he
      rw [hlen] at hi
      obtain ⟨el',m1,m2⟩:=at_i i hi
      rw [m1] at he
      obtain rfl:=Option.some.inj he
      obtain ⟨n1,n2⟩:=k5 _ el' m2
      refine ⟨n1,fun j q hq=>?_⟩
      have hj:=lt_of_some hq
      obtain ⟨u,r1,r2⟩:=l2 i j hi (by omega)
      exact ⟨u,r1,r2 el' q m2 hq⟩
   ·cases e
  ·cases e
 ·cases e
theorem zero_flat {A:Nat→Prop} {vz:Value} {z:PV} {sz:Nat} (hz:VRel w A β h vz z) (h1:(Pm.cells z).length=sz) (h2:(Pm.cells z).all oneC=true) (hs:0<sz) (n:Nat) :
  vz.cells.size=sz∧Flat w A β h sz (List.map (fun i=>vz.cells[i % vz.cells.size]!) (List.range (n * sz))) (List.replicate n z):=by
 obtain ⟨x1,x2⟩:=hz.cells h2
 refine ⟨by omega,by simp,fun i e he=>?_⟩
 have hi:=lt_of_some he
 simp at hi
 rw [List.getElem?_replicate,if_pos hi] at he
 obtain rfl:=Option.some.inj he
 refine ⟨h1,fun j q hq=>?_⟩
 have hj:=lt_of_some hq
 obtain ⟨u,m1,m2,m3⟩:=x2 j q hq
 refine ⟨u,?_,m2⟩
 have hk:i * sz+j<n * sz:=by have:=mul_lt (s:=sz) hi;omega
 rw [List.getElem?_map,List.getElem?_range hk]
 simp only [Option.map_some]
 rw [x1,h1,Nat.mul_comm,Nat.mul_add_mod,Nat.mod_eq_of_lt (by omega)]
 rw [getElem!_def,m1]
theorem range_toList (n:Nat) (f:Nat→Value):((Array.range n).map f)=(List.map f (List.range n)).toArray:=by
 apply Array.ext'
 simp
theorem tbytes_run {t:TypeId} {n:Nat} (e:tbytes P t=some n):∃ i,P.info? t=some i∧i.bytes=n:=by
 unfold tbytes at e
 cases hi:P.info? t with
 | none=>rw [hi] at e;simp at e
 | some i=>rw [hi] at e;simp at e;exact ⟨i,rfl,e⟩
def isIntD:TypeDesc→Bool | .int _=>true | _=>false
theorem appendee_run (H:HRel w F β h) {e st xt:TypeId} {sz bytes:Nat} {z:PV} {vz x:Value} {px:PV} {ys:List PV} (hs:tsize P e=some sz) (hb:tbytes P e=some bytes) (hz:tzero P e=some z) (hpos:0<sz) (hby:bytes≤65536)
  (hx:VRel w (Av F h β) β h x px) (ea:appendee P h z xt px=some ys) (hall:ys.all (fun v=>decide ((Pm.cells v).length=sz) && (Pm.cells v).all oneC)=true) :
  ∃ zb:Bool,∃ d,P.underlying xt=some d∧zb=isIntD d ∧
   ∃ news:List Value,Flat w (Av F h β) β h sz news ys∧(∀ u∈news,u.oneCell'=true) ∧
    (zb=false→(Builtin.lenOf x).run P w=.ok ys.length w∧∀ w',w'.heap=w.heap→(Builtin.firstCells sz ys.length x).run P w'=.ok news.toArray w') ∧
    (zb=true→∃ k,x=.int k ys.length∧ys.length≤1073741824∧∀ w',(if ys.length * sz=0 then pure #[] else do pure (Builtin.zeroCells (← zeroValue e).cells ys.length):Sem (Array Value)).run P w'=.ok news.toArray w'):=by
 unfold appendee at ea
 split at ea
 ·rename_i ik k n hu
  split at ea
  ·rename_i hn
   obtain rfl:=Option.some.inj ea
   obtain rfl:=hx.int_inv
   obtain ⟨vz,r1,r2⟩:=tzero_run hz w (Av F h β) β h
   by_cases h0:n.toNat=0
   ·refine ⟨true,_,hu,rfl,[],by rw [h0];simpa using Flat.nil w (Av F h β) β h sz,by simp,by simp,fun _=>⟨k,by simp;omega,by simp;omega,fun w'=>?_⟩⟩
    simp [h0]
   ·have hone:=List.all_eq_true.1 hall z (by simp;omega)
    simp only [Bool.and_eq_true,decide_eq_true_eq] at hone
    obtain ⟨s1,s2⟩:=zero_flat r2 hone.1 hone.2 hpos n.toNat
    refine ⟨true,_,hu,rfl,_,s2,s2.ones hpos hall,by simp,fun _=>⟨k,by simp;omega,by simp;omega,fun w'=>?_⟩⟩
    have hne:¬ (List.replicate n.toNat z).length * sz=0:=by
     rw [List.length_replicate]
     exact Nat.mul_ne_zero h0 (by omega)
    have hzr:(zeroValue e).run P w'=.ok vz w':=by
     have:=r1
     unfold zeroValue typeInfo at this ⊢
     simp only [Sem.run_bind,run_program,Result.andThen_ok] at this ⊢
     cases hi:P.info? e with
     | none=>rw [hi] at this;simp at this
     | some i=>
      rw [hi] at this
      simp at this ⊢
      cases hzz:i.zero with
      | none=>rw [hzz] at this;simp at this
      | some v=>rw [hzz] at this;simp at this ⊢;exact this
    rw [if_neg hne]
    simp only [Sem.run_bind,hzr,Result.andThen_ok,Sem.run_pure,Builtin.zeroCells,range_toList,List.length_replicate,s1]
  ·cases ea
 ·rename_i el hu
  have hz':∀ y∈ys,(Pm.cells y).length=sz:=fun y hy=>by
   have:=List.all_eq_true.1 hall y hy
   simp only [Bool.and_eq_true,decide_eq_true_eq] at this
   exact this.1
  obtain ⟨a,cap,rfl,hle,cs,f1,f2⟩:=elems_flat (P:=P) H hx ea hz'
  refine ⟨false,_,hu,rfl,cs,f1,f1.ones hpos hall,fun _=>⟨by simp [Builtin.lenOf],fun w' hw'=>?_⟩,by simp⟩
  have:=f2 w' hw' ys.length (Nat.le_refl _)
  rwa [List.take_of_length_le (by rw [f1.1];omega)] at this
 ·cases ea
theorem Flat.obj {A:Nat→Prop} {sz:Nat} {cs rest:List Value} {es:List PV} (a:Flat w A β h sz cs es) (i:Nat) (e:PV) (he:es[i]?=some e) :
  (Pm.cells e).length=sz∧∀ (j:Nat) (p:PV),(Pm.cells e)[j]?=some p→∃ v:Value,(cs++rest).toArray[i * sz+j]?=some v∧VRel w A β h v p:=by
 obtain ⟨h1,h2⟩:=a.2 i e he
 refine ⟨h1,fun j p hp=>?_⟩
 obtain ⟨u,k1,k2⟩:=h2 j p hp
 exact ⟨u,by rw [List.getElem?_toArray,List.getElem?_append_left (lt_of_some k1)];exact k1,k2⟩
theorem wrap_small {n:Nat} (h:n≤1073741824):IntKind.i64.wrap (n:Int)=n:=by
 simp [IntKind.wrap,IntKind.bits,IntKind.signed];omega
theorem max_i64:IntKind.i64.max=9223372036854775807:=by decide
theorem roomy_spec {n b:Nat} (h:roomy n b=true):n * b≤17592186044416∧n≤17592186044416:=by
 simpa [roomy] using h
theorem append_room {ts:Array TypeId} {ty st xt e:TypeId} {args:Array Value} {sz sLen sCap n:Nat} {base:Option Addr} {x:Value} {d:TypeDesc} {zb:Bool} {news:List Value}
  (h1:ts[0]?=some st) (h2:ts[1]?=some xt) (h3:args[0]?=some (.slice base sLen sCap)) (h4:args[1]?=some x) (hu:P.underlying st=some (.slice e)) (hs:tsize P e=some sz)
  (hd:P.underlying xt=some d) (hzb:zb=isIntD d) {bytes:Nat} (hb:tbytes P e=some bytes) (hby:bytes≤65536)
  (hf:zb=false→(Builtin.lenOf x).run P w=.ok n w∧∀ w',w'.heap=w.heap→(Builtin.firstCells sz n x).run P w'=.ok news.toArray w')
  (ht:zb=true→∃ k,x=.int k n∧n≤1073741824∧∀ w',(if n * sz=0 then pure #[] else do pure (Builtin.zeroCells (← zeroValue e).cells n):Sem (Array Value)).run P w'=.ok news.toArray w')
  (hroom:sLen+n≤sCap) :
  (Builtin.append_ ts ty args).run P w=(match base with | some a=>(storeCells (a.add (sLen * sz)) news).run P w | none=>.ok () w).andThen fun _ w'=>.ok (.slice base (sLen+n) sCap) w':=by
 obtain ⟨i,hi,hib⟩:=tbytes_run hb
 have hti:∀ w,(typeInfo e).run P w=.ok i w:=fun w=>by simp [typeInfo,hi]
 unfold Builtin.append_
 simp only [h1,h3,h4,Sem.run_bind,und_run hu,Result.andThen_ok,tsize_run hs,h2,und_run hd,Sem.run_pure]
 cases zb with
 | false=>
  obtain ⟨f1,f2⟩:=hf rfl
  cases d with
  | int k=>simp [isIntD] at hzb
  | _=>
   simp only [Bool.false_eq_true,if_false,f1,Result.andThen_ok,hroom,if_true,Sem.run_bind,Bool.not_false,f2 w rfl]
   cases base <;> simp
 | true=>
  obtain ⟨k,rfl,hn,t2⟩:=ht rfl
  have hbn:¬ ((n:Int) * (bytes:Int) > 2 ^ 48):=by
   have:n * bytes≤1073741824 * 65536:=Nat.mul_le_mul hn hby
   have h2:((n * bytes:Nat):Int)≤70368744177664:=by omega
   rw [Int.natCast_mul] at h2
   omega
  have hneg:¬ ((n:Int)<0):=by omega
  cases d with
  | int k=>
   simp only [if_true,asInt,asIntOf,Sem.run_bind,Sem.run_pure,Result.andThen_ok,wrap_small hn,Sem.run_ite,hneg,if_false,hti,hib,hbn,Int.toNat_natCast,hroom,Bool.not_true,Bool.false_eq_true]
   have:=t2 w
   simp only [Sem.run_ite,Sem.run_bind,Sem.run_pure] at this
   rw [this]
   cases base <;> simp
  | _=>simp [isIntD] at hzb
theorem run_choose_cap (w:World) (need old:Nat) (e:TypeId) (hn:need≤17592186044416):∃ c,need≤c∧(choose (.appendCap need old e)).run P w=.ok c w.drew:=by
 refine ⟨_,?_,by simp only [run_choose,Question.forced,Bool.false_eq_true,if_false];rfl⟩
 simp [Question.cut]
theorem append_grow {ts:Array TypeId} {ty st xt e:TypeId} {args:Array Value} {sz sLen sCap n:Nat} {base:Option Addr} {x vz:Value} {d:TypeDesc} {zb:Bool} {news olds:List Value}
  (h1:ts[0]?=some st) (h2:ts[1]?=some xt) (h3:args[0]?=some (.slice base sLen sCap)) (h4:args[1]?=some x) (hu:P.underlying st=some (.slice e)) (hs:tsize P e=some sz)
  (hd:P.underlying xt=some d) (hzb:zb=isIntD d) {bytes:Nat} (hb:tbytes P e=some bytes) (hby:bytes≤65536) (hz:∀ w,(zeroValue e).run P w=.ok vz w)
  (hf:zb=false→(Builtin.lenOf x).run P w=.ok n w∧∀ w',w'.heap=w.heap→(Builtin.firstCells sz n x).run P w'=.ok news.toArray w')
  (ht:zb=true→∃ k,x=.int k n∧n≤1073741824∧∀ w',(if n * sz=0 then pure #[] else do pure (Builtin.zeroCells (← zeroValue e).cells n):Sem (Array Value)).run P w'=.ok news.toArray w')
  (hold:∀ w',w'.heap=w.heap→(Builtin.firstCells sz sLen (.slice base sLen sCap)).run P w'=.ok olds.toArray w')
  (hroom:¬ sLen+n≤sCap) (hbig:(sLen+n) * bytes≤17592186044416) (hbig2:sLen+n≤17592186044416) :
  ∃ c,sLen+n≤c∧(Builtin.append_ ts ty args).run P w=.ok (.slice (some ⟨w.heap.size,0,none⟩) (sLen+n) c)
   (w.drew.alloc (.cells (olds.toArray++news.toArray++Builtin.zeroCells vz.cells (c - (sLen+n))) e)):=by
 obtain ⟨i,hi,hib⟩:=tbytes_run hb
 have hti:∀ w,(typeInfo e).run P w=.ok i w:=fun w=>by simp [typeInfo,hi]
 obtain ⟨c,c1,c2⟩:=run_choose_cap (P:=P) w (sLen+n) sCap e hbig2
 refine ⟨c,c1,?_⟩
 have hmx:¬ (((sLen+n:Nat):Int) > IntKind.i64.max):=by rw [max_i64];omega
 have hnx:¬ (Builtin.nextslicecap (sLen+n) sCap * i.bytes > 2 ^ 48):=by
  have:=growslice_fits (need:=sLen+n) (old:=sCap) (bytes:=i.bytes) (by omega) (by rw [hib];omega)
  omega
 unfold Builtin.append_
 simp only [h1,h3,h4,Sem.run_bind,und_run hu,Result.andThen_ok,tsize_run hs,h2,und_run hd,Sem.run_pure]
 have fin:((choose (.appendCap (sLen+n) sCap e)).run P w).andThen (fun newCap w'=>.ok newCap w')=.ok c w.drew:=by rw [c2];rfl
 cases zb with
 | false=>
  obtain ⟨f1,f2⟩:=hf rfl
  cases d with
  | int k=>simp [isIntD] at hzb
  | _=>
   simp only [Bool.false_eq_true,if_false,f1,Result.andThen_ok,hroom,Sem.run_bind,Bool.not_false,hti,Sem.run_ite,hmx,false_and,hnx,c2,run_askRoom,hold w.drew rfl,f2 w.drew rfl,if_true,hz,Sem.run_pure,newRow,run_newObj]
   rfl
 | true=>
  obtain ⟨k,rfl,hn,t2⟩:=ht rfl
  have hbn:¬ ((n:Int) * (bytes:Int) > 2 ^ 48):=by
   have:n * bytes≤1073741824 * 65536:=Nat.mul_le_mul hn hby
   have h2:((n * bytes:Nat):Int)≤70368744177664:=by omega
   rw [Int.natCast_mul] at h2
   omega
  have hneg:¬ ((n:Int)<0):=by omega
  cases d with
  | int k=>
   have t2':=t2 w.drew
   simp only [Sem.run_ite,Sem.run_bind,Sem.run_pure,hz,Result.andThen_ok] at t2'
   rw [← hib] at hbn
   simp only [if_true,asInt,asIntOf,Sem.run_bind,Sem.run_pure,Result.andThen_ok,wrap_small hn,Sem.run_ite,hneg,if_false,hti,hbn,Int.toNat_natCast,hroom,Bool.not_true,Bool.false_eq_true,hmx,false_and,hnx,c2,run_askRoom,hold w.drew rfl,hz,t2',newRow,run_newObj]
   rfl
  | _=>simp [isIntD] at hzb
theorem tzero_run2 {t:TypeId} {z:PV} (e:tzero P t=some z):∃ v,(∀ w,(zeroValue t).run P w=.ok v w)∧∀ (w:World) (A:Nat→Prop) (β:List (Nat × Nat)) (h:AHeap),VRel w A β h v z:=by
 unfold tzero at e
 cases hi:P.info? t with
 | none=>rw [hi] at e;simp at e
 | some i=>
  rw [hi] at e
  simp only [Option.bind_some] at e
  cases hz:i.zero with
  | none=>rw [hz] at e;simp at e
  | some v=>
   rw [hz] at e
   simp at e
   subst e
   exact ⟨v,fun w=>by simp [zeroValue,typeInfo,hi,hz],fun w A β h=>cv_rel w A β h v⟩
theorem beta_set {id:Nat} {bc:Nat × Nat} (hb:β[id]?=some bc):β.set id bc=β:=by
 apply List.ext_getElem?
 intro k
 by_cases hk:k=id
 ·subst hk;rw [List.getElem?_set_self (lt_of_some hb)];exact hb.symm
 ·rw [List.getElem?_set_ne (Ne.symm hk)]
theorem splice_sim (H:HRel w F β h) {id:Nat} {o:AObj} {bc:Nat × Nat} (eo:h[id]?=some o) (eb:β[id]?=some bc) (em:o.mu=.m) {news:List Value} {ys:List PV} (off:Nat)
  (hf:Flat w (Av F h β) β h o.esz news ys) (h1:∀ u∈news,u.oneCell'=true) (hle:off+ys.length≤o.es.length) :
  ∃ w',(storeCells ⟨bc.1,off * o.esz,none⟩ news).run P w=.ok () w' ∧
   HRel w' F β (h.set id {o with es:=o.es.take off++ys++o.es.drop (off+ys.length) })∧Stp w h β w' (h.set id {o with es:=o.es.take off++ys++o.es.drop (off+ys.length) }) β:=by
 obtain ⟨T,cs,k1,k2,k3,k4,k5⟩:=H.obj id o bc eo eb (by rw [em];simp)
 have hn:news.length=ys.length * o.esz:=hf.1
 have hfit:off * o.esz+ys.length * o.esz≤cs.size:=by
  rw [← Nat.add_mul]
  exact Nat.le_trans (Nat.mul_le_mul_right _ (by omega)) k3
 have hst:=run_storeCells_at P bc.1 (off * o.esz) T news 0 cs w k1 (by omega) h1
 simp only [Nat.add_zero] at hst
 have hcl:(cs.toList.take (off * o.esz)++news++cs.toList.drop (off * o.esz+news.length)).length=cs.size:=by
  simp only [List.length_append,List.length_take,List.length_drop,Array.length_toList];omega
 have hel:(o.es.take off++ys++o.es.drop (off+ys.length)).length=o.es.length:=by simp;omega
 refine ⟨_,hst,?_⟩
 have:=HRel.set H eo eb em (w':=w.setRow bc.1 (cs.toList.take (off * o.esz)++news++cs.toList.drop (off * o.esz+news.length)).toArray) T
  (cs.toList.take (off * o.esz)++news++cs.toList.drop (off * o.esz+news.length)).toArray (o.es.take off++ys++o.es.drop (off+ys.length)) o.ep bc (by simp)
  (setRow_heap w bc.1 cs _ T (0,0) k1) (fun b hb hne=>setRow_other w bc.1 b _ hne) (.inl ⟨rfl,fun _=>hel⟩) (Nat.le_refl _) rfl rfl rfl (by rw [hel];exact k2) (by rw [List.size_toArray,hcl];exact k3) (fun i e he=>?_)
 ·rw [beta_set eb] at this
  exact this
 ·rw [splice_get _ _ _ _ hle] at he
  have hi:i<o.es.length:=by
   rcases Nat.lt_or_ge i o.es.length with hh | hh
   ·exact hh
   ·rw [if_neg (by omega),if_neg (by omega),List.getElem?_eq_none hh] at he;cases he
  by_cases hA:off≤i∧i<off+ys.length
  ·rw [if_neg (by omega),if_pos hA.2] at he
   obtain ⟨n1,n2⟩:=hf.2 _ e he
   refine ⟨n1,fun j q hq=>?_⟩
   obtain ⟨u,p1,p2⟩:=n2 j q hq
   have hj:=lt_of_some hq
   refine ⟨u,?_,p2⟩
   have e1:i * o.esz=off * o.esz+(i - off) * o.esz:=by rw [← Nat.add_mul];congr 1;omega
   have e2:=mul_lt (s:=o.esz) (show i - off<ys.length by omega)
   rw [List.getElem?_toArray,splice_get _ _ _ _ (by rw [hn];simpa using hfit),if_neg (by omega),if_pos (by rw [hn];omega),e1]
   rw [show off * o.esz+(i - off) * o.esz+j - off * o.esz=(i - off) * o.esz+j by omega]
   exact p1
  ·have he':o.es[i]?=some e:=by
    by_cases hB:i<off
    ·rwa [if_pos hB] at he
    ·rwa [if_neg hB,if_neg (by omega)] at he
   obtain ⟨n1,n2⟩:=k5 i e he'
   refine ⟨n1,fun j q hq=>?_⟩
   obtain ⟨u,p1,p2⟩:=n2 j q hq
   have hj:=lt_of_some hq
   refine ⟨u,?_,p2⟩
   rw [List.getElem?_toArray,splice_get _ _ _ _ (by rw [hn];simpa using hfit)]
   by_cases hB:i<off
   ·have:=mul_lt (s:=o.esz) hB
    rw [if_pos (by omega)];simpa using p1
   ·have:(off+ys.length) * o.esz≤i * o.esz:=Nat.mul_le_mul_right _ (by omega)
    rw [Nat.add_mul] at this
    rw [if_neg (by omega),if_neg (by rw [hn];omega)];simpa using p1
theorem append_run (H:HRel w F β h) {ts:Array TypeId} {ty st xt:TypeId} {args:Array Value} {lv:Nat} {sv x:Value} {s px r:PV} {h':AHeap}
  (h1:ts[0]?=some st) (h2:ts[1]?=some xt) (h3:args[0]?=some sv) (h4:args[1]?=some x) (hs:VRel w (Av F h β) β h sv s) (hx:VRel w (Av F h β) β h x px)
  (e:appendP P lv h st xt s px=some (r,h')):Sim P lv w F β h (Builtin.append_ ts ty args) r h':=by
 unfold appendP at e
 split at e
 ·rename_i el hu
  split at e
  ·rename_i sz bytes z q1 q2 q3
   split at e
   ·rename_i ys hy
    split at e
    ·rename_i hc
     obtain ⟨hpos,hby,hzc,hall⟩:=hc
     obtain ⟨vz,z1,z2⟩:=tzero_run2 (P:=P) q3
     obtain ⟨zb,d,a1,a2,news,a3,a4,a5,a6⟩:=appendee_run (st:=st) (vz:=vz) H q1 q2 q3 hpos hby hx hy hall
     have zsz:vz.cells.size=sz:=by rw [((z2 w (Av F h β) β h).cells hzc.2).1];exact hzc.1
     have arr:∀ (cs:List Value) (n:Nat),cs.toArray++news.toArray++Builtin.zeroCells vz.cells n=(cs++news++(Builtin.zeroCells vz.cells n).toList).toArray:=fun cs n=>by apply Array.ext';simp
     have arrsz:∀ (cs:List Value) (k m c:Nat),cs.length=k * sz→k+m≤c→news.length=m * sz→c * sz≤(cs.toArray++news.toArray++Builtin.zeroCells vz.cells (c - (k+m))).size:=fun cs k m c e1 e2 e3=>by
      simp only [Array.size_append,List.size_toArray,size_zeroCells,zsz,e1,e3,← Nat.add_mul]
      rw [show k+m+(c - (k+m))=c by omega]
      exact Nat.le_refl _
     split at e
     ·-- a snapshot
      rename_i full es
      obtain ⟨a,cap,rfl,hle,hfull⟩:=hs.snap_inv.snap_len
      split at e
      ·rename_i hemp
       obtain rfl:ys=[]:=by simpa using hemp
       obtain ⟨rfl,rfl⟩:=Prod.mk.inj (Option.some.inj e)
       have hn:news=[]:=List.eq_nil_of_length_eq_zero (by simpa using a3.1)
       subst hn
       have:=append_room (P:=P) (w:=w) (ty:=ty) h1 h2 h3 h4 hu q1 a1 a2 q2 hby (n:=0) a5 a6 (by omega)
       refine Sim.still H (v:=.slice a es.length cap) ?_ hs
       rw [this]
       cases a <;> simp [storeCells]
      ·rename_i hne
       split at e
       ·rename_i hc2
        obtain ⟨rfl,hlv,hroomy,hes⟩:=hc2
        obtain ⟨rfl,rfl⟩:=Prod.mk.inj (Option.some.inj e)
        obtain ⟨b1,b2⟩:=roomy_spec hroomy
        have hy0:0<ys.length:=by
         cases ys with
         | nil=>simp at hne
         | cons=>simp
        have hcap:=hfull rfl
        have hez:∀ y∈es,(Pm.cells y).length=sz:=fun y hy=>by
         have:=List.all_eq_true.1 hes y hy
         simp only [Bool.and_eq_true,decide_eq_true_eq] at this
         exact this.1
        obtain ⟨a',cap',ev,_,cs,f1,f2⟩:=elems_flat (P:=P) H hs (show elems h (.snap true es)=some es from rfl) hez
        obtain ⟨c,c1,c2⟩:=append_grow (P:=P) (w:=w) (ty:=ty) (sLen:=es.length) h1 h2 h3 h4 hu q1 a1 a2 q2 hby z1 a5 a6 (fun w' hw'=>by
         have:=f2 w' hw' es.length (Nat.le_refl _)
         rwa [List.take_of_length_le (by rw [f1.1];omega)] at this) (by omega) b1 b2
        have hfl:=f1.append a3
        obtain ⟨HH,S⟩:=HRel.new H (w':=w.drew.alloc (.cells (cs.toArray++news.toArray++Builtin.zeroCells vz.cells (c - (es.length+ys.length))) el)) el
         (cs.toArray++news.toArray++Builtin.zeroCells vz.cells (c - (es.length+ys.length))) { mu:=.m,ep:=0,esz:=sz,es:=es++ys } c rfl rfl rfl rfl rfl (by simpa using c1)
         (arrsz cs _ _ c f1.1 c1 a3.1) hpos (fun i e he=>by
          rw [arr]
          exact hfl.obj (rest:=(Builtin.zeroCells vz.cells (c - (es.length+ys.length))).toList) i e he)
        exact ⟨_,_,_,c2,H.mrefNew,HH,S,fun _=>(Grew.drew w).trans (Grew.alloc _ _)⟩
       ·cases e
     ·-- a reference
      rename_i id ep off len
      split at e
      ·rename_i o ho
       obtain ⟨e1,e2,e3⟩:=getM_some ho
       obtain ⟨bc,hb⟩:=beta_at H.len e1
       obtain ⟨m1,m2,m3⟩:=hs.mref_inv
       split at e
       ·rename_i hc2
        obtain ⟨hle,hsz⟩:=hc2
        obtain ⟨cap,rfl,c2⟩:=m3 o bc e1 hb e3 e2 hle
        obtain ⟨T,cs0,k1,k2,k3,k4,k5⟩:=H.obj id o bc e1 hb e3
        split at e
        ·rename_i hemp
         obtain rfl:ys=[]:=by simpa using hemp
         obtain ⟨rfl,rfl⟩:=Prod.mk.inj (Option.some.inj e)
         have hn:news=[]:=List.eq_nil_of_length_eq_zero (by simpa using a3.1)
         subst hn
         have:=append_room (P:=P) (w:=w) (ty:=ty) h1 h2 h3 h4 hu q1 a1 a2 q2 hby (n:=0) a5 a6 (by omega)
         refine Sim.still H (v:=.slice (some ⟨bc.1,off * o.esz,none⟩) len cap) ?_ hs
         rw [this]
         simp [storeCells]
        ·rename_i hne
         split at e
         ·rename_i hc3
          obtain ⟨rfl,hlv,hmu,_,hin⟩:=hc3
          obtain ⟨rfl,rfl⟩:=Prod.mk.inj (Option.some.inj e)
          subst hsz
          have hrun:=append_room (P:=P) (w:=w) (ty:=ty) h1 h2 h3 h4 hu q1 a1 a2 q2 hby a5 a6 (show len+ys.length≤cap by omega)
          obtain ⟨w',s1,s2,s3⟩:=splice_sim (P:=P) H e1 hb hmu len a3 a4 hin
          simp only [Nat.zero_mul,addr_add,Nat.zero_add] at hrun
          rw [s1] at hrun
          simp only [Result.andThen_ok] at hrun
          refine ⟨_,w',β,hrun,?_,s2,s3,fun hh=>by omega⟩
          refine .mref _ id ep 0 (len+ys.length) {o with es:=o.es.take len++ys++o.es.drop (len+ys.length) } bc ⟨_,_,_,rfl⟩ (List.getElem?_set_self (lt_of_some e1)) hb (by show o.mu≠.x;rw [hmu];simp) (by show ep≤o.ep;omega) (fun _ _=>⟨cap,by simp,c2⟩)
         split at e
         ·rename_i hc3
          obtain ⟨rfl,hlv,hmu,hroomy⟩:=hc3
          obtain ⟨rfl,rfl⟩:=Prod.mk.inj (Option.some.inj e)
          obtain ⟨b1,b2⟩:=roomy_spec hroomy
          have hy0:0<ys.length:=by
           cases ys with
           | nil=>simp at hne
           | cons=>simp
          subst hsz
          have hes:elems h (.mref id ep 0 len)=some ((o.es.drop 0).take len):=by simp only [elems,ho,if_pos hle]
          have htl:((o.es.drop 0).take len).length=len:=by simp;omega
          obtain ⟨a',cap',ev,_,cs,f1,f2⟩:=elems_flat (P:=P) (sz:=o.esz) H hs hes (fun y hy=>by
           obtain ⟨k,hk⟩:=List.getElem?_of_mem hy
           rw [List.getElem?_take] at hk
           split at hk
           ·simp at hk;exact (k5 k y hk).1
           ·cases hk)
          simp only [List.drop_zero] at f1 htl f2
          have hlen0:len≤o.es.length:=by omega
          by_cases hroom:len+ys.length≤cap
          ·-- there is room
           have hrun:=append_room (P:=P) (w:=w) (ty:=ty) h1 h2 h3 h4 hu q1 a1 a2 q2 hby a5 a6 hroom
           have hk3:(len+ys.length) * o.esz≤cs0.size:=Nat.le_trans (Nat.mul_le_mul_right _ (by omega)) k3
           rw [Nat.add_mul] at hk3
           have hst:=run_storeCells_at P bc.1 (0 * o.esz+len * o.esz) T news 0 cs0 w k1 (by rw [a3.1];omega) a4
           simp only [Nat.zero_mul,Nat.zero_add,Nat.add_zero] at hst hrun
           rw [addr_add,Nat.zero_add,hst] at hrun
           simp only [Result.andThen_ok] at hrun
           have hflat0:Flat w (Av F h β) β h o.esz (cs0.toList.take (len * o.esz)) (o.es.take len):=by
            refine ⟨by simp only [List.length_take,Array.length_toList];rw [Nat.min_eq_left hlen0,Nat.min_eq_left (by omega)],fun i e he=>?_⟩
            rw [List.getElem?_take] at he
            split at he
            ·rename_i hi
             obtain ⟨n1,n2⟩:=k5 i e he
             refine ⟨n1,fun j q hq=>?_⟩
             obtain ⟨u,p1,p2⟩:=n2 j q hq
             have hj:=lt_of_some hq
             have:=mul_lt (s:=o.esz) hi
             exact ⟨u,by rw [List.getElem?_take,if_pos (by omega)];simpa using p1,p2⟩
            ·cases he
           have hfl:=hflat0.append a3
           have hdl:(cs0.toList.take (len * o.esz)++news++cs0.toList.drop (len * o.esz+news.length)).length=cs0.size:=by
            simp only [List.length_append,List.length_take,List.length_drop,Array.length_toList,a3.1];omega
           obtain ⟨HH,S⟩:=HRel.set H e1 hb hmu (w':=w.setRow bc.1 (cs0.toList.take (len * o.esz)++news++cs0.toList.drop (len * o.esz+news.length)).toArray) T
            (cs0.toList.take (len * o.esz)++news++cs0.toList.drop (len * o.esz+news.length)).toArray (o.es.take len++ys) (ep+1) bc (by simp)
            (setRow_heap w bc.1 cs0 _ T (0,0) k1) (fun b hb hne=>setRow_other w bc.1 b _ hne) (.inl ⟨rfl,fun he=>by omega⟩) (by omega) rfl rfl rfl (by simp;omega)
            (by rw [List.size_toArray,hdl];exact k3) (fun i e he=>hfl.obj i e he)
           exact ⟨_,_,_,hrun,by have:=H.mrefSet (w':=w.setRow bc.1 (cs0.toList.take (len * o.esz)++news++cs0.toList.drop (len * o.esz+news.length)).toArray) (A:=Av F (h.set id {o with es:=o.es.take len++ys,ep:=ep+1 }) (β.set id bc)) e1 hmu (b:=bc.1) (cap:=cap) (len:=len+ys.length) (ep:=ep+1) (es:=o.es.take len++ys);simpa [show cap=bc.2 by omega] using this,HH,S,fun hh=>by omega⟩
          ·-- it moves
           obtain ⟨c,c1,hrun⟩:=append_grow (P:=P) (w:=w) (ty:=ty) (olds:=cs) h1 h2 h3 h4 hu q1 a1 a2 q2 hby z1 a5 a6 (fun w' hw'=>by
            have e3:(.slice (some ⟨bc.1,0 * o.esz,none⟩) len cap:Value)=.slice (some ⟨bc.1,0 * o.esz,none⟩) len cap:=rfl
            have:=f2 w' hw' len (by omega)
            rwa [List.take_of_length_le (by rw [f1.1,htl];exact Nat.le_refl _)] at this) hroom b1 b2
           have hfl:=f1.append a3
           obtain ⟨HH,S⟩:=HRel.set H e1 hb hmu (w':=w.drew.alloc (.cells (cs.toArray++news.toArray++Builtin.zeroCells vz.cells (c - (len+ys.length))) el)) el
            (cs.toArray++news.toArray++Builtin.zeroCells vz.cells (c - (len+ys.length))) (o.es.take len++ys) (ep+1) (w.heap.size,c) (by simp)
            (heap_alloc_new w.drew _) (fun b hb hne=>heap_alloc_old w.drew _ b hb) (.inr ⟨Nat.le_refl _,by omega⟩) (by omega) rfl rfl rfl (by simp;omega)
            (arrsz cs _ _ c (by rw [f1.1,htl]) c1 a3.1) (fun i e he=>by
             rw [arr]
             exact hfl.obj (rest:=(Builtin.zeroCells vz.cells (c - (len+ys.length))).toList) i e he)
           exact ⟨_,_,_,hrun,H.mrefSet e1 hmu,HH,S,fun hh=>by omega⟩
         ·cases e
       ·cases e
      ·cases e
     ·cases e
    ·cases e
   ·cases e
  ·cases e
 ·cases e
end Go.Pm
end
section
namespace Go.Pm
variable {P:Program} {w:World} {F:Nat→Prop} {β:List (Nat × Nat)} {h:AHeap}
theorem copy_run (H:HRel w F β h) {ts:Array TypeId} {ty dt:TypeId} {args:Array Value} {lv:Nat} {dv x:Value} {d px r:PV} {h':AHeap}
    (h1:ts[0]?=some dt) (h3:args[0]?=some dv) (h4:args[1]?=some x) (hd:VRel w (Av F h β) β h dv d) (hx:VRel w (Av F h β) β h x px)
    (e:copyP P lv h dt d px=some (r,h')):Sim P lv w F β h (Builtin.copy_ ts ty args) r h':=by
  unfold copyP at e
  split at e
  · rename_i el id ep off len ys hu hy
    split at e
    · rename_i sz o hs ho
      split at e
      · rename_i hc
        obtain ⟨hlv,hmu,rfl,hle,hall,hones⟩:=hc
        obtain ⟨rfl,rfl⟩:=Prod.mk.inj (Option.some.inj e)
        obtain ⟨e1,e2,e3⟩:=getM_some ho
        obtain ⟨bc,hb⟩:=beta_at H.len e1
        obtain ⟨m1,m2,m3⟩:=hd.mref_inv
        obtain ⟨cap,rfl,c2⟩:=m3 o bc e1 hb e3 e2 hle
        obtain ⟨a,cap',rfl,hlec,cs,f1,f2⟩:=elems_flat (P:=P) (sz:=o.esz) H hx hy (fun y hy=>by
          have:=List.all_eq_true.1 hall y hy
          simpa only [decide_eq_true_eq] using this)
        obtain ⟨T,cs0,k1,k2,k3,k4,k5⟩:=H.obj id o bc e1 hb e3
        have hn:min ys.length len≤ys.length:=Nat.min_le_left _ _
        have ft:=f1.take (min ys.length len) hn
        have htl:(ys.take (min ys.length len)).length=min ys.length len:=by simp only [List.length_take];omega
        obtain ⟨w',r1,r2,r3⟩:=splice_sim (P:=P) H e1 hb hmu off ft (fun u hu=>ft.ones k4 hones u hu) (by rw [htl];omega)
        rw [htl] at r2 r3
        refine ⟨.int .i64 (min ys.length len:Nat),w',β,?_,.val (.int _ _),r2,r3,fun hh=>by omega⟩
        have hrun:=f2 w rfl (min ys.length len) hn
        simp only [Builtin.copy_,h1,h3,h4,Sem.run_bind,und_run hu,Result.andThen_ok,Builtin.lenOf,Sem.run_pure,tsize_run hs,goInt]
        have e0:Nat.min ys.length len=min ys.length len:=rfl
        rw [e0,hrun]
        simp only [Result.andThen_ok]
        rw [r1]
        simp
      · cases e
    · cases e
  · cases e
theorem clear_run (H:HRel w F β h) {ts:Array TypeId} {ty t:TypeId} {args:Array Value} {lv:Nat} {dv:Value} {d r:PV} {h':AHeap}
    (h1:ts[0]?=some t) (h3:args[0]?=some dv) (hd:VRel w (Av F h β) β h dv d)
    (e:clearP P lv h t d=some (r,h')):Sim P lv w F β h (Builtin.clear_ ts ty args) r h':=by
  unfold clearP at e
  split at e
  · rename_i el id ep off len hu
    split at e
    · rename_i sz z o hs hz ho
      split at e
      · rename_i hc
        obtain ⟨hlv,hmu,rfl,hle,hz1,hz2⟩:=hc
        obtain ⟨rfl,rfl⟩:=Prod.mk.inj (Option.some.inj e)
        obtain ⟨e1,e2,e3⟩:=getM_some ho
        obtain ⟨bc,hb⟩:=beta_at H.len e1
        obtain ⟨m1,m2,m3⟩:=hd.mref_inv
        obtain ⟨cap,rfl,c2⟩:=m3 o bc e1 hb e3 e2 hle
        obtain ⟨T,cs0,k1,k2,k3,k4,k5⟩:=H.obj id o bc e1 hb e3
        obtain ⟨vz,z1,z2⟩:=tzero_run2 (P:=P) hz
        obtain ⟨s1,s2⟩:=zero_flat (z2 w (Av F h β) β h) hz1 hz2 k4 len
        have hall:(List.replicate len z).all (fun v=>decide ((Pm.cells v).length=o.esz) && (Pm.cells v).all oneC)=true:=by
          rw [List.all_eq_true]
          intro x hx
          rw [List.mem_replicate] at hx
          simp [hx.2,hz1,hz2]
        obtain ⟨w',r1,r2,r3⟩:=splice_sim (P:=P) H e1 hb hmu off s2 (s2.ones k4 hall) (by simpa using hle)
        simp only [List.length_replicate] at r2 r3
        by_cases hl:len=0
        · subst hl
          refine ⟨.tuple #[],w,β,?_,.val (.tup [] [] rfl (by simp)),?_⟩
          · simp only [Builtin.clear_,h1,h3,Sem.run_bind,und_run hu,Result.andThen_ok,Sem.run_pure]
          · simp [storeCells] at r1
            subst r1
            exact ⟨r2,r3,fun _=>Grew.refl _⟩
        · refine ⟨.tuple #[],w',β,?_,.val (.tup [] [] rfl (by simp)),r2,r3,fun hh=>by omega⟩
          obtain ⟨n,rfl⟩:∃ n,len=n+1:=⟨len - 1,by omega⟩
          simp only [Builtin.clear_,h1,h3,Sem.run_bind,und_run hu,Result.andThen_ok,z1,Builtin.zeroCells,range_toList,s1]
          rw [s1] at r1
          rw [r1]
          simp
      · cases e
    · cases e
  · rename_i el full hu
    obtain ⟨rfl,rfl⟩:=Prod.mk.inj (Option.some.inj e)
    obtain ⟨a,cap,rfl,_⟩:=hd.snap_inv.snap_len
    refine Sim.still H (v:=.tuple #[]) ?_ (.val (.tup [] [] rfl (by simp)))
    cases a <;> simp [Builtin.clear_,h1,h3,und_run hu]
  · cases e
theorem make_run (H:HRel w F β h) {t:TypeId} {lv:Nat} {vl vc:Value} {l c r:PV} {h':AHeap} (hl:VRel w (Av F h β) β h vl l) (hc:VRel w (Av F h β) β h vc c)
    (e:makeSliceP P lv h t l c=some (r,h')):Sim P lv w F β h (Instr.makeSlice t vl vc) r h':=by
  unfold makeSliceP at e
  split at e
  · rename_i el k1 n k2 c hu
    obtain rfl:=hl.int_inv
    obtain rfl:=hc.int_inv
    split at e
    · rename_i sz bytes z hs hb hz
      split at e
      · rename_i hcc
        obtain ⟨hlv,hn,hnc,hcm,hpos,hby,hz1,hz2⟩:=hcc
        obtain ⟨rfl,rfl⟩:=Prod.mk.inj (Option.some.inj e)
        obtain ⟨vz,z1,z2⟩:=tzero_run2 (P:=P) hz
        obtain ⟨s1,s2⟩:=zero_flat (z2 w (Av F h β) β h) hz1 hz2 hpos n.toNat
        obtain ⟨i,hi,hib⟩:=tbytes_run hb
        have hti:∀ w,(typeInfo el).run P w=.ok i w:=fun w=>by simp [typeInfo,hi]
        obtain ⟨cn,rfl⟩:=Int.eq_ofNat_of_zero_le (show 0≤c by omega)
        obtain ⟨ln,rfl⟩:=Int.eq_ofNat_of_zero_le hn
        have hcn:cn≤1073741824:=by omega
        have hln:ln≤1073741824:=by omega
        have hbc:¬ ((i.bytes:Int) * (cn:Int) > 2 ^ 48):=by
          have:bytes * cn≤65536 * 1073741824:=Nat.mul_le_mul hby hcn
          have h2:((bytes * cn:Nat):Int)≤70368744177664:=by omega
          rw [Int.natCast_mul] at h2
          rw [hib];omega
        have hfull:List.map (fun i=>vz.cells[i % vz.cells.size]!) (List.range (cn * sz))=List.map (fun i=>vz.cells[i % vz.cells.size]!) (List.range (ln * sz))++List.drop (ln * sz) (List.map (fun i=>vz.cells[i % vz.cells.size]!) (List.range (cn * sz))):=by
          have hle:ln * sz≤cn * sz:=Nat.mul_le_mul_right _ (by omega)
          have:List.map (fun i=>vz.cells[i % vz.cells.size]!) (List.range (ln * sz))=List.take (ln * sz) (List.map (fun i=>vz.cells[i % vz.cells.size]!) (List.range (cn * sz))):=by
            rw [← List.map_take,List.take_range,Nat.min_eq_left hle]
          rw [this,List.take_append_drop]
        obtain ⟨HH,S⟩:=HRel.new H (w':=w.alloc (.cells (List.map (fun i=>vz.cells[i % vz.cells.size]!) (List.range (cn * sz))).toArray el)) el
          (List.map (fun i=>vz.cells[i % vz.cells.size]!) (List.range (cn * sz))).toArray { mu:=.m,ep:=0,esz:=sz,es:=List.replicate ln z } cn rfl rfl rfl rfl rfl (by simp;omega) (by simp) hpos (fun i e he=>by
            rw [hfull]
            exact s2.obj i e (by simpa using he))
        refine ⟨.slice (some ⟨w.heap.size,0,none⟩) ln cn,_,_,?_,H.mrefNew,HH,S,fun _=>Grew.alloc w _⟩
        · have hneg:¬ ((cn:Int)<0):=by omega
          have hneg2:¬ ((ln:Int)<0):=by omega
          have hgt:¬ ((ln:Int) > (cn:Int)):=by omega
          simp only [Instr.makeSlice,Sem.run_bind,und_run hu,Result.andThen_ok,asInt,asIntOf,Sem.run_pure,hti,wrap_small hcn,wrap_small hln,Sem.run_ite,hneg,hneg2,hgt,hbc,decide_false,Bool.or_self,Bool.false_eq_true,if_false,run_askRoom,tsize_run hs,Int.toNat_natCast,z1,newRow,run_newObj]
          by_cases hc0:cn * sz=0
          · simp only [hc0,if_true,range_toList,List.range_zero,List.map_nil]
            rfl
          · simp only [hc0,if_false,range_toList]
            rfl
      · cases e
    · cases e
  · cases e
theorem max_run {args:List Value} {ps:List PV} {r:PV} {ts:Array TypeId} {ty:TypeId} {A:Nat→Prop} (hr:L2 (VRel w A β h) args ps) (e:maxP ps=some r) :
    ∃ u,(Builtin.max_ ts ty args.toArray).run P w=.ok u w∧VRel w A β h u r:=by
  unfold maxP at e
  split at e
  · rename_i k a k' b
    obtain rfl:=Option.some.inj e
    obtain ⟨hl,hh⟩:=hr
    match args,hl with
    | [x,y],_=>
      have h0:=hh 0 (by simp)
      have h1:=hh 1 (by simp)
      simp only [List.getD_cons_zero,List.getD_cons_succ] at h0 h1
      obtain rfl:=h0.int_inv
      obtain rfl:=h1.int_inv
      exact ⟨_,by simp [Builtin.max_,Builtin.max2],.val (.int _ _)⟩
  · cases e
theorem min_run {args:List Value} {ps:List PV} {r:PV} {ts:Array TypeId} {ty:TypeId} {A:Nat→Prop} (hr:L2 (VRel w A β h) args ps) (e:minP ps=some r) :
    ∃ u,(Builtin.min_ ts ty args.toArray).run P w=.ok u w∧VRel w A β h u r:=by
  unfold minP at e
  split at e
  · rename_i k a k' b
    obtain rfl:=Option.some.inj e
    obtain ⟨hl,hh⟩:=hr
    match args,hl with
    | [x,y],_=>
      have h0:=hh 0 (by simp)
      have h1:=hh 1 (by simp)
      simp only [List.getD_cons_zero,List.getD_cons_succ] at h0 h1
      obtain rfl:=h0.int_inv
      obtain rfl:=h1.int_inv
      exact ⟨_,by simp [Builtin.min_,Builtin.min2],.val (.int _ _)⟩
  · cases e
theorem equalIn_bool (d:Nat) {t:TypeId} (hu:P.underlying t=some .bool) (a b:Bool) (w:World):(Op.equalIn (d+1) t (.bool a) (.bool b)).run P w=.ok (a == b) w:=by
  simp [Op.equalIn,und_run hu]
theorem equal_bool {t:TypeId} (hu:P.underlying t=some .bool) (a b:Bool) (w:World):(Op.equal t (.bool a) (.bool b)).run P w=.ok (a == b) w:=equalIn_bool 9999 hu a b w
theorem bin_run {op:BinOp} {t:TypeId} {x y:Value} {px py r:PV} {ox oy:Operand} {A:Nat→Prop} (hx:VRel w A β h x px) (hy:VRel w A β h y py) (e:binP P op t px py=some r) :
    ∃ u,((do eqGuard op t ox oy x y;binOp op t x y:Sem Value)).run P w=.ok u w∧VRel w A β h u r:=by
  unfold binP at e
  split at e
  · rename_i k a k' b
    obtain rfl:=hx.int_inv
    obtain rfl:=hy.int_inv
    have guard:(eqGuard op t ox oy (.int k a) (.int k' b)).run P w=.ok () w:=by
      cases op <;> simp [eqGuard]
    simp only [Sem.run_bind,guard,Result.andThen_ok]
    split at e
    · unfold shiftOp at e
      split at e
      · cases e
      · rename_i hb
        obtain rfl:=Option.some.inj e
        refine ⟨_,?_,.val (.int _ _)⟩
        simp [binOp,Op.shift,hb]
    · unfold shiftOp at e
      split at e
      · cases e
      · rename_i hb
        obtain rfl:=Option.some.inj e
        refine ⟨_,?_,.val (.int _ _)⟩
        simp [binOp,Op.shift,hb]
    · rename_i n1 n2
      split at e
      · rename_i hk
        subst hk
        unfold intOp at e
        split at e
        all_goals first
          | (obtain rfl:=Option.some.inj e;refine ⟨_,?_,.val (.int _ _)⟩;simp [binOp,Op.intArith,Op.intBits];done)
          | (obtain rfl:=Option.some.inj e;refine ⟨_,?_,.val (.bool _)⟩;simp [binOp,Op.intCmp];done)
          | (split at e
             · cases e
             · rename_i hb
               obtain rfl:=Option.some.inj e
               refine ⟨_,?_,.val (.int _ _)⟩
               simp [binOp,Op.intDiv,hb])
          | cases e
      · cases e
  · rename_i a b
    obtain rfl:=hx.str_inv
    obtain rfl:=hy.str_inv
    have guard:(eqGuard op t ox oy (.string a) (.string b)).run P w=.ok () w:=by
      cases op <;> simp [eqGuard]
    simp only [Sem.run_bind,guard,Result.andThen_ok]
    unfold strOp at e
    split at e
    all_goals first
      | (obtain rfl:=Option.some.inj e;refine ⟨_,?_,.val (.bool _)⟩;simp [binOp,Op.stringOp];done)
      | (split at e
         · cases e
         · rename_i hb
           obtain rfl:=Option.some.inj e
           refine ⟨_,?_,.val (.str _)⟩
           simp only [binOp,Op.stringOp]
           rw [if_neg hb]
           rfl)
      | cases e
  · rename_i a b
    obtain rfl:=hx.bool_inv
    obtain rfl:=hy.bool_inv
    have guard:(eqGuard op t ox oy (.bool a) (.bool b)).run P w=.ok () w:=by
      cases op <;> simp [eqGuard]
    simp only [Sem.run_bind,guard,Result.andThen_ok]
    split at e
    · rename_i hu
      split at e
      · obtain rfl:=Option.some.inj e
        refine ⟨_,?_,.val (.bool _)⟩
        simp only [binOp,Sem.run_bind,equal_bool hu,Result.andThen_ok,Sem.run_pure]
      · obtain rfl:=Option.some.inj e
        refine ⟨_,?_,.val (.bool _)⟩
        simp only [binOp,Sem.run_bind,equal_bool hu,Result.andThen_ok,Sem.run_pure]
      · cases e
    · cases e
  · cases e
theorem un_run {op:UnOp} {x:Value} {px r:PV} {A:Nat→Prop} (hx:VRel w A β h x px) (e:unP op px=some r) :
    ∃ u,(Op.unary op x).run P w=.ok u w∧VRel w A β h u r:=by
  unfold unP at e
  split at e
  · obtain rfl:=Option.some.inj e
    obtain rfl:=hx.int_inv
    exact ⟨_,by simp [Op.unary,Op.intArith],.val (.int _ _)⟩
  · obtain rfl:=Option.some.inj e
    obtain rfl:=hx.bool_inv
    exact ⟨_,by simp [Op.unary],.val (.bool _)⟩
  · cases e
theorem conv_run {s d:TypeId} {x:Value} {px r:PV} {A:Nat→Prop} (hx:VRel w A β h x px) (e:convP P s d px=some r) :
    ∃ u,(convert s d x).run P w=.ok u w∧VRel w A β h u r:=by
  unfold convP at e
  split at e
  · rename_i ds k k' n h1 h2
    obtain rfl:=Option.some.inj e
    obtain rfl:=hx.int_inv
    refine ⟨_,?_,.val (.int _ _)⟩
    simp only [convert,Sem.run_bind,und_run h1,und_run h2,Result.andThen_ok]
    cases ds <;> simp [Conv.intToInt]
  · rename_i ds st h1 h2
    obtain rfl:=Option.some.inj e
    obtain rfl:=hx.str_inv
    refine ⟨_,?_,.val (.str _)⟩
    simp only [convert,Sem.run_bind,und_run h1,und_run h2,Result.andThen_ok]
    cases ds <;> simp
  · cases e
end Go.Pm
end
section
namespace Go.Pm
variable {P:Program} {w:World} {F:Nat→Prop} {β:List (Nat × Nat)} {h:AHeap}
def OpR (w:World) (A:Nat→Prop) (β:List (Nat × Nat)) (h:AHeap):Option Value→Option PV→Prop
 | none,none=>True
 | some v,some p=>VRel w A β h v p
 | _,_=>False
theorem bound_some {A:Nat→Prop} {v:Value} {p:PV} {d t n:Nat} {code:BoundsCode} (hr:VRel w A β h v p) (e:boundP (some p) d t=some n) :
  n≤t∧∀ t',t≤t'→(Instr.sliceBound v t' code).run P w=.ok n w:=by
 unfold boundP at e
 split at e
 ·rename_i hn;cases hn
 ·rename_i k i hp
  obtain rfl:=Option.some.inj hp
  obtain rfl:=hr.int_inv
  split at e
  ·rename_i hc
   obtain rfl:=Option.some.inj e
   refine ⟨by omega,fun t' ht=>?_⟩
   have hc':0≤i∧i≤(t':Int):=by omega
   simp [Instr.sliceBound,asIntOf,hc']
  ·cases e
 ·cases e
theorem bound_none {d t n:Nat} (e:boundP none d t=some n):n=d:=by
 simpa [boundP] using e.symm
theorem sb_run {A:Nat→Prop} {len cap m b a:Nat} {lo hi mx:Option Value} {plo phi pmx:Option PV} (hlo:OpR w A β h lo plo) (hhi:OpR w A β h hi phi) (hmx:OpR w A β h mx pmx)
  (hle:len≤cap) (e1:boundP pmx len len=some m) (e2:boundP phi len m=some b) (e3:boundP plo 0 b=some a) (e4:(pmx.isSome && phi.isNone)=false) :
  ∃ mc,(Instr.sliceBounds true len cap lo hi mx).run P w=.ok (a,b,mc) w∧a≤b∧b≤len∧b≤mc∧(pmx=none→mc=cap)∧(pmx≠none→mc=m):=by
 have h3:a≤b∧∀ c,(match lo with | some v=>Instr.sliceBound v b c | none=>pure 0:Sem Nat).run P w=.ok a w:=by
  cases plo with
  | none=>cases lo with
   | none=>obtain rfl:=bound_none e3;exact ⟨Nat.zero_le _,fun c=>rfl⟩
   | some _=>simp [OpR] at hlo
  | some pl=>cases lo with
   | none=>simp [OpR] at hlo
   | some vl=>
    refine ⟨(bound_some (P:=P) (code:=.sliceB) (show VRel w A β h vl pl from hlo) e3).1,fun c=>?_⟩
    exact (bound_some (P:=P) (show VRel w A β h vl pl from hlo) e3).2 _ (Nat.le_refl _)
 cases pmx with
 | none=>
  cases mx with
  | some _=>simp [OpR] at hmx
  | none=>
   obtain rfl:=bound_none e1
   refine ⟨cap,?_,h3.1,?_,?_,fun _=>rfl,fun hh=>absurd rfl hh⟩
   ·cases phi with
    | none=>cases hi with
     | none=>
      obtain rfl:=bound_none e2
      simp only [Instr.sliceBounds,Sem.run_bind,Sem.run_pure,Result.andThen_ok]
      have:=h3.2 .sliceB
      cases lo <;> simp_all
     | some _=>simp [OpR] at hhi
    | some ph=>cases hi with
     | none=>simp [OpR] at hhi
     | some vh=>
      have hb:=(bound_some (P:=P) (code:=.sliceAcap) (show VRel w A β h vh ph from hhi) e2).2 cap hle
      simp only [Instr.sliceBounds,Sem.run_bind,Sem.run_pure,Result.andThen_ok,if_true,hb]
      have:=h3.2 .sliceB
      cases lo <;> simp_all
   ·cases phi with
    | none=>obtain rfl:=bound_none e2;exact Nat.le_refl _
    | some ph=>cases hi with
     | none=>simp [OpR] at hhi
     | some vh=>exact (bound_some (P:=P) (code:=.sliceAcap) (show VRel w A β h vh ph from hhi) e2).1
   ·cases phi with
    | none=>obtain rfl:=bound_none e2;exact hle
    | some ph=>cases hi with
     | none=>simp [OpR] at hhi
     | some vh=>exact Nat.le_trans (bound_some (P:=P) (code:=.sliceAcap) (show VRel w A β h vh ph from hhi) e2).1 hle
 | some pm=>
  cases mx with
  | none=>simp [OpR] at hmx
  | some vm=>
   obtain ⟨m1,m2⟩:=bound_some (P:=P) (code:=.slice3Acap) (show VRel w A β h vm pm from hmx) e1
   cases phi with
   | none=>simp at e4
   | some ph=>cases hi with
    | none=>simp [OpR] at hhi
    | some vh=>
     obtain ⟨b1,b2⟩:=bound_some (P:=P) (code:=.slice3B) (show VRel w A β h vh ph from hhi) e2
     refine ⟨m,?_,h3.1,by omega,b1,(fun hh=>by cases hh),(fun _=>rfl)⟩
     simp only [Instr.sliceBounds,Sem.run_bind,Result.andThen_ok,if_true,m2 cap hle,b2 m (Nat.le_refl _)]
     have:=h3.2 .slice3C
     cases lo <;> simp_all
theorem SRel.snap_open {A:Nat→Prop} {v:Value} {full:Bool} {es:List PV} (hv:SRel w A v (.snap full es)):es=[] ∨
  ∃ b off cap sz,∃ cvs:Nat→Nat→Value,v=.slice (some ⟨b,off,none⟩) es.length cap∧¬ A b∧0<sz∧(∀ i,i<es.length→(Pm.cells (es.getD i .any)).length=sz) ∧
   (∀ i j,i<es.length→j<sz→w.cell? ⟨b,off+(i * sz+j),none⟩=some (cvs i j)) ∧
   (∀ i j,i<es.length→j<sz→SRel w A (cvs i j) ((Pm.cells (es.getD i .any)).getD j .any)):=by
 cases hv with
 | snapE a cap _ hf=>exact .inl rfl
 | snap b off cap sz _ _ cvs h1 h2 h3 h4 h5 h6 h7 h8=>exact .inr ⟨b,off,cap,sz,cvs,rfl,h4,h5,h6,h7,h8⟩
theorem slice_run (H:HRel w F β h) {t:TypeId} {x:Value} {px r:PV} {lo hi mx:Option Value} {plo phi pmx:Option PV} (hx:VRel w (Av F h β) β h x px)
  (hlo:OpR w (Av F h β) β h lo plo) (hhi:OpR w (Av F h β) β h hi phi) (hmx:OpR w (Av F h β) β h mx pmx) (e:sliceP P h t px plo phi pmx=some r) :
  ∃ u,(Instr.sliceAt t x lo hi mx).run P w=.ok u w∧VRel w (Av F h β) β h u r:=by
 unfold sliceP at e
 split at e
 ·-- a string
  rename_i s hu
  obtain rfl:=hx.str_inv
  split at e
  ·cases e
  ·rename_i hm
   obtain rfl:pmx=none:=by simpa using hm
   obtain rfl:mx=none:=by cases mx <;> simp_all [OpR]
   split at e
   ·rename_i b hb
    split at e
    ·rename_i a ha
     obtain rfl:=Option.some.inj e
     have h1:∃ hb',(match hi with | some v=>Instr.sliceBound v s.size .sliceAlen | none=>pure s.size:Sem Nat).run P w=.ok b w∧hb'=b:=by
      cases phi with
      | none=>cases hi with
       | none=>exact ⟨b,by simp [bound_none hb],rfl⟩
       | some _=>simp [OpR] at hhi
      | some ph=>cases hi with
       | none=>simp [OpR] at hhi
       | some vh=>exact ⟨b,(bound_some (P:=P) (show VRel w _ β h vh ph from hhi) hb).2 _ (Nat.le_refl _),rfl⟩
     have h2:(match lo with | some v=>Instr.sliceBound v b .sliceB | none=>pure 0:Sem Nat).run P w=.ok a w:=by
      cases plo with
      | none=>cases lo with
       | none=>simp [bound_none ha]
       | some _=>simp [OpR] at hlo
      | some pl=>cases lo with
       | none=>simp [OpR] at hlo
       | some vl=>exact (bound_some (P:=P) (show VRel w _ β h vl pl from hlo) ha).2 _ (Nat.le_refl _)
     obtain ⟨_,h1,_⟩:=h1
     refine ⟨.string (s.extract a b),?_,.val (.str _)⟩
     simp only [Instr.sliceAt,Sem.run_bind,und_run hu,Result.andThen_ok,Instr.slice,Instr.sliceBounds]
     cases hi <;> cases lo <;> simp_all
    ·cases e
   ·cases e
 ·-- a snapshot
  rename_i el full es hu
  split at e
  ·rename_i sz hs
   split at e
   ·rename_i m hm
    split at e
    ·rename_i b hb
     split at e
     ·rename_i a ha
      split at e
      ·rename_i hc
       obtain ⟨hno,hone⟩:=hc
       obtain rfl:=Option.some.inj e
       obtain ⟨ad,cap,rfl,hle,hfull⟩:=hx.snap_inv.snap_len
       obtain ⟨mc,r1,r2,r3,r4,r5,r6⟩:=sb_run (P:=P) hlo hhi hmx hle hm hb ha hno
       have hrun:(Instr.sliceAt t (.slice ad es.length cap) lo hi mx).run P w=.ok (.slice (if mc=a then ad else ad.map (·.add (a * sz))) (b - a) (mc - a)) w:=by
        simp only [Instr.sliceAt,Sem.run_bind,und_run hu,Result.andThen_ok,Instr.slice,r1,tsize_run hs,Sem.run_pure]
       refine ⟨_,hrun,.val ?_⟩
       have hf':((if pmx.isSome then m == b else full && b == es.length)=true→mc - a=b - a):=by
        intro hh
        cases pmx with
        | none=>
         simp at hh
         have h1:=r5 rfl
         have h2:=hfull hh.1
         omega
        | some pm=>
         simp at hh
         have h1:=r6 (by simp)
         omega
       by_cases hab:b - a=0
       ·rw [hab]
        have:(es.drop a).take 0=[]:=by simp
        rw [this]
        exact .snapE _ _ _ (fun hh=>by have:=hf' hh;omega)
       ·have hmc:mc≠a:=by omega
        rw [if_neg hmc]
        rcases hx.snap_inv.snap_open with rfl | ⟨b0,off,cap',sz',cvs,ev,k4,k5,k6,k7,k8⟩
        ·simp at r3;omega
        ·simp at ev
         obtain ⟨rfl,rfl⟩:=ev
         have hsz:sz'=sz:=by
          have:=k6 a (by omega)
          have ha':es[a]?=some es[a]:=List.getElem?_eq_getElem (by omega)
          rw [ha'] at hone
          simp [List.getD,show a<es.length by omega] at this hone
          omega
         subst hsz
         have hlen:((es.drop a).take (b - a)).length=b - a:=by simp;omega
         have hget:∀ i,i<b - a→((es.drop a).take (b - a)).getD i .any=es.getD (a+i) .any:=fun i hi=>by
          simp [List.getD,List.getElem?_drop,hi]
         have:=SRel.snap (w:=w) (A:=Av F h β) b0 (off+a * sz') (mc - a) sz' (if pmx.isSome then m == b else full && b == es.length) ((es.drop a).take (b - a)) (fun i j=>cvs (a+i) j)
          (by intro hn;rw [hn] at hlen;simp at hlen;omega) (by rw [hlen];omega) (fun hh=>by rw [hlen];exact hf' hh) k4 k5
          (fun i hi=>by rw [hlen] at hi;rw [hget i hi];exact k6 (a+i) (by omega))
          (fun i j hi hj=>by
           rw [hlen] at hi
           have:=k7 (a+i) j (by omega) hj
           rw [Nat.add_mul] at this
           rw [show off+a * sz'+(i * sz'+j)=off+(a * sz'+i * sz'+j) by omega]
           exact this)
          (fun i j hi hj=>by rw [hlen] at hi;rw [hget i hi];exact k8 (a+i) j (by omega) hj)
         rw [hlen] at this
         simpa [addr_add] using this
      ·cases e
     ·cases e
    ·cases e
   ·cases e
  ·cases e
 ·-- a reference
  rename_i el id ep off len hu
  split at e
  ·rename_i sz o hs ho
   split at e
   ·rename_i hc
    obtain ⟨rfl,hle⟩:=hc
    obtain ⟨e1,e2,e3⟩:=getM_some ho
    obtain ⟨bc,hb0⟩:=beta_at H.len e1
    obtain ⟨m1,m2,m3⟩:=hx.mref_inv
    obtain ⟨cap,rfl,c2⟩:=m3 o bc e1 hb0 e3 e2 hle
    obtain ⟨T,cs0,k1,k2,k3,k4,k5⟩:=H.obj id o bc e1 hb0 e3
    split at e
    ·rename_i b hbey
     split at e
     ·rename_i a ha
      obtain ⟨hmxn,kk,ii,hhin,hgt,hbd⟩:pmx=none∧∃ kk ii,phi=some (.int kk ii)∧(len:Int)<ii∧boundP (some (.int kk ii)) 0 (o.es.length - off)=some b:=by
       unfold beyond at hbey
       split at hbey
       ·rename_i kk ii
        split at hbey
        ·exact ⟨rfl,kk,ii,rfl,by assumption,hbey⟩
        ·cases hbey
       ·cases hbey
      subst hmxn;subst hhin
      obtain ⟨mc,r1,r2,r3,r4,r5,r6⟩:=sb_run (P:=P) (len:=o.es.length - off) (cap:=cap) (m:=o.es.length - off) hlo hhi hmx (by omega) rfl hbd ha rfl
      have hmxv:mx=none:=by cases mx with | none=>rfl | some _=>simp [OpR] at hmx
      subst hmxv
      have r1':(Instr.sliceBounds true len cap lo hi none).run P w=.ok (a,b,mc) w:=by
       cases hi with
       | none=>simp [OpR] at hhi
       | some vh=>exact r1
      have hrun:(Instr.sliceAt t (.slice (some ⟨bc.1,off * o.esz,none⟩) len cap) lo hi none).run P w=.ok (.slice (if mc=a then some ⟨bc.1,off * o.esz,none⟩ else some ⟨bc.1,off * o.esz+a * o.esz,none⟩) (b - a) (mc - a)) w:=by
       simp only [Instr.sliceAt,Sem.run_bind,und_run hu,Result.andThen_ok,Instr.slice,r1',tsize_run hs,Sem.run_pure,Option.map_some,addr_add]
      refine ⟨_,hrun,?_⟩
      have h1:=r5 rfl
      split at e
      ·rename_i ha0
       subst ha0
       obtain rfl:=Option.some.inj e
       refine .mref _ id ep off b o bc ⟨_,_,_,rfl⟩ e1 hb0 e3 (m2 o e1) (fun _ _=>?_)
       exact ⟨cap,by rw [h1];split <;> simp,c2⟩
      ·rename_i ha0
       split at e
       ·rename_i hz
        obtain rfl:=Option.some.inj e
        rw [hz]
        exact .val (.snapE _ _ _ (fun hh=>by cases hh))
       ·rename_i hz
        obtain rfl:=Option.some.inj e
        rw [if_neg (by omega)]
        refine .mref _ id ep (off+a) (b - a) o bc ⟨_,_,_,rfl⟩ e1 hb0 e3 (m2 o e1) (fun _ _=>?_)
        exact ⟨cap - a,by rw [h1,Nat.add_mul],by omega⟩
     ·cases e
    split at e
    ·rename_i m hm
     split at e
     ·rename_i b hb
      split at e
      ·rename_i a ha
       split at e
       ·rename_i hno
        obtain ⟨mc,r1,r2,r3,r4,r5,r6⟩:=sb_run (P:=P) (cap:=cap) hlo hhi hmx (by omega) hm hb ha hno
        have hrun:(Instr.sliceAt t (.slice (some ⟨bc.1,off * o.esz,none⟩) len cap) lo hi mx).run P w=.ok (.slice (if mc=a then some ⟨bc.1,off * o.esz,none⟩ else some ⟨bc.1,off * o.esz+a * o.esz,none⟩) (b - a) (mc - a)) w:=by
         simp only [Instr.sliceAt,Sem.run_bind,und_run hu,Result.andThen_ok,Instr.slice,r1,tsize_run hs,Sem.run_pure,Option.map_some,addr_add]
        refine ⟨_,hrun,?_⟩
        split at e
        ·rename_i hms
         split at e
         ·rename_i hma
          obtain rfl:=Option.some.inj e
          have h1:=r6 (by intro hh;rw [hh] at hms;simp at hms)
          have:b - a=0:=by omega
          rw [this]
          exact .val (.snapE _ _ _ (fun _=>by omega))
         ·obtain rfl:=Option.some.inj e
          exact .any _
        ·rename_i hms
         have h1:=r5 (by cases pmx <;> simp_all)
         split at e
         ·rename_i ha0
          subst ha0
          obtain rfl:=Option.some.inj e
          refine .mref _ id ep off b o bc ⟨_,_,_,rfl⟩ e1 hb0 e3 (m2 o e1) (fun _ _=>?_)
          exact ⟨cap,by rw [h1];split <;> simp,c2⟩
         ·rename_i ha0
          split at e
          ·rename_i hz
           obtain rfl:=Option.some.inj e
           rw [hz]
           exact .val (.snapE _ _ _ (fun hh=>by cases hh))
          ·rename_i hz
           obtain rfl:=Option.some.inj e
           rw [if_neg (by omega)]
           refine .mref _ id ep (off+a) (b - a) o bc ⟨_,_,_,rfl⟩ e1 hb0 e3 (m2 o e1) (fun _ _=>?_)
           exact ⟨cap - a,by rw [h1,Nat.add_mul],by omega⟩
       ·cases e
      ·cases e
     ·cases e
    ·cases e
   ·cases e
  ·cases e
 ·cases e
theorem foldl_set (l:List Value):∀ (i off:Nat) (cs:Array Value),off+i+l.length≤cs.size →
  ((l.zipIdx i).foldl (fun cs (x:Value × Nat)=>cs.setIfInBounds (off+x.2) x.1) cs).size=cs.size ∧
  ∀ k,((l.zipIdx i).foldl (fun cs (x:Value × Nat)=>cs.setIfInBounds (off+x.2) x.1) cs)[k]?=if off+i≤k∧k<off+i+l.length then l[k - (off+i)]? else cs[k]?:=by
 induction l with
 | nil=>intro i off cs _;exact ⟨rfl,fun k=>by rw [if_neg (by simp only [List.length_nil];omega)];rfl⟩
 | cons v r ih=>
  intro i off cs hl
  simp only [List.length_cons] at hl
  obtain ⟨h1,h2⟩:=ih (i+1) off (cs.setIfInBounds (off+i) v) (by simp;omega)
  refine ⟨by simpa [List.zipIdx_cons] using h1,fun k=>?_⟩
  rw [List.zipIdx_cons,List.foldl_cons,h2 k]
  by_cases hA:off+i=k
  ·subst hA
   rw [if_neg (by omega),if_pos (by simp only [List.length_cons];omega)]
   rw [Array.getElem?_setIfInBounds_self_of_lt (by omega)]
   simp
  ·by_cases hB:off+(i+1)≤k∧k<off+(i+1)+r.length
   ·rw [if_pos hB,if_pos (by simp only [List.length_cons];omega)]
    obtain ⟨m,hm⟩:∃ m,k - (off+i)=m+1:=⟨k - (off+i) - 1,by omega⟩
    rw [hm,List.getElem?_cons_succ]
    congr 1
    omega
   ·rw [if_neg hB,if_neg (by simp only [List.length_cons];omega),Array.getElem?_setIfInBounds_ne hA]
theorem fill_one (v:Value) (off:Nat) (cs:Array Value) (hl:off+v.cells.size≤cs.size) :
  (v.cells.zipIdx.foldl (fun cs (x:Value × Nat)=>cs.setIfInBounds (off+x.2) x.1) cs).size=cs.size ∧
  ∀ k,(v.cells.zipIdx.foldl (fun cs (x:Value × Nat)=>cs.setIfInBounds (off+x.2) x.1) cs)[k]?=if off≤k∧k<off+v.cells.size then v.cells[k - off]? else cs[k]?:=by
 have:=foldl_set v.cells.toList 0 off cs (by simpa using hl)
 simp only [Nat.add_zero,Array.length_toList,Array.getElem?_toList] at this
 rw [← Array.foldl_toList,Array.toList_zipIdx]
 exact this
def PartsR (w:World) (A:Nat→Prop) (β:List (Nat × Nat)) (h:AHeap) (vs:List (Nat × Value)) (ps:List (Nat × PV)):Prop:=
 vs.length=ps.length∧∀ (k:Nat) (x:Nat × PV),ps[k]?=some x→∃ v:Value,vs[k]?=some (x.1,v)∧VRel w A β h v x.2
theorem PartsR.nil_inv {A:Nat→Prop} {vs:List (Nat × Value)} (r:PartsR w A β h vs []):vs=[]:=List.eq_nil_of_length_eq_zero r.1
theorem PartsR.cons_inv {A:Nat→Prop} {vs:List (Nat × Value)} {x:Nat × PV} {ps:List (Nat × PV)} (r:PartsR w A β h vs (x::ps)):∃ v vs',vs=(x.1,v)::vs'∧VRel w A β h v x.2∧PartsR w A β h vs' ps:=by
 obtain ⟨h1,h2⟩:=r
 obtain ⟨v,h3,h4⟩:=h2 0 x rfl
 match vs,h1,h3 with
 | y::vs',h1,h3=>
  simp at h3
  subst h3
  exact ⟨v,vs',rfl,h4,by simpa using h1,fun k x hx=>by simpa using h2 (k+1) x (by simpa using hx)⟩
def CellsR (w:World) (A:Nat→Prop) (β:List (Nat × Nat)) (h:AHeap) (cs:Array Value) (ps:List PV):Prop:=
 cs.size=ps.length∧∀ (k:Nat) (q:PV),ps[k]?=some q→∃ u:Value,cs[k]?=some u∧VRel w A β h u q
theorem fill_run {A:Nat→Prop} {pl:Nat→Option (Nat × Nat)} {pl':Nat→Option (Nat × Nat)} (hpl:∀ i x,pl i=some x→pl' i=some x):∀ (ps:List (Nat × PV)) (vs:List (Nat × Value)) (cs:Array Value) (cps r:List PV),
  PartsR w A β h vs ps→CellsR w A β h cs cps→fillP pl cps ps=some r→∃ cs',Instr.fill pl' cs vs=some cs'∧CellsR w A β h cs' r:=by
 intro ps
 induction ps with
 | nil=>
  intro vs cs cps r hp hc e
  obtain rfl:=hp.nil_inv
  simp [fillP] at e
  subst e
  exact ⟨cs,by simp [Instr.fill],hc⟩
 | cons x ps ih=>
  intro vs cs cps r hp hc e
  obtain ⟨v,vs',rfl,h1,h2⟩:=hp.cons_inv
  obtain ⟨i,p⟩:=x
  simp only [fillP] at e
  split at e
  ·cases e
  ·rename_i off size hi
   split at e
   ·rename_i hcc
    obtain ⟨c1,c2,c3⟩:=hcc
    obtain ⟨x1,x2⟩:=h1.cells c2
    simp only at x1 x2 c1
    have hsz:=hc.1
    obtain ⟨f1,f2⟩:=fill_one v off cs (by omega)
    obtain ⟨cs',g1,g2⟩:=ih vs' _ (setRange cps off (Pm.cells p)) r h2 (by
     refine ⟨by rw [f1];simp [setRange];omega,fun k q hq=>?_⟩
     rw [setRange,splice_get _ _ _ _ (by omega)] at hq
     rw [f2 k]
     by_cases hA:k<off
     ·rw [if_pos hA] at hq
      obtain ⟨u,m1,m2⟩:=hc.2 k q hq
      exact ⟨u,by rw [if_neg (by omega)];exact m1,m2⟩
     ·rw [if_neg hA] at hq
      by_cases hB:k<off+(Pm.cells p).length
      ·rw [if_pos hB] at hq
       obtain ⟨u,m1,m2,_⟩:=x2 _ q hq
       exact ⟨u,by rw [if_pos (by omega)];exact m1,m2⟩
      ·rw [if_neg hB] at hq
       obtain ⟨u,m1,m2⟩:=hc.2 k q hq
       exact ⟨u,by rw [if_neg (by omega)];exact m1,m2⟩) e
    refine ⟨cs',?_,g2⟩
    simp only [Instr.fill,hpl i _ hi]
    rw [if_neg (by simp;omega)]
    exact g1
   ·cases e
theorem mapM_places (fs:Array Field) (hall:fs.toList.all (fun f=>(tsize P f.type).isSome)=true) (w:World) :
  ∃ pl:Array (Nat × Nat),(fs.mapM (fun f=>do pure (f.offset,← sizeOf f.type)):Sem (Array (Nat × Nat))).run P w=.ok pl w∧∀ i x,fieldPlaces P fs i=some x→pl[i]?=some x:=by
 have main:∀ (l:List Field),l.all (fun f=>(tsize P f.type).isSome)=true →
   ∃ pl:List (Nat × Nat),(l.mapM (fun f=>do pure (f.offset,← sizeOf f.type)):Sem (List (Nat × Nat))).run P w=.ok pl w∧∀ (i:Nat) (f:Field),l[i]?=some f→∃ s,tsize P f.type=some s∧pl[i]?=some (f.offset,s):=by
  intro l
  induction l with
  | nil=>intro _;exact ⟨[],by simp,fun i f hf=>by simp at hf⟩
  | cons f r ih=>
   intro ha
   simp at ha
   obtain ⟨s,hs⟩:=Option.isSome_iff_exists.1 ha.1
   obtain ⟨pl,h1,h2⟩:=ih (by simpa using ha.2)
   refine ⟨(f.offset,s)::pl,?_,fun i g hg=>?_⟩
   ·simp only [List.mapM_cons,Sem.run_bind,tsize_run hs,Result.andThen_ok,Sem.run_pure,h1]
   ·cases i with
    | zero=>simp at hg;subst hg;exact ⟨s,hs,rfl⟩
    | succ i=>simpa using h2 i g (by simpa using hg)
 obtain ⟨pl,h1,h2⟩:=main fs.toList hall
 refine ⟨pl.toArray,?_,fun i x hx=>?_⟩
 ·rw [← Array.toArray_toList (xs:=fs),List.mapM_toArray]
  simp only [Sem.run_map,h1,Result.andThen_ok]
 ·unfold fieldPlaces at hx
  split at hx
  ·rename_i f hf
   obtain ⟨s,g1,g2⟩:=h2 i f (by simpa using hf)
   rw [g1] at hx
   simp at hx
   subst hx
   simpa using g2
  ·cases hx
theorem CellsR.agg {A:Nat→Prop} {cs:Array Value} {ps:List PV} (r:CellsR w A β h cs ps):VRel w A β h (.agg cs) (.agg ps):=by
 have:=VRel.agg (w:=w) (A:=A) (β:=β) (h:=h) cs.toList ps (by simpa using r.1) (fun j hj=>by
  obtain ⟨u,m1,m2⟩:=r.2 j ps[j] (List.getElem?_eq_getElem hj)
  have e1:cs.toList.getD j Go.undef=u:=by simp [List.getD,m1]
  have e2:ps.getD j .any=ps[j]:=by simp [List.getD,hj]
  rw [e1,e2]
  exact m2)
 simpa using this
theorem zero_cellsR {A:Nat→Prop} {t:TypeId} {z:PV} (e:tzero P t=some z) (h1:(Pm.cells z).all oneC=true) (w:World) (β:List (Nat × Nat)) (h:AHeap):∃ v,(∀ w,(zeroValue t).run P w=.ok v w)∧CellsR w A β h v.cells (Pm.cells z):=by
 obtain ⟨v,z1,z2⟩:=tzero_run2 (P:=P) e
 obtain ⟨x1,x2⟩:=(z2 w A β h).cells h1
 exact ⟨v,z1,x1,fun k q hq=>by obtain ⟨u,m1,m2,_⟩:=x2 k q hq;exact ⟨u,m1,m2⟩⟩
theorem build_run {A:Nat→Prop} {t:TypeId} {vs:Array (Nat × Value)} {ps:List (Nat × PV)} {r:PV} (hp:PartsR w A β h vs.toList ps) (e:buildP P t ps=some r) :
  ∃ u,(Instr.build t vs).run P w=.ok u w∧VRel w A β h u r:=by
 unfold buildP at e
 split at e
 ·rename_i z fs hz hu
  split at e
  ·rename_i hall
   obtain ⟨hall,hone⟩:=hall
   cases hf:fillP (fieldPlaces P fs) (Pm.cells z) ps with
   | none=>rw [hf] at e;simp at e
   | some q=>
    rw [hf] at e
    simp at e
    subst e
    obtain ⟨v,z1,z2⟩:=zero_cellsR (P:=P) (A:=A) hz hone w β h
    obtain ⟨pl,p1,p2⟩:=mapM_places fs hall w
    obtain ⟨cs',g1,g2⟩:=fill_run (pl':=fun i=>pl[i]?) p2 ps vs.toList v.cells (Pm.cells z) q hp z2 hf
    refine ⟨.agg cs',?_,g2.agg⟩
    simp only [Instr.build,Sem.run_bind,z1,Result.andThen_ok,und_run hu,p1,g1,Sem.run_pure]
  ·cases e
 ·rename_i z n el hz hu
  split at e
  ·rename_i size hs
   split at e
   ·rename_i hone
    cases hf:fillP (fun i=>some (i * size,size)) (Pm.cells z) ps with
    | none=>rw [hf] at e;simp at e
    | some q=>
     rw [hf] at e
     simp at e
     subst e
     obtain ⟨v,z1,z2⟩:=zero_cellsR (P:=P) (A:=A) hz hone w β h
     obtain ⟨cs',g1,g2⟩:=fill_run (pl':=fun i=>some (i * size,size)) (fun _ _ hx=>hx) ps vs.toList v.cells (Pm.cells z) q hp z2 hf
     refine ⟨.agg cs',?_,g2.agg⟩
     simp only [Instr.build,Sem.run_bind,z1,Result.andThen_ok,und_run hu,tsize_run hs,g1,Sem.run_pure]
   ·cases e
  ·cases e
 ·cases e
theorem Flat.set {A:Nat→Prop} {sz:Nat} {cs cs':Array Value} {es:List PV} (a:Flat w A β h sz cs.toList es) {v:Value} {p:PV} (hv:VRel w A β h v p) (h1:(Pm.cells p).length=sz) (h2:(Pm.cells p).all oneC=true)
  (i:Nat) (hi:i<es.length) (hsz:cs'.size=cs.size) (hk:∀ k,cs'[k]?=if i * sz≤k∧k<i * sz+v.cells.size then v.cells[k - i * sz]? else cs[k]?):Flat w A β h sz cs'.toList (es.set i p):=by
 obtain ⟨x1,x2⟩:=hv.cells h2
 refine ⟨by have:=a.1;simp at this ⊢;omega,fun k e he=>?_⟩
 by_cases hki:k=i
 ·subst hki
  rw [List.getElem?_set_self hi] at he
  obtain rfl:=Option.some.inj he
  refine ⟨h1,fun j q hq=>?_⟩
  have hj:=lt_of_some hq
  obtain ⟨u,m1,m2,_⟩:=x2 j q hq
  refine ⟨u,?_,m2⟩
  rw [Array.getElem?_toList,hk,if_pos (by omega),show k * sz+j - k * sz=j by omega]
  exact m1
 ·rw [List.getElem?_set_ne (Ne.symm hki)] at he
  obtain ⟨n1,n2⟩:=a.2 k e he
  refine ⟨n1,fun j q hq=>?_⟩
  have hj:=lt_of_some hq
  obtain ⟨u,m1,m2⟩:=n2 j q hq
  refine ⟨u,?_,m2⟩
  rw [Array.getElem?_toList,hk,if_neg]
  ·simpa using m1
  ·rcases Nat.lt_or_gt_of_ne hki with hl | hg
   ·have:=mul_lt (s:=sz) hl;omega
   ·have:=mul_lt (s:=sz) hg;omega
theorem fill_flat {A:Nat→Prop} {sz:Nat}:∀ (ps:List (Nat × PV)) (vs:List (Nat × Value)) (cs:Array Value) (es:List PV),PartsR w A β h vs ps→Flat w A β h sz cs.toList es →
  (∀ x∈ps,(Pm.cells x.2).length=sz∧(Pm.cells x.2).all oneC=true∧x.1<es.length) →
  ∃ cs',Instr.fill (fun i=>some (i * sz,sz)) cs vs=some cs'∧Flat w A β h sz cs'.toList (ps.foldl (fun es x=>es.set x.1 x.2) es):=by
 intro ps
 induction ps with
 | nil=>
  intro vs cs es hp hf _
  obtain rfl:=hp.nil_inv
  exact ⟨cs,by simp [Instr.fill],hf⟩
 | cons x ps ih=>
  intro vs cs es hp hf hall
  obtain ⟨v,vs',rfl,h1,h2⟩:=hp.cons_inv
  obtain ⟨c1,c2,c3⟩:=hall x (by simp)
  obtain ⟨x1,_⟩:=h1.cells c2
  have hl:=hf.1
  have hm:=mul_lt (s:=sz) c3
  simp at hl
  obtain ⟨f1,f2⟩:=fill_one v (x.1 * sz) cs (by omega)
  have hf':=hf.set h1 c1 c2 x.1 c3 f1 f2
  obtain ⟨cs',g1,g2⟩:=ih vs' _ _ h2 hf' (fun y hy=>by
   obtain ⟨d1,d2,d3⟩:=hall y (by simp [hy])
   exact ⟨d1,d2,by simpa using d3⟩)
  refine ⟨cs',?_,g2⟩
  simp only [Instr.fill]
  rw [if_neg (by simp;omega)]
  exact g1
theorem Flat.snap {A:Nat→Prop} {sz:Nat} {cs:List Value} {es:List PV} (a:Flat w A β h sz cs es) (hs:0<sz) (hv:isVals es=true) {w':World} {A':Nat→Prop} {b cap:Nat} {full:Bool}
  (hw:∀ k,k<w.heap.size→¬ A k→w'.heap[k]?=w.heap[k]?) (hA:∀ k,k<w.heap.size→¬ A k→¬ A' k) (hb:¬ A' b) (hc:∀ (k:Nat) (u:Value),cs[k]?=some u→w'.cell? ⟨b,k,none⟩=some u) (hcap:es.length≤cap) (hfull:full=true→cap=es.length) :
  SRel w' A' (.slice (some ⟨b,0,none⟩) es.length cap) (.snap full es):=by
 by_cases hn:es=[]
 ·subst hn
  exact .snapE _ _ _ (fun hh=>by simpa using hfull hh)
 ·have isv:∀ (l:List PV),isVals l=true→∀ e∈l,isVal e=true:=by
   intro l
   induction l with
   | nil=>intro _ e he;cases he
   | cons c r ih=>
    intro hl e he
    simp [isVals] at hl
    rcases List.mem_cons.1 he with rfl | he
    ·exact hl.1
    ·exact ih hl.2 e he
  have celv:∀ (e:PV),isVal e=true→∀ q∈Pm.cells e,isVal q=true:=by
   intro e he q hq
   cases e <;> first
    | (simp only [Pm.cells,List.mem_singleton] at hq;subst hq;exact he)
    | (simp [isVal] at he;exact isv _ he q hq)
  have at_:∀ i j,i<es.length→j<sz→∃ u,cs[i * sz+j]?=some u∧SRel w A u ((Pm.cells (es.getD i .any)).getD j .any):=by
   intro i j hi hj
   have he:=List.getElem?_eq_getElem hi
   obtain ⟨n1,n2⟩:=a.2 i _ he
   have hq:=List.getElem?_eq_getElem (show j<(Pm.cells es[i]).length by omega)
   obtain ⟨u,m1,m2⟩:=n2 j _ hq
   have e1:es.getD i .any=es[i]:=by simp [List.getD,hi]
   refine ⟨u,m1,?_⟩
   rw [e1]
   have e2:(Pm.cells es[i]).getD j .any=(Pm.cells es[i])[j]'(by omega):=by simp [List.getD,hq]
   rw [e2]
   exact m2.toS (celv _ (isv es hv _ (List.getElem_mem hi)) _ (List.getElem_mem _))
  refine .snap b 0 cap sz full es (fun i j=>cs.getD (i * sz+j) Go.undef) hn hcap hfull hb hs (fun i hi=>?_) (fun i j hi hj=>?_) (fun i j hi hj=>?_)
  ·have e1:es.getD i .any=es[i]:=by simp [List.getD,hi]
   rw [e1];exact (a.2 i _ (List.getElem?_eq_getElem hi)).1
  ·obtain ⟨u,m1,m2⟩:=at_ i j hi hj
   rw [Nat.zero_add,hc _ u m1]
   simp [List.getD,m1]
  ·obtain ⟨u,m1,m2⟩:=at_ i j hi hj
   have:cs.getD (i * sz+j) Go.undef=u:=by simp [List.getD,m1]
   rw [this]
   exact m2.mono hw hA
theorem buildSlice_run (H:HRel w F β h) {lv:Nat} {t:TypeId} {n:Nat} {vs:Array (Nat × Value)} {ps:List (Nat × PV)} {r:PV} {h':AHeap} (hp:PartsR w (Av F h β) β h vs.toList ps) (e:buildSliceP P lv h t n ps=some (r,h')) :
  Sim P lv w F β h (Instr.buildSlice t n vs) r h':=by
 unfold buildSliceP at e
 split at e
 ·rename_i el hu
  split at e
  ·rename_i size z hs hz
   split at e
   ·rename_i hc
    obtain ⟨hpos,hbig,hz1,hz2,hall⟩:=hc
    obtain ⟨vz,z1,z2⟩:=tzero_run2 (P:=P) hz
    obtain ⟨s1,s2⟩:=zero_flat (z2 w (Av F h β) β h) hz1 hz2 hpos n
    obtain ⟨cs',g1,g2⟩:=fill_flat (sz:=size) ps vs.toList (List.map (fun i=>vz.cells[i % vz.cells.size]!) (List.range (n * size))).toArray (List.replicate n z) hp (by simpa using s2) (fun x hx=>by
     have:=List.all_eq_true.1 hall x hx
     simp only [Bool.and_eq_true,decide_eq_true_eq] at this
     exact ⟨this.1.1,this.1.2,by simpa using this.2⟩)
    have hlit:ps.foldl (fun es x=>es.set x.1 x.2) (List.replicate n z)=litP z n ps:=rfl
    rw [hlit] at g2
    have hll:(litP z n ps).length=n:=by
     have:∀ (l:List (Nat × PV)) (es:List PV),(l.foldl (fun es x=>es.set x.1 x.2) es).length=es.length:=by
      intro l
      induction l with
      | nil=>intro es;rfl
      | cons x l ih=>intro es;rw [List.foldl_cons,ih];simp
     unfold litP
     rw [this];simp
    have hrun:(Instr.buildSlice t n vs).run P w=.ok (.slice (some ⟨w.heap.size,0,none⟩) n n) (w.alloc (.cells cs' el)):=by
     simp only [Instr.buildSlice,Sem.run_bind,und_run hu,Result.andThen_ok,tsize_run hs,Sem.run_ite]
     rw [if_neg (by omega)]
     by_cases h0:n * size=0
     ·have hnn:n=0:=by
       rcases Nat.mul_eq_zero.1 h0 with h | h
       ·exact h
       ·omega
      subst hnn
      simp only [h0,if_true,Sem.run_pure,Result.andThen_ok,range_toList,List.range_zero,List.map_nil] at g1 ⊢
      rw [g1]
      simp only [Sem.run_bind,newRow,run_newObj,Result.andThen_ok,Sem.run_pure]
      rfl
     ·simp only [h0,if_false,z1,Result.andThen_ok,Sem.run_pure,range_toList]
      rw [g1]
      simp only [Sem.run_bind,newRow,run_newObj,Result.andThen_ok,Sem.run_pure]
      rfl
    split at e
    ·rename_i hv
     obtain ⟨rfl,rfl⟩:=Prod.mk.inj (Option.some.inj e)
     refine ⟨_,_,β,hrun,.val ?_,H.grew (Grew.alloc w _),(Grew.alloc w _).stp h β,fun _=>Grew.alloc w _⟩
     have:=g2.snap (w':=w.alloc (.cells cs' el)) (A':=Av F h β) (b:=w.heap.size) (cap:=n) (full:=true) hpos hv (fun k hk _=>heap_alloc_old w _ k hk) (fun k _ hk=>hk)
      (fun hm=>by have:=Av.lt H hm;omega) (fun k u hku=>by rw [World.cell?_alloc_new];simpa using hku) (by omega) (fun _=>by omega)
     rwa [hll] at this
    ·rename_i hv
     split at e
     ·obtain ⟨rfl,rfl⟩:=Prod.mk.inj (Option.some.inj e)
      obtain ⟨HH,S⟩:=HRel.new H (w':=w.alloc (.cells cs' el)) el cs' { mu:=.m,ep:=0,esz:=size,es:=litP z n ps } n rfl rfl rfl rfl rfl (by simp [hll])
       (by have:=g2.1;simp [hll] at this;simp [this]) hpos (fun i e he=>by
        obtain ⟨n1,n2⟩:=g2.2 i e he
        exact ⟨n1,fun j p hp=>by obtain ⟨u,m1,m2⟩:=n2 j p hp;exact ⟨u,by simpa using m1,m2⟩⟩)
      exact ⟨_,_,_,hrun,H.mrefNew,HH,S,fun _=>Grew.alloc w _⟩
     ·cases e
   ·cases e
  ·cases e
 ·cases e
end Go.Pm
end
section
namespace Go.Pm
variable {P:Program} {w:World} {F:Nat→Prop} {β:List (Nat × Nat)} {h:AHeap}
def ERel (w:World) (A:Nat→Prop) (β:List (Nat × Nat)) (h:AHeap) (a:Act) (ρ:Nat→PV):Prop:=∀ t,VRel w A β h (a.tmps.getD t Go.undef) (ρ t)
theorem ERel.ev {A:Nat→Prop} {a:Act} {ρ:Nat→PV} (r:ERel w A β h a ρ) (x:Operand):VRel w A β h (a.eval x) (Pm.ev ρ x):=by
 cases x with
 | tmp t=>exact r t
 | const v=>exact cv_rel w A β h v
 | global g=>exact .any _
 | func f=>exact .fn f [] [] rfl (by simp)
theorem ERel.evs {A:Nat→Prop} {a:Act} {ρ:Nat→PV} (r:ERel w A β h a ρ) (xs:List Operand):L2 (VRel w A β h) (xs.map a.eval) (xs.map (Pm.ev ρ)):=by
 refine ⟨by simp,fun j hj=>?_⟩
 simp at hj
 have e1:(xs.map a.eval).getD j undef=a.eval xs[j]:=by simp [List.getD,hj]
 have e2:(xs.map (Pm.ev ρ)).getD j .any=Pm.ev ρ xs[j]:=by simp [List.getD,hj]
 rw [e1,e2]
 exact r.ev _
theorem ERel.parts {A:Nat→Prop} {a:Act} {ρ:Nat→PV} (r:ERel w A β h a ρ) (xs:Array (Nat × Operand)):PartsR w A β h (xs.map fun (i,x)=>(i,a.eval x)).toList (xs.toList.map fun (i,x)=>(i,Pm.ev ρ x)):=by
 refine ⟨by simp,fun k x hx=>?_⟩
 simp only [List.getElem?_map,Option.map_eq_some_iff] at hx
 obtain ⟨y,h1,rfl⟩:=hx
 exact ⟨a.eval y.2,by simp only [Array.toList_map,List.getElem?_map,h1];rfl,r.ev y.2⟩
theorem ERel.opt {A:Nat→Prop} {a:Act} {ρ:Nat→PV} (r:ERel w A β h a ρ) (x:Option Operand):OpR w A β h (x.map a.eval) (x.map (Pm.ev ρ)):=by
 cases x with
 | none=>trivial
 | some x=>exact r.ev x
def OSim (P:Program) (lv:Nat) (w:World) (F:Nat→Prop) (β:List (Nat × Nat)) (h:AHeap) (s:Sem Next) (p:PV) (h':AHeap):Prop:=
 ∃ v w' β',(s.run P w=.ok (.value v) w'∨(s.run P w=.ok .skip w'∧v=undef))∧VRel w' (Av F h' β') β' h' v p∧HRel w' F β' h'∧Stp w h β w' h' β'∧(lv≤1→Grew w w')
theorem Sim.o {lv:Nat} {s:Sem Value} {p:PV} {h':AHeap} (x:Sim P lv w F β h s p h'):OSim P lv w F β h (do pure (.value (← s))) p h':=by
 obtain ⟨v,w',β',h1,h2,h3,h4⟩:=x
 exact ⟨v,w',β',.inl (by simp only [Sem.run_bind,h1,Result.andThen_ok,Sem.run_pure]),h2,h3,h4⟩
theorem still_o {lv:Nat} (H:HRel w F β h) {s:Sem Value} {p:PV} (x:∃ u,s.run P w=.ok u w∧VRel w (Av F h β) β h u p):OSim P lv w F β h (do pure (.value (← s))) p h:=by
 obtain ⟨u,h1,h2⟩:=x
 exact (Sim.still H h1 h2).o
theorem map_pair {α:Type} {x:Option α} {h:AHeap} {p:α} {h':AHeap} (e:x.map (·,h)=some (p,h')):x=some p∧h'=h:=by
 cases x with
 | none=>cases e
 | some y=>simp at e;exact ⟨by rw [e.1],e.2.symm⟩
theorem stepOp_sim (H:HRel w F β h) {a:Act} {ρ:Nat→PV} (R:ERel w (Av F h β) β h a ρ) {lv:Nat} {o:Oper} {p:PV} {h':AHeap} (hc:∀ c,o.op≠.call c) (e:stepOp P lv o.op ρ h=some (p,h')) :
  OSim P lv w F β h (execOp a.eval o) p h':=by
 obtain ⟨dst,op,type,pos,after,guard⟩:=o
 simp only at e hc ⊢
 cases op <;> simp only [stepOp] at e <;> simp only [execOp]
 case move x=>
  obtain ⟨rfl,rfl⟩:=Prod.mk.inj (Option.some.inj e)
  exact ⟨_,w,β,.inl rfl,R.ev x,H,Stp.refl w h β,fun _=>Grew.refl w⟩
 case assign x=>
  obtain ⟨rfl,rfl⟩:=Prod.mk.inj (Option.some.inj e)
  exact ⟨_,w,β,.inl rfl,R.ev x,H,Stp.refl w h β,fun _=>Grew.refl w⟩
 case pick c x y=>
  split at e
  ·rename_i t ht
   obtain ⟨rfl,rfl⟩:=Prod.mk.inj (Option.some.inj e)
   have hb:=R.ev c
   rw [ht] at hb
   have:=hb.bool_inv
   refine ⟨if t then a.eval x else a.eval y,w,β,.inl ?_,?_,H,Stp.refl w h β,fun _=>Grew.refl w⟩
   ·simp only [this,asBool,Sem.run_bind,Sem.run_pure,Result.andThen_ok]
   ·cases t
    ·exact R.ev y
    ·exact R.ev x
  ·cases e
 case alloc t=>
  split at e
  ·rename_i z hz
   split at e
   ·rename_i hcc
    obtain ⟨rfl,rfl⟩:=Prod.mk.inj (Option.some.inj e)
    exact (alloc_run H t hz hcc.2.1 hcc.2.2).o
   ·cases e
  ·cases e
 case box t x=>
  split at e
  ·rename_i hcc
   obtain ⟨rfl,rfl⟩:=Prod.mk.inj (Option.some.inj e)
   exact (box_run H t (R.ev x) hcc.2.1 hcc.2.2).o
  ·cases e
 case build t ps=>
  obtain ⟨e1,rfl⟩:=map_pair e
  exact still_o H (build_run (R.parts ps) e1)
 case buildSlice t n ps=>exact (buildSlice_run H (R.parts ps) e).o
 case load t x=>
  obtain ⟨e1,rfl⟩:=map_pair e
  exact still_o H (load_run H (R.ev x) e1)
 case store t x y=>
  split at e
  ·rename_i hlv
   cases hs:storeP P h t (Pm.ev ρ x) (Pm.ev ρ y) with
   | none=>rw [hs] at e;simp at e
   | some h2=>
    rw [hs] at e
    simp at e
    obtain ⟨rfl,rfl⟩:=e
    obtain ⟨w',β',r1,r2,r3⟩:=store_run H (R.ev x) (R.ev y) hs
    exact ⟨undef,w',β',.inr ⟨by simp only [Sem.run_bind,r1,Result.andThen_ok,Sem.run_pure],rfl⟩,.undef,r2,r3,fun hh=>by omega⟩
  ·cases e
 case nilCheck x=>
  have hx:=R.ev x
  generalize a.eval x=v at hx ⊢
  split at e
  ·rename_i id ep i oo hp
   obtain ⟨rfl,rfl⟩:=Prod.mk.inj (Option.some.inj e)
   rw [hp] at hx
   cases hx with
   | val hs=>cases hs
   | ptr _ _ _ _ _ oo bc h0 h1 h2 h3 h4 h5=>
    obtain ⟨ad,rfl⟩:=h0
    exact ⟨_,w,β,.inl rfl,.ptr _ _ _ _ _ oo bc ⟨_,rfl⟩ h1 h2 h3 h4 h5,H,Stp.refl w h β,fun _=>Grew.refl w⟩
  ·rename_i cs hp
   obtain ⟨rfl,rfl⟩:=Prod.mk.inj (Option.some.inj e)
   rw [hp] at hx
   have hs:=hx.sptr_inv
   cases hs with
   | sptr=>exact ⟨_,w,β,.inl rfl,hx,H,Stp.refl w h β,fun _=>Grew.refl w⟩
  ·rename_i f cs hp
   obtain ⟨rfl,rfl⟩:=Prod.mk.inj (Option.some.inj e)
   rw [hp] at hx
   obtain ⟨vs,rfl,_⟩:=hx.fn_inv
   exact ⟨_,w,β,.inl rfl,hx,H,Stp.refl w h β,fun _=>Grew.refl w⟩
  ·cases e
 case binOp op t x y yt=>
  obtain ⟨e1,rfl⟩:=map_pair e
  exact still_o H (bin_run (R.ev x) (R.ev y) e1)
 case unOp op t x=>
  obtain ⟨e1,rfl⟩:=map_pair e
  exact still_o H (un_run (R.ev x) e1)
 case convert s d x=>
  obtain ⟨e1,rfl⟩:=map_pair e
  exact still_o H (conv_run (R.ev x) e1)
 case makeFunc fn first caps=>
  cases fn <;> simp only at e <;> try (cases e;done)
  rename_i f
  split at e
  ·rename_i hf
   obtain ⟨rfl,rfl⟩:=Prod.mk.inj (Option.some.inj e)
   obtain rfl:first = #[]:=by simpa using hf
   obtain ⟨l1,l2⟩:=R.evs caps.toList
   refine (Sim.still H (v:=.func (.func f) #[] (caps.toList.map a.eval).toArray) ?_ (.fn f _ _ l1 l2)).o
   have:caps.map a.eval=(caps.toList.map a.eval).toArray:=by apply Array.ext';simp
   simp [Instr.makeFunc,this]
  ·obtain ⟨rfl,rfl⟩:=Prod.mk.inj (Option.some.inj e)
   obtain ⟨l1,l2⟩:=R.evs (first.toList++caps.toList)
   refine (Sim.still H (v:=.func (.func f) (((first.toList++caps.toList).map a.eval).take first.size).toArray (((first.toList++caps.toList).map a.eval).drop first.size).toArray) ?_ (.bfn f first.size _ _ l1 l2)).o
   have e1:first.map a.eval=(((first.toList++caps.toList).map a.eval).take first.size).toArray:=by apply Array.ext';simp
   have e2:caps.map a.eval=(((first.toList++caps.toList).map a.eval).drop first.size).toArray:=by apply Array.ext';simp
   simp only [Instr.makeFunc,e1,e2];rfl
 case makeSlice t l c=>exact (make_run H (R.ev l) (R.ev c) e).o
 case slice t x lo hi mx=>
  obtain ⟨e1,rfl⟩:=map_pair e
  exact still_o H (slice_run H (R.ev x) (R.opt lo) (R.opt hi) (R.opt mx) e1)
 case fieldAddr s x f=>
  obtain ⟨e1,rfl⟩:=map_pair e
  exact still_o H (fieldAddr_run H (R.ev x) e1)
 case field s x f=>
  obtain ⟨e1,rfl⟩:=map_pair e
  exact still_o H (field_run (R.ev x) e1)
 case indexAddr t x ix=>
  obtain ⟨e1,rfl⟩:=map_pair e
  exact still_o H (indexAddr_run H (R.ev x) (R.ev ix) e1)
 case index t x ix=>
  obtain ⟨e1,rfl⟩:=map_pair e
  exact still_o H (index_run (R.ev x) (R.ev ix) e1)
 case extract x i=>
  split at e
  ·rename_i vs hv
   split at e
   ·rename_i v hi
    obtain ⟨rfl,rfl⟩:=Prod.mk.inj (Option.some.inj e)
    have hx:=R.ev x
    rw [hv] at hx
    obtain ⟨us,hu,hl,hr⟩:=hx.tup_inv
    have hj:=lt_of_some hi
    have:=hr i hj
    have e2:vs.getD i .any=v:=by simp [List.getD,hi]
    rw [e2] at this
    refine still_o H ⟨us.getD i Go.undef,?_,this⟩
    rw [hu]
    have:i<us.length:=by omega
    simp [Instr.extract,this,List.getD]
   ·cases e
  ·cases e
 case call c=>exact absurd rfl (hc c)
 all_goals cases e
theorem builtin_sim (H:HRel w F β h) {a:Act} {ρ:Nat→PV} (R:ERel w (Av F h β) β h a ρ) {lv:Nat} {b:Builtin} {ts:Array TypeId} {ty:TypeId} {cb:Array Bool} {xs:Array Operand} {p:PV} {h':AHeap}
  (e:builtinP P lv h b ts.toList (xs.toList.map (Pm.ev ρ))=some (p,h')):OSim P lv w F β h (builtin b ts ty cb (xs.map a.eval)) p h':=by
 have ts0:∀ {t:TypeId} {r:List TypeId},ts.toList=t::r→ts[0]?=some t:=fun hh=>by rw [← Array.getElem?_toList,hh];rfl
 have ts1:∀ {t t':TypeId} {r:List TypeId},ts.toList=t::t'::r→ts[1]?=some t':=fun hh=>by rw [← Array.getElem?_toList,hh];rfl
 have xs0:∀ {p:PV} {r:List PV},xs.toList.map (Pm.ev ρ)=p::r→∃ v,(xs.map a.eval)[0]?=some v∧VRel w (Av F h β) β h v p:=fun {p r} hh=>by
  cases hx:xs.toList with
  | nil=>rw [hx] at hh;simp at hh
  | cons y ys=>
   rw [hx] at hh
   simp at hh
   refine ⟨a.eval y,?_,by rw [← hh.1];exact R.ev y⟩
   rw [← Array.getElem?_toList,Array.toList_map,hx];rfl
 have xs1:∀ {p q:PV} {r:List PV},xs.toList.map (Pm.ev ρ)=p::q::r→∃ v,(xs.map a.eval)[1]?=some v∧VRel w (Av F h β) β h v q:=fun {p q r} hh=>by
  cases hx:xs.toList with
  | nil=>rw [hx] at hh;simp at hh
  | cons y ys=>
   cases hy:ys with
   | nil=>rw [hx,hy] at hh;simp at hh
   | cons z zs=>
    rw [hx,hy] at hh
    simp at hh
    refine ⟨a.eval z,?_,by rw [← hh.2.1];exact R.ev z⟩
    rw [← Array.getElem?_toList,Array.toList_map,hx,hy];rfl
 have earr:xs.map a.eval=(xs.toList.map a.eval).toArray:=by apply Array.ext';simp
 unfold builtinP at e
 split at e
 ·rename_i t r x r' h1 h2
  obtain ⟨e1,rfl⟩:=map_pair e
  obtain ⟨v,v1,v2⟩:=xs0 h2
  refine still_o H ?_
  cases hx:xs.toList with
  | nil=>rw [hx] at h2;simp at h2
  | cons y ys=>
   rw [earr,hx,List.map_cons]
   rw [hx] at h2
   simp at h2
   have:=R.ev y
   rw [h2.1] at this
   exact len_run H (ts0 h1) this e1
 ·rename_i st xt r s x r' h1 h2
  obtain ⟨v,v1,v2⟩:=xs0 h2
  obtain ⟨u,u1,u2⟩:=xs1 h2
  exact (append_run H (ts0 h1) (ts1 h1) v1 u1 v2 u2 e).o
 ·rename_i dt r d x r' h1 h2
  obtain ⟨v,v1,v2⟩:=xs0 h2
  obtain ⟨u,u1,u2⟩:=xs1 h2
  exact (copy_run H (ts0 h1) v1 u1 v2 u2 e).o
 ·rename_i t r x r' h1 h2
  obtain ⟨v,v1,v2⟩:=xs0 h2
  exact (clear_run H (ts0 h1) v1 v2 e).o
 ·rename_i t r x r' h1 h2
  obtain ⟨e1,rfl⟩:=map_pair e
  obtain ⟨v,v1,v2⟩:=xs0 h2
  refine still_o H ?_
  unfold capP at e1
  split at e1
  ·rename_i el es hu
   obtain rfl:=Option.some.inj e1
   obtain ⟨ad,cap,rfl,_,hf⟩:=v2.snap_inv.snap_len
   obtain rfl:=hf rfl
   exact ⟨_,by simp [Builtin.cap_,ts0 h1,v1,und_run hu,goInt],.val (.int _ _)⟩
  ·cases e1
 ·rename_i tt xx
  obtain ⟨e1,rfl⟩:=map_pair e
  rw [earr]
  exact still_o H (max_run (R.evs xs.toList) e1)
 ·rename_i tt xx
  obtain ⟨e1,rfl⟩:=map_pair e
  rw [earr]
  exact still_o H (min_run (R.evs xs.toList) e1)
 ·cases e
end Go.Pm
end
