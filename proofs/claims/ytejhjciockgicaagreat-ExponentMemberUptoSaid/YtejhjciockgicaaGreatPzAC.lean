/-
  A part of the library Pm and its contracts (joined by program): PmCall PmRule2 PmRule3 PmRule4 PmRule5 PmC6 PmRule6 PmTab PmTerm PmSpec PmPow PmVal PmBack PmName PmSize. Conditions: none.
-/
import Derived.Test.YtejhjciockgicaaGreatPzAB
import Derived.Test.YtejhjciockgicaaGreatPzAA
import Derived.Test.YtejhjciockgicaaGreatProg
import Derived.KernelRfl
import Derived.Lib.Bytealg
set_option linter.unusedVariables false
set_option linter.unusedSimpArgs false
section
namespace Go.Pm
variable {P:Program} {w:World} {F:Nat→Prop} {β:List (Nat × Nat)} {h:AHeap}
theorem nrms_eq (cs:List PV):nrms cs=cs.map nrm:=by
 induction cs with
 | nil=>rfl
 | cons c r ih=>simp [nrms,ih]
theorem isVals_eq (cs:List PV):isVals cs=cs.all isVal:=by
 induction cs with
 | nil=>rfl
 | cons c r ih=>simp [isVals,ih]
theorem scals_eq (cs:List PV):scals cs=cs.all scal:=by
 induction cs with
 | nil=>rfl
 | cons c r ih=>simp [scals,ih]
theorem nrm_getD (cs:List PV) (j:Nat):(nrms cs).getD j .any=nrm (cs.getD j .any):=by
 rw [nrms_eq]
 simp only [List.getD,List.getElem?_map]
 cases cs[j]? <;> simp [nrm]
theorem cells_nrm (e:PV):Pm.cells (nrm e)=nrms (Pm.cells e):=by
 cases e <;> simp [nrm,Pm.cells,nrms]
theorem SRel.nrm {A:Nat→Prop} {v:Value} {p:PV} (r:SRel w A v p):SRel w A v (Pm.nrm p):=by
 induction r with
 | int k n=>exact .int k n
 | bool b=>exact .bool b
 | str s=>exact .str s
 | nilp=>exact .nilp
 | nilf=>exact .nilf
 | agg vs cs hl _ ih=>exact .agg vs _ (by simp [nrms_eq,hl]) (fun j hj=>by rw [nrm_getD];exact ih j (by simpa [nrms_eq] using hj))
 | tup vs cs hl _ ih=>exact .tup vs _ (by simp [nrms_eq,hl]) (fun j hj=>by rw [nrm_getD];exact ih j (by simpa [nrms_eq] using hj))
 | fn f vs cs hl _ ih=>exact .fn f vs _ (by simp [nrms_eq,hl]) (fun j hj=>by rw [nrm_getD];exact ih j (by simpa [nrms_eq] using hj))
 | bfn f k vs cs hl _ ih=>exact .bfn f k vs _ (by simp [nrms_eq,hl]) (fun j hj=>by rw [nrm_getD];exact ih j (by simpa [nrms_eq] using hj))
 | snapE a cap full hf=>exact .snapE a cap false (fun hh=>by cases hh)
 | snap b off cap sz full es cvs h1 h2 h3 h4 h5 h6 h7 _ ih=>
  have hl:(nrms es).length=es.length:=by simp [nrms_eq]
  have:=SRel.snap (w:=w) (A:=A) b off cap sz false (nrms es) cvs (by intro hn;rw [hn] at hl;exact h1 (List.eq_nil_of_length_eq_zero hl.symm)) (by omega) (fun hh=>by cases hh) h4 h5
   (fun i hi=>by rw [nrm_getD,cells_nrm,nrms_eq,List.length_map];exact h6 i (by omega)) (fun i j hi hj=>h7 i j (by omega) hj)
   (fun i j hi hj=>by rw [nrm_getD,cells_nrm,nrm_getD];exact ih i j (by omega) hj)
  rw [hl] at this
  exact this
 | sptr b off cs cvs h1 h2 h3 _ ih=>
  have hl:(nrms cs).length=cs.length:=by simp [nrms_eq]
  exact .sptr b off (nrms cs) cvs (by intro hn;rw [hn] at hl;exact h1 (List.eq_nil_of_length_eq_zero hl.symm)) h2 (fun j hj=>h3 j (by omega)) (fun j hj=>by rw [nrm_getD];exact ih j (by omega))
theorem all_getD {f:PV→Bool} {cs:List PV} (h:cs.all f=true) {j:Nat} (hj:j<cs.length):f (cs.getD j .any)=true:=by
 have:cs.getD j .any=cs[j]:=by simp [List.getD,hj]
 rw [this]
 exact List.all_eq_true.1 h _ (List.getElem_mem hj)
theorem SRel.scal {A A':Nat→Prop} {w':World} {v:Value} {p:PV} (r:SRel w A v p) (hs:Pm.scal p=true):SRel w' A' v p:=by
 induction r with
 | int k n=>exact .int k n
 | bool b=>exact .bool b
 | str s=>exact .str s
 | nilp=>exact .nilp
 | nilf=>exact .nilf
 | agg vs cs hl _ ih=>simp [Pm.scal,scals_eq] at hs;exact .agg vs _ hl (fun j hj=>ih j hj (all_getD (by simpa using hs) hj))
 | tup vs cs hl _ ih=>simp [Pm.scal,scals_eq] at hs;exact .tup vs _ hl (fun j hj=>ih j hj (all_getD (by simpa using hs) hj))
 | fn f vs cs hl _ ih=>simp [Pm.scal] at hs
 | bfn f k vs cs hl _ ih=>simp [Pm.scal] at hs
 | snapE a cap full hf=>simp [Pm.scal] at hs
 | snap=>simp [Pm.scal] at hs
 | sptr=>simp [Pm.scal] at hs
theorem rb1_sim (H:HRel w F β h) {A':Nat→Prop} (hA:∀ b,b<w.heap.size→¬ Av F h β b→¬ A' b) {v:Value} {p p':PV} (hv:VRel w (Av F h β) β h v p) (e:rb1 h p=some p')
  (hM:∀ (id:Nat) (o:AObj) (bc:Nat × Nat),id∈ids1 p→h[id]?=some o→β[id]?=some bc→(o.mu=.m∨o.mu=.f)→¬ A' bc.1):SRel w A' v p':=by
 unfold rb1 at e
 split at e
 ·rename_i id ep off len
  split at e
  ·rename_i o ho
   split at e
   ·rename_i hc
    obtain ⟨hle,hmf,hval⟩:=hc
    obtain rfl:=Option.some.inj e
    obtain ⟨e1,e2,e3⟩:=getM_some ho
    obtain ⟨bc,hb⟩:=beta_at H.len e1
    obtain ⟨h1,h2,h3⟩:=hv.mref_inv
    obtain ⟨cap,rfl,c2⟩:=h3 o bc e1 hb e3 e2 hle
    obtain ⟨T,cs0,k1,k2,k3,k4,k5⟩:=H.obj id o bc e1 hb e3
    have hlen:((o.es.drop off).take len).length=len:=by simp;omega
    by_cases hl0:len=0
    ·subst hl0
     simp
     exact .snapE _ _ _ (fun hh=>by cases hh)
    ·have at_i:∀ i,i<len→∃ e,((o.es.drop off).take len).getD i .any=e∧o.es[off+i]?=some e∧isVal e=true:=fun i hi=>by
      have g1:((o.es.drop off).take len)[i]?=some (o.es[off+i]'(by omega)):=by
       rw [List.getElem?_take,if_pos hi,List.getElem?_drop]
       exact List.getElem?_eq_getElem (by omega)
      refine ⟨o.es[off+i]'(by omega),by rw [List.getD_eq_getElem?_getD,g1];rfl,List.getElem?_eq_getElem (by omega),?_⟩
      rw [isVals_eq] at hval
      exact List.all_eq_true.1 hval _ (List.mem_of_getElem? g1)
     have celv:∀ (e:PV),isVal e=true→∀ q∈Pm.cells e,isVal q=true:=by
      intro e he q hq
      cases e <;> first
       | (simp only [Pm.cells,List.mem_singleton] at hq;subst hq;exact he)
       | (simp only [isVal,isVals_eq] at he;exact List.all_eq_true.1 he q hq)
     have hcell:∀ i j,i<len→j<o.esz→∃ u,w.cell? ⟨bc.1,off * o.esz+(i * o.esz+j),none⟩=some u∧SRel w A' u ((Pm.cells (((o.es.drop off).take len).getD i .any)).getD j .any):=by
      intro i j hi hj
      obtain ⟨el,g1,g2,g3⟩:=at_i i hi
      obtain ⟨n1,n2⟩:=k5 _ el g2
      have hq:=List.getElem?_eq_getElem (show j<(Pm.cells el).length by omega)
      obtain ⟨u,m1,m2⟩:=n2 j _ hq
      refine ⟨u,?_,?_⟩
      ·rw [cell_of_row w bc.1 _ cs0 T (0,0) k1,← Nat.add_assoc,← Nat.add_mul]
       exact m1
      ·rw [g1]
       have e2:(Pm.cells el).getD j .any=(Pm.cells el)[j]'(by omega):=by simp [List.getD,hq]
       rw [e2]
       exact (m2.toS (celv el g3 _ (List.getElem_mem _))).mono (fun _ _ _=>rfl) hA
     have:=SRel.snap (w:=w) (A:=A') bc.1 (off * o.esz) cap o.esz false ((o.es.drop off).take len) (fun i j=>(w.cell? ⟨bc.1,off * o.esz+(i * o.esz+j),none⟩).getD Go.undef)
      (by intro hn;rw [hn] at hlen;simp at hlen;omega) (by rw [hlen];omega) (fun hh=>by cases hh) (hM id o bc (by simp [ids1]) e1 hb hmf) k4
      (fun i hi=>by rw [hlen] at hi;obtain ⟨el,g1,g2,g3⟩:=at_i i hi;rw [g1];exact (k5 _ el g2).1)
      (fun i j hi hj=>by rw [hlen] at hi;obtain ⟨u,m1,m2⟩:=hcell i j hi hj;rw [m1];rfl)
      (fun i j hi hj=>by rw [hlen] at hi;obtain ⟨u,m1,m2⟩:=hcell i j hi hj;rw [m1];exact m2)
     rw [hlen] at this
     exact this
   ·cases e
  ·cases e
 ·split at e
  ·rename_i hv2
   obtain rfl:=Option.some.inj e
   exact (hv.toS hv2).mono (fun _ _ _=>rfl) hA
  ·cases e
def idsA (p:PV):List Nat:=(Pm.cells p).flatMap ids1
theorem rb1s_get {cs r:List PV} (e:rb1s h cs=some r):r.length=cs.length∧∀ j,j<cs.length→rb1 h (cs.getD j .any)=some (r.getD j .any):=by
 induction cs generalizing r with
 | nil=>simp [rb1s] at e;subst e;exact ⟨rfl,fun j hj=>by simp at hj⟩
 | cons c cs ih=>
  simp only [rb1s] at e
  split at e
  ·rename_i c' r' h1 h2
   obtain rfl:=Option.some.inj e
   obtain ⟨l1,l2⟩:=ih h2
   refine ⟨by simp [l1],fun j hj=>?_⟩
   cases j with
   | zero=>simpa using h1
   | succ j=>simpa using l2 j (by simpa using hj)
  ·cases e
theorem rbAs_get {cs r:List PV} (e:rbAs h cs=some r):r.length=cs.length∧∀ j,j<cs.length→rbA h (cs.getD j .any)=some (r.getD j .any):=by
 induction cs generalizing r with
 | nil=>simp [rbAs] at e;subst e;exact ⟨rfl,fun j hj=>by simp at hj⟩
 | cons c cs ih=>
  simp only [rbAs] at e
  split at e
  ·rename_i c' r' h1 h2
   obtain rfl:=Option.some.inj e
   obtain ⟨l1,l2⟩:=ih h2
   refine ⟨by simp [l1],fun j hj=>?_⟩
   cases j with
   | zero=>simpa using h1
   | succ j=>simpa using l2 j (by simpa using hj)
  ·cases e
theorem mem_flat {cs:List PV} {j:Nat} (hj:j<cs.length) {f:PV→List Nat} {id:Nat} (hm:id∈f (cs.getD j .any)):id∈cs.flatMap f:=by
 have:cs.getD j .any=cs[j]:=by simp [List.getD,hj]
 rw [this] at hm
 exact List.mem_flatMap.2 ⟨_,List.getElem_mem hj,hm⟩
theorem rbA_sim (H:HRel w F β h) {A':Nat→Prop} (hA:∀ b,b<w.heap.size→¬ Av F h β b→¬ A' b) {v:Value} {p p':PV} (hv:VRel w (Av F h β) β h v p) (e:rbA h p=some p')
  (hM:∀ (id:Nat) (o:AObj) (bc:Nat × Nat),id∈idsA p→h[id]?=some o→β[id]?=some bc→(o.mu=.m∨o.mu=.f)→¬ A' bc.1):SRel w A' v p':=by
 unfold rbA at e
 split at e
 ·rename_i cs
  cases hr:rb1s h cs with
  | none=>rw [hr] at e;simp at e
  | some r=>
   rw [hr] at e
   simp at e
   subst e
   obtain ⟨l1,l2⟩:=rb1s_get hr
   obtain ⟨vs,rfl,hl,hh⟩:=hv.agg_inv
   exact .agg vs r (by omega) (fun j hj=>rb1_sim H hA (hh j (by omega)) (l2 j (by omega)) (fun id o bc hm=>hM id o bc (mem_flat (cs:=cs) (by omega) hm)))
 ·rename_i hna
  have hc:Pm.cells p=[p]:=by cases p <;> first | rfl | exact absurd rfl (hna _)
  exact rb1_sim H hA hv e (fun id o bc hm=>hM id o bc (by simp [idsA,hc,hm]))
theorem rb_sim (H:HRel w F β h) {A':Nat→Prop} (hA:∀ b,b<w.heap.size→¬ Av F h β b→¬ A' b) {v:Value} {p p':PV} (hv:VRel w (Av F h β) β h v p) (e:rb h p=some p')
  (hM:∀ (id:Nat) (o:AObj) (bc:Nat × Nat),h[id]?=some o→β[id]?=some bc→(o.mu=.m∨o.mu=.f)→¬ A' bc.1):SRel w A' v p':=by
 unfold rb at e
 split at e
 ·rename_i cs
  cases hr:rbAs h cs with
  | none=>rw [hr] at e;simp at e
  | some r=>
   rw [hr] at e
   simp at e
   subst e
   obtain ⟨l1,l2⟩:=rbAs_get hr
   obtain ⟨vs,rfl,hl,hh⟩:=hv.tup_inv
   exact .tup vs r (by omega) (fun j hj=>rbA_sim H hA (hh j (by omega)) (l2 j (by omega)) (fun id o bc _=>hM id o bc))
 ·exact rbA_sim H hA hv e (fun id o bc _=>hM id o bc)
theorem HRel.empty (w:World) (F:Nat→Prop) (hF:∀ b,F b→b<w.heap.size):HRel w F [] [] where
 len:=rfl
 fin:=hF
 obj id o bc e:=by simp at e
 dist id id' o o' bc bc' _ e:=by simp at e
 out id o bc e:=by simp at e
theorem Mb_empty (b:Nat):¬ Mb [] [] b:=by rintro ⟨id,o,bc,e,_⟩;simp at e
def CSim (P:Program) (lv:Nat) (w:World) (F:Nat→Prop) (β:List (Nat × Nat)) (h:AHeap) (f:FuncId) (vs:List Value) (r:PV) (h':AHeap):Prop:=
 Calls P f vs.toArray w fun e w'=>∃ v β',e=.returned v∧VRel w' (Av F h' β') β' h' v r∧HRel w' F β' h'∧Stp w h β w' h' β'∧(lv≤1→Grew w w')
def SimRun (P:Program) (f:FuncId) (g:List PV→AHeap→Option (PV × AHeap)):Prop:=
 ∀ args h r h',g args h=some (r,h')→∀ w F β vs,HRel w F β h→L2 (VRel w (Av F h β) β h) vs args→CSim P 2 w F β h f vs r h'
theorem HRel.freeze1 (H:HRel w F β h) {id:Nat} {h2:AHeap} (e:freeze1 h id=some h2) :
  HRel w F β h2∧Stp w h β w h2 β∧(∃ o:AObj,h2[id]?=some o∧o.mu=.f)∧(∀ (k:Nat) (o:AObj),h[k]?=some o→o.mu=.f→h2[k]?=some o):=by
 unfold Pm.freeze1 at e
 split at e
 ·rename_i o ho
  split at e
  ·rename_i hc
   obtain ⟨hv,hmf⟩:=hc
   obtain rfl:=Option.some.inj e
   have hid:=lt_of_some ho
   have hself:(h.set id {o with mu:=.f })[id]?=some {o with mu:=.f }:=by simp [hid]
   have hoth:∀ k,k≠id→(h.set id {o with mu:=.f })[k]?=h[k]?:=fun k hk=>List.getElem?_set_ne (Ne.symm hk)
   have hx:o.mu≠.x:=by rcases hmf with h | h <;> rw [h] <;> simp
   have hs:Stp w h β w (h.set id {o with mu:=.f }) β:=by
    refine ⟨Nat.le_refl _,by simp,fun _ _ _=>rfl,?_,?_,?_,rfl,rfl,rfl,Nat.le_refl _⟩
    ·rintro b hb ⟨k,o',c',e1,e2,e3,rfl⟩
     by_cases hk:k=id
     ·subst hk;rw [hself] at e1;obtain rfl:=Option.some.inj e1;simp at e3
     ·rw [hoth k hk] at e1;exact ⟨k,o',c',e1,e2,e3,rfl⟩
    ·intro k o' c' e1 e2 e3
     by_cases hk:k=id
     ·subst hk;rw [ho] at e1;obtain rfl:=Option.some.inj e1
      exact ⟨_,c',hself,e2,by simp,Nat.le_refl _,fun _=>⟨rfl,rfl,rfl⟩⟩
     ·exact ⟨o',c',by rw [hoth k hk];exact e1,e2,e3,Nat.le_refl _,fun _=>⟨rfl,rfl,rfl⟩⟩
    ·intro k o' e1 e2
     refine ⟨?_,rfl⟩
     by_cases hk:k=id
     ·subst hk
      rw [ho] at e1;obtain rfl:=Option.some.inj e1
      rw [hself]
      rcases hmf with hm | hm
      ·exact absurd hm e2
      ·congr 1;cases o;simp at hm;subst hm;rfl
     ·rw [hoth k hk];exact e1
   refine ⟨⟨by simp [H.len],H.fin,?_,?_,?_⟩,hs,⟨_,hself,rfl⟩,?_⟩
   ·intro k o' c' e1 e2 e3
    by_cases hk:k=id
    ·subst hk;rw [hself] at e1;obtain rfl:=Option.some.inj e1
     exact ORel.mono hs rfl (H.obj k o c' ho e2 hx)
    ·rw [hoth k hk] at e1;exact ORel.mono hs rfl (H.obj k o' c' e1 e2 e3)
   ·intro k k' o1 o2 c1 c2 hne e1 e2 e3 e4 m1 m2
    have hk:k≠id:=by rintro rfl;rw [hself] at e1;obtain rfl:=Option.some.inj e1;simp at m1
    rw [hoth k hk] at e1
    by_cases hk':k'=id
    ·subst hk';exact H.dist k k' o1 o c1 c2 hne e1 ho e3 e4 m1 hx
    ·rw [hoth k' hk'] at e2;exact H.dist k k' o1 o2 c1 c2 hne e1 e2 e3 e4 m1 m2
   ·intro k o' c' e1 e2 e3
    by_cases hk:k=id
    ·subst hk;exact H.out k o c' ho e2 hmf
    ·rw [hoth k hk] at e1;exact H.out k o' c' e1 e2 e3
   ·intro k o' e1 e2
    by_cases hk:k=id
    ·subst hk;rw [ho] at e1;obtain rfl:=Option.some.inj e1
     rw [hself];congr 1;cases o;simp at e2;subst e2;rfl
    ·rw [hoth k hk];exact e1
  ·cases e
 ·cases e
theorem HRel.freezes:∀ (ids:List Nat) {h h2:AHeap},HRel w F β h→freezes h ids=some h2 →
  HRel w F β h2∧Stp w h β w h2 β∧(∀ id∈ids,∃ o:AObj,h2[id]?=some o∧o.mu=.f)∧(∀ (k:Nat) (o:AObj),h[k]?=some o→o.mu=.f→h2[k]?=some o)
 | [],h,h2,H,e=>by
  simp [Pm.freezes] at e;subst e
  exact ⟨H,Stp.refl w h β,(fun _ hm=>by cases hm),(fun _ _ h1 _=>h1)⟩
 | id::r,h,h2,H,e=>by
  simp only [Pm.freezes] at e
  split at e
  ·rename_i h1 he
   obtain ⟨H1,S1,⟨o,o1,o2⟩,K1⟩:=H.freeze1 he
   obtain ⟨H2,S2,A2,K2⟩:=HRel.freezes r H1 e
   refine ⟨H2,S1.trans S2,fun k hk=>?_,fun k o h3 h4=>K2 k o (K1 k o h3 h4) h4⟩
   rcases List.mem_cons.1 hk with rfl | hk
   ·exact ⟨o,K2 _ o o1 o2,o2⟩
   ·exact A2 k hk
  ·cases e
theorem idsOf_mem {args:List PV} {j:Nat} (hj:j<args.length) {id:Nat} (hm:id∈idsA (args.getD j .any)):id∈idsOf args:=by
 have:args.getD j .any=args[j]:=by simp [List.getD,hj]
 rw [this] at hm
 exact List.mem_flatMap.2 ⟨_,List.getElem_mem hj,hm⟩
theorem frozen_out (H:HRel w F β h) {id:Nat} {o:AObj} {bc:Nat × Nat} (e1:h[id]?=some o) (e2:β[id]?=some bc) (e3:o.mu=.f):¬ Av F h β bc.1:=by
 rintro (hf | ⟨k,o',c',f1,f2,f3,f4⟩)
 ·exact H.out id o bc e1 e2 (.inr e3) hf
 ·have hne:k≠id:=by
   rintro rfl
   rw [e1] at f1
   obtain rfl:=Option.some.inj f1
   rw [e3] at f3;cases f3
  exact H.dist k id o' o c' bc hne f1 e1 f2 e2 f3 (by rw [e3];simp) f4
theorem grew_of_stp {w':World} {h':AHeap} {β':List (Nat × Nat)} (s:Stp w [] [] w' h' β'):Grew w w':=
 ⟨s.size,fun b hb=>s.keep b hb (Mb_empty b),s.os,s.tape,s.output,s.drawn⟩
theorem pure_core {f:FuncId} {run:List PV→AHeap→Option (PV × AHeap)} (S:SimRun P f run) {A:Nat→Prop} (hA:∀ b,A b→b<w.heap.size) {args:List PV} {vs:List Value} (ha:L2 (SRel w A) vs args)
  {r r':PV} {hc:AHeap} (e1:run (nrms args) []=some (r,hc)) (e2:rb hc r=some r') :
  Calls P f vs.toArray w fun e w'=>∃ v,e=.returned v∧SRel w' A v (nrm r')∧Grew w w':=by
 have hl:(nrms args).length=args.length:=by simp [nrms_eq]
 have hAv:∀ b,Av A [] [] b↔A b:=fun b=>⟨fun h=>h.elim id (fun h=>absurd h (Mb_empty b)),.inl⟩
 have hin:L2 (VRel w (Av A [] []) [] []) vs (nrms args):=⟨by rw [hl];exact ha.1,fun j hj=>by
  rw [nrm_getD]
  exact .val (((ha.2 j (by omega)).nrm).weak (fun b hb=>(hAv b).1 hb))⟩
 refine (S (nrms args) [] r hc e1 w A [] vs (HRel.empty w A hA) hin).mono ?_
 rintro e w' ⟨v,β',rfl,q1,q2,q3,_⟩
 refine ⟨v,rfl,?_,grew_of_stp q3⟩
 refine (rb_sim q2 (fun b _ hb ha=>hb (.inl ha)) q1 e2 (fun id o bc m1 m2 m3=>?_)).nrm
 rcases m3 with m3 | m3
 ·exact q2.out id o bc m1 m2 (.inl m3)
 ·exact q2.out id o bc m1 m2 (.inr m3)
mutual
theorem scal_nrm:∀ p:PV,scal p=true→scal (nrm p)=true
 | .agg cs,h=>by simp only [scal,nrm] at h ⊢;exact scals_nrms cs h
 | .tup cs,h=>by simp only [scal,nrm] at h ⊢;exact scals_nrms cs h
 | .int _ _,_=>rfl
 | .bool _,_=>rfl
 | .str _,_=>rfl
 | .nilp,_=>rfl
 | .nilf,_=>rfl
 | .snap _ _,h=>by simp [scal] at h
 | .mref _ _ _ _,h=>by simp [scal] at h
 | .ptr _ _ _ _,h=>by simp [scal] at h
 | .sptr _,h=>by simp [scal] at h
 | .fn _ _,h=>by simp [scal] at h
 | .bfn _ _ _,h=>by simp [scal] at h
 | .undef,h=>by simp [scal] at h
 | .any,h=>by simp [scal] at h
theorem scals_nrms:∀ cs:List PV,scals cs=true→scals (nrms cs)=true
 | [],_=>rfl
 | c::r,h=>by
  simp only [scals,nrms,Bool.and_eq_true] at h ⊢
  exact ⟨scal_nrm c h.1,scals_nrms r h.2⟩
end
theorem callPure_sim {run:Run} {f:FuncId} (S:SimRun P f (run f)) {lv:Nat} {args:List PV} {r:PV} {h':AHeap} (e:callPure run lv f args h=some (r,h')) (H:HRel w F β h) {vs:List Value}
  (ha:L2 (VRel w (Av F h β) β h) vs args):CSim P lv w F β h f vs r h':=by
 unfold callPure at e
 have done:∀ {h2:AHeap} (H2:HRel w F β h2) (S2:Stp w h β w h2 β) (p:PV),(Calls P f vs.toArray w fun e w'=>∃ v,e=.returned v∧SRel w' (Av F h2 β) v p∧Grew w w')→CSim P lv w F β h f vs p h2:=by
  intro h2 H2 S2 p hc
  refine hc.mono ?_
  rintro e w' ⟨v,rfl,q1,q2⟩
  exact ⟨v,β,rfl,.val q1,H2.grew q2,S2.trans (q2.stp h2 β),fun _=>q2⟩
 split at e
 ·rename_i hv
  split at e
  ·rename_i r0 hc h1
   split at e
   ·rename_i r1 h2
    obtain ⟨rfl,rfl⟩:=Prod.mk.inj (Option.some.inj e)
    refine done H (Stp.refl w h β) _ (pure_core (A:=Av F h β) S (fun b hb=>Av.lt H hb) (args:=args) ⟨ha.1,fun j hj=>?_⟩ h1 h2)
    rw [isVals_eq] at hv
    exact (ha.2 j hj).toS (all_getD hv hj)
   ·cases e
  ·cases e
 ·split at e
  ·rename_i args' hr
   obtain ⟨l1,l2⟩:=rbAs_get hr
   split at e
   ·rename_i r0 hc h1
    split at e
    ·rename_i r1 h2
     have frozen:∀ {h2:AHeap} (H2:HRel w F β h2) (S2:Stp w h β w h2 β) (hf:∀ id∈idsOf args,∃ o:AObj,h2[id]?=some o∧o.mu=.f),L2 (SRel w (Av F h2 β)) vs args':=by
      intro h2 H2 S2 hf
      refine ⟨by rw [ha.1,l1],fun j hj=>?_⟩
      refine rbA_sim H (fun b hb hn=>Av.mono S2 b hb hn) (ha.2 j (by omega)) (l2 j (by omega)) (fun id o bc hm m1 m2 m3=>?_)
      obtain ⟨o2,g1,g2⟩:=hf id (idsOf_mem (by omega) hm)
      exact frozen_out H2 g1 m2 g2
     split at e
     ·rename_i hsc
      obtain ⟨rfl,rfl⟩:=Prod.mk.inj (Option.some.inj e)
      simp only [Bool.or_eq_true] at hsc
      rcases hsc with hsc | hsc
      ·refine done H (Stp.refl w h β) _ ?_
       have:=pure_core (P:=P) (w:=w) (A:=fun _=>False) S (fun b hb=>hb.elim) (args:=args') (vs:=vs) ⟨by rw [ha.1,l1],fun j hj=>rbA_sim H (fun _ _ _ hh=>hh) (ha.2 j (by omega)) (l2 j (by omega)) (fun _ _ _ _ _ _ _ hh=>hh)⟩ h1 h2
       refine this.mono ?_
       rintro e w' ⟨v,rfl,q1,q2⟩
       have hsn:scal (nrm r1)=true:=scal_nrm r1 hsc
       exact ⟨v,rfl,q1.scal hsn,q2⟩
      ·refine done H (Stp.refl w h β) _ (pure_core (A:=Av F h β) S (fun b hb=>Av.lt H hb) (frozen H (Stp.refl w h β) (fun id hid=>?_)) h1 h2)
       have:=List.all_eq_true.1 hsc id hid
       split at this
       ·rename_i o ho
        simp only [Bool.and_eq_true,decide_eq_true_eq] at this
        exact ⟨o,ho,this.1⟩
       ·cases this
     ·split at e
      ·cases hfz:freezes h (idsOf args) with
       | none=>rw [hfz] at e;simp at e
       | some h3=>
        rw [hfz] at e
        simp at e
        obtain ⟨rfl,rfl⟩:=e
        obtain ⟨H2,S2,A2,_⟩:=HRel.freezes (idsOf args) H hfz
        exact done H2 S2 _ (pure_core (A:=Av F h3 β) S (fun b hb=>Av.lt H2 hb) (frozen H2 S2 A2) h1 h2)
      ·cases e
    ·cases e
   ·cases e
  ·cases e
end Go.Pm
end
section
namespace Go.Pm
variable {C:Cfg} (T:Tab C.P)
variable {ops:Array Oper} {d:Nat} {ty:TypeId} {pos:String} {af:Array Edge} {r:List Oper} {ρ:Nat→PV} {L:List (Nat × PV)} {h:AHeap} {Q:St→Prop}
theorem R.indexStr {t:TypeId} {x ix:Operand} {s:ByteArray} {k:IntKind} {i:Nat} {b:UInt8} (hx:evL L x=some (.str s)) (hi:evL L ix=some (.int k (i:Int))) (hk:T.kd t=some .str) (hv:s[i]?=some b)
  (kk:EvOps C ops r ⟨al ((d,.int .u8 b.toNat)::L) ρ,h⟩ Q):EvOps C ops (⟨some d,.index t x ix,ty,pos,af,none⟩::r) ⟨al L ρ,h⟩ Q:=
 EvOps.valL (fun run=>by simp [opVal,stepOp,evL_ev hx,evL_ev hi,indexP,kd_str (T.hkd _ _ hk),hv]) kk
theorem R.max {ts:Array TypeId} {x y:Operand} {k:IntKind} {a b:Int} (hx:evL L x=some (.int k a)) (hy:evL L y=some (.int k b)) (kk:EvOps C ops r ⟨al ((d,.int k (max a b))::L) ρ,h⟩ Q) :
  EvOps C ops (⟨some d,.call ⟨.builtin .max,#[x,y],ts⟩,ty,pos,af,none⟩::r) ⟨al L ρ,h⟩ Q:=by
 refine EvOps.valL (v:=.int k (Max.max a b)) (fun run=>?_) kk
 have:(if b > a then b else a)=Max.max a b:=by split <;> omega
 simp [opVal,evL_ev hx,evL_ev hy,builtinP,maxP,this]
theorem R.streqT {t yt:TypeId} {x y:Operand} {a b:ByteArray} (hx:evL L x=some (.str a)) (hy:evL L y=some (.str b)) (hh:a.toList=b.toList) (k1:EvOps C ops r ⟨al ((d,(.bool true))::L) ρ,h⟩ Q) :
  EvOps C ops (⟨some d,.binOp .eql t x y yt,ty,pos,af,none⟩::r) ⟨al L ρ,h⟩ Q:=EvOps.valL (fun run=>by simp [opVal,stepOp,evL_ev hx,evL_ev hy,binP,strOp,hh]) k1
def partsL (L:List (Nat × PV)):List (Nat × Operand)→Option (List (Nat × PV))
 | []=>some []
 | (i,x)::xs=>match evL L x,partsL L xs with
  | some v,some vs=>some ((i,v)::vs)
  | _,_=>none
theorem partsL_ev {L:List (Nat × PV)} {ρ:Nat→PV}:∀ {xs:List (Nat × Operand)} {vs:List (Nat × PV)},partsL L xs=some vs→xs.map (fun (i,x)=>(i,ev (al L ρ) x))=vs
 | [],vs,e=>by simp [partsL] at e;subst e;rfl
 | (i,x)::xs,vs,e=>by
  simp only [partsL] at e
  split at e
  ·rename_i v vs' h1 h2
   obtain rfl:=Option.some.inj e
   simp only [List.map_cons,evL_ev h1,partsL_ev h2]
  ·cases e
def placesT (ts:Nat→Option Nat) (os:List (Nat × TypeId)) (i:Nat):Option (Nat × Nat):=
 match os[i]? with
 | some (off,ty)=>(ts ty).map fun s=>(off,s)
 | none=>none
theorem fillP_mono {p q:Nat→Option (Nat × Nat)} (hpq:∀ i x,p i=some x→q i=some x):∀ {parts:List (Nat × PV)} {cs r:List PV},fillP p cs parts=some r→fillP q cs parts=some r
 | [],cs,r,e=>e
 | (i,v)::parts,cs,r,e=>by
  simp only [fillP] at e ⊢
  split at e
  ·cases e
  ·rename_i off size hp
   rw [hpq _ _ hp]
   simp only
   split at e
   ·rename_i hc
    rw [if_pos hc]
    exact fillP_mono hpq e
   ·cases e
theorem buildP_of {t:TypeId} {z:PV} {os:List (Nat × TypeId)} {parts:List (Nat × PV)} {cs:List PV} (hz:T.tz t=some z) (hk:T.kd t=some (.st os)) (ha:(os.all fun o=>(T.ts o.2).isSome)=true) (h1:(cells z).all oneC=true)
  (hf:fillP (placesT T.ts os) (cells z) parts=some cs):buildP C.P t parts=some (.agg cs):=by
 obtain ⟨fs,e1,e2⟩:=kd_st (T.hkd _ _ hk)
 have hall:(fs.toList.all fun f=>(tsize C.P f.type).isSome)=true:=by
  rw [← e2,List.all_map] at ha
  rw [List.all_eq_true] at ha ⊢
  intro f hf
  have:=ha f hf
  simp only [Function.comp] at this
  cases hh:T.ts f.type with
  | none=>rw [hh] at this;cases this
  | some n=>rw [T.hts _ _ hh];rfl
 have hp:fillP (fieldPlaces C.P fs) (cells z) parts=some cs:=by
  refine fillP_mono (fun i x hx=>?_) hf
  unfold placesT at hx
  rw [← e2,List.getElem?_map] at hx
  unfold fieldPlaces
  have hfe:fs[i]?=fs.toList[i]?:=by simp
  rw [hfe]
  cases hh:fs.toList[i]? with
  | none=>rw [hh] at hx;cases hx
  | some f=>
   rw [hh] at hx
   simp only [Option.map_some] at hx ⊢
   cases hh2:T.ts f.type with
   | none=>rw [hh2] at hx;cases hx
   | some n=>rw [hh2] at hx;rw [T.hts _ _ hh2];exact hx
 unfold buildP
 rw [T.htz _ _ hz,e1]
 simp only [hall,h1,and_self,if_true,hp,Option.map_some]
theorem R.build {t:TypeId} {parts:Array (Nat × Operand)} {ps:List (Nat × PV)} {z:PV} {os:List (Nat × TypeId)} {cs:List PV} (hp:partsL L parts.toList=some ps) (hz:T.tz t=some z) (hk:T.kd t=some (.st os)) (ha:(os.all fun o=>(T.ts o.2).isSome)=true) (h1:(cells z).all oneC=true)
  (hf:fillP (placesT T.ts os) (cells z) ps=some cs) (kk:EvOps C ops r ⟨al ((d,.agg cs)::L) ρ,h⟩ Q):EvOps C ops (⟨some d,.build t parts,ty,pos,af,none⟩::r) ⟨al L ρ,h⟩ Q:=
 EvOps.valL (fun run=>by simp only [opVal,stepOp,partsL_ev hp,buildP_of T hz hk ha h1 hf,Option.map_some]) kk
theorem D.fieldAddrS {i L0:Nat} {own:List Nat} {s:TypeId} {x:Operand} {f off:Nat} {ft:TypeId} {os:List (Nat × TypeId)} {sz:Nat} {cs cs':List PV} {c:PV} (hx:evL L x=some (.sptr cs)) (hk:T.kd s=some (.st os)) (hf:os[f]?=some (off,ft)) (hs:T.ts ft=some (sz+1))
  (hc:cs.drop off=c::cs') (k:EvD C ops (i+1) r ⟨⟨al ((d,.sptr (c::cs'))::L) ρ,h⟩,L0,own⟩ Q):EvD C ops i (⟨some d,.fieldAddr s x f,ty,pos,af,none⟩::r) ⟨⟨al L ρ,h⟩,L0,own⟩ Q:=by
 have hl:off<cs.length:=by
  rcases Nat.lt_or_ge off cs.length with h | h
  ·exact h
  ·rw [List.drop_eq_nil_of_le h] at hc;cases hc
 exact EvD.plain (h':=h) rfl (fun run=>by simp [opVal,stepOp,evL_ev hx,fieldAddrP,fieldOff_of T hk hf hs,hl,hc]) k
def partOk (sz n:Nat) (p:Nat × PV):Bool:=decide ((cells p.2).length=sz) && (cells p.2).all oneC && decide (p.1<n)
theorem buildSliceP_of {lv:Nat} {t el:TypeId} {n sz:Nat} {z:PV} {ps:List (Nat × PV)} {es:List PV} (hk:T.kd t=some (.sl el)) (hs:T.ts el=some (sz+1)) (hz:T.tz el=some z) (hn:n * (sz+1)≤16777216) (hl:(cells z).length=sz+1) (h1:(cells z).all oneC=true)
  (hp:ps.all (partOk (sz+1) n)=true) (he:litP z n ps=es) (hv:isVals es=true):buildSliceP C.P lv h t n ps=some (.snap true es,h):=by
 unfold buildSliceP
 rw [kd_sl (T.hkd _ _ hk)]
 simp only [T.hts _ _ hs,T.htz _ _ hz]
 have hp':(ps.all fun p=>decide ((cells p.2).length=sz+1) && (cells p.2).all oneC && decide (p.1<n))=true:=hp
 rw [if_pos ⟨by omega,hn,hl,h1,hp'⟩,he,if_pos hv]
theorem R.buildSlice {t el:TypeId} {n sz:Nat} {z:PV} {parts:Array (Nat × Operand)} {ps:List (Nat × PV)} {es:List PV} (hpa:partsL L parts.toList=some ps) (hk:T.kd t=some (.sl el)) (hs:T.ts el=some (sz+1)) (hz:T.tz el=some z) (hn:n * (sz+1)≤16777216) (hl:(cells z).length=sz+1) (h1:(cells z).all oneC=true)
  (hp:ps.all (partOk (sz+1) n)=true) (he:litP z n ps=es) (hv:isVals es=true) (kk:EvOps C ops r ⟨al ((d,.snap true es)::L) ρ,h⟩ Q) :
  EvOps C ops (⟨some d,.buildSlice t n parts,ty,pos,af,none⟩::r) ⟨al L ρ,h⟩ Q:=
 EvOps.valL (fun run=>by simp only [opVal,stepOp,partsL_ev hpa,buildSliceP_of T hk hs hz hn hl h1 hp he hv]) kk
theorem roomy_of {n b:Nat} (h1:n<1000000000) (h2:b≤1000):roomy n b=true:=by
 have:n * b≤1000000000 * 1000:=Nat.mul_le_mul (by omega) h2
 simp [roomy];omega
def esOk (sz:Nat) (ys:List PV):Prop:=ys.all (fun v=>decide ((cells v).length=sz) && (cells v).all oneC)=true
theorem appendP_new {lv:Nat} {st xt el el':TypeId} {sz by':Nat} {z:PV} {full:Bool} {ys:List PV} (h1:1≤lv) (hk:T.kd st=some (.sl el)) (hk':T.kd xt=some (.sl el')) (hs:T.ts el=some (sz+1)) (hb:T.tb el=some by') (hz:T.tz el=some z) (hby:by'≤1000) (hl:(cells z).length=sz+1) (ho:(cells z).all oneC=true)
  (hy:esOk (sz+1) ys) (hne:ys.isEmpty=false) (hn:ys.length<1000000000):appendP C.P lv h st xt (.snap true []) (.snap full ys)=some (.mref h.length 0 0 ys.length,h++[⟨.m,0,sz+1,ys⟩]):=by
 unfold appendP
 rw [kd_sl (T.hkd _ _ hk)]
 simp only [T.hts _ _ hs,T.htb _ _ hb,T.htz _ _ hz,appendee,kd_sl (T.hkd _ _ hk'),elems]
 unfold esOk at hy
 rw [if_pos ⟨by omega,by omega,⟨hl,ho⟩,hy⟩]
 simp only [hne,Bool.false_eq_true,if_false,List.length_nil,Nat.zero_add,List.all_nil,List.nil_append,newObj]
 rw [if_pos ⟨trivial,h1,roomy_of hn hby,trivial⟩]
theorem appendP_m {st xt el el':TypeId} {sz by' id ep len:Nat} {z:PV} {full:Bool} {ys:List PV} {o:AObj} (hk:T.kd st=some (.sl el)) (hk':T.kd xt=some (.sl el')) (hs:T.ts el=some (sz+1)) (hb:T.tb el=some by') (hz:T.tz el=some z) (hby:by'≤1000) (hl:(cells z).length=sz+1) (ho:(cells z).all oneC=true)
  (hy:esOk (sz+1) ys) (hne:ys.isEmpty=false) (hn:len+ys.length<1000000000) (hg:getM h id ep=some o) (hm:o.mu=.m) (hz':o.esz=sz+1) (hle:len≤o.es.length) :
  appendP C.P 2 h st xt (.mref id ep 0 len) (.snap full ys)=some (.mref id (ep+1) 0 (len+ys.length),h.set id {o with ep:=ep+1,es:=o.es.take len++ys }):=by
 unfold appendP
 rw [kd_sl (T.hkd _ _ hk)]
 simp only [T.hts _ _ hs,T.htb _ _ hb,T.htz _ _ hz,appendee,kd_sl (T.hkd _ _ hk'),elems]
 unfold esOk at hy
 rw [if_pos ⟨by omega,by omega,⟨hl,ho⟩,hy⟩]
 simp only [hg]
 rw [if_pos ⟨by omega,hz'.symm⟩]
 simp only [hne,Bool.false_eq_true,if_false]
 rw [if_neg (by simp [sameObj]),if_pos ⟨trivial,by omega,hm,roomy_of hn hby⟩]
def Out (sz:Nat) (h:AHeap) (v:PV) (es:List PV):Prop:=(v=.snap true []∧es=[])∨∃ id ep,v=.mref id ep 0 es.length∧h[id]?=some ⟨.m,ep,sz,es⟩
theorem Out.app {sz:Nat} {h:AHeap} {v:PV} {es:List PV} (o:Out sz h v es) (J:AHeap):Out sz (h++J) v es:=by
 rcases o with o | ⟨id,ep,e1,e2⟩
 ·exact .inl o
 ·refine .inr ⟨id,ep,e1,?_⟩
  have:id<h.length:=by
   rcases Nat.lt_or_ge id h.length with hh | hh
   ·exact hh
   ·rw [List.getElem?_eq_none hh] at e2;cases e2
  rw [List.getElem?_append_left this];exact e2
def OutA (sz:Nat) (A J:AHeap) (v:PV) (es:List PV):Prop:=(v=.snap true []∧es=[])∨∃ id ep,v=.mref (A.length+id) ep 0 es.length∧J[id]?=some ⟨.m,ep,sz,es⟩
theorem OutA.nil (sz:Nat) (A J:AHeap):OutA sz A J (.snap true []) []:=.inl ⟨rfl,rfl⟩
theorem OutA.app {sz:Nat} {A J:AHeap} {v:PV} {es:List PV} (o:OutA sz A J v es) (K:AHeap):OutA sz A (J++K) v es:=by
 rcases o with o | ⟨id,ep,e1,e2⟩
 ·exact .inl o
 ·refine .inr ⟨id,ep,e1,?_⟩
  have:id<J.length:=by
   rcases Nat.lt_or_ge id J.length with hh | hh
   ·exact hh
   ·rw [List.getElem?_eq_none hh] at e2;cases e2
  rw [List.getElem?_append_left this];exact e2
def HV (h:AHeap):Prop:=∀ o∈h,o.mu≠.x∧isVals o.es=true
mutual
theorem vis_val (f:Nat→Bool):∀ p,isVal p=true→visR f p=true
 | .int ..,_ | .bool _,_ | .str _,_ | .nilp,_ | .nilf,_ | .snap ..,_ | .sptr _,_=>rfl
 | .agg cs,h=>by simp only [visR];exact vis_vals f cs (by simpa [isVal] using h)
 | .tup cs,h=>by simp only [visR];exact vis_vals f cs (by simpa [isVal] using h)
 | .fn _ cs,h=>by simp only [visR];exact vis_vals f cs (by simpa [isVal] using h)
 | .bfn _ _ cs,h=>by simp only [visR];exact vis_vals f cs (by simpa [isVal] using h)
 | .mref ..,h | .ptr ..,h | .undef,h | .any,h=>by simp [isVal] at h
theorem vis_vals (f:Nat→Bool):∀ cs,isVals cs=true→visRs f cs=true
 | [],_=>rfl
 | c::r,h=>by
  simp only [isVals,Bool.and_eq_true] at h
  simp only [visRs,vis_val f c h.1,vis_vals f r h.2,Bool.and_self]
end
theorem HV.closed {h:AHeap} (H:HV h):closedH h=true:=by
 unfold closedH
 rw [List.all_eq_true]
 intro o ho
 rw [vis_vals _ _ (H o ho).2]
 simp
theorem HV.nil:HV []:=fun o ho=>by cases ho
theorem HV.app {h k:AHeap} (H:HV h) (K:HV k):HV (h++k):=fun o ho=>(List.mem_append.1 ho).elim (H o) (K o)
theorem HV.one {ep n:Nat} {es:List PV} (h:isVals es=true):HV [⟨.m,ep,n,es⟩]:=fun o ho=>by simp at ho;subst ho;exact ⟨by simp,h⟩
theorem HV.set {h:AHeap} (H:HV h) (id:Nat) {o:AObj} (h1:o.mu≠.x) (h2:isVals o.es=true):HV (h.set id o):=fun o' ho'=>by
 rcases List.mem_or_eq_of_mem_set ho' with ho' | rfl
 ·exact H o' ho'
 ·exact ⟨h1,h2⟩
theorem R.append {A J:AHeap} {st xt el el':TypeId} {ts:List TypeId} {sz by':Nat} {z:PV} {full:Bool} {es ys:List PV} {x y:Operand} {v:PV} (hx:evL L x=some v) (hy:evL L y=some (.snap full ys)) (hk:T.kd st=some (.sl el)) (hk':T.kd xt=some (.sl el')) (hs:T.ts el=some (sz+1)) (hb:T.tb el=some by') (hz:T.tz el=some z)
  (hby:by'≤1000) (hl:(cells z).length=sz+1) (ho:(cells z).all oneC=true) (hyo:esOk (sz+1) ys) (hne:ys.isEmpty=false) (o:OutA (sz+1) A J v es) (hn:es.length+ys.length<1000000000)
  (hvs:isVals (es++ys)=true) (hJ:HV J) (kk:∀ v' J',OutA (sz+1) A J' v' (es++ys)→HV J'→EvOps C ops r ⟨al ((d,v')::L) ρ,A++J'⟩ Q) :
  EvOps C ops (⟨some d,.call ⟨.builtin .append,#[x,y],#[st,xt]⟩,ty,pos,af,none⟩::r) ⟨al L ρ,A++J⟩ Q:=by
 rcases o with ⟨rfl,rfl⟩ | ⟨id,ep,rfl,e2⟩
 ·refine EvOps.valL (fun run=>?_) (kk (.mref (A++J).length 0 0 ys.length) (J++[⟨.m,0,sz+1,ys⟩]) (.inr ⟨J.length,0,by simp,by simp⟩) (hJ.app (HV.one (by simpa using hvs))))
  have:=appendP_new T (h:=A++J) (lv:=2) (full:=full) (by omega) hk hk' hs hb hz hby hl ho hyo hne (by simpa using hn)
  simp only [opVal,builtinP,List.map_cons,List.map_nil,evL_ev hx,evL_ev hy,this,List.append_assoc]
 ·have hlt:id<J.length:=by
   rcases Nat.lt_or_ge id J.length with hh | hh
   ·exact hh
   ·rw [List.getElem?_eq_none hh] at e2;cases e2
  refine EvOps.valL (fun run=>?_) (kk (.mref (A.length+id) (ep+1) 0 (es.length+ys.length)) (J.set id ⟨.m,ep+1,sz+1,es++ys⟩) (.inr ⟨id,ep+1,by simp,by simp [hlt]⟩) (hJ.set id (by simp) hvs))
  have hg:getM (A++J) (A.length+id) ep=some ⟨.m,ep,sz+1,es⟩:=by
   have:(A++J)[A.length+id]?=some ⟨.m,ep,sz+1,es⟩:=by rw [List.getElem?_append_right (by omega),show A.length+id - A.length=id by omega];exact e2
   simp [getM,this]
  have:=appendP_m T (h:=A++J) (full:=full) (len:=es.length) hk hk' hs hb hz hby hl ho hyo hne hn hg rfl rfl (Nat.le_refl _)
  have hset:(A++J).set (A.length+id) ⟨.m,ep+1,sz+1,es++ys⟩=A++J.set id ⟨.m,ep+1,sz+1,es++ys⟩:=by
   refine (List.set_append_right (A.length+id) _ (by omega)).trans ?_
   rw [show A.length+id - A.length=id by omega]
  simp only [opVal,builtinP,List.map_cons,List.map_nil,evL_ev hx,evL_ev hy,this,List.take_length]
  rw [hset]
theorem getM_at {h:AHeap} {id ep:Nat} {o:AObj} (e:h[id]?=some o) (h1:o.ep=ep) (h2:o.mu≠.x):getM h id ep=some o:=by simp [getM,e,h1,h2]
theorem pcOf {h:AHeap} {b n off:Nat} {e:PV} (hb:h[b]?=some ⟨.m,0,n,[e]⟩):pcells h (.ptr b 0 0 off)=some ((cells e).drop off):=by simp [pcells,getM,hb]
theorem R.load1H {t:TypeId} {x:Operand} {c e:PV} {cs:List PV} {sz b n off:Nat} (hx:evL L x=some (.ptr b 0 0 off)) (hs:T.ts t=some sz) (ht:T.ta t=some false) (hb:h[b]?=some ⟨.m,0,n,[e]⟩) (hc:(cells e).drop off=c::cs) (k:EvOps C ops r ⟨al ((d,c)::L) ρ,h⟩ Q) :
  EvOps C ops (⟨some d,.load t x,ty,pos,af,none⟩::r) ⟨al L ρ,h⟩ Q:=R.load1 T hx hs ht ((pcOf hb).trans (by rw [hc])) k
theorem R.storeH {t:TypeId} {a x:Operand} {b n off ep i sz:Nat} {o:AObj} {e v:PV} (ha:evL L a=some (.ptr b ep i off)) (hx:evL L x=some v) (hs:T.ts t=some sz) (hg:getM h b ep=some o) (hm:o.mu=.m) (hi:o.es[i]?=some e) (hl:(cells v).length=sz) (h1:(cells v).all oneC=true) (hle:off+sz≤(cells e).length)
  (k:EvOps C ops r ⟨al L ρ,h.set b {o with es:=o.es.set i (recell off sz e v) }⟩ Q):EvOps C ops (⟨none,.store t a x,ty,pos,af,none⟩::r) ⟨al L ρ,h⟩ Q:=by
 have k':EvOps C ops r ⟨updO (al L ρ) none .undef,h.set b {o with es:=o.es.set i (recell off sz e v) }⟩ Q:=k
 refine EvOps.val (v:=.undef) (h':=h.set b {o with es:=o.es.set i (recell off sz e v) }) rfl (fun run=>?_) k'
 simp only [opVal,stepOp,evL_ev ha,evL_ev hx,storeP,T.hts _ _ hs,hg,hi,Nat.le_refl,if_true]
 rw [if_pos ⟨hm,hl,h1,hle⟩]
 rfl
theorem below_val (n:Nat) {p:PV} (h:isVal p=true):below1 n p=true:=by
 unfold below1
 split <;> first | (simp [isVal] at h;done) | exact h
theorem belowA_val (n:Nat) {p:PV} (h:isVal p=true):belowA n p=true:=by
 unfold belowA
 split
 ·rename_i cs
  rw [List.all_eq_true]
  intro c hc
  have:isVals cs=true:=by simpa [isVal] using h
  rw [isVals_eq] at this
  exact below_val n (List.all_eq_true.1 this c hc)
 ·exact below_val n h
theorem HV.belowA {h:AHeap} (H:HV h) (n:Nat):(h.all fun o=>o.es.all (belowA n))=true:=by
 rw [List.all_eq_true]
 intro o ho
 have:=(H o ho).2
 rw [isVals_eq] at this
 rw [List.all_eq_true]
 intro e he
 exact belowA_val n (List.all_eq_true.1 this e he)
mutual
theorem scal_nrm':∀ p:PV,scal (nrm p)=scal p
 | .int .. | .bool _ | .str _ | .nilp | .nilf | .snap .. | .sptr _ | .fn .. | .bfn .. | .mref .. | .ptr .. | .undef | .any=>rfl
 | .agg cs=>by simp only [nrm,scal];exact scals_nrms' cs
 | .tup cs=>by simp only [nrm,scal];exact scals_nrms' cs
theorem scals_nrms':∀ cs:List PV,scals (nrms cs)=scals cs
 | []=>rfl
 | c::r=>by simp only [nrms,scals,scal_nrm' c,scals_nrms' r]
end
theorem CallEv.pureM {lv:Nat} {f:FuncId} {args args':List PV} {rv:PV} {Q:PV→AHeap→Prop} (hm:C.mode f=.pure) (hv:isVals args=false) (hr:rbAs h args=some args') (a:Fun C f (nrms args') rv) (hs:scal rv=true) (q:Q rv h):CallEv C lv f args h Q:=by
 obtain ⟨n0,hn⟩:=a
 refine ⟨rv,h,q,n0,fun n h1=>?_⟩
 obtain ⟨r0,hc,r1,e1,e2,e3⟩:=hn n h1
 unfold callF
 rw [hm]
 have hsc:scal r1=true:=by
  have:=scal_nrm' r1
  rw [e3] at this
  rw [← this];exact hs
 simp only [callPure,hv,Bool.false_eq_true,if_false,hr,e1,e2,e3,hsc,Bool.true_or,if_true]
end Go.Pm
end
section
namespace Go.Pm
variable {C:Cfg} (T:Tab C.P)
variable {ops:Array Oper} {d:Nat} {ty:TypeId} {pos:String} {af:Array Edge} {r:List Oper} {ρ:Nat→PV} {L:List (Nat × PV)} {h:AHeap} {Q:St→Prop}
theorem R.load1No {t:TypeId} {x:Operand} {e c:PV} {cs:List PV} {n sz off:Nat} (hx:evL L x=some (.ptr h.length 0 0 off)) (hs:T.ts t=some sz) (ht:T.ta t=some false) (hc:(cells e).drop off=c::cs)
  (k:EvOps C ops r ⟨al ((d,c)::L) ρ,h++[⟨.m,0,n,[e]⟩]⟩ Q):EvOps C ops (⟨some d,.load t x,ty,pos,af,none⟩::r) ⟨al L ρ,h++[⟨.m,0,n,[e]⟩]⟩ Q:=
 R.load1 T hx hs ht (pcNo.trans (by rw [hc])) k
theorem R.storeNo {t:TypeId} {a x:Operand} {e e' v:PV} {n sz off:Nat} (ha:evL L a=some (.ptr h.length 0 0 off)) (hx:evL L x=some v) (hs:T.ts t=some sz) (hl:(cells v).length=sz) (h1:(cells v).all oneC=true) (hle:Nat.ble (off+sz) (cells e).length=true) (he:recell off sz e v=e')
  (k:EvOps C ops r ⟨al L ρ,h++[⟨.m,0,n,[e']⟩]⟩ Q):EvOps C ops (⟨none,.store t a x,ty,pos,af,none⟩::r) ⟨al L ρ,h++[⟨.m,0,n,[e]⟩]⟩ Q:=by
 refine R.storeH T (n:=0) (o:=⟨.m,0,n,[e]⟩) (i:=0) (e:=e) ha hx hs getM_new rfl rfl hl h1 (Nat.le_of_ble_eq_true hle) ?_
 have:(h++[(⟨.m,0,n,[e]⟩:AObj)]).set h.length ⟨.m,0,n,[recell off sz e v]⟩=h++[⟨.m,0,n,[e']⟩]:=by
  refine (List.set_append_right h.length _ (Nat.le_refl _)).trans ?_
  rw [he];simp
 show EvOps C ops r ⟨al L ρ,(h++[(⟨.m,0,n,[e]⟩:AObj)]).set h.length ⟨.m,0,n,[recell off sz e v]⟩⟩ Q
 rw [this];exact k
theorem D.gOn {i:Nat} {x:DSt} {op:Op} {j d':Nat} {want b:Bool} (hd:(ops.toList[j]?).bind (·.dst)=some d') (hx:x.s.ρ=al L ρ) (hb:lk L d'=some (.bool b)) (he:(b == want)=true) (k:EvD C ops i (⟨some d,op,ty,pos,af,none⟩::r) x Q) :
  EvD C ops i (⟨some d,op,ty,pos,af,some (j,want)⟩::r) x Q:=by
 obtain ⟨y,q,n0,hn⟩:=k
 refine ⟨y,q,n0,fun n h1=>?_⟩
 rw [← hn n h1]
 simp only [evalOpsD,opStepD,wantedA,hd,hx,lk_al hb,he]
theorem EvD.off {i L0:Nat} {own:List Nat} {op:Op} {g:Option (Nat × Bool)} (hw:wantedA ops ⟨some d,op,ty,pos,af,g⟩ (al L ρ)=some false) (k:EvD C ops (i+1) r ⟨⟨al ((d,.undef)::L) ρ,h⟩,L0,own⟩ Q) :
  EvD C ops i (⟨some d,op,ty,pos,af,g⟩::r) ⟨⟨al L ρ,h⟩,L0,own⟩ Q:=by
 refine EvD.step ⟨0,fun n _=>?_⟩ k
 simp only [opStepD,hw,al_cons]
theorem D.gOff {i L0:Nat} {own:List Nat} {op:Op} {j d':Nat} {want b:Bool} (hd:(ops.toList[j]?).bind (·.dst)=some d') (hb:lk L d'=some (.bool b)) (he:(b == want)=false) (k:EvD C ops (i+1) r ⟨⟨al ((d,.undef)::L) ρ,h⟩,L0,own⟩ Q) :
  EvD C ops i (⟨some d,op,ty,pos,af,some (j,want)⟩::r) ⟨⟨al L ρ,h⟩,L0,own⟩ Q:=EvD.off (by simp only [wantedA,hd,lk_al hb,he]) k
theorem D.pickT {i L0:Nat} {own:List Nat} {c x y:Operand} {v:PV} (hc:evL L c=some (.bool true)) (hx:evL L x=some v) (k:EvD C ops (i+1) r ⟨⟨al ((d,v)::L) ρ,h⟩,L0,own⟩ Q):EvD C ops i (⟨some d,.pick c x y,ty,pos,af,none⟩::r) ⟨⟨al L ρ,h⟩,L0,own⟩ Q:=
 EvD.plain (h':=h) rfl (fun run=>by simp only [opVal,stepOp,evL_ev hc,evL_ev hx,if_true]) k
theorem D.pickF {i L0:Nat} {own:List Nat} {c x y:Operand} {v:PV} (hc:evL L c=some (.bool false)) (hx:evL L y=some v) (k:EvD C ops (i+1) r ⟨⟨al ((d,v)::L) ρ,h⟩,L0,own⟩ Q):EvD C ops i (⟨some d,.pick c x y,ty,pos,af,none⟩::r) ⟨⟨al L ρ,h⟩,L0,own⟩ Q:=
 EvD.plain (h':=h) rfl (fun run=>by simp only [opVal,stepOp,evL_ev hc,evL_ev hx,Bool.false_eq_true,if_false]) k
theorem D.arith {i L0:Nat} {own:List Nat} {bop:BinOp} {t yt:TypeId} {x y:Operand} {k:IntKind} {a b c c':Int} (hx:evL L x=some (.int k a)) (hy:evL L y=some (.int k b)) (hp:Pm.arith bop a b=some c) (hw:k.wrap c=c') (kk:EvD C ops (i+1) r ⟨⟨al ((d,(.int k c'))::L) ρ,h⟩,L0,own⟩ Q) :
  EvD C ops i (⟨some d,.binOp bop t x y yt,ty,pos,af,none⟩::r) ⟨⟨al L ρ,h⟩,L0,own⟩ Q:=by
 refine EvD.plain (h':=h) rfl (fun run=>?_) kk
 simp only [opVal,stepOp,evL_ev hx,evL_ev hy]
 cases bop <;> simp only [Pm.arith,Option.some.injEq,reduceCtorEq] at hp <;> subst hp <;> simp [binP,intOp,hw]
theorem D.cmp {i L0:Nat} {own:List Nat} {bop:BinOp} {t yt:TypeId} {x y:Operand} {k:IntKind} {a b:Int} {p:Prop} (hx:evL L x=some (.int k a)) (hy:evL L y=some (.int k b)) (hp:cmpI bop a b=some p)
  (k1:p→EvD C ops (i+1) r ⟨⟨al ((d,(.bool true))::L) ρ,h⟩,L0,own⟩ Q) (k2:¬ p→EvD C ops (i+1) r ⟨⟨al ((d,(.bool false))::L) ρ,h⟩,L0,own⟩ Q):EvD C ops i (⟨some d,.binOp bop t x y yt,ty,pos,af,none⟩::r) ⟨⟨al L ρ,h⟩,L0,own⟩ Q:=by
 by_cases hpp:p
 ·refine EvD.plain (h':=h) rfl (fun run=>?_) (k1 hpp)
  simp only [opVal,stepOp,evL_ev hx,evL_ev hy]
  cases bop <;> simp only [cmpI,Option.some.injEq,reduceCtorEq] at hp <;> subst hp <;> simp [binP,intOp,hpp]
 ·refine EvD.plain (h':=h) rfl (fun run=>?_) (k2 hpp)
  simp only [opVal,stepOp,evL_ev hx,evL_ev hy]
  cases bop <;> simp only [cmpI,Option.some.injEq,reduceCtorEq] at hp <;> subst hp <;> simp [binP,intOp,hpp] <;> omega
theorem OutA.rb {sz:Nat} {A J:AHeap} {v:PV} {es:List PV} (o:OutA sz A J v es) (hv:isVals es=true):∃ r1,rb (A++J) v=some r1∧nrm r1=.snap false (nrms es):=by
 rcases o with ⟨rfl,rfl⟩ | ⟨id,ep,rfl,e2⟩
 ·exact ⟨_,rfl,rfl⟩
 ·refine ⟨.snap false es,?_,by simp [nrm]⟩
  have:(A++J)[A.length+id]?=some ⟨.m,ep,sz,es⟩:=by rw [List.getElem?_append_right (by omega),show A.length+id - A.length=id by omega];exact e2
  simp [Pm.rb,rbA,rb1,getM,this,hv]
end Go.Pm
end
section
namespace Go.Pm
variable {C:Cfg} (T:Tab C.P)
variable {ops:Array Oper} {d:Nat} {ty:TypeId} {pos:String} {af:Array Edge} {r:List Oper} {ρ:Nat→PV} {L:List (Nat × PV)} {h h':AHeap} {Q:St→Prop}
theorem EvOps.heap {ρ:Nat→PV} (e:h=h') (k:EvOps C ops r ⟨ρ,h'⟩ Q):EvOps C ops r ⟨ρ,h⟩ Q:=by subst e;exact k
theorem EvD.heap {i:Nat} {ρ:Nat→PV} (e:h=h') (k:EvD C ops i r ⟨⟨ρ,h'⟩,h'.length,[]⟩ Q):EvD C ops i r ⟨⟨ρ,h⟩,h.length,[]⟩ Q:=by subst e;exact k
theorem HV.take {h:AHeap} (H:HV h) (n:Nat):HV (h.take n):=fun o ho=>H o (List.mem_of_mem_take ho)
theorem CallEv.openedV {f:FuncId} {args args':List PV} {N:Nat} {P Q:PV→AHeap→Prop} (hm:C.mode f=.opened) (eh:h=h') (ea:args=args') (hN:h'.length=N) (a:FnEv C f args' h' P)
  (q:∀ r k,P r k→HV k∧(belowR N r=true→Q r (k.take N))∧(belowR N r=false→Q r k)):CallEv C 2 f args h Q:=by
 subst eh;subst ea;subst hN
 refine CallEv.opened hm (a.mono ?_)
 intro r k hp
 obtain ⟨h1,h2,h3⟩:=q r k hp
 cases hb:belowR h.length r
 ·rw [if_neg (by simp)];exact h3 hb
 ·rw [if_pos (by rw [(h1.take h.length).belowA];rfl)];exact h2 hb
end Go.Pm
end
section
namespace Go.Pm
variable {C:Cfg} (T:Tab C.P)
variable {ops:Array Oper} {d:Nat} {ty:TypeId} {pos:String} {af:Array Edge} {r:List Oper} {ρ:Nat→PV} {L:List (Nat × PV)} {h:AHeap} {Q:St→Prop}
theorem CallEv.primL {f:FuncId} {g:List PV→AHeap→Option (PV × AHeap)} {args:List PV} {h':AHeap} {rv:PV} {Q:PV→AHeap→Prop} (hm:C.mode f=.primL g) (a:g args h=some (rv,h')) (q:Q rv h'):CallEv C 2 f args h Q:=by
 refine ⟨rv,h',q,0,fun n h1=>?_⟩
 unfold callF
 rw [hm]
 simp only [lockCall,Nat.le_refl,if_true,a]
def loadT (h:AHeap) (t:TypeId) (p:PV):Option PV:=
 match T.ts t,T.ta t,pcells h p with
 | some (sz+1),some true,some cs=>if Nat.ble (sz+1) cs.length then some (.agg (cs.take (sz+1))) else none
 | some _,some false,some (c::_)=>some c
 | _,_,_=>none
theorem loadT_of {t:TypeId} {p v:PV} (e:loadT T h t p=some v):loadP C.P h t p=some v:=by
 unfold loadT at e
 unfold loadP
 split at e
 ·rename_i sz cs h1 h2 h3
  rw [T.hts _ _ h1,T.hta _ _ h2,h3]
  split at e
  ·rename_i hle
   simp only
   rw [if_pos ⟨by omega,Nat.le_of_ble_eq_true hle⟩]
   exact e
  ·cases e
 ·rename_i h1 h2 h3
  rw [T.hts _ _ h1,T.hta _ _ h2,h3]
  exact e
 ·cases e
def resC (L:List (Nat × PV)) (h:AHeap):List ResultVar→Option (List PV)
 | []=>some []
 | .tmp t::r=>match lk L t,resC L h r with
  | some v,some vs=>some (v::vs)
  | _,_=>none
 | .cell a t::r=>match lk L a with
  | some p=>match loadT T h t p,resC L h r with
   | some v,some vs=>some (v::vs)
   | _,_=>none
  | none=>none
theorem resC_of {ρ:Nat→PV}:∀ {l:List ResultVar} {vs:List PV},resC T L h l=some vs→resultOf C.P h (al L ρ) l=some vs
 | [],vs,e=>by simp [resC] at e;subst e;rfl
 | .tmp t::r,vs,e=>by
  simp only [resC] at e
  split at e
  ·rename_i v vs' h1 h2
   obtain rfl:=Option.some.inj e
   simp [resultOf,lk_al h1,resC_of h2]
  ·cases e
 | .cell a t::r,vs,e=>by
  simp only [resC] at e
  split at e
  ·rename_i p hp
   split at e
   ·rename_i v vs' h1 h2
    obtain rfl:=Option.some.inj e
    simp [resultOf,lk_al hp,loadT_of T h1,resC_of h2]
   ·cases e
  ·cases e
theorem bodyQ.retC {fn:Func} {Q:PV→AHeap→Prop} {vs:List PV} (hr:resC T L h fn.results.toList=some vs) (q:Q (tupOf vs) h):bodyQ C fn Q .ret ⟨al L ρ,h⟩:=⟨.inr rfl,vs,resC_of T hr,q⟩
theorem closed_app {A J:AHeap} (h1:(A.all fun o=>decide (o.mu=.x) || visRs (visible (A++J)) o.es)=true) (hJ:HV J):closedH (A++J)=true:=by
 unfold closedH
 rw [List.all_append,h1,Bool.true_and,List.all_eq_true]
 intro o ho
 rw [vis_vals _ _ (hJ o ho).2]
 simp
theorem D.indexM {i:Nat} {t el:TypeId} {x ix:Operand} {id ep off len:Nat} {k:IntKind} {j:Nat} {o:AObj} (hcl:closedH h=true) (hx:evL L x=some (.mref id ep off len)) (hi:evL L ix=some (.int k (j:Int))) (hk:T.kd t=some (.sl el)) (ho:getM h id ep=some o) (hs:T.ts el=some o.esz) (hlt:j<len) (hle:off+len≤o.es.length)
  (kk:EvD C ops (i+1) r ⟨⟨al ((d,.ptr id ep (off+j) 0)::L) ρ,h⟩,h.length,[]⟩ Q):EvD C ops i (⟨some d,.indexAddr t x ix,ty,pos,af,none⟩::r) ⟨⟨al L ρ,h⟩,h.length,[]⟩ Q:=by
 have hvis:visible h id=true:=by
  unfold getM at ho
  split at ho
  ·rename_i o' ho'
   split at ho
   ·rename_i hc
    unfold visible
    rw [ho']
    simpa using hc.2
   ·cases ho
  ·cases ho
 exact EvD.read rfl hcl (by simp [Op.operands,evL_ev hx,evL_ev hi,visR,hvis]) ⟨0,fun n lv _ _=>by simp [opVal,stepOp,evL_ev hx,evL_ev hi,indexAddrP,kd_sl (T.hkd _ _ hk),T.hts _ _ hs,ho,hlt,hle]⟩ kk
theorem D.storeH {i L0:Nat} {own:List Nat} {t:TypeId} {a x:Operand} {b off ep j sz:Nat} {o:AObj} {e v:PV} (hl2:level ops (before ops) i=2) (ha:evL L a=some (.ptr b ep j off)) (hx:evL L x=some v) (hs:T.ts t=some sz) (hg:getM h b ep=some o) (hm:o.mu=.m) (hi:o.es[j]?=some e) (hl:(cells v).length=sz) (h1:(cells v).all oneC=true) (hle:off+sz≤(cells e).length)
  (k:EvD C ops (i+1) r ⟨⟨al L ρ,h.set b {o with es:=o.es.set j (recell off sz e v) }⟩,(h.set b {o with es:=o.es.set j (recell off sz e v) }).length,[]⟩ Q):EvD C ops i (⟨none,.store t a x,ty,pos,af,none⟩::r) ⟨⟨al L ρ,h⟩,L0,own⟩ Q:=by
 refine EvD.step ⟨0,fun n _=>?_⟩ k
 simp only [opStepD,wantedA,heapy,Bool.true_eq_false,if_false,hl2,if_true,opVal,stepOp,evL_ev ha,evL_ev hx,storeP,T.hts _ _ hs,hg,hi,Nat.le_refl,hm,hl,h1,hle,and_self,Option.map_some,updO]
theorem D.loadAN {i:Nat} {t:TypeId} {x:Operand} {e:PV} {cs':List PV} {n sz:Nat} (hcl:closedH (h++[⟨.m,0,n,[e]⟩])=true) (hx:evL L x=some (.ptr h.length 0 0 0)) (hs:T.ts t=some (sz+1)) (ht:T.ta t=some true) (hc:TakeR (sz+1) (cells e) cs')
  (k:EvD C ops (i+1) r ⟨⟨al ((d,(.agg cs'))::L) ρ,h++[⟨.m,0,n,[e]⟩]⟩,(h++[⟨.m,0,n,[e]⟩]:AHeap).length,[]⟩ Q):EvD C ops i (⟨some d,.load t x,ty,pos,af,none⟩::r) ⟨⟨al L ρ,h++[⟨.m,0,n,[e]⟩]⟩,(h++[⟨.m,0,n,[e]⟩]:AHeap).length,[]⟩ Q:=
 D.loadA T hcl hx (by simp [visR,visible]) hs ht pcN hc k
end Go.Pm
end
section
namespace Go.Pm
open Go.Proofs
def okV (sz:Nat) (e:PV):Bool:=isVal e && decide ((cells e).length=sz) && (cells e).all oneC
def insertPrim (args:List PV) (h:AHeap):Option (PV × AHeap):=
 match args with
 | [.snap true [],.int .i64 i,.snap _ [e]]=>if i=0∧okV 5 e=true then some (.mref h.length 0 0 1,newObj h 5 [e]) else none
 | [.mref id ep 0 len,.int .i64 i,.snap _ [e]]=>match getM h id ep with
  | some o=>if o.mu=.m∧o.esz=5∧len≤o.es.length∧0≤i∧i≤len∧len<100000000∧okV 5 e=true∧(o.es.take len).all (okV 5)=true∧closedH h=true then
    some (.mref id (ep+1) 0 (len+1),h.set id {o with ep:=ep+1,es:=(o.es.take len).take i.toNat++[e]++(o.es.take len).drop i.toNat }) else none
  | none=>none
 | _=>none
def deletePrim (args:List PV) (h:AHeap):Option (PV × AHeap):=
 match args with
 | [.mref id ep 0 len,.int .i64 i,.int .i64 j]=>match getM h id ep with
  | some o=>if o.mu=.m∧o.esz=5∧len≤o.es.length∧0≤i∧j=i+1∧i<len∧len<100000000∧(o.es.take len).all (okV 5)=true∧closedH h=true then
    some (.mref id (ep+1) 0 (len - 1),h.set id {o with ep:=ep+1,es:=(o.es.take len).take i.toNat++(o.es.take len).drop (i.toNat+1) }) else none
  | none=>none
 | _=>none
def clonePrim (esz:Nat) (args:List PV) (h:AHeap):Option (PV × AHeap):=
 match args with
 | [.snap _ es]=>if es.isEmpty then some (.snap true [],h)
   else if es.all (fun v=>decide ((cells v).length=esz) && (cells v).all oneC)=true∧es.length<1000000000 then some (.mref h.length 0 0 es.length,newObj h esz es) else none
 | _=>none
def mode06 (f:FuncId):Mode:=
 if [0,1,113,85,13].contains f then .no
 else if f=122 then .ext fun | [.str a,.str b]=>some (.int .i64 (Lib.compareBytes a.data.toList b.data.toList)) | _=>none
 else if f=91 then .primL insertPrim
 else if f=92 then .primL deletePrim
 else if f=103 then .primL (clonePrim 4)
 else if f=51 then .primL (clonePrim 1)
 else if [77,57,70,56,52,61,95,
  96,119,118,97,98,62,67,69,
  64,65,66,63,99,100,116,117,
  111,124,86,103,
  51,73,104,35,
  76,41,44].contains f then .opened
 else if f<148 then .pure
 else .no
noncomputable def C:Cfg:=⟨Tryz.prog,mode06⟩
end Go.Pm
end
section
namespace Go.Pm
variable {C:Cfg} (T:Tab C.P)
variable {ops:Array Oper} {i:Nat} {d:Nat} {ty:TypeId} {pos:String} {af:Array Edge} {r:List Oper} {ρ:Nat→PV} {L:List (Nat × PV)} {h:AHeap} {Q:St→Prop}
theorem D.call {L0:Nat} {own:List Nat} {x:Operand} {xs:List Operand} {ats:Array TypeId} {f:FuncId} {caps args:List PV} (hl2:level ops (before ops) i=2) (hf:evL L x=some (.fn f caps)) (ha:evsL L xs=some args)
  (hc:CallEv C 2 f (args++caps) h (fun v h'=>EvD C ops (i+1) r ⟨⟨al ((d,v)::L) ρ,h'⟩,h'.length,[]⟩ Q)):EvD C ops i (⟨some d,.call ⟨.value x,xs.toArray,ats⟩,ty,pos,af,none⟩::r) ⟨⟨al L ρ,h⟩,L0,own⟩ Q:=by
 obtain ⟨v,h',q,n0,hn⟩:=hc
 refine EvD.two rfl hl2 ⟨n0,fun n h1=>?_⟩ q
 simp only [opVal,calleeP,evL_ev hf]
 have he:=evsL_ev (ρ:=ρ) ha
 simp only [he]
 exact hn n h1
theorem CallEv.out {f:FuncId} {sz:Nat} {v:PV} {es rest:List PV} {rv:PV} {Q:PV→AHeap→Prop} (hm:C.mode f=.pure) (o:Out sz h v es) (hv:isVals es=true) (hr:isVals rest=true) (a:Fun C f (.snap false (nrms es)::nrms rest) rv) (hs:scal rv=true) (q:Q rv h):CallEv C 2 f (v::rest) h Q:=by
 rcases o with ⟨rfl,rfl⟩ | ⟨id,ep,rfl,e2⟩
 ·exact CallEv.pure hm (by simp [isVals,isVal,hr]) (by simpa [nrms,nrm] using a) q
 ·refine CallEv.pureM (args':=.snap false es::rest) hm (by simp [isVals,isVal]) ?_ (by simpa [nrms,nrm] using a) hs q
  have h1:rbA h (.mref id ep 0 es.length)=some (.snap false es):=by simp [rbA,rb1,getM,e2,hv]
  have h2:∀ l:List PV,isVals l=true→rbAs h l=some l:=by
   intro l
   induction l with
   | nil=>intro _;rfl
   | cons c l ih=>
    intro hl
    simp only [isVals,Bool.and_eq_true] at hl
    simp only [rbAs,ih hl.2]
    have:rbA h c=some c:=by
     unfold rbA
     split
     ·rename_i cs
      have hcs:isVals cs=true:=by simpa [isVal] using hl.1
      have key:∀ cs:List PV,isVals cs=true→rb1s h cs=some cs:=by
       intro cs
       induction cs with
       | nil=>intro _;rfl
       | cons c cs ih=>
        intro hh
        simp only [isVals,Bool.and_eq_true] at hh
        have:rb1 h c=some c:=by
         unfold rb1
         split
         ·simp [isVal] at hh
         ·rw [if_pos hh.1]
        simp only [rb1s,this,ih hh.2]
      rw [key cs hcs];rfl
     ·unfold rb1
      split
      ·simp [isVal] at hl
      ·rw [if_pos hl.1]
    rw [this]
  simp only [rbAs,h1,h2 rest hr]
structure LP (H:AHeap) (v:PV) (sz:Nat) (es':List PV) (r:PV) (h':AHeap):Prop where
 out:Out sz h' r es'
 hv:HV h'
 len:H.length≤h'.length
 fr:∀ j,j<H.length→(∀ ep n,v≠.mref j ep 0 n)→h'[j]?=H[j]?
 ref:∀ j ep n,r=.mref j ep 0 n→(∃ ep' n',v=.mref j ep' 0 n')∨H.length≤j
theorem okV_vals {sz:Nat}:∀ {es:List PV},es.all (okV sz)=true→isVals es=true
 | [],_=>rfl
 | e::es,h=>by
  rw [List.all_cons,Bool.and_eq_true] at h
  obtain ⟨h1,h2⟩:=h
  unfold okV at h1
  simp only [Bool.and_eq_true] at h1
  simp only [isVals,h1.1.1,okV_vals h2,Bool.and_self]
end Go.Pm
end
section
set_option maxRecDepth 20000
namespace Go.Pm
def tsL:List (Option Nat):=[some (1),some (1),some (1),some (1),some (1),some (1),some (1),some (4),some (4),some (1),some (1),some (1),some (1),some (2),some (2),some (1),some (1),some (1),some (1),some (1),some (1),some (1),some (1),some (1),some (3),some (3),some (1),some (2),some (2),some (1),some (1),some (1),some (1),some (1),some (1),some (1),some (1),some (1),some (1),some (1),some (1),some (1),some (1),some (1),some (1),some (1),some (1),some (1),some (1),some (1),some (1),some (1),some (4),some (4),some (1),some (1),some (1),some (1),some (1),some (1),some (1),some (1),some (1),some (1),some (1),some (5),some (5),some (1),some (1),some (1),some (1),some (1),some (1),some (1),some (1),some (1),some (1),some (1),some (1),some (1),some (1),some (1),some (1),some (1),some (1),some (1),some (1),some (1),some (1),some (1),some (1),some (1),some (1),some (3),some (3),some (1),some (3),some (3),some (1),some (1),some (1),some (4),some (4),some (1),some (1),some (1),some (1),some (1),some (1),some (1),some (1),some (1),some (1),some (1),some (1),some (1),some (1),some (1),some (1),some (1),some (1),some (1),some (1),some (1),some (1),some (1),some (1),some (1),some (1),some (1),some (1),some (1),some (1),some (1),some (1),some (1),some (1),some (1),some (1),some (1),some (1),some (1),some (1),some (1),some (1),some (1),some (1),some (1),some (1),some (1),some (1),some (1),some (1),some (1),some (1),some (1),some (1),some (1),some (1),some (1),some (1),some (1),some (1),some (2),some (1),some (1),some (1),some (1),some (1),some (1),some (1),some (1),some (1),some (1),some (1),some (1),some (1),some (1),some (1),some (1),some (1),some (4),some (4),some (0),some (0),some (0),some (1),some (1),some (1),some (1),some (1),some (1),some (1),some (11),some (11),some (1),some (1),some (1)]
def tbL:List (Option Nat):=[some (0),some (8),some (8),some (8),some (1),some (1),some (1),some (24),some (24),some (16),some (16),some (16),some (8),some (24),some (24),some (8),some (8),some (8),some (8),some (8),some (16),some (4),some (24),some (24),some (72),some (72),some (24),some (32),some (32),some (8),some (8),some (24),some (0),some (8),some (8),some (8),some (24),some (8),some (8),some (8),some (8),some (0),some (8),some (8),some (8),some (8),some (0),some (8),some (0),some (8),some (8),some (24),some (56),some (56),some (8),some (8),some (8),some (8),some (8),some (0),some (8),some (8),some (1),some (8),some (8),some (64),some (64),some (8),some (8),some (8),some (8),some (8),some (8),some (8),some (8),some (0),some (8),some (8),some (8),some (8),some (8),some (8),some (8),some (8),some (8),some (8),some (8),some (8),some (8),some (8),some (8),some (0),some (8),some (56),some (56),some (24),some (72),some (72),some (0),some (8),some (24),some (80),some (80),some (8),some (8),some (8),some (8),some (8),some (8),some (0),some (8),some (8),some (8),some (8),some (8),some (8),some (8),some (8),some (8),some (8),some (8),some (8),some (8),some (8),some (8),some (8),some (8),some (8),some (8),some (0),some (8),some (8),some (0),some (8),some (0),some (8),some (8),some (8),some (24),some (8),some (8),some (8),some (8),some (8),some (8),some (8),some (8),some (24),some (8),some (0),some (8),some (8),some (8),some (8),some (0),some (8),some (8),some (8),some (8),some (8),some (4),some (8),some (8),some (48),some (24),some (0),some (8),some (8),some (8),some (8),some (8),some (8),some (8),some (8),some (16),some (16),some (8),some (0),some (8),some (8),some (8),some (40),some (40),some (0),some (0),some (0),some (8),some (1),some (1),some (8),some (8),some (4),some (4),some (48),some (48),some (16),some (16),some (8)]
def taL:List (Option Bool):=[some (false),some (false),some (false),some (false),some (false),some (false),some (false),some (true),some (true),some (false),some (false),some (false),some (false),some (true),some (true),some (false),some (false),some (false),some (true),some (true),some (false),some (false),some (false),some (false),some (true),some (true),some (false),some (true),some (true),some (false),some (false),some (false),some (false),some (false),some (false),some (false),some (false),some (false),some (false),some (false),some (false),some (false),some (false),some (false),some (false),some (false),some (false),some (false),some (false),some (false),some (false),some (false),some (true),some (true),some (false),some (false),some (false),some (false),some (false),some (false),some (false),some (false),some (false),some (false),some (false),some (true),some (true),some (false),some (false),some (false),some (false),some (false),some (false),some (false),some (false),some (false),some (false),some (false),some (false),some (false),some (false),some (false),some (false),some (false),some (false),some (false),some (false),some (false),some (false),some (false),some (false),some (false),some (false),some (true),some (true),some (false),some (true),some (true),some (false),some (false),some (false),some (true),some (true),some (false),some (false),some (false),some (false),some (false),some (false),some (false),some (false),some (false),some (false),some (false),some (false),some (false),some (false),some (false),some (false),some (false),some (false),some (false),some (false),some (false),some (false),some (false),some (false),some (false),some (false),some (false),some (false),some (false),some (false),some (false),some (false),some (false),some (false),some (false),some (false),some (false),some (false),some (false),some (false),some (false),some (false),some (false),some (false),some (false),some (false),some (false),some (false),some (false),some (false),some (false),some (false),some (false),some (false),some (false),some (false),some (false),some (false),some (false),some (false),some (true),some (false),some (false),some (false),some (false),some (false),some (false),some (false),some (false),some (false),some (false),some (false),some (false),some (false),some (false),some (false),some (false),some (false),some (true),some (true),some (true),some (true),some (true),some (false),some (false),some (false),some (false),some (false),some (false),some (false),some (true),some (true),some (true),some (true),some (false)]
def kdL:List (Option Kd):=[some (.other),some (.other),some (.int .i64),some (.int .i64),some (.bool),some (.int .u8),some (.int .u8),some (.st [(0,2),(1,3),(2,4),(3,6)]),some (.st [(0,2),(1,3),(2,4),(3,6)]),some (.str),some (.str),some (.str),some (.int .u64),some (.st [(0,9),(1,12)]),some (.st [(0,9),(1,12)]),some (.other),some (.other),some (.other),some (.st [(0,17)]),some (.st [(0,17)]),some (.other),some (.int .i32),some (.sl 23),some (.sl 62),some (.st [(0,22),(1,23),(2,23)]),some (.st [(0,22),(1,23),(2,23)]),some (.sl 66),some (.st [(0,3),(1,26)]),some (.st [(0,3),(1,26)]),some (.other),some (.other),some (.sl 26),some (.other),some (.other),some (.other),some (.other),some (.sl 3),some (.other),some (.other),some (.other),some (.int .i64),some (.other),some (.other),some (.other),some (.other),some (.other),some (.other),some (.other),some (.other),some (.other),some (.other),some (.sl 53),some (.st [(0,3),(1,9),(2,3),(3,51)]),some (.st [(0,3),(1,9),(2,3),(3,51)]),some (.other),some (.other),some (.other),some (.other),some (.other),some (.other),some (.other),some (.other),some (.int .i8),some (.other),some (.other),some (.st [(0,53),(4,3)]),some (.st [(0,53),(4,3)]),some (.other),some (.other),some (.other),some (.other),some (.other),some (.other),some (.other),some (.other),some (.other),some (.other),some (.other),some (.other),some (.other),some (.other),some (.other),some (.other),some (.other),some (.other),some (.other),some (.other),some (.other),some (.other),some (.other),some (.other),some (.other),some (.other),some (.st [(0,36),(1,36),(2,4)]),some (.st [(0,36),(1,36),(2,4)]),some (.sl 36),some (.st [(0,51),(1,95),(2,36)]),some (.st [(0,51),(1,95),(2,36)]),some (.other),some (.other),some (.sl 90),some (.st [(0,51),(1,100),(2,36),(3,4)]),some (.st [(0,51),(1,100),(2,36),(3,4)]),some (.other),some (.other),some (.other),some (.other),some (.other),some (.other),some (.other),some (.other),some (.other),some (.other),some (.other),some (.other),some (.other),some (.other),some (.other),some (.other),some (.int .u64),some (.other),some (.other),some (.other),some (.other),some (.other),some (.other),some (.other),some (.other),some (.other),some (.other),some (.other),some (.other),some (.other),some (.other),some (.other),some (.other),some (.other),some (.other),some (.sl 51),some (.other),some (.other),some (.other),some (.other),some (.other),some (.other),some (.other),some (.other),some (.sl 4),some (.other),some (.other),some (.other),some (.other),some (.other),some (.int .i64),some (.other),some (.other),some (.other),some (.other),some (.other),some (.other),some (.int .u32),some (.other),some (.int .u64),some (.arr 2 36),some (.sl 163),some (.other),some (.other),some (.other),some (.int .u64),some (.other),some (.other),some (.other),some (.other),some (.other),some (.other),some (.other),some (.other),some (.other),some (.other),some (.other),some (.other),some (.st [(0,17),(1,17),(2,17),(3,9)]),some (.st [(0,17),(1,17),(2,17),(3,9)]),some (.arr 0 16),some (.st [(0,183)]),some (.st [(0,183)]),some (.other),some (.int .u8),some (.int .u8),some (.other),some (.other),some (.int .i32),some (.int .i32),some (.st [(0,12),(1,12),(2,160),(3,187),(4,5),(5,5),(6,188),(7,189),(8,190),(9,191),(10,192)]),some (.st [(0,12),(1,12),(2,160),(3,187),(4,5),(5,5),(6,188),(7,189),(8,190),(9,191),(10,192)]),some (.st [(0,9)]),some (.st [(0,9)]),some (.other)]
def tzL:List (Option PV):=[none,some (.nilf),some (.int .i64 (0)),some (.int .i64 (0)),some (.bool false),some (.int .u8 (0)),some (.int .u8 (0)),some (.agg [.int .i64 (0),.int .i64 (0),.bool false,.int .u8 (0)]),some (.agg [.int .i64 (0),.int .i64 (0),.bool false,.int .u8 (0)]),some (.str ByteArray.empty),some (.str ByteArray.empty),some (.str ByteArray.empty),some (.int .u64 (0)),some (.agg [.str ByteArray.empty,.int .u64 (0)]),some (.agg [.str ByteArray.empty,.int .u64 (0)]),some (.nilp),some (.nilp),some (.nilp),some (.agg [.nilp]),some (.agg [.nilp]),none,some (.int .i32 (0)),some (.snap true []),some (.snap true []),some (.agg [.snap true [],.snap true [],.snap true []]),some (.agg [.snap true [],.snap true [],.snap true []]),some (.snap true []),some (.agg [.int .i64 (0),.snap true []]),some (.agg [.int .i64 (0),.snap true []]),some (.nilf),some (.nilf),some (.snap true []),none,some (.nilf),some (.nilf),some (.nilf),some (.snap true []),some (.nilf),some (.nilf),some (.nilf),some (.int .i64 (0)),none,some (.nilf),some (.nilf),some (.nilf),some (.nilf),none,some (.nilf),none,some (.nilf),some (.nilf),some (.snap true []),some (.agg [.int .i64 (0),.str ByteArray.empty,.int .i64 (0),.snap true []]),some (.agg [.int .i64 (0),.str ByteArray.empty,.int .i64 (0),.snap true []]),some (.nilf),some (.nilf),some (.nilf),some (.nilf),some (.nilf),none,some (.nilf),some (.nilf),some (.int .i8 (0)),some (.nilf),some (.nilf),some (.agg [.int .i64 (0),.str ByteArray.empty,.int .i64 (0),.snap true [],.int .i64 (0)]),some (.agg [.int .i64 (0),.str ByteArray.empty,.int .i64 (0),.snap true [],.int .i64 (0)]),some (.nilf),some (.nilf),some (.nilf),some (.nilf),some (.nilf),some (.nilf),some (.nilf),some (.nilf),none,some (.nilf),some (.nilf),some (.nilf),some (.nilf),some (.nilf),some (.nilf),some (.nilf),some (.nilf),some (.nilf),some (.nilf),some (.nilf),some (.nilf),some (.nilf),some (.nilp),some (.nilp),none,some (.nilf),some (.agg [.snap true [],.snap true [],.bool false]),some (.agg [.snap true [],.snap true [],.bool false]),some (.snap true []),some (.agg [.snap true [],.snap true [],.snap true []]),some (.agg [.snap true [],.snap true [],.snap true []]),none,some (.nilf),some (.snap true []),some (.agg [.snap true [],.snap true [],.snap true [],.bool false]),some (.agg [.snap true [],.snap true [],.snap true [],.bool false]),some (.nilf),some (.nilf),some (.nilf),some (.nilf),some (.nilf),some (.nilf),none,some (.nilf),some (.nilf),some (.nilf),some (.nilf),some (.nilf),some (.nilp),some (.nilf),some (.nilf),some (.nilf),some (.int .u64 (0)),some (.nilf),some (.nilf),some (.nilf),some (.nilf),some (.nilf),some (.nilf),some (.nilf),some (.nilf),some (.nilf),none,some (.nilf),some (.nilf),none,some (.nilf),none,some (.nilf),some (.nilf),some (.nilf),some (.snap true []),some (.nilf),some (.nilf),some (.nilf),some (.nilf),some (.nilf),some (.nilf),some (.nilf),some (.nilf),some (.snap true []),some (.nilf),none,some (.nilf),some (.nilf),some (.nilf),some (.int .i64 (0)),none,some (.nilf),some (.nilf),some (.nilf),some (.nilf),some (.nilf),some (.int .u32 (0)),some (.nilf),some (.int .u64 (0)),some (.agg [.snap true [],.snap true []]),some (.snap true []),none,some (.nilf),some (.nilf),some (.int .u64 (0)),some (.nilf),some (.nilf),some (.nilf),some (.nilf),some (.nilf),none,none,some (.nilp),none,some (.nilf),some (.nilp),some (.nilf),some (.agg [.nilp,.nilp,.nilp,.str ByteArray.empty]),some (.agg [.nilp,.nilp,.nilp,.str ByteArray.empty]),some (.agg []),some (.agg []),some (.agg []),some (.nilf),some (.int .u8 (0)),some (.int .u8 (0)),some (.nilf),some (.nilp),some (.int .i32 (0)),some (.int .i32 (0)),some (.agg [.int .u64 (0),.int .u64 (0),.int .u32 (0),.int .u8 (0),.int .u8 (0),.int .u8 (0),.int .u8 (0),.nilf,.nilp,.int .i32 (0),.int .i32 (0)]),some (.agg [.int .u64 (0),.int .u64 (0),.int .u32 (0),.int .u8 (0),.int .u8 (0),.int .u8 (0),.int .u8 (0),.nilf,.nilp,.int .i32 (0),.int .i32 (0)]),some (.agg [.str ByteArray.empty]),some (.agg [.str ByteArray.empty]),some (.nilp)]
def tN:Nat:=198
theorem tsOk:(List.range tN).map (tsize C.P)=tsL:=by kernel_rfl
theorem taOk:(List.range tN).map (tagg C.P)=taL:=by kernel_rfl
theorem tbOk:(List.range tN).map (tbytes C.P)=tbL:=by kernel_rfl
theorem kdOk:(List.range tN).map (fun t=>(C.P.underlying t).map kdOf)=kdL:=by kernel_rfl
theorem tzOk:(List.range tN).map (fun t=>if (tzL.getD t none).isSome then tzero C.P t else none)=tzL:=by kernel_rfl
theorem tabGet {α:Type} {f:Nat→Option α} {l:List (Option α)} (h:(List.range tN).map f=l) (t:Nat) (n:α) (e:(l[t]?).bind id=some n):f t=some n:=by
 subst h
 rw [List.getElem?_map] at e
 cases hr:(List.range tN)[t]? with
 | none=>rw [hr] at e;simp at e
 | some k=>
  rw [hr] at e
  have hk:k=t:=by
   have:=List.getElem?_eq_some_iff.1 hr
   obtain ⟨h1,h2⟩:=this
   simp at h2
   exact h2.symm
  subst hk
  simpa using e
def T6:Tab C.P where
 ts t:=(tsL[t]?).bind id
 ta t:=(taL[t]?).bind id
 tb t:=(tbL[t]?).bind id
 kd t:=(kdL[t]?).bind id
 tz t:=(tzL[t]?).bind id
 hts:=tabGet tsOk
 hta:=tabGet taOk
 htb:=tabGet tbOk
 hkd:=tabGet kdOk
 htz t n e:=by
  have:=tabGet tzOk t n e
  split at this
  ·exact this
  ·cases this
end Go.Pm
end
section
namespace Go.Pm
inductive Tm where
 | mk (kind:Int) (name:ByteArray) (sort:Int) (kids:List Tm)
def Tm.kids:Tm→List Tm | .mk _ _ _ k=>k
mutual
def enc:Tm→PV
 | .mk k s o l=>.agg [.int .i64 k,.str s,.int .i64 o,.snap false (encs l)]
def encs:List Tm→List PV
 | []=>[]
 | t::l=>enc t::encs l
end
mutual
theorem isVal_enc:∀ t,isVal (enc t)=true
 | .mk k s o l=>by simp [enc,isVal,isVals]
end
theorem isVals_encs (l:List Tm):isVals (encs l)=true:=by
 induction l with
 | nil=>rfl
 | cons t l ih=>simp [encs,isVals,isVal_enc,ih]
mutual
theorem nrm_enc:∀ t,nrm (enc t)=enc t
 | .mk k s o l=>by simp [enc,nrm,nrms,nrms_encs l]
theorem nrms_encs:∀ l,nrms (encs l)=encs l
 | []=>rfl
 | t::l=>by simp [encs,nrms,nrm_enc t,nrms_encs l]
end
theorem encs_len (l:List Tm):(encs l).length=l.length:=by
 induction l with
 | nil=>rfl
 | cons t l ih=>simp [encs,ih]
theorem encs_eq (l:List Tm):encs l=l.map enc:=by
 induction l with
 | nil=>rfl
 | cons t l ih=>simp [encs,ih]
theorem enc_agg (t:Tm):∃ a b c d,enc t=.agg [a,b,c,d]:=by cases t;exact ⟨_,_,_,_,by rw [enc]⟩
mutual
def bulk:Tm→Nat
 | .mk k s o l=>1+s.size+bulks l
def bulks:List Tm→Nat
 | []=>0
 | t::l=>bulk t+bulks l
end
theorem bulk_pos (t:Tm):0<bulk t:=by cases t;simp [bulk];omega
theorem len_bulks (l:List Tm):l.length≤bulks l:=by
 induction l with
 | nil=>simp
 | cons t l ih=>have:=bulk_pos t;simp [bulks];omega
theorem bulk_mem {l:List Tm} {t:Tm} (h:t∈l):bulk t≤bulks l:=by
 induction l with
 | nil=>cases h
 | cons u l ih=>
  simp only [bulks]
  rcases List.mem_cons.1 h with rfl | h
  ·omega
  ·have:=ih h;omega
theorem Tm.ind {P:Tm→Prop} (h:∀ k s o l,(∀ t∈l,P t)→P (.mk k s o l)):∀ t,P t:=by
 intro t
 have key:∀ n t,bulk t≤n→P t:=by
  intro n
  induction n with
  | zero=>intro t ht;have:=bulk_pos t;omega
  | succ n ih=>
   intro t ht
   obtain ⟨k,s,o,l⟩:=t
   refine h k s o l (fun u hu=>ih u ?_)
   have:=bulk_mem hu
   simp [bulk] at ht
   omega
 exact key (bulk t) t (Nat.le_refl _)
theorem encs_at {l:List Tm} {i:Nat} (hc:(i:Int)<((encs l).length:Int)):∃ t a1 a2 a3 a4,t∈l∧enc t=.agg [a1,a2,a3,a4]∧(encs l)[i]?=some (.agg [a1,a2,a3,a4])∧l.drop i=t::l.drop (i+1)∧i<l.length∧l[i]?=some t:=by
 have hil:i<l.length:=by have:=encs_len l;omega
 obtain ⟨a1,a2,a3,a4,ha⟩:=enc_agg l[i]
 refine ⟨l[i],a1,a2,a3,a4,List.getElem_mem hil,ha,?_,List.drop_eq_getElem_cons hil,hil,List.getElem?_eq_getElem hil⟩
 rw [encs_eq,List.getElem?_map,List.getElem?_eq_getElem hil,← ha]
 rfl
theorem encs_end {l:List Tm} {i:Nat} (hc:¬ (i:Int)<((encs l).length:Int)):l.drop i=[]:=List.drop_eq_nil_of_le (by have:=encs_len l;omega)
theorem enc_mk (k:Int) (s:ByteArray) (o:Int) (l:List Tm):enc (.mk k s o l)=.agg [.int .i64 k,.str s,.int .i64 o,.snap false (encs l)]:=by rw [enc]
theorem encs_at' {l:List Tm} {i:Nat} (hc:(i:Int)<((encs l).length:Int)):∃ k s o l',.mk k s o l'∈l∧(encs l)[i]?=some (.agg [.int .i64 k,.str s,.int .i64 o,.snap false (encs l')])∧l.drop i=.mk k s o l'::l.drop (i+1)∧i<l.length∧l[i]?=some (.mk k s o l'):=by
 obtain ⟨t,a1,a2,a3,a4,h1,h2,h3,h4,h5,h6⟩:=encs_at hc
 obtain ⟨k,s,o,l'⟩:=t
 rw [enc_mk] at h2
 exact ⟨k,s,o,l',h1,by rw [h3,← h2],h4,h5,h6⟩
mutual
def size:Tm→Int
 | .mk _ _ _ l=>1+sizes l
def sizes:List Tm→Int
 | []=>0
 | t::l=>size t+sizes l
end
mutual
theorem size_bulk:∀ t,0<size t∧size t≤(bulk t:Int)
 | .mk k s o l=>by
  have:=sizes_bulk l
  simp only [size,bulk]
  omega
theorem sizes_bulk:∀ l,0≤sizes l∧sizes l≤(bulks l:Int)
 | []=>by simp [sizes,bulks]
 | t::l=>by
  have h1:=size_bulk t
  have h2:=sizes_bulk l
  simp only [sizes,bulks]
  omega
end
end Go.Pm
end
section
namespace Go.Pm
def cmpN (a b:Int):Int:=if a<b then -1 else if b<a then 1 else 0
mutual
def cmpT:Tm→Tm→Int
 | .mk k s o l,.mk k' s' o' l'=>
  if cmpN (size (.mk k s o l)) (size (.mk k' s' o' l'))≠0 then cmpN (size (.mk k s o l)) (size (.mk k' s' o' l')) else
  if cmpN k k'≠0 then cmpN k k' else
  if Op.bytesLess s.toList s'.toList=true then -1 else
  if (!(Op.bytesLess s.toList s'.toList || s.toList == s'.toList))=true then 1 else
  if cmpN o o'≠0 then cmpN o o' else
  if cmpN l.length l'.length≠0 then cmpN l.length l'.length else cmps l l'
def cmps:List Tm→List Tm→Int
 | [],_=>0
 | _::_,[]=>0
 | t::l,t'::l'=>if cmpT t t'≠0 then cmpT t t' else cmps l l'
end
def lexI (x y:Int):Int:=if x≠0 then x else y
def cmpBs:List UInt8→List UInt8→Int:=Lib.compareBytes
theorem bl_cmp:∀ a b:List UInt8,Op.bytesLess a b=decide (cmpBs a b<0)∧((a == b)=decide (cmpBs a b=0))
 | [],[]=>by simp [Op.bytesLess,cmpBs,Lib.compareBytes]
 | [],_::_=>by simp [Op.bytesLess,cmpBs,Lib.compareBytes]
 | _::_,[]=>by simp [Op.bytesLess,cmpBs,Lib.compareBytes]
 | a::x,b::y=>by
  obtain ⟨h1,h2⟩:=bl_cmp x y
  have hc:cmpBs (a::x) (b::y)=if a<b then -1 else if b<a then 1 else cmpBs x y:=rfl
  have key:a<b∨b<a∨a=b:=by
   rcases Nat.lt_trichotomy a.toNat b.toNat with h | h | h
   ·exact .inl (UInt8.lt_iff_toNat_lt.2 h)
   ·exact .inr (.inr (UInt8.toNat_inj.1 h))
   ·exact .inr (.inl (UInt8.lt_iff_toNat_lt.2 h))
  have asym:∀ p q:UInt8,p<q→¬ q<p:=fun p q h1 h2=>by
   have:=UInt8.lt_iff_toNat_lt.1 h1
   have:=UInt8.lt_iff_toNat_lt.1 h2
   omega
  have irr:∀ p:UInt8,¬ p<p:=fun p h1=>asym p p h1 h1
  rcases key with h | h | h
  ·have hne:a≠b:=fun e=>irr b (e ▸ h)
   rw [hc,if_pos h]
   simp [Op.bytesLess,h,hne]
  ·have hne:a≠b:=fun e=>irr b (e ▸ h)
   have hn:=asym _ _ h
   rw [hc,if_neg hn,if_pos h]
   simp [Op.bytesLess,hn,hne]
  ·subst h
   rw [hc,if_neg (irr a),if_neg (irr a)]
   simp only [Op.bytesLess,h1,irr,decide_false,Bool.false_or,BEq.rfl,Bool.true_and,true_and]
   rw [← h2]
   simp [List.cons_beq_cons]
structure Tri (x y z:Int):Prop where
 e1:x=0→z=y
 e2:y=0→z=x
 lt:x<0→y<0→z<0
theorem Tri.lex {x y z x' y' z':Int} (a:Tri x y z) (b:x=0→y=0→Tri x' y' z'):Tri (lexI x x') (lexI y y') (lexI z z'):=by
 obtain ⟨e1,e2,lt⟩:=a
 unfold lexI
 by_cases hx:x=0 <;> by_cases hy:y=0
 ·have hz:z=0:=by rw [e1 hx,hy]
  rw [if_neg (by simp [hx]),if_neg (by simp [hy]),if_neg (by simp [hz])]
  exact b hx hy
 ·have hz:z=y:=e1 hx
  rw [if_neg (by simp [hx]),if_pos hy,hz,if_pos hy]
  exact ⟨fun _=>rfl,fun h=>absurd h hy,fun _ h=>h⟩
 ·have hz:z=x:=e2 hy
  rw [if_neg (by simp [hy]:¬ y≠0),if_pos hx,hz,if_pos hx]
  exact ⟨fun h=>absurd h hx,fun _=>rfl,fun h _=>h⟩
 ·rw [if_pos hx,if_pos hy]
  refine ⟨fun h=>absurd h hx,fun h=>absurd h hy,fun h1 h2=>?_⟩
  have:=lt h1 h2
  rw [if_pos (by omega)]
  exact this
theorem lex_neg (x y:Int):lexI (-x) (-y)=- lexI x y:=by unfold lexI;split <;> split <;> omega
theorem lex_zero {x y:Int}:lexI x y=0↔x=0∧y=0:=by unfold lexI;split <;> omega
theorem lex_zero' {x y:Int} (h:lexI x y=0):x=0∧y=0:=lex_zero.1 h
theorem cmpN_tri (a b c:Int):Tri (cmpN a b) (cmpN b c) (cmpN a c):=by
 unfold cmpN
 constructor <;> (repeat' split) <;> omega
theorem cmpN_neg (a b:Int):cmpN b a=- cmpN a b:=by unfold cmpN;(repeat' split) <;> omega
theorem cmpN_zero {a b:Int} (h:cmpN a b=0):a=b:=by unfold cmpN at h;(repeat' split at h) <;> omega
theorem cmpN_rng (a b:Int):cmpN a b=-1∨cmpN a b=0∨cmpN a b=1:=by unfold cmpN;(repeat' split) <;> omega
theorem cmpBs_cons (a b:UInt8) (x y:List UInt8):cmpBs (a::x) (b::y)=lexI (cmpN a.toNat b.toNat) (cmpBs x y):=by
 have hc:cmpBs (a::x) (b::y)=if a<b then -1 else if b<a then 1 else cmpBs x y:=rfl
 rw [hc]
 by_cases h1:a<b
 ·have:=UInt8.lt_iff_toNat_lt.1 h1
  have e:cmpN a.toNat b.toNat=-1:=by unfold cmpN;rw [if_pos (by omega)]
  rw [if_pos h1,e];rfl
 ·by_cases h2:b<a
  ·have:=UInt8.lt_iff_toNat_lt.1 h2
   have e:cmpN a.toNat b.toNat=1:=by unfold cmpN;rw [if_neg (by omega),if_pos (by omega)]
   rw [if_neg h1,if_pos h2,e];rfl
  ·have h1':¬ a.toNat<b.toNat:=fun h=>h1 (UInt8.lt_iff_toNat_lt.2 h)
   have h2':¬ b.toNat<a.toNat:=fun h=>h2 (UInt8.lt_iff_toNat_lt.2 h)
   have e:cmpN a.toNat b.toNat=0:=by unfold cmpN;rw [if_neg (by omega),if_neg (by omega)]
   rw [if_neg h1,if_neg h2,e];rfl
theorem cmpBs_tri:∀ a b c:List UInt8,Tri (cmpBs a b) (cmpBs b c) (cmpBs a c)
 | [],[],[]=>by constructor <;> decide
 | [],[],_::_=>by constructor <;> intros <;> simp_all [cmpBs,Lib.compareBytes]
 | [],_::_,[]=>by constructor <;> intros <;> simp_all [cmpBs,Lib.compareBytes]
 | [],b::y,c::z=>by
  have e1:cmpBs [] (b::y)=-1:=rfl
  have e2:cmpBs [] (c::z)=-1:=rfl
  rw [e1,e2]
  constructor <;> intros <;> omega
 | _::_,[],[]=>by constructor <;> intros <;> simp_all [cmpBs,Lib.compareBytes]
 | a::x,[],c::z=>by
  have e1:cmpBs (a::x) []=1:=rfl
  have e2:cmpBs [] (c::z)=-1:=rfl
  rw [e1,e2]
  constructor <;> intros <;> omega
 | a::x,b::y,[]=>by
  have e1:cmpBs (a::x) []=1:=rfl
  have e2:cmpBs (b::y) []=1:=rfl
  rw [e1,e2]
  constructor <;> intros <;> omega
 | a::x,b::y,c::z=>by
  rw [cmpBs_cons,cmpBs_cons,cmpBs_cons]
  exact (cmpN_tri _ _ _).lex (fun _ _=>cmpBs_tri x y z)
theorem cmpBs_neg:∀ a b:List UInt8,cmpBs b a=- cmpBs a b
 | [],[]=>rfl
 | [],_::_=>rfl
 | _::_,[]=>rfl
 | a::x,b::y=>by rw [cmpBs_cons,cmpBs_cons,cmpBs_neg x y,cmpN_neg a.toNat b.toNat,lex_neg]
theorem cmpBs_zero:∀ {a b:List UInt8},cmpBs a b=0→a=b
 | [],[],_=>rfl
 | [],_::_,h=>by cases h
 | _::_,[],h=>by cases h
 | a::x,b::y,h=>by
  rw [cmpBs_cons] at h
  obtain ⟨h1,h2⟩:=lex_zero' h
  have:=cmpN_zero h1
  rw [cmpBs_zero h2,UInt8.toNat_inj.1 (by omega:a.toNat=b.toNat)]
def cmpS (s s':ByteArray):Int:=cmpBs s.toList s'.toList
theorem cmpBs_rng:∀ a b:List UInt8,cmpBs a b=-1∨cmpBs a b=0∨cmpBs a b=1
 | [],[]=>.inr (.inl rfl)
 | [],_::_=>.inl rfl
 | _::_,[]=>.inr (.inr rfl)
 | a::x,b::y=>by
  rw [cmpBs_cons]
  have h1:=cmpN_rng a.toNat b.toNat
  have h2:=cmpBs_rng x y
  unfold lexI
  split <;> omega
theorem bArr_eq {a b:ByteArray} (h:a.toList=b.toList):a=b:=by
 rw [ByteArray.toList_eq,ByteArray.toList_eq] at h
 cases a;cases b
 simp at h
 subst h
 rfl
theorem cmpT_lex (k s o l k' s' o' l'):cmpT (.mk k s o l) (.mk k' s' o' l')=lexI (cmpN (size (.mk k s o l)) (size (.mk k' s' o' l'))) (lexI (cmpN k k') (lexI (cmpS s s') (lexI (cmpN o o') (lexI (cmpN l.length l'.length) (cmps l l'))))):=by
 rw [cmpT]
 obtain ⟨b1,b2⟩:=bl_cmp s.toList s'.toList
 have b3:=cmpBs_rng s.toList s'.toList
 rw [b1,b2]
 unfold lexI cmpS
 split
 ·rfl
 ·split
  ·rfl
  ·rcases b3 with b3 | b3 | b3
   ·rw [if_pos (by simp [b3])];simp [b3]
   ·rw [if_neg (by simp [b3]),if_neg (by simp [b3])];simp [b3]
   ·rw [if_neg (by simp [b3]),if_pos (by simp [b3])];simp [b3]
theorem cmps_lex (t t' l l'):cmps (t::l) (t'::l')=lexI (cmpT t t') (cmps l l'):=by rw [cmps];rfl
theorem cmps_neg:∀ {l l':List Tm},l.length=l'.length→(∀ t∈l,∀ t',cmpT t' t=- cmpT t t')→cmps l' l=- cmps l l'
 | [],[],_,_=>by simp [cmps]
 | t::l,t'::l',hl,h=>by
  rw [cmps_lex,cmps_lex,h t (by simp) t',cmps_neg (by simpa using hl) (fun u hu=>h u (by simp [hu])),lex_neg]
theorem cmpT_neg (t:Tm):∀ t',cmpT t' t=- cmpT t t':=by
 induction t using Tm.ind with
 | h k s o l ih=>
  rintro ⟨k',s',o',l'⟩
  rw [cmpT_lex,cmpT_lex,cmpN_neg (size (.mk k s o l)),cmpN_neg k,show cmpS s' s=- cmpS s s' from cmpBs_neg _ _,cmpN_neg o,cmpN_neg (l.length:Int)]
  rw [← lex_neg,← lex_neg,← lex_neg,← lex_neg]
  congr 4
  unfold lexI
  split
  ·rw [if_pos (by omega)]
  ·rename_i h
   rw [if_neg (by omega)]
   refine cmps_neg ?_ ih
   have h':cmpN (l.length:Int) l'.length=0:=by omega
   have:=cmpN_zero h'
   omega
theorem cmps_zero:∀ {l l':List Tm},l.length=l'.length→(∀ t∈l,∀ t',cmpT t t'=0→t=t')→cmps l l'=0→l=l'
 | [],[],_,_,_=>rfl
 | t::l,t'::l',hl,h,e=>by
  rw [cmps_lex] at e
  obtain ⟨e1,e2⟩:=lex_zero' e
  rw [h t (by simp) t' e1,cmps_zero (by simpa using hl) (fun u hu=>h u (by simp [hu])) e2]
theorem cmpT_zero {t:Tm}:∀ {t':Tm},cmpT t t'=0→t=t':=by
 induction t using Tm.ind with
 | h k s o l ih=>
  rintro ⟨k',s',o',l'⟩ h
  rw [cmpT_lex] at h
  obtain ⟨_,h⟩:=lex_zero' h
  obtain ⟨h1,h⟩:=lex_zero' h
  obtain ⟨h2,h⟩:=lex_zero' h
  obtain ⟨h3,h⟩:=lex_zero' h
  obtain ⟨h4,h⟩:=lex_zero' h
  have h4':=cmpN_zero h4
  rw [cmpN_zero h1,bArr_eq (cmpBs_zero h2),cmpN_zero h3,cmps_zero (by omega) (fun t ht t' e=>ih t ht e) h]
theorem cmpT_self (t:Tm):cmpT t t=0:=by have:=cmpT_neg t t;omega
theorem cmps_tri:∀ {l l' l'':List Tm},l.length=l'.length→l'.length=l''.length→(∀ t∈l,∀ t' t'',Tri (cmpT t t') (cmpT t' t'') (cmpT t t''))→Tri (cmps l l') (cmps l' l'') (cmps l l'')
 | [],[],[],_,_,_=>by simp [cmps];constructor <;> omega
 | t::l,t'::l',t''::l'',h1,h2,h=>by
  rw [cmps_lex,cmps_lex,cmps_lex]
  exact (h t (by simp) t' t'').lex (fun _ _=>cmps_tri (by simpa using h1) (by simpa using h2) (fun u hu=>h u (by simp [hu])))
theorem cmpT_tri (t:Tm):∀ t' t'',Tri (cmpT t t') (cmpT t' t'') (cmpT t t''):=by
 induction t using Tm.ind with
 | h k s o l ih=>
  rintro ⟨k',s',o',l'⟩ ⟨k2,s2,o2,l2⟩
  rw [cmpT_lex,cmpT_lex,cmpT_lex]
  refine (cmpN_tri _ _ _).lex fun _ _=>(cmpN_tri _ _ _).lex fun _ _=>(cmpBs_tri _ _ _).lex fun _ _=>(cmpN_tri _ _ _).lex fun _ _=>(cmpN_tri _ _ _).lex fun h1 h2=>?_
  have h1':=cmpN_zero h1
  have h2':=cmpN_zero h2
  exact cmps_tri (by omega) (by omega) ih
theorem cmpT_trans {a b c:Tm} (h1:cmpT a b<0) (h2:cmpT b c<0):cmpT a c<0:=(cmpT_tri a b c).lt h1 h2
end Go.Pm
end
section
namespace Go.Pm
abbrev Pw:=Tm × Int
def encP:Pw→PV
 | (.mk k s o l,n)=>.agg [.int .i64 k,.str s,.int .i64 o,.snap false (encs l),.int .i64 n]
def encPs (l:List Pw):List PV:=l.map encP
def addP (t:Tm) (n:Int):Bool→List Pw→List Pw
 | d,[]=>if d then [] else [(t,n)]
 | d,p::l=>(if d=false∧cmpT t p.1<0 then [(t,n)] else [])++((if (if cmpT t p.1=0 then p.2+n else p.2)≠0 then [(p.1,if cmpT t p.1=0 then p.2+n else p.2)] else [])++addP t n (d || decide (cmpT t p.1≤0)) l)
def insP (t:Tm) (n:Int):List Pw→List Pw
 | []=>[(t,n)]
 | p::l=>if cmpT p.1 t<0 then p::insP t n l else if cmpT p.1 t=0 then (if p.2+n=0 then l else (p.1,p.2+n)::l) else (t,n)::p::l
def Srt (l:List Pw):Prop:=l.Pairwise fun p q=>cmpT p.1 q.1<0
def Nz (l:List Pw):Prop:=∀ p∈l,p.2≠0
theorem addP_done (t:Tm) (n:Int):∀ (l:List Pw),Nz l→(∀ p∈l,cmpT t p.1<0)→addP t n true l=l
 | [],_,_=>rfl
 | p::l,h1,h2=>by
  have e:=h2 p (by simp)
  have z:=h1 p (by simp)
  have ih:=addP_done t n l (fun q hq=>h1 q (by simp [hq])) (fun q hq=>h2 q (by simp [hq]))
  simp only [addP,Bool.true_eq_false,false_and,if_false,List.nil_append,Bool.true_or,ih]
  rw [if_neg (show ¬ cmpT t p.1=0 by omega),if_pos z]
  rfl
theorem addP_ins (t:Tm) (n:Int):∀ (l:List Pw),Srt l→Nz l→addP t n false l=insP t n l
 | [],_,_=>by simp [addP,insP]
 | p::l,h1,h2=>by
  have z:=h2 p (by simp)
  obtain ⟨s1,s2⟩:=List.pairwise_cons.1 h1
  have nz:Nz l:=fun q hq=>h2 q (by simp [hq])
  have ng:=cmpT_neg p.1 t
  rw [addP,insP]
  by_cases c1:cmpT p.1 t<0
  ·rw [if_pos c1,if_neg (by omega),if_neg (show ¬ cmpT t p.1=0 by omega),if_pos z,show (false || decide (cmpT t p.1≤0))=false by simp;omega,addP_ins t n l s2 nz]
   rfl
  ·by_cases c2:cmpT p.1 t=0
   ·have e:=cmpT_zero c2
    have hd:=addP_done t n l nz (fun q hq=>by rw [← e];exact s1 q hq)
    rw [if_neg c1,if_pos c2,if_neg (by omega),if_pos (show cmpT t p.1=0 by omega),show (false || decide (cmpT t p.1≤0))=true by simp;omega,hd]
    by_cases c3:p.2+n=0
    ·rw [if_pos c3,if_neg (by omega)];rfl
    ·rw [if_neg c3,if_pos c3];rfl
   ·have hd:=addP_done t n l nz (fun q hq=>cmpT_trans (show cmpT t p.1<0 by omega) (s1 q hq))
    rw [if_neg c1,if_neg c2,if_pos ⟨rfl,by omega⟩,if_neg (show ¬ cmpT t p.1=0 by omega),if_pos z,show (false || decide (cmpT t p.1≤0))=true by simp;omega,hd]
    rfl
theorem insP_mem {t:Tm} {n:Int}:∀ {l:List Pw} {p:Pw},p∈insP t n l→p.1=t∨∃ q∈l,q.1=p.1
 | [],p,h=>by simp [insP] at h;exact .inl (by rw [h])
 | q::l,p,h=>by
  rw [insP] at h
  split at h
  ·rcases List.mem_cons.1 h with rfl | h
   ·exact .inr ⟨p,by simp,rfl⟩
   ·rcases insP_mem h with h | ⟨r,h,e⟩
    ·exact .inl h
    ·exact .inr ⟨r,by simp [h],e⟩
  ·split at h
   ·split at h
    ·exact .inr ⟨p,by simp [h],rfl⟩
    ·rcases List.mem_cons.1 h with rfl | h
     ·exact .inr ⟨q,by simp,rfl⟩
     ·exact .inr ⟨p,by simp [h],rfl⟩
   ·rcases List.mem_cons.1 h with rfl | h
    ·exact .inl rfl
    ·exact .inr ⟨p,h,rfl⟩
theorem insP_nz {t:Tm} {n:Int} (hn:n≠0):∀ {l:List Pw},Nz l→Nz (insP t n l)
 | [],_=>by intro p hp;simp [insP] at hp;subst hp;exact hn
 | q::l,h=>by
  have h1:Nz l:=fun r hr=>h r (by simp [hr])
  rw [insP]
  split
  ·intro p hp
   rcases List.mem_cons.1 hp with rfl | hp
   ·exact h p (by simp)
   ·exact insP_nz hn h1 p hp
  ·split
   ·split
    ·exact h1
    ·intro p hp
     rcases List.mem_cons.1 hp with rfl | hp
     ·assumption
     ·exact h1 p hp
   ·intro p hp
    rcases List.mem_cons.1 hp with rfl | hp
    ·exact hn
    ·exact h p hp
theorem insP_srt {t:Tm} {n:Int}:∀ {l:List Pw},Srt l→Srt (insP t n l)
 | [],_=>by simp [insP,Srt]
 | q::l,h=>by
  obtain ⟨s1,s2⟩:=List.pairwise_cons.1 h
  rw [insP]
  have ng:=cmpT_neg q.1 t
  split
  ·rename_i c
   refine List.pairwise_cons.2 ⟨fun p hp=>?_,insP_srt s2⟩
   rcases insP_mem hp with e | ⟨r,hr,e⟩
   ·rw [e];exact c
   ·rw [← e];exact s1 r hr
  ·split
   ·split
    ·exact s2
    ·exact List.pairwise_cons.2 ⟨s1,s2⟩
   ·refine List.pairwise_cons.2 ⟨fun p hp=>?_,h⟩
    have c:cmpT t q.1<0:=by omega
    rcases List.mem_cons.1 hp with rfl | hp
    ·exact c
    ·exact cmpT_trans c (s1 p hp)
theorem insP_len {t:Tm} {n:Int}:∀ (l:List Pw),(insP t n l).length≤l.length+1
 | []=>by simp [insP]
 | q::l=>by
  have:=insP_len (t:=t) (n:=n) l
  rw [insP]
  (repeat' split) <;> simp <;> omega
def nmMul:List UInt8:=[109,117,108]
def nmInv:List UInt8:=[105,110,118]
def nmOne:List UInt8:=[111,110,101]
def special:Tm→Bool
 | .mk k s o l=>decide (k=3) && (decide (s.toList=nmMul) || decide (s.toList=nmInv) || decide (s.toList=nmOne))
def Bd (B:Int) (l:List Pw):Prop:=∀ p∈l,-B≤p.2∧p.2≤B
end Go.Pm
end
section
namespace Go.Pm
def letterI (c:Int):Bool:=decide ((97≤c∧c≤122)∨(65≤c∧c≤90))
def digitI (c:Int):Bool:=decide (48≤c∧c≤57)
def partI (c:Int):Bool:=letterI c || digitI c || decide (c=95) || decide (c=35)
def allPart:List UInt8→Bool
 | []=>true
 | c::l=>partI c.toNat && allPart l
def isNameL:List UInt8→Bool
 | []=>false
 | c::l=>decide (l.length<24) && letterI c.toNat && allPart (c::l)
def isName (s:ByteArray):Bool:=isNameL s.toList
theorem bsize (s:ByteArray):s.toList.length=s.size:=by rw [ByteArray.toList_eq];exact Array.length_toList
theorem bget {s:ByteArray} {i:Nat} {c:UInt8} (h:s.toList[i]?=some c):s[i]?=some c:=by
 have hlt:=lt_of_some h
 rw [ByteArray.toList_eq,Array.getElem?_toList] at h
 have hlt':i<s.size:=by rw [← bsize];exact hlt
 rw [getElem?_pos s i hlt']
 rw [Array.getElem?_eq_getElem hlt'] at h
 exact h
def node:Tm→Int
 | .mk k s o l=>if (k≠1∧k≠2∧k≠3)∨o<0∨5<o∨(k=3∧o≠0)∨(k≠3∧0<l.length) then 1 else if isName s=false then 2 else if 8<l.length then 3 else 0
mutual
def nodes:Tm→Int
 | .mk k s o l=>if node (.mk k s o l)≠0 then node (.mk k s o l) else nodess l
def nodess:List Tm→Int
 | []=>0
 | t::l=>if nodes t≠0 then nodes t else nodess l
end
mutual
def depth:Tm→Int
 | .mk _ _ _ l=>depths l+1
def depths:List Tm→Int
 | []=>0
 | t::l=>max (depth t) (depths l)
end
def valid (t:Tm):Int:=if nodes t≠0 then nodes t else if 400<size t∨40<depth t then 3 else 0
mutual
theorem depth_size:∀ t,0<depth t∧depth t≤size t
 | .mk k s o l=>by have:=depths_sizes l;simp only [depth,size];omega
theorem depths_sizes:∀ l,0≤depths l∧depths l≤sizes l
 | []=>by simp [depths,sizes]
 | t::l=>by
  have h1:=depth_size t
  have h2:=depths_sizes l
  simp only [depths,sizes];omega
end
end Go.Pm
end
section
namespace Go.Pm
def sMul:ByteArray:=⟨#[109,117,108]⟩
def sInv:ByteArray:=⟨#[105,110,118]⟩
def sOne:ByteArray:=⟨#[111,110,101]⟩
theorem sMul_l:sMul.toList=nmMul:=by rw [ByteArray.toList_eq];rfl
theorem sInv_l:sInv.toList=nmInv:=by rw [ByteArray.toList_eq];rfl
theorem sOne_l:sOne.toList=nmOne:=by rw [ByteArray.toList_eq];rfl
theorem depths_mem:∀ {l:List Tm},∀ t∈l,depth t≤depths l
 | [],t,h=>by cases h
 | u::l,t,h=>by
  rw [depths]
  rcases List.mem_cons.1 h with rfl | h
  ·omega
  ·have:=depths_mem t h;omega
end Go.Pm
end
section
set_option maxRecDepth 4000
set_option maxHeartbeats 4000000
namespace Go.Pm
open Go.Proofs
attribute [local irreducible] thenQ blockQ loopQ bodyQ Ev EvOps CallEv FnEv EvD
theorem partI_eq (c:Int):partI c=decide ((97≤c∧c≤122)∨(65≤c∧c≤90)∨(48≤c∧c≤57)∨c=95∨c=35):=by
 unfold partI letterI digitI
 simp only [← Bool.decide_or]
 congr 1
 apply propext
 omega
theorem letter_fun (c:Int):Fun C 145 [.int .u8 c] (.bool (letterI c)):=by
 refine Fun.of (FnEv.bodyL Tryz.func145 rfl ?_)
 (repeat' (first | refine EvOps.nil ?_ | (apply R.gOn;exact rfl;exact rfl;exact rfl) | (apply R.gOff;exact rfl;exact rfl;exact rfl) | (apply R.gUn;exact rfl;exact rfl) | (apply R.move;exact rfl) | (apply R.assign;exact rfl) | (apply R.pickT;exact rfl;exact rfl) | (apply R.pickF;exact rfl;exact rfl) | (apply R.cmp;exact rfl;exact rfl;exact rfl;all_goals intro hc) | refine Ev.seq ?_ | refine Ev.region ?_ | refine Ev.ret ?_ | refine thenQ.normal ?_ | (apply bodyQ.ret;exact rfl) | fail))
 all_goals (refine ⟨_,rfl,congrArg PV.bool ?_⟩;unfold letterI;first | exact (decide_eq_true (by omega)).symm | exact (decide_eq_false (by omega)).symm)
theorem digit_fun (c:Int):Fun C 146 [.int .u8 c] (.bool (digitI c)):=by
 refine Fun.of (FnEv.bodyL Tryz.func146 rfl ?_)
 (repeat' (first | refine EvOps.nil ?_ | (apply R.gOn;exact rfl;exact rfl;exact rfl) | (apply R.gOff;exact rfl;exact rfl;exact rfl) | (apply R.move;exact rfl) | (apply R.assign;exact rfl) | (apply R.pickT;exact rfl;exact rfl) | (apply R.pickF;exact rfl;exact rfl) | (apply R.cmp;exact rfl;exact rfl;exact rfl;all_goals intro hc) | refine Ev.seq ?_ | refine Ev.region ?_ | refine Ev.ret ?_ | refine thenQ.normal ?_ | (apply bodyQ.ret;exact rfl) | fail))
 all_goals (refine ⟨_,rfl,congrArg PV.bool ?_⟩;unfold digitI;first | exact (decide_eq_true (by omega)).symm | exact (decide_eq_false (by omega)).symm)
theorem part_fun (c:Int):Fun C 121 [.int .u8 c] (.bool (partI c)):=by
 refine Fun.of (FnEv.bodyL Tryz.func121 rfl ?_)
 (repeat' (first | refine EvOps.nil ?_ | (apply R.gOn;exact rfl;exact rfl;exact rfl) | (apply R.gOff;exact rfl;exact rfl;exact rfl) | (apply R.gUn;exact rfl;exact rfl) | (apply R.move;exact rfl) | (apply R.assign;exact rfl) | (apply R.pickT;exact rfl;exact rfl) | (apply R.pickF;exact rfl;exact rfl) | (apply R.cmp;exact rfl;exact rfl;exact rfl;all_goals intro hc) | refine Ev.seq ?_ | refine Ev.region ?_ | refine Ev.ret ?_ | refine thenQ.normal ?_ | (apply bodyQ.ret;exact rfl) | fail))
 all_goals (refine ⟨_,rfl,congrArg PV.bool ?_⟩;rw [partI_eq];first | exact (decide_eq_true (by omega)).symm | exact (decide_eq_false (by omega)).symm)
theorem allPart_drop (s:ByteArray) (i:Nat) (h:i<s.toList.length):allPart (s.toList.drop i)=(partI (s.toList[i]).toNat && allPart (s.toList.drop (i+1))):=by
 rw [List.drop_eq_getElem_cons h,allPart]
theorem size_cases (s:ByteArray):(s.size=0∧s.toList=[])∨∃ c l,s.toList=c::l∧s[0]?=some c∧s.size=l.length+1:=by
 have hl:=bsize s
 cases h:s.toList with
 | nil=>rw [h] at hl;exact .inl ⟨by simpa using hl.symm,rfl⟩
 | cons c l=>exact .inr ⟨c,l,rfl,bget (i:=0) (by rw [h];rfl),by rw [← hl,h];rfl⟩
theorem risName_fun (s:ByteArray) (hb:s.size<1000000000):Fun C 137 [.str s] (.bool (isName s)):=by
 refine Fun.of (FnEv.bodyL Tryz.func137 rfl ?_)
 have hl:=bsize s
 rcases size_cases s with ⟨h0,hn⟩ | ⟨c,l,hcl,hc0,hsz⟩
 ·have hs:isName s=false:=by unfold isName;rw [hn];rfl
  (repeat' (first | refine EvOps.nil ?_ | (apply R.gOn;exact rfl;exact rfl;exact rfl) | (apply R.gOff;exact rfl;exact rfl;exact rfl) | (apply R.move;exact rfl) | (apply R.assign;exact rfl) | (apply R.pickT;exact rfl;exact rfl) | (apply R.pickF;exact rfl;exact rfl) | (apply R.cmp;exact rfl;exact rfl;exact rfl;all_goals intro hc) | (apply R.lenStr T6;exact rfl;exact rfl) | refine Ev.seq ?_ | refine Ev.region ?_ | (apply Ev.condB;exact rfl) | refine Ev.ret ?_ | refine thenQ.normal ?_ | refine thenQ.ret ?_ | (apply bodyQ.ret;exact rfl) | fail))
  ·exact ⟨_,rfl,by rw [hs];rfl⟩
  ·omega
  ·omega
 ·have hs:isName s=(decide (l.length<24) && letterI c.toNat && allPart s.toList):=by unfold isName;rw [hcl];rfl
  (repeat' (first | refine EvOps.nil ?_ | (apply R.gOn;exact rfl;exact rfl;exact rfl) | (apply R.gOff;exact rfl;exact rfl;exact rfl) | (apply R.move;exact rfl) | (apply R.assign;exact rfl) | (apply R.pickT;exact rfl;exact rfl) | (apply R.pickF;exact rfl;exact rfl) | (apply R.cmp;exact rfl;exact rfl;exact rfl;all_goals intro hc) | (apply R.lenStr T6;exact rfl;exact rfl) | refine Ev.seq ?_ | refine Ev.region ?_ | (apply Ev.condB;exact rfl) | refine Ev.ret ?_ | refine thenQ.normal ?_ | refine thenQ.ret ?_ | (apply bodyQ.ret;exact rfl) | fail))
  ·omega
  ·refine ⟨_,rfl,?_⟩
   rw [hs,decide_eq_false (by omega)];rfl
  ·refine R.indexStr T6 (i:=0) rfl rfl rfl hc0 ?_
   (repeat' (first | (apply R.gOn;exact rfl;exact rfl;exact rfl) | fail))
   refine R.call rfl rfl (CallEv.pure rfl rfl (letter_fun c.toNat) ?_)
   cases hlet:letterI c.toNat
   ·(repeat' (first | refine EvOps.nil ?_ | (apply R.gOn;exact rfl;exact rfl;exact rfl) | (apply R.assign;exact rfl) | (apply R.pickF;exact rfl;exact rfl) | (apply R.not;exact rfl;exact rfl) | refine Ev.seq ?_ | refine Ev.region ?_ | (apply Ev.condB;exact rfl) | refine Ev.ret ?_ | refine thenQ.normal ?_ | refine thenQ.ret ?_ | (apply bodyQ.ret;exact rfl) | fail))
    refine ⟨_,rfl,?_⟩
    rw [hs,hlet];simp [nrm,tupOf]
   ·(repeat' (first | refine EvOps.nil ?_ | (apply R.gOn;exact rfl;exact rfl;exact rfl) | (apply R.assign;exact rfl) | (apply R.pickF;exact rfl;exact rfl) | (apply R.not;exact rfl;exact rfl) | refine Ev.seq ?_ | refine Ev.region ?_ | (apply Ev.condB;exact rfl) | refine Ev.skip ?_ | refine Ev.block ?_ | refine thenQ.normal ?_ | fail))
    have hs':isName s=allPart (s.toList.drop 0):=by rw [hs,hlet,decide_eq_true (by omega)];simp
    refine Ev.loop (I:=fun k' st=>∃ (i:Nat) (ρ':Nat→PV),st=⟨al [(0,.str s),(3,.int .i64 i)] ρ',[]⟩∧k'+i=s.size∧isName s=allPart (s.toList.drop i)) s.size ?_ ?_
    ·exact ⟨0,_,St.keep ⟨rfl,rfl,trivial⟩,rfl,hs'⟩
    ·rintro k' _ ⟨i,ρ',rfl,hk,hb'⟩
     (repeat' (first | refine EvOps.nil ?_ | (apply R.move;exact rfl) | (apply R.assign;exact rfl) | (apply R.cmp;exact rfl;exact rfl;exact rfl;all_goals intro hc) | (apply R.lenStr T6;exact rfl;exact rfl) | refine Ev.seq ?_ | refine Ev.region ?_ | (apply Ev.condB;exact rfl) | refine Ev.ret ?_ | refine Ev.skip ?_ | refine Ev.exit ?_ | refine Ev.block ?_ | refine thenQ.normal ?_ | refine thenQ.exit ?_ | refine blockQ.hit ?_ | refine loopQ.exit ?_ | (apply bodyQ.ret;exact rfl) | fail))
     ·have hil:i<s.toList.length:=by omega
      have hat:=bget (List.getElem?_eq_getElem hil)
      rw [allPart_drop s i hil] at hb'
      refine R.indexStr T6 rfl rfl rfl hat ?_
      generalize hx:s.toList[i]=x at hb' hat
      have hpe:=partI_eq x.toNat
      skip
      refine R.call rfl rfl (CallEv.pure rfl rfl (letter_fun x.toNat) ?_)
      cases hlet:letterI x.toNat
      ·(repeat' (first | (apply R.gOn;exact rfl;exact rfl;exact rfl) | (apply R.move;exact rfl) | (apply R.not;exact rfl;exact rfl) | fail))
       refine R.indexStr T6 rfl rfl rfl hat ?_
       (repeat' (first | (apply R.gOn;exact rfl;exact rfl;exact rfl) | fail))
       refine R.call rfl rfl (CallEv.pure rfl rfl (digit_fun x.toNat) ?_)
       cases hdig:digitI x.toNat
       ·(repeat' (first | (apply R.gOn;exact rfl;exact rfl;exact rfl) | (apply R.move;exact rfl) | (apply R.pickT;exact rfl;exact rfl) | (apply R.not;exact rfl;exact rfl) | fail))
        refine R.indexStr T6 rfl rfl rfl hat ?_
        (repeat' (first | refine EvOps.nil ?_ | (apply R.gOn;exact rfl;exact rfl;exact rfl) | (apply R.gOff;exact rfl;exact rfl;exact rfl) | (apply R.move;exact rfl) | (apply R.assign;exact rfl) | (apply R.pickT;exact rfl;exact rfl) | (apply R.pickF;exact rfl;exact rfl) | (apply R.cmp;exact rfl;exact rfl;exact rfl;all_goals intro hc) | (apply R.arith;exact rfl;exact rfl;exact rfl;exact (wrapI (by omega) (by omega))) | refine Ev.region ?_ | (apply Ev.condB;exact rfl) | refine Ev.skip ?_ | refine thenQ.normal ?_ | refine blockQ.normal ?_ | refine loopQ.normal ?_ | fail))
        ·refine R.indexStr T6 rfl rfl rfl hat ?_
         (repeat' (first | refine EvOps.nil ?_ | (apply R.gOn;exact rfl;exact rfl;exact rfl) | (apply R.move;exact rfl) | (apply R.assign;exact rfl) | (apply R.pickT;exact rfl;exact rfl) | (apply R.cmp;exact rfl;exact rfl;exact rfl;all_goals intro hc) | (apply R.arith;exact rfl;exact rfl;exact rfl;exact (wrapI (by omega) (by omega))) | refine Ev.seq ?_ | refine Ev.region ?_ | (apply Ev.condB;exact rfl) | refine Ev.ret ?_ | refine Ev.skip ?_ | refine thenQ.normal ?_ | refine thenQ.ret ?_ | refine blockQ.normal ?_ | refine blockQ.ret ?_ | refine loopQ.normal ?_ | refine loopQ.ret ?_ | (apply bodyQ.ret;exact rfl) | fail))
         ·rename_i h95
          have h35:=hc
          refine ⟨_,rfl,?_⟩
          rw [hb']
          unfold partI
          rw [hlet,hdig,decide_eq_false (by omega),decide_eq_false (by omega)];rfl
         ·refine ⟨k' - 1,by omega,i+1,_,St.keep ⟨rfl,rfl,trivial⟩,by omega,?_⟩
          rw [hb']
          unfold partI
          rw [decide_eq_true (show (x.toNat:Int)=35 by omega)];simp
        ·refine ⟨k' - 1,by omega,i+1,_,St.keep ⟨rfl,rfl,trivial⟩,by omega,?_⟩
         rw [hb']
         unfold partI
         rw [decide_eq_true (show (x.toNat:Int)=95 by omega)];simp
       ·(repeat' (first | refine EvOps.nil ?_ | (apply R.gOn;exact rfl;exact rfl;exact rfl) | (apply R.gOff;exact rfl;exact rfl;exact rfl) | (apply R.move;exact rfl) | (apply R.assign;exact rfl) | (apply R.pickT;exact rfl;exact rfl) | (apply R.pickF;exact rfl;exact rfl) | (apply R.arith;exact rfl;exact rfl;exact rfl;exact (wrapI (by omega) (by omega))) | (apply R.not;exact rfl;exact rfl) | refine Ev.region ?_ | (apply Ev.condB;exact rfl) | refine Ev.skip ?_ | refine thenQ.normal ?_ | refine blockQ.normal ?_ | refine loopQ.normal ?_ | fail))
        refine ⟨k' - 1,by omega,i+1,_,St.keep ⟨rfl,rfl,trivial⟩,by omega,?_⟩
        rw [hb']
        unfold partI
        rw [hdig];simp
      ·(repeat' (first | refine EvOps.nil ?_ | (apply R.gOff;exact rfl;exact rfl;exact rfl) | (apply R.move;exact rfl) | (apply R.assign;exact rfl) | (apply R.pickF;exact rfl;exact rfl) | (apply R.arith;exact rfl;exact rfl;exact rfl;exact (wrapI (by omega) (by omega))) | (apply R.not;exact rfl;exact rfl) | refine Ev.region ?_ | (apply Ev.condB;exact rfl) | refine Ev.skip ?_ | refine thenQ.normal ?_ | refine blockQ.normal ?_ | refine loopQ.normal ?_ | fail))
       refine ⟨k' - 1,by omega,i+1,_,St.keep ⟨rfl,rfl,trivial⟩,by omega,?_⟩
       rw [hb']
       unfold partI
       rw [hlet];simp
     ·refine ⟨_,rfl,?_⟩
      rw [hb',List.drop_eq_nil_of_le (by omega)];rfl
theorem emp_l:(ByteArray.mk #[]).toList=[]:=by rw [ByteArray.toList_eq]
theorem isName_fun (s:ByteArray) (hb:s.size<1000000000):Fun C 107 [.str s] (.bool (isName s)):=by
 refine Fun.of (FnEv.bodyL Tryz.func107 rfl ?_)
 have hl:=bsize s
 rcases size_cases s with ⟨h0,hn⟩ | ⟨c,l,hcl,hc0,hsz⟩
 ·have hs:isName s=false:=by unfold isName;rw [hn];rfl
  have hemp:s.toList=(ByteArray.mk #[]).toList:=by rw [hn,emp_l]
  (repeat' (first | refine EvOps.nil ?_ | (apply R.gOff;exact rfl;exact rfl;exact rfl) | (apply R.gUn;exact rfl;exact rfl) | (apply R.move;exact rfl) | (apply R.assign;exact rfl) | (apply R.pickT;exact rfl;exact rfl) | (apply R.streqT;exact rfl;exact rfl;exact (by assumption)) | refine Ev.seq ?_ | refine Ev.region ?_ | (apply Ev.condB;exact rfl) | refine Ev.ret ?_ | refine thenQ.normal ?_ | refine thenQ.ret ?_ | (apply bodyQ.ret;exact rfl) | fail))
  exact ⟨_,rfl,by rw [hs];rfl⟩
 ·have hs:isName s=(decide (l.length<24) && letterI c.toNat && allPart s.toList):=by unfold isName;rw [hcl];rfl
  have hpe:=partI_eq c.toNat
  have hle:letterI c.toNat=decide ((97≤(c.toNat:Int)∧(c.toNat:Int)≤122)∨(65≤(c.toNat:Int)∧(c.toNat:Int)≤90)):=rfl
  (repeat' (first | (apply R.indexStr T6 (i:=0);exact rfl;exact rfl;exact rfl;assumption) | refine EvOps.nil ?_ | (apply R.gOn;exact rfl;exact rfl;exact rfl) | (apply R.gOff;exact rfl;exact rfl;exact rfl) | (apply R.gUn;exact rfl;exact rfl) | (apply R.move;exact rfl) | (apply R.assign;exact rfl) | (apply R.pickT;exact rfl;exact rfl) | (apply R.pickF;exact rfl;exact rfl) | (apply R.cmp;exact rfl;exact rfl;exact rfl;all_goals intro hc;all_goals (try (exfalso;omega))) | (apply R.streq;exact rfl;exact rfl;all_goals intro hc) | (apply R.lenStr T6;exact rfl;exact rfl) | refine Ev.seq ?_ | refine Ev.region ?_ | (apply Ev.condB;exact rfl) | refine Ev.ret ?_ | refine thenQ.normal ?_ | refine thenQ.ret ?_ | (apply bodyQ.ret;exact rfl) | fail))
  ·rw [hcl,emp_l] at hc;cases hc
  ·refine ⟨_,rfl,?_⟩
   rw [hs,decide_eq_false (by omega)];rfl
  ·have h24:=hc
   clear hc
   refine R.call rfl rfl (CallEv.pure rfl rfl (part_fun c.toNat) ?_)
   cases hpa:partI c.toNat
   ·(repeat' (first | refine EvOps.nil ?_ | (apply R.gOn;exact rfl;exact rfl;exact rfl) | (apply R.gOff;exact rfl;exact rfl;exact rfl) | (apply R.gUn;exact rfl;exact rfl) | (apply R.move;exact rfl) | (apply R.assign;exact rfl) | (apply R.pickT;exact rfl;exact rfl) | (apply R.pickF;exact rfl;exact rfl) | (apply R.not;exact rfl;exact rfl) | refine Ev.seq ?_ | refine Ev.region ?_ | (apply Ev.condB;exact rfl) | refine Ev.ret ?_ | refine thenQ.normal ?_ | refine thenQ.ret ?_ | (apply bodyQ.ret;exact rfl) | fail))
    refine ⟨_,rfl,?_⟩
    rw [hpa] at hpe
    have:=of_decide_eq_false hpe.symm
    rw [hs,hle,decide_eq_false (p:=(97≤(c.toNat:Int)∧(c.toNat:Int)≤122)∨(65≤(c.toNat:Int)∧(c.toNat:Int)≤90) ) (by omega)];simp [nrm,tupOf]
   ·rw [hpa] at hpe
    have hpe:=of_decide_eq_true hpe.symm
    by_cases hg:(97≤(c.toNat:Int)∧(c.toNat:Int)≤122)∨(65≤(c.toNat:Int)∧(c.toNat:Int)≤90)
    ·have hs':isName s=allPart (s.toList.drop 0):=by rw [hs,hle,decide_eq_true hg,decide_eq_true (by omega)];simp
     (repeat' (first | (apply R.indexStr T6 (i:=0);exact rfl;exact rfl;exact rfl;assumption) | refine EvOps.nil ?_ | (apply R.gOn;exact rfl;exact rfl;exact rfl) | (apply R.move;exact rfl) | (apply R.pickT;exact rfl;exact rfl) | (apply R.pickF;exact rfl;exact rfl) | (apply R.cmp;exact rfl;exact rfl;exact rfl;all_goals intro hc;all_goals (try (exfalso;omega))) | (apply R.not;exact rfl;exact rfl) | (apply R.lenStr T6;exact rfl;exact rfl) | refine Ev.seq ?_ | refine Ev.region ?_ | (apply Ev.condB;exact rfl) | refine Ev.skip ?_ | refine Ev.block ?_ | refine thenQ.normal ?_ | fail))
     refine Ev.loop (I:=fun k' st=>∃ (i:Nat) (ρ':Nat→PV),st=⟨al [(0,.str s),(38,.int .i64 s.size),(39,.int .i64 i)] ρ',[]⟩∧k'+i=s.size∧isName s=allPart (s.toList.drop i)) s.size ?_ ?_
     ·exact ⟨0,_,St.keep ⟨rfl,rfl,rfl,trivial⟩,rfl,hs'⟩
     ·rintro k' _ ⟨i,ρ',rfl,hk,hb'⟩
      (repeat' (first | refine EvOps.nil ?_ | (apply R.move;exact rfl) | (apply R.assign;exact rfl) | (apply R.cmp;exact rfl;exact rfl;exact rfl;all_goals intro hc) | refine Ev.seq ?_ | refine Ev.region ?_ | (apply Ev.condB;exact rfl) | refine Ev.ret ?_ | refine Ev.skip ?_ | refine Ev.exit ?_ | refine Ev.block ?_ | refine thenQ.normal ?_ | refine thenQ.exit ?_ | refine blockQ.hit ?_ | refine loopQ.exit ?_ | (apply bodyQ.ret;exact rfl) | fail))
      ·have hil:i<s.toList.length:=by omega
       have hat:=bget (List.getElem?_eq_getElem hil)
       rw [allPart_drop s i hil] at hb'
       refine R.indexStr T6 rfl rfl rfl hat ?_
       generalize hx:s.toList[i]=x at hb' hat
       skip
       refine R.call rfl rfl (CallEv.pure rfl rfl (part_fun x.toNat) ?_)
       cases hpx:partI x.toNat
       ·(repeat' (first | refine EvOps.nil ?_ | (apply R.assign;exact rfl) | (apply R.not;exact rfl;exact rfl) | refine Ev.seq ?_ | refine Ev.region ?_ | (apply Ev.condB;exact rfl) | refine Ev.ret ?_ | refine thenQ.normal ?_ | refine thenQ.ret ?_ | refine blockQ.ret ?_ | refine loopQ.ret ?_ | (apply bodyQ.ret;exact rfl) | fail))
        refine ⟨_,rfl,?_⟩
        rw [hb',hpx];rfl
       ·(repeat' (first | refine EvOps.nil ?_ | (apply R.move;exact rfl) | (apply R.arith;exact rfl;exact rfl;exact rfl;exact (wrapI (by omega) (by omega))) | (apply R.not;exact rfl;exact rfl) | refine Ev.region ?_ | (apply Ev.condB;exact rfl) | refine Ev.skip ?_ | refine thenQ.normal ?_ | refine blockQ.normal ?_ | refine loopQ.normal ?_ | fail))
        refine ⟨k' - 1,by omega,i+1,_,St.keep ⟨rfl,rfl,rfl,trivial⟩,by omega,?_⟩
        rw [hb',hpx];rfl
      ·refine ⟨_,rfl,?_⟩
       rw [hb',List.drop_eq_nil_of_le (by omega)];rfl
    ·have hs':isName s=false:=by rw [hs,hle,decide_eq_false hg];simp
     (repeat' (first | (apply R.indexStr T6 (i:=0);exact rfl;exact rfl;exact rfl;assumption) | refine EvOps.nil ?_ | (apply R.gOn;exact rfl;exact rfl;exact rfl) | (apply R.gOff;exact rfl;exact rfl;exact rfl) | (apply R.move;exact rfl) | (apply R.assign;exact rfl) | (apply R.pickT;exact rfl;exact rfl) | (apply R.pickF;exact rfl;exact rfl) | (apply R.cmp;exact rfl;exact rfl;exact rfl;all_goals intro hc;all_goals (try (exfalso;omega))) | (apply R.not;exact rfl;exact rfl) | refine Ev.seq ?_ | refine Ev.region ?_ | (apply Ev.condB;exact rfl) | refine Ev.ret ?_ | refine thenQ.normal ?_ | refine thenQ.ret ?_ | (apply bodyQ.ret;exact rfl) | fail))
     all_goals exact ⟨_,rfl,by rw [hs'];rfl⟩
end Go.Pm
end
section
set_option maxRecDepth 4000
set_option maxHeartbeats 4000000
namespace Go.Pm
open Go.Proofs
attribute [local irreducible] thenQ blockQ loopQ bodyQ Ev EvOps CallEv FnEv
theorem number_fun (a b:Int):Fun C 105 [.int .i64 a,.int .i64 b] (.int .i64 (cmpN a b)):=by
 refine Fun.of (FnEv.bodyL Tryz.func105 rfl ?_)
 (repeat' (first | refine EvOps.nil ?_ | (apply R.move;exact rfl) | (apply R.assign;exact rfl) | (apply R.cmp;exact rfl;exact rfl;exact rfl;all_goals intro hc) | refine Ev.seq ?_ | refine Ev.region ?_ | (apply Ev.condB;exact rfl) | refine Ev.ret ?_ | refine Ev.skip ?_ | refine thenQ.normal ?_ | refine thenQ.ret ?_ | (apply bodyQ.ret;exact rfl) | fail))
 all_goals (refine ⟨_,rfl,congrArg (PV.int .i64) ?_⟩;unfold cmpN;(repeat' split) <;> omega)
theorem sign_fun (a b:Int):Fun C 78 [.int .i64 a,.int .i64 b] (.int .i64 (cmpN a b)):=by
 refine Fun.of (FnEv.bodyL Tryz.func78 rfl ?_)
 (repeat' (first | refine EvOps.nil ?_ | (apply R.move;exact rfl) | (apply R.assign;exact rfl) | (apply R.cmp;exact rfl;exact rfl;exact rfl;all_goals intro hc) | refine Ev.seq ?_ | refine Ev.region ?_ | (apply Ev.condB;exact rfl) | refine Ev.ret ?_ | refine Ev.skip ?_ | refine Ev.block ?_ | refine thenQ.normal ?_ | refine thenQ.ret ?_ | refine blockQ.normal ?_ | refine blockQ.ret ?_ | (apply bodyQ.ret;exact rfl) | fail))
 all_goals (refine ⟨_,rfl,congrArg (PV.int .i64) ?_⟩;unfold cmpN;(repeat' split) <;> omega)
theorem size_ev (k s o l) (hbk:bulks l<1000000000) (ih:∀ t∈l,Fun C 106 [enc t] (.int .i64 (size t))):Fun C 106 [enc (.mk k s o l)] (.int .i64 (size (.mk k s o l))):=by
 refine Fun.of (FnEv.bodyL Tryz.func106 rfl ?_)
 rw [enc_mk]
 have hlen:=len_bulks l
 have hel:=encs_len l
 have hsz:=sizes_bulk l
 (repeat' (first | refine EvOps.nil ?_ | (apply R.assign;exact rfl) | (apply R.box;exact rfl;exact rfl;exact rfl;exact .nil) | refine Ev.seq ?_ | refine Ev.region ?_ | refine Ev.block ?_ | refine thenQ.normal ?_ | fail))
 refine Ev.loop (I:=fun k' st=>∃ (i:Nat) (n:Int) (ρ':Nat→PV),st=⟨al [(1,.ptr 0 0 0 0),(3,.int .i64 n),(4,.int .i64 i)] ρ',[⟨.m,0,4,[.agg [.int .i64 k,.str s,.int .i64 o,.snap false (encs l)]]⟩]⟩∧k'+i=l.length∧0≤n∧1+sizes l=n+sizes (l.drop i)) l.length ?_ ?_
 ·exact ⟨0,1,_,St.keep ⟨rfl,rfl,rfl,trivial⟩,rfl,by omega,rfl⟩
 ·rintro k' _ ⟨i,n,ρ',rfl,hk,hn,hb'⟩
  (repeat' (first | refine EvOps.nil ?_ | (apply R.move;exact rfl) | (apply R.assign;exact rfl) | (apply R.load1 T6;exact rfl;exact rfl;exact rfl;exact rfl) | (apply R.fieldAddr T6;exact rfl;exact rfl;exact rfl;exact rfl) | (apply R.cmp;exact rfl;exact rfl;exact rfl;all_goals intro hc) | (apply R.lenS T6;exact rfl;exact rfl) | refine Ev.seq ?_ | refine Ev.region ?_ | (apply Ev.condB;exact rfl) | refine Ev.ret ?_ | refine Ev.skip ?_ | refine Ev.exit ?_ | refine Ev.block ?_ | refine thenQ.normal ?_ | refine thenQ.exit ?_ | refine blockQ.hit ?_ | refine loopQ.exit ?_ | (apply bodyQ.ret;exact rfl) | fail))
  ·obtain ⟨k1,s1,o1,l1,hmem,hat,hd,hil,_⟩:=encs_at' hc
   refine R.indexS T6 rfl rfl rfl rfl hat rfl rfl ?_
   have hbm:=bulk_mem hmem
   have hsm:=size_bulk (.mk k1 s1 o1 l1)
   have hdr:=sizes_bulk (l.drop (i+1))
   rw [hd,sizes] at hb'
   (repeat' (first | (apply R.loadA T6;exact rfl;exact rfl;exact rfl;exact rfl;exact (by repeat constructor)) | fail))
   refine R.call rfl rfl ?_
   show CallEv C 2 _ [.agg [.int .i64 k1,.str s1,.int .i64 o1,.snap false (encs l1)]] _ _
   rw [← enc_mk]
   refine CallEv.pure (r:=.int .i64 (size (.mk k1 s1 o1 l1))) rfl (by simp [isVals,isVal_enc]) (by simpa [nrms,nrm_enc] using ih _ hmem) ?_
   (repeat' (first | refine EvOps.nil ?_ | (apply R.move;exact rfl) | (apply R.assign;exact rfl) | (apply R.arith;exact rfl;exact rfl;exact rfl;exact (wrapI (by omega) (by omega))) | refine Ev.region ?_ | refine thenQ.normal ?_ | refine blockQ.normal ?_ | refine loopQ.normal ?_ | fail))
   exact ⟨k' - 1,by omega,i+1,n+size (.mk k1 s1 o1 l1),_,St.keep ⟨rfl,rfl,rfl,trivial⟩,by omega,by omega,by omega⟩
  ·refine ⟨_,rfl,?_⟩
   simp only [nrm,tupOf,size]
   rw [encs_end hc,sizes] at hb'
   rw [hb'];simp
theorem size_fun (t:Tm) (hb:bulk t<1000000000):Fun C 106 [enc t] (.int .i64 (size t)):=by
 induction t using Tm.ind with
 | h k s o l ih=>
  simp only [bulk] at hb
  exact size_ev k s o l (by omega) (fun t ht=>ih t ht (by have:=bulk_mem ht;omega))
theorem tsize_ev (k s o l) (hbk:bulks l<1000000000) (ih:∀ t∈l,Fun C 79 [enc t] (.int .i64 (size t))):Fun C 79 [enc (.mk k s o l)] (.int .i64 (size (.mk k s o l))):=by
 refine Fun.of (FnEv.bodyL Tryz.func79 rfl ?_)
 rw [enc_mk]
 have hlen:=len_bulks l
 have hel:=encs_len l
 have hsz:=sizes_bulk l
 (repeat' (first | refine EvOps.nil ?_ | (apply R.move;exact rfl) | (apply R.assign;exact rfl) | (apply R.load1 T6;exact rfl;exact rfl;exact rfl;exact rfl) | (apply R.fieldAddr T6;exact rfl;exact rfl;exact rfl;exact rfl) | (apply R.lenS T6;exact rfl;exact rfl) | (apply R.box;exact rfl;exact rfl;exact rfl;exact .nil) | refine Ev.seq ?_ | refine Ev.region ?_ | refine Ev.block ?_ | refine thenQ.normal ?_ | fail))
 refine Ev.loop (I:=fun k' st=>∃ (i:Nat) (n:Int) (J:AHeap) (ρ':Nat→PV),st=⟨al [(1,.ptr 0 0 0 0),(3,.int .i64 n),(7,.snap false (encs l)),(8,.int .i64 (encs l).length),(9,.int .i64 i)] ρ',⟨.m,0,4,[.agg [.int .i64 k,.str s,.int .i64 o,.snap false (encs l)]]⟩::J⟩∧k'+i=l.length∧0≤n∧1+sizes l=n+sizes (l.drop i)) l.length ?_ ?_
 ·exact ⟨0,1,[],_,St.keep ⟨rfl,rfl,rfl,rfl,rfl,trivial⟩,rfl,by omega,rfl⟩
 ·rintro k' _ ⟨i,n,J,ρ',rfl,hk,hn,hb'⟩
  (repeat' (first | refine EvOps.nil ?_ | (apply R.move;exact rfl) | (apply R.assign;exact rfl) | (apply R.cmp;exact rfl;exact rfl;exact rfl;all_goals intro hc) | refine Ev.seq ?_ | refine Ev.region ?_ | (apply Ev.condB;exact rfl) | refine Ev.ret ?_ | refine Ev.skip ?_ | refine Ev.exit ?_ | refine Ev.block ?_ | refine thenQ.normal ?_ | refine thenQ.exit ?_ | refine blockQ.hit ?_ | refine loopQ.exit ?_ | (apply bodyQ.ret;exact rfl) | fail))
  ·obtain ⟨k1,s1,o1,l1,hmem,hat,hd,hil,_⟩:=encs_at' hc
   refine R.indexS T6 rfl rfl rfl rfl hat rfl rfl ?_
   have hbm:=bulk_mem hmem
   have hsm:=size_bulk (.mk k1 s1 o1 l1)
   have hdr:=sizes_bulk (l.drop (i+1))
   rw [hd,sizes] at hb'
   (repeat' (first | refine EvOps.nil ?_ | (apply R.move;exact rfl) | (apply R.loadA T6;exact rfl;exact rfl;exact rfl;exact rfl;exact (by repeat constructor)) | (apply R.allocN T6;exact rfl;exact rfl;exact rfl) | (apply R.storeN T6;exact rfl;exact rfl;exact rfl;exact rfl;exact rfl;exact rfl) | (apply R.loadAN T6;exact rfl;exact rfl;exact rfl;exact (by repeat constructor)) | refine Ev.region ?_ | refine thenQ.normal ?_ | fail))
   refine R.call rfl rfl ?_
   show CallEv C 2 _ [.agg [.int .i64 k1,.str s1,.int .i64 o1,.snap false (encs l1)]] _ _
   rw [← enc_mk]
   refine CallEv.pure (r:=.int .i64 (size (.mk k1 s1 o1 l1))) rfl (by simp [isVals,isVal_enc]) (by simpa [nrms,nrm_enc] using ih _ hmem) ?_
   (repeat' (first | refine EvOps.nil ?_ | (apply R.move;exact rfl) | (apply R.assign;exact rfl) | (apply R.arith;exact rfl;exact rfl;exact rfl;exact (wrapI (by omega) (by omega))) | refine Ev.region ?_ | refine thenQ.normal ?_ | refine blockQ.normal ?_ | refine loopQ.normal ?_ | fail))
   exact ⟨k' - 1,by omega,i+1,n+size (.mk k1 s1 o1 l1),_,_,St.keep ⟨rfl,rfl,rfl,rfl,rfl,trivial⟩,by omega,by omega,by omega⟩
  ·refine ⟨_,rfl,?_⟩
   simp only [nrm,tupOf,size]
   rw [encs_end hc,sizes] at hb'
   rw [hb'];simp
theorem tsize_fun (t:Tm) (hb:bulk t<1000000000):Fun C 79 [enc t] (.int .i64 (size t)):=by
 induction t using Tm.ind with
 | h k s o l ih=>
  simp only [bulk] at hb
  exact tsize_ev k s o l (by omega) (fun t ht=>ih t ht (by have:=bulk_mem ht;omega))
end Go.Pm
end
