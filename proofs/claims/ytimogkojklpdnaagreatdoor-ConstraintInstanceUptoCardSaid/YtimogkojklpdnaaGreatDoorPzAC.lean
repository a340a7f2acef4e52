/-
  A part of the library Pm and its contracts (joined by program): PmOps4 PmMap PmStep PmCall PmRule2 PmRule3 PmRule4 PmRule5 PmC6 PmRule6. Conditions: none.
-/
import Derived.Test.YtimogkojklpdnaaGreatDoorPzAB
import Derived.MapKept
import Derived.Test.YtimogkojklpdnaaGreatDoorPzAA
import Derived.Test.YtimogkojklpdnaaGreatDoorProg
import Derived.KernelRfl
import Derived.Lib.Bytealg
set_option linter.unusedVariables false
set_option linter.unusedSimpArgs false
section
namespace Go.Pm
variable {P:Program} {w:World} {F:Nat→Prop} {β:List (Nat × Nat)} {h:AHeap}
def OpR (w:World) (A:Nat→Prop) (β:List (Nat × Nat)) (h:AHeap):Option Value→Option PV→Prop
 | none,none=>True
 | some v,some p=>VRel w A β h v p
 | _,_=>False
theorem bound_some {A:Nat→Prop} {v:Value} {p:PV} {d t n:Nat} {code:BoundsCode} (hr:VRel w A β h v p) (e:boundP (some p) d t=some n) :
  n≤t∧∀ t',t≤t'→(Instr.sliceBound v t' code).run P w=.ok n w:=by
 unfold boundP at e
 split at e
 ·rename_i hn;cases hn
 ·rename_i k i hp
  obtain rfl:=Option.some.inj hp
  obtain rfl:=hr.int_inv
  split at e
  ·rename_i hc
   obtain rfl:=Option.some.inj e
   refine ⟨by omega,fun t' ht=>?_⟩
   have hc':0≤i∧i≤(t':Int):=by omega
   simp [Instr.sliceBound,asIntOf,hc']
  ·cases e
 ·cases e
theorem bound_none {d t n:Nat} (e:boundP none d t=some n):n=d:=by
 simpa [boundP] using e.symm
theorem sb_run {A:Nat→Prop} {len cap m b a:Nat} {lo hi mx:Option Value} {plo phi pmx:Option PV} (hlo:OpR w A β h lo plo) (hhi:OpR w A β h hi phi) (hmx:OpR w A β h mx pmx)
  (hle:len≤cap) (e1:boundP pmx len len=some m) (e2:boundP phi len m=some b) (e3:boundP plo 0 b=some a) (e4:(pmx.isSome && phi.isNone)=false) :
  ∃ mc,(Instr.sliceBounds true len cap lo hi mx).run P w=.ok (a,b,mc) w∧a≤b∧b≤len∧b≤mc∧(pmx=none→mc=cap)∧(pmx≠none→mc=m):=by
 have h3:a≤b∧∀ c,(match lo with | some v=>Instr.sliceBound v b c | none=>pure 0:Sem Nat).run P w=.ok a w:=by
  cases plo with
  | none=>cases lo with
   | none=>obtain rfl:=bound_none e3;exact ⟨Nat.zero_le _,fun c=>rfl⟩
   | some _=>simp [OpR] at hlo
  | some pl=>cases lo with
   | none=>simp [OpR] at hlo
   | some vl=>
    refine ⟨(bound_some (P:=P) (code:=.sliceB) (show VRel w A β h vl pl from hlo) e3).1,fun c=>?_⟩
    exact (bound_some (P:=P) (show VRel w A β h vl pl from hlo) e3).2 _ (Nat.le_refl _)
 cases pmx with
 | none=>
  cases mx with
  | some _=>simp [OpR] at hmx
  | none=>
   obtain rfl:=bound_none e1
   refine ⟨cap,?_,h3.1,?_,?_,fun _=>rfl,fun hh=>absurd rfl hh⟩
   ·cases phi with
    | none=>cases hi with
     | none=>
      obtain rfl:=bound_none e2
      simp only [Instr.sliceBounds,Sem.run_bind,Sem.run_pure,Result.andThen_ok]
      have:=h3.2 .sliceB
      cases lo <;> simp_all
     | some _=>simp [OpR] at hhi
    | some ph=>cases hi with
     | none=>simp [OpR] at hhi
     | some vh=>
      have hb:=(bound_some (P:=P) (code:=.sliceAcap) (show VRel w A β h vh ph from hhi) e2).2 cap hle
      simp only [Instr.sliceBounds,Sem.run_bind,Sem.run_pure,Result.andThen_ok,if_true,hb]
      have:=h3.2 .sliceB
      cases lo <;> simp_all
   ·cases phi with
    | none=>obtain rfl:=bound_none e2;exact Nat.le_refl _
    | some ph=>cases hi with
     | none=>simp [OpR] at hhi
     | some vh=>exact (bound_some (P:=P) (code:=.sliceAcap) (show VRel w A β h vh ph from hhi) e2).1
   ·cases phi with
    | none=>obtain rfl:=bound_none e2;exact hle
    | some ph=>cases hi with
     | none=>simp [OpR] at hhi
     | some vh=>exact Nat.le_trans (bound_some (P:=P) (code:=.sliceAcap) (show VRel w A β h vh ph from hhi) e2).1 hle
 | some pm=>
  cases mx with
  | none=>simp [OpR] at hmx
  | some vm=>
   obtain ⟨m1,m2⟩:=bound_some (P:=P) (code:=.slice3Acap) (show VRel w A β h vm pm from hmx) e1
   cases phi with
   | none=>simp at e4
   | some ph=>cases hi with
    | none=>simp [OpR] at hhi
    | some vh=>
     obtain ⟨b1,b2⟩:=bound_some (P:=P) (code:=.slice3B) (show VRel w A β h vh ph from hhi) e2
     refine ⟨m,?_,h3.1,by omega,b1,(fun hh=>by cases hh),(fun _=>rfl)⟩
     simp only [Instr.sliceBounds,Sem.run_bind,Result.andThen_ok,if_true,m2 cap hle,b2 m (Nat.le_refl _)]
     have:=h3.2 .slice3C
     cases lo <;> simp_all
theorem SRel.snap_open {A:Nat→Prop} {v:Value} {full:Bool} {es:List PV} (hv:SRel w A v (.snap full es)):es=[] ∨
  ∃ b off cap sz,∃ cvs:Nat→Nat→Value,v=.slice (some ⟨b,off,none⟩) es.length cap∧¬ A b∧0<sz∧(∀ i,i<es.length→(Pm.cells (es.getD i .any)).length=sz) ∧
   (∀ i j,i<es.length→j<sz→w.cell? ⟨b,off+(i * sz+j),none⟩=some (cvs i j)) ∧
   (∀ i j,i<es.length→j<sz→SRel w A (cvs i j) ((Pm.cells (es.getD i .any)).getD j .any)):=by
 cases hv with
 | snapE a cap _ hf=>exact .inl rfl
 | snap b off cap sz _ _ cvs h1 h2 h3 h4 h5 h6 h7 h8=>exact .inr ⟨b,off,cap,sz,cvs,rfl,h4,h5,h6,h7,h8⟩
theorem slice_run (H:HRel w F β h) {t:TypeId} {x:Value} {px r:PV} {lo hi mx:Option Value} {plo phi pmx:Option PV} (hx:VRel w (Av F h β) β h x px)
  (hlo:OpR w (Av F h β) β h lo plo) (hhi:OpR w (Av F h β) β h hi phi) (hmx:OpR w (Av F h β) β h mx pmx) (e:sliceP P h t px plo phi pmx=some r) :
  ∃ u,(Instr.sliceAt t x lo hi mx).run P w=.ok u w∧VRel w (Av F h β) β h u r:=by
 unfold sliceP at e
 split at e
 ·-- a string
  rename_i s hu
  obtain rfl:=hx.str_inv
  split at e
  ·cases e
  ·rename_i hm
   obtain rfl:pmx=none:=by simpa using hm
   obtain rfl:mx=none:=by cases mx <;> simp_all [OpR]
   split at e
   ·rename_i b hb
    split at e
    ·rename_i a ha
     obtain rfl:=Option.some.inj e
     have h1:∃ hb',(match hi with | some v=>Instr.sliceBound v s.size .sliceAlen | none=>pure s.size:Sem Nat).run P w=.ok b w∧hb'=b:=by
      cases phi with
      | none=>cases hi with
       | none=>exact ⟨b,by simp [bound_none hb],rfl⟩
       | some _=>simp [OpR] at hhi
      | some ph=>cases hi with
       | none=>simp [OpR] at hhi
       | some vh=>exact ⟨b,(bound_some (P:=P) (show VRel w _ β h vh ph from hhi) hb).2 _ (Nat.le_refl _),rfl⟩
     have h2:(match lo with | some v=>Instr.sliceBound v b .sliceB | none=>pure 0:Sem Nat).run P w=.ok a w:=by
      cases plo with
      | none=>cases lo with
       | none=>simp [bound_none ha]
       | some _=>simp [OpR] at hlo
      | some pl=>cases lo with
       | none=>simp [OpR] at hlo
       | some vl=>exact (bound_some (P:=P) (show VRel w _ β h vl pl from hlo) ha).2 _ (Nat.le_refl _)
     obtain ⟨_,h1,_⟩:=h1
     refine ⟨.string (s.extract a b),?_,.val (.str _)⟩
     simp only [Instr.sliceAt,Sem.run_bind,und_run hu,Result.andThen_ok,Instr.slice,Instr.sliceBounds]
     cases hi <;> cases lo <;> simp_all
    ·cases e
   ·cases e
 ·-- a snapshot
  rename_i el full es hu
  split at e
  ·rename_i sz hs
   split at e
   ·rename_i m hm
    split at e
    ·rename_i b hb
     split at e
     ·rename_i a ha
      split at e
      ·rename_i hc
       obtain ⟨hno,hone⟩:=hc
       obtain rfl:=Option.some.inj e
       obtain ⟨ad,cap,rfl,hle,hfull⟩:=hx.snap_inv.snap_len
       obtain ⟨mc,r1,r2,r3,r4,r5,r6⟩:=sb_run (P:=P) hlo hhi hmx hle hm hb ha hno
       have hrun:(Instr.sliceAt t (.slice ad es.length cap) lo hi mx).run P w=.ok (.slice (if mc=a then ad else ad.map (·.add (a * sz))) (b - a) (mc - a)) w:=by
        simp only [Instr.sliceAt,Sem.run_bind,und_run hu,Result.andThen_ok,Instr.slice,r1,tsize_run hs,Sem.run_pure]
       refine ⟨_,hrun,.val ?_⟩
       have hf':((if pmx.isSome then m == b else full && b == es.length)=true→mc - a=b - a):=by
        intro hh
        cases pmx with
        | none=>
         simp at hh
         have h1:=r5 rfl
         have h2:=hfull hh.1
         omega
        | some pm=>
         simp at hh
         have h1:=r6 (by simp)
         omega
       by_cases hab:b - a=0
       ·rw [hab]
        have:(es.drop a).take 0=[]:=by simp
        rw [this]
        exact .snapE _ _ _ (fun hh=>by have:=hf' hh;omega)
       ·have hmc:mc≠a:=by omega
        rw [if_neg hmc]
        rcases hx.snap_inv.snap_open with rfl | ⟨b0,off,cap',sz',cvs,ev,k4,k5,k6,k7,k8⟩
        ·simp at r3;omega
        ·simp at ev
         obtain ⟨rfl,rfl⟩:=ev
         have hsz:sz'=sz:=by
          have:=k6 a (by omega)
          have ha':es[a]?=some es[a]:=List.getElem?_eq_getElem (by omega)
          rw [ha'] at hone
          simp [List.getD,show a<es.length by omega] at this hone
          omega
         subst hsz
         have hlen:((es.drop a).take (b - a)).length=b - a:=by simp;omega
         have hget:∀ i,i<b - a→((es.drop a).take (b - a)).getD i .any=es.getD (a+i) .any:=fun i hi=>by
          simp [List.getD,List.getElem?_drop,hi]
         have:=SRel.snap (w:=w) (A:=Av F h β) b0 (off+a * sz') (mc - a) sz' (if pmx.isSome then m == b else full && b == es.length) ((es.drop a).take (b - a)) (fun i j=>cvs (a+i) j)
          (by intro hn;rw [hn] at hlen;simp at hlen;omega) (by rw [hlen];omega) (fun hh=>by rw [hlen];exact hf' hh) k4 k5
          (fun i hi=>by rw [hlen] at hi;rw [hget i hi];exact k6 (a+i) (by omega))
          (fun i j hi hj=>by
           rw [hlen] at hi
           have:=k7 (a+i) j (by omega) hj
           rw [Nat.add_mul] at this
           rw [show off+a * sz'+(i * sz'+j)=off+(a * sz'+i * sz'+j) by omega]
           exact this)
          (fun i j hi hj=>by rw [hlen] at hi;rw [hget i hi];exact k8 (a+i) j (by omega) hj)
         rw [hlen] at this
         simpa [addr_add] using this
      ·cases e
     ·cases e
    ·cases e
   ·cases e
  ·cases e
 ·-- a reference
  rename_i el id ep off len hu
  split at e
  ·rename_i sz o hs ho
   split at e
   ·rename_i hc
    obtain ⟨rfl,hle⟩:=hc
    obtain ⟨e1,e2,e3⟩:=getM_some ho
    obtain ⟨bc,hb0⟩:=beta_at H.len e1
    obtain ⟨m1,m2,m3⟩:=hx.mref_inv
    obtain ⟨cap,rfl,c2⟩:=m3 o bc e1 hb0 e3 e2 hle
    obtain ⟨T,cs0,k1,k2,k3,k4,k5⟩:=(H.obj id o bc e1 hb0 e3).c (m2 o e1).2
    split at e
    ·rename_i b hbey
     split at e
     ·rename_i a ha
      obtain ⟨hmxn,kk,ii,hhin,hgt,hbd⟩:pmx=none∧∃ kk ii,phi=some (.int kk ii)∧(len:Int)<ii∧boundP (some (.int kk ii)) 0 (o.es.length - off)=some b:=by
       unfold beyond at hbey
       split at hbey
       ·rename_i kk ii
        split at hbey
        ·exact ⟨rfl,kk,ii,rfl,by assumption,hbey⟩
        ·cases hbey
       ·cases hbey
      subst hmxn;subst hhin
      obtain ⟨mc,r1,r2,r3,r4,r5,r6⟩:=sb_run (P:=P) (len:=o.es.length - off) (cap:=cap) (m:=o.es.length - off) hlo hhi hmx (by omega) rfl hbd ha rfl
      have hmxv:mx=none:=by cases mx with | none=>rfl | some _=>simp [OpR] at hmx
      subst hmxv
      have r1':(Instr.sliceBounds true len cap lo hi none).run P w=.ok (a,b,mc) w:=by
       cases hi with
       | none=>simp [OpR] at hhi
       | some vh=>exact r1
      have hrun:(Instr.sliceAt t (.slice (some ⟨bc.1,off * o.esz,none⟩) len cap) lo hi none).run P w=.ok (.slice (if mc=a then some ⟨bc.1,off * o.esz,none⟩ else some ⟨bc.1,off * o.esz+a * o.esz,none⟩) (b - a) (mc - a)) w:=by
       simp only [Instr.sliceAt,Sem.run_bind,und_run hu,Result.andThen_ok,Instr.slice,r1',tsize_run hs,Sem.run_pure,Option.map_some,addr_add]
      refine ⟨_,hrun,?_⟩
      have h1:=r5 rfl
      split at e
      ·rename_i ha0
       subst ha0
       obtain rfl:=Option.some.inj e
       refine .mref _ id ep off b o bc ⟨_,_,_,rfl⟩ e1 hb0 e3 (m2 o e1) (fun _ _=>?_)
       exact ⟨cap,by rw [h1];split <;> simp,c2⟩
      ·rename_i ha0
       split at e
       ·rename_i hz
        obtain rfl:=Option.some.inj e
        rw [hz]
        exact .val (.snapE _ _ _ (fun hh=>by cases hh))
       ·rename_i hz
        obtain rfl:=Option.some.inj e
        rw [if_neg (by omega)]
        refine .mref _ id ep (off+a) (b - a) o bc ⟨_,_,_,rfl⟩ e1 hb0 e3 (m2 o e1) (fun _ _=>?_)
        exact ⟨cap - a,by rw [h1,Nat.add_mul],by omega⟩
     ·cases e
    split at e
    ·rename_i m hm
     split at e
     ·rename_i b hb
      split at e
      ·rename_i a ha
       split at e
       ·rename_i hno
        obtain ⟨mc,r1,r2,r3,r4,r5,r6⟩:=sb_run (P:=P) (cap:=cap) hlo hhi hmx (by omega) hm hb ha hno
        have hrun:(Instr.sliceAt t (.slice (some ⟨bc.1,off * o.esz,none⟩) len cap) lo hi mx).run P w=.ok (.slice (if mc=a then some ⟨bc.1,off * o.esz,none⟩ else some ⟨bc.1,off * o.esz+a * o.esz,none⟩) (b - a) (mc - a)) w:=by
         simp only [Instr.sliceAt,Sem.run_bind,und_run hu,Result.andThen_ok,Instr.slice,r1,tsize_run hs,Sem.run_pure,Option.map_some,addr_add]
        refine ⟨_,hrun,?_⟩
        split at e
        ·rename_i hms
         split at e
         ·rename_i hma
          obtain rfl:=Option.some.inj e
          have h1:=r6 (by intro hh;rw [hh] at hms;simp at hms)
          have:b - a=0:=by omega
          rw [this]
          exact .val (.snapE _ _ _ (fun _=>by omega))
         ·obtain rfl:=Option.some.inj e
          exact .any _
        ·rename_i hms
         have h1:=r5 (by cases pmx <;> simp_all)
         split at e
         ·rename_i ha0
          subst ha0
          obtain rfl:=Option.some.inj e
          refine .mref _ id ep off b o bc ⟨_,_,_,rfl⟩ e1 hb0 e3 (m2 o e1) (fun _ _=>?_)
          exact ⟨cap,by rw [h1];split <;> simp,c2⟩
         ·rename_i ha0
          split at e
          ·rename_i hz
           obtain rfl:=Option.some.inj e
           rw [hz]
           exact .val (.snapE _ _ _ (fun hh=>by cases hh))
          ·rename_i hz
           obtain rfl:=Option.some.inj e
           rw [if_neg (by omega)]
           refine .mref _ id ep (off+a) (b - a) o bc ⟨_,_,_,rfl⟩ e1 hb0 e3 (m2 o e1) (fun _ _=>?_)
           exact ⟨cap - a,by rw [h1,Nat.add_mul],by omega⟩
       ·cases e
      ·cases e
     ·cases e
    ·cases e
   ·cases e
  ·cases e
 ·cases e
theorem foldl_set (l:List Value):∀ (i off:Nat) (cs:Array Value),off+i+l.length≤cs.size →
  ((l.zipIdx i).foldl (fun cs (x:Value × Nat)=>cs.setIfInBounds (off+x.2) x.1) cs).size=cs.size ∧
  ∀ k,((l.zipIdx i).foldl (fun cs (x:Value × Nat)=>cs.setIfInBounds (off+x.2) x.1) cs)[k]?=if off+i≤k∧k<off+i+l.length then l[k - (off+i)]? else cs[k]?:=by
 induction l with
 | nil=>intro i off cs _;exact ⟨rfl,fun k=>by rw [if_neg (by simp only [List.length_nil];omega)];rfl⟩
 | cons v r ih=>
  intro i off cs hl
  simp only [List.length_cons] at hl
  obtain ⟨h1,h2⟩:=ih (i+1) off (cs.setIfInBounds (off+i) v) (by simp;omega)
  refine ⟨by simpa [List.zipIdx_cons] using h1,fun k=>?_⟩
  rw [List.zipIdx_cons,List.foldl_cons,h2 k]
  by_cases hA:off+i=k
  ·subst hA
   rw [if_neg (by omega),if_pos (by simp only [List.length_cons];omega)]
   rw [Array.getElem?_setIfInBounds_self_of_lt (by omega)]
   simp
  ·by_cases hB:off+(i+1)≤k∧k<off+(i+1)+r.length
   ·rw [if_pos hB,if_pos (by simp only [List.length_cons];omega)]
    obtain ⟨m,hm⟩:∃ m,k - (off+i)=m+1:=⟨k - (off+i) - 1,by omega⟩
    rw [hm,List.getElem?_cons_succ]
    congr 1
    omega
   ·rw [if_neg hB,if_neg (by simp only [List.length_cons];omega),Array.getElem?_setIfInBounds_ne hA]
theorem fill_one (v:Value) (off:Nat) (cs:Array Value) (hl:off+v.cells.size≤cs.size) :
  (v.cells.zipIdx.foldl (fun cs (x:Value × Nat)=>cs.setIfInBounds (off+x.2) x.1) cs).size=cs.size ∧
  ∀ k,(v.cells.zipIdx.foldl (fun cs (x:Value × Nat)=>cs.setIfInBounds (off+x.2) x.1) cs)[k]?=if off≤k∧k<off+v.cells.size then v.cells[k - off]? else cs[k]?:=by
 have:=foldl_set v.cells.toList 0 off cs (by simpa using hl)
 simp only [Nat.add_zero,Array.length_toList,Array.getElem?_toList] at this
 rw [← Array.foldl_toList,Array.toList_zipIdx]
 exact this
def PartsR (w:World) (A:Nat→Prop) (β:List (Nat × Nat)) (h:AHeap) (vs:List (Nat × Value)) (ps:List (Nat × PV)):Prop:=
 vs.length=ps.length∧∀ (k:Nat) (x:Nat × PV),ps[k]?=some x→∃ v:Value,vs[k]?=some (x.1,v)∧VRel w A β h v x.2
theorem PartsR.nil_inv {A:Nat→Prop} {vs:List (Nat × Value)} (r:PartsR w A β h vs []):vs=[]:=List.eq_nil_of_length_eq_zero r.1
theorem PartsR.cons_inv {A:Nat→Prop} {vs:List (Nat × Value)} {x:Nat × PV} {ps:List (Nat × PV)} (r:PartsR w A β h vs (x::ps)):∃ v vs',vs=(x.1,v)::vs'∧VRel w A β h v x.2∧PartsR w A β h vs' ps:=by
 obtain ⟨h1,h2⟩:=r
 obtain ⟨v,h3,h4⟩:=h2 0 x rfl
 match vs,h1,h3 with
 | y::vs',h1,h3=>
  simp at h3
  subst h3
  exact ⟨v,vs',rfl,h4,by simpa using h1,fun k x hx=>by simpa using h2 (k+1) x (by simpa using hx)⟩
def CellsR (w:World) (A:Nat→Prop) (β:List (Nat × Nat)) (h:AHeap) (cs:Array Value) (ps:List PV):Prop:=
 cs.size=ps.length∧∀ (k:Nat) (q:PV),ps[k]?=some q→∃ u:Value,cs[k]?=some u∧VRel w A β h u q
theorem fill_run {A:Nat→Prop} {pl:Nat→Option (Nat × Nat)} {pl':Nat→Option (Nat × Nat)} (hpl:∀ i x,pl i=some x→pl' i=some x):∀ (ps:List (Nat × PV)) (vs:List (Nat × Value)) (cs:Array Value) (cps r:List PV),
  PartsR w A β h vs ps→CellsR w A β h cs cps→fillP pl cps ps=some r→∃ cs',Instr.fill pl' cs vs=some cs'∧CellsR w A β h cs' r:=by
 intro ps
 induction ps with
 | nil=>
  intro vs cs cps r hp hc e
  obtain rfl:=hp.nil_inv
  simp [fillP] at e
  subst e
  exact ⟨cs,by simp [Instr.fill],hc⟩
 | cons x ps ih=>
  intro vs cs cps r hp hc e
  obtain ⟨v,vs',rfl,h1,h2⟩:=hp.cons_inv
  obtain ⟨i,p⟩:=x
  simp only [fillP] at e
  split at e
  ·cases e
  ·rename_i off size hi
   split at e
   ·rename_i hcc
    obtain ⟨c1,c2,c3⟩:=hcc
    obtain ⟨x1,x2⟩:=h1.cells c2
    simp only at x1 x2 c1
    have hsz:=hc.1
    obtain ⟨f1,f2⟩:=fill_one v off cs (by omega)
    obtain ⟨cs',g1,g2⟩:=ih vs' _ (setRange cps off (Pm.cells p)) r h2 (by
     refine ⟨by rw [f1];simp [setRange];omega,fun k q hq=>?_⟩
     rw [setRange,splice_get _ _ _ _ (by omega)] at hq
     rw [f2 k]
     by_cases hA:k<off
     ·rw [if_pos hA] at hq
      obtain ⟨u,m1,m2⟩:=hc.2 k q hq
      exact ⟨u,by rw [if_neg (by omega)];exact m1,m2⟩
     ·rw [if_neg hA] at hq
      by_cases hB:k<off+(Pm.cells p).length
      ·rw [if_pos hB] at hq
       obtain ⟨u,m1,m2,_⟩:=x2 _ q hq
       exact ⟨u,by rw [if_pos (by omega)];exact m1,m2⟩
      ·rw [if_neg hB] at hq
       obtain ⟨u,m1,m2⟩:=hc.2 k q hq
       exact ⟨u,by rw [if_neg (by omega)];exact m1,m2⟩) e
    refine ⟨cs',?_,g2⟩
    simp only [Instr.fill,hpl i _ hi]
    rw [if_neg (by simp;omega)]
    exact g1
   ·cases e
theorem mapM_places (fs:Array Field) (hall:fs.toList.all (fun f=>(tsize P f.type).isSome)=true) (w:World) :
  ∃ pl:Array (Nat × Nat),(fs.mapM (fun f=>do pure (f.offset,← sizeOf f.type)):Sem (Array (Nat × Nat))).run P w=.ok pl w∧∀ i x,fieldPlaces P fs i=some x→pl[i]?=some x:=by
 have main:∀ (l:List Field),l.all (fun f=>(tsize P f.type).isSome)=true →
   ∃ pl:List (Nat × Nat),(l.mapM (fun f=>do pure (f.offset,← sizeOf f.type)):Sem (List (Nat × Nat))).run P w=.ok pl w∧∀ (i:Nat) (f:Field),l[i]?=some f→∃ s,tsize P f.type=some s∧pl[i]?=some (f.offset,s):=by
  intro l
  induction l with
  | nil=>intro _;exact ⟨[],by simp,fun i f hf=>by simp at hf⟩
  | cons f r ih=>
   intro ha
   simp at ha
   obtain ⟨s,hs⟩:=Option.isSome_iff_exists.1 ha.1
   obtain ⟨pl,h1,h2⟩:=ih (by simpa using ha.2)
   refine ⟨(f.offset,s)::pl,?_,fun i g hg=>?_⟩
   ·simp only [List.mapM_cons,Sem.run_bind,tsize_run hs,Result.andThen_ok,Sem.run_pure,h1]
   ·cases i with
    | zero=>simp at hg;subst hg;exact ⟨s,hs,rfl⟩
    | succ i=>simpa using h2 i g (by simpa using hg)
 obtain ⟨pl,h1,h2⟩:=main fs.toList hall
 refine ⟨pl.toArray,?_,fun i x hx=>?_⟩
 ·rw [← Array.toArray_toList (xs:=fs),List.mapM_toArray]
  simp only [Sem.run_map,h1,Result.andThen_ok]
 ·unfold fieldPlaces at hx
  split at hx
  ·rename_i f hf
   obtain ⟨s,g1,g2⟩:=h2 i f (by simpa using hf)
   rw [g1] at hx
   simp at hx
   subst hx
   simpa using g2
  ·cases hx
theorem CellsR.agg {A:Nat→Prop} {cs:Array Value} {ps:List PV} (r:CellsR w A β h cs ps):VRel w A β h (.agg cs) (.agg ps):=by
 have:=VRel.agg (w:=w) (A:=A) (β:=β) (h:=h) cs.toList ps (by simpa using r.1) (fun j hj=>by
  obtain ⟨u,m1,m2⟩:=r.2 j ps[j] (List.getElem?_eq_getElem hj)
  have e1:cs.toList.getD j Go.undef=u:=by simp [List.getD,m1]
  have e2:ps.getD j .any=ps[j]:=by simp [List.getD,hj]
  rw [e1,e2]
  exact m2)
 simpa using this
theorem zero_cellsR {A:Nat→Prop} {t:TypeId} {z:PV} (e:tzero P t=some z) (h1:(Pm.cells z).all oneC=true) (w:World) (β:List (Nat × Nat)) (h:AHeap):∃ v,(∀ w,(zeroValue t).run P w=.ok v w)∧CellsR w A β h v.cells (Pm.cells z):=by
 obtain ⟨v,z1,z2⟩:=tzero_run2 (P:=P) e
 obtain ⟨x1,x2⟩:=(z2 w A β h).cells h1
 exact ⟨v,z1,x1,fun k q hq=>by obtain ⟨u,m1,m2,_⟩:=x2 k q hq;exact ⟨u,m1,m2⟩⟩
theorem build_run {A:Nat→Prop} {t:TypeId} {vs:Array (Nat × Value)} {ps:List (Nat × PV)} {r:PV} (hp:PartsR w A β h vs.toList ps) (e:buildP P t ps=some r) :
  ∃ u,(Instr.build t vs).run P w=.ok u w∧VRel w A β h u r:=by
 unfold buildP at e
 split at e
 ·rename_i z fs hz hu
  split at e
  ·rename_i hall
   obtain ⟨hall,hone⟩:=hall
   cases hf:fillP (fieldPlaces P fs) (Pm.cells z) ps with
   | none=>rw [hf] at e;simp at e
   | some q=>
    rw [hf] at e
    simp at e
    subst e
    obtain ⟨v,z1,z2⟩:=zero_cellsR (P:=P) (A:=A) hz hone w β h
    obtain ⟨pl,p1,p2⟩:=mapM_places fs hall w
    obtain ⟨cs',g1,g2⟩:=fill_run (pl':=fun i=>pl[i]?) p2 ps vs.toList v.cells (Pm.cells z) q hp z2 hf
    refine ⟨.agg cs',?_,g2.agg⟩
    simp only [Instr.build,Sem.run_bind,z1,Result.andThen_ok,und_run hu,p1,g1,Sem.run_pure]
  ·cases e
 ·rename_i z n el hz hu
  split at e
  ·rename_i size hs
   split at e
   ·rename_i hone
    cases hf:fillP (fun i=>some (i * size,size)) (Pm.cells z) ps with
    | none=>rw [hf] at e;simp at e
    | some q=>
     rw [hf] at e
     simp at e
     subst e
     obtain ⟨v,z1,z2⟩:=zero_cellsR (P:=P) (A:=A) hz hone w β h
     obtain ⟨cs',g1,g2⟩:=fill_run (pl':=fun i=>some (i * size,size)) (fun _ _ hx=>hx) ps vs.toList v.cells (Pm.cells z) q hp z2 hf
     refine ⟨.agg cs',?_,g2.agg⟩
     simp only [Instr.build,Sem.run_bind,z1,Result.andThen_ok,und_run hu,tsize_run hs,g1,Sem.run_pure]
   ·cases e
  ·cases e
 ·cases e
theorem Flat.set {A:Nat→Prop} {sz:Nat} {cs cs':Array Value} {es:List PV} (a:Flat w A β h sz cs.toList es) {v:Value} {p:PV} (hv:VRel w A β h v p) (h1:(Pm.cells p).length=sz) (h2:(Pm.cells p).all oneC=true)
  (i:Nat) (hi:i<es.length) (hsz:cs'.size=cs.size) (hk:∀ k,cs'[k]?=if i * sz≤k∧k<i * sz+v.cells.size then v.cells[k - i * sz]? else cs[k]?):Flat w A β h sz cs'.toList (es.set i p):=by
 obtain ⟨x1,x2⟩:=hv.cells h2
 refine ⟨by have:=a.1;simp at this ⊢;omega,fun k e he=>?_⟩
 by_cases hki:k=i
 ·subst hki
  rw [List.getElem?_set_self hi] at he
  obtain rfl:=Option.some.inj he
  refine ⟨h1,fun j q hq=>?_⟩
  have hj:=lt_of_some hq
  obtain ⟨u,m1,m2,_⟩:=x2 j q hq
  refine ⟨u,?_,m2⟩
  rw [Array.getElem?_toList,hk,if_pos (by omega),show k * sz+j - k * sz=j by omega]
  exact m1
 ·rw [List.getElem?_set_ne (Ne.symm hki)] at he
  obtain ⟨n1,n2⟩:=a.2 k e he
  refine ⟨n1,fun j q hq=>?_⟩
  have hj:=lt_of_some hq
  obtain ⟨u,m1,m2⟩:=n2 j q hq
  refine ⟨u,?_,m2⟩
  rw [Array.getElem?_toList,hk,if_neg]
  ·simpa using m1
  ·rcases Nat.lt_or_gt_of_ne hki with hl | hg
   ·have:=mul_lt (s:=sz) hl;omega
   ·have:=mul_lt (s:=sz) hg;omega
theorem fill_flat {A:Nat→Prop} {sz:Nat}:∀ (ps:List (Nat × PV)) (vs:List (Nat × Value)) (cs:Array Value) (es:List PV),PartsR w A β h vs ps→Flat w A β h sz cs.toList es →
  (∀ x∈ps,(Pm.cells x.2).length=sz∧(Pm.cells x.2).all oneC=true∧x.1<es.length) →
  ∃ cs',Instr.fill (fun i=>some (i * sz,sz)) cs vs=some cs'∧Flat w A β h sz cs'.toList (ps.foldl (fun es x=>es.set x.1 x.2) es):=by
 intro ps
 induction ps with
 | nil=>
  intro vs cs es hp hf _
  obtain rfl:=hp.nil_inv
  exact ⟨cs,by simp [Instr.fill],hf⟩
 | cons x ps ih=>
  intro vs cs es hp hf hall
  obtain ⟨v,vs',rfl,h1,h2⟩:=hp.cons_inv
  obtain ⟨c1,c2,c3⟩:=hall x (by simp)
  obtain ⟨x1,_⟩:=h1.cells c2
  have hl:=hf.1
  have hm:=mul_lt (s:=sz) c3
  simp at hl
  obtain ⟨f1,f2⟩:=fill_one v (x.1 * sz) cs (by omega)
  have hf':=hf.set h1 c1 c2 x.1 c3 f1 f2
  obtain ⟨cs',g1,g2⟩:=ih vs' _ _ h2 hf' (fun y hy=>by
   obtain ⟨d1,d2,d3⟩:=hall y (by simp [hy])
   exact ⟨d1,d2,by simpa using d3⟩)
  refine ⟨cs',?_,g2⟩
  simp only [Instr.fill]
  rw [if_neg (by simp;omega)]
  exact g1
theorem Flat.snap {A:Nat→Prop} {sz:Nat} {cs:List Value} {es:List PV} (a:Flat w A β h sz cs es) (hs:0<sz) (hv:isVals es=true) {w':World} {A':Nat→Prop} {b cap:Nat} {full:Bool}
  (hw:∀ k,k<w.heap.size→¬ A k→w'.heap[k]?=w.heap[k]?) (hA:∀ k,k<w.heap.size→¬ A k→¬ A' k) (hb:¬ A' b) (hc:∀ (k:Nat) (u:Value),cs[k]?=some u→w'.cell? ⟨b,k,none⟩=some u) (hcap:es.length≤cap) (hfull:full=true→cap=es.length) :
  SRel w' A' (.slice (some ⟨b,0,none⟩) es.length cap) (.snap full es):=by
 by_cases hn:es=[]
 ·subst hn
  exact .snapE _ _ _ (fun hh=>by simpa using hfull hh)
 ·have isv:∀ (l:List PV),isVals l=true→∀ e∈l,isVal e=true:=by
   intro l
   induction l with
   | nil=>intro _ e he;cases he
   | cons c r ih=>
    intro hl e he
    simp [isVals] at hl
    rcases List.mem_cons.1 he with rfl | he
    ·exact hl.1
    ·exact ih hl.2 e he
  have celv:∀ (e:PV),isVal e=true→∀ q∈Pm.cells e,isVal q=true:=by
   intro e he q hq
   cases e <;> first
    | (simp only [Pm.cells,List.mem_singleton] at hq;subst hq;exact he)
    | (simp [isVal] at he;exact isv _ he q hq)
  have at_:∀ i j,i<es.length→j<sz→∃ u,cs[i * sz+j]?=some u∧SRel w A u ((Pm.cells (es.getD i .any)).getD j .any):=by
   intro i j hi hj
   have he:=List.getElem?_eq_getElem hi
   obtain ⟨n1,n2⟩:=a.2 i _ he
   have hq:=List.getElem?_eq_getElem (show j<(Pm.cells es[i]).length by omega)
   obtain ⟨u,m1,m2⟩:=n2 j _ hq
   have e1:es.getD i .any=es[i]:=by simp [List.getD,hi]
   refine ⟨u,m1,?_⟩
   rw [e1]
   have e2:(Pm.cells es[i]).getD j .any=(Pm.cells es[i])[j]'(by omega):=by simp [List.getD,hq]
   rw [e2]
   exact m2.toS (celv _ (isv es hv _ (List.getElem_mem hi)) _ (List.getElem_mem _))
  refine .snap b 0 cap sz full es (fun i j=>cs.getD (i * sz+j) Go.undef) hn hcap hfull hb hs (fun i hi=>?_) (fun i j hi hj=>?_) (fun i j hi hj=>?_)
  ·have e1:es.getD i .any=es[i]:=by simp [List.getD,hi]
   rw [e1];exact (a.2 i _ (List.getElem?_eq_getElem hi)).1
  ·obtain ⟨u,m1,m2⟩:=at_ i j hi hj
   rw [Nat.zero_add,hc _ u m1]
   simp [List.getD,m1]
  ·obtain ⟨u,m1,m2⟩:=at_ i j hi hj
   have:cs.getD (i * sz+j) Go.undef=u:=by simp [List.getD,m1]
   rw [this]
   exact m2.mono hw hA
theorem buildSlice_run (H:HRel w F β h) {lv:Nat} {t:TypeId} {n:Nat} {vs:Array (Nat × Value)} {ps:List (Nat × PV)} {r:PV} {h':AHeap} (hp:PartsR w (Av F h β) β h vs.toList ps) (e:buildSliceP P lv h t n ps=some (r,h')) :
  Sim P lv w F β h (Instr.buildSlice t n vs) r h':=by
 unfold buildSliceP at e
 split at e
 ·rename_i el hu
  split at e
  ·rename_i size z hs hz
   split at e
   ·rename_i hc
    obtain ⟨hpos,hbig,hz1,hz2,hall⟩:=hc
    obtain ⟨vz,z1,z2⟩:=tzero_run2 (P:=P) hz
    obtain ⟨s1,s2⟩:=zero_flat (z2 w (Av F h β) β h) hz1 hz2 hpos n
    obtain ⟨cs',g1,g2⟩:=fill_flat (sz:=size) ps vs.toList (List.map (fun i=>vz.cells[i % vz.cells.size]!) (List.range (n * size))).toArray (List.replicate n z) hp (by simpa using s2) (fun x hx=>by
     have:=List.all_eq_true.1 hall x hx
     simp only [Bool.and_eq_true,decide_eq_true_eq] at this
     exact ⟨this.1.1,this.1.2,by simpa using this.2⟩)
    have hlit:ps.foldl (fun es x=>es.set x.1 x.2) (List.replicate n z)=litP z n ps:=rfl
    rw [hlit] at g2
    have hll:(litP z n ps).length=n:=by
     have:∀ (l:List (Nat × PV)) (es:List PV),(l.foldl (fun es x=>es.set x.1 x.2) es).length=es.length:=by
      intro l
      induction l with
      | nil=>intro es;rfl
      | cons x l ih=>intro es;rw [List.foldl_cons,ih];simp
     unfold litP
     rw [this];simp
    have hrun:(Instr.buildSlice t n vs).run P w=.ok (.slice (some ⟨w.heap.size,0,none⟩) n n) (w.alloc (.cells cs' el)):=by
     simp only [Instr.buildSlice,Sem.run_bind,und_run hu,Result.andThen_ok,tsize_run hs,Sem.run_ite]
     rw [if_neg (by omega)]
     by_cases h0:n * size=0
     ·have hnn:n=0:=by
       rcases Nat.mul_eq_zero.1 h0 with h | h
       ·exact h
       ·omega
      subst hnn
      simp only [h0,if_true,Sem.run_pure,Result.andThen_ok,range_toList,List.range_zero,List.map_nil] at g1 ⊢
      rw [g1]
      simp only [Sem.run_bind,newRow,run_newObj,Result.andThen_ok,Sem.run_pure]
      rfl
     ·simp only [h0,if_false,z1,Result.andThen_ok,Sem.run_pure,range_toList]
      rw [g1]
      simp only [Sem.run_bind,newRow,run_newObj,Result.andThen_ok,Sem.run_pure]
      rfl
    split at e
    ·rename_i hv
     obtain ⟨rfl,rfl⟩:=Prod.mk.inj (Option.some.inj e)
     refine ⟨_,_,β,hrun,.val ?_,H.grew (Grew.alloc w _),(Grew.alloc w _).stp h β,fun _=>Grew.alloc w _⟩
     have:=g2.snap (w':=w.alloc (.cells cs' el)) (A':=Av F h β) (b:=w.heap.size) (cap:=n) (full:=true) hpos hv (fun k hk _=>heap_alloc_old w _ k hk) (fun k _ hk=>hk)
      (fun hm=>by have:=Av.lt H hm;omega) (fun k u hku=>by rw [World.cell?_alloc_new];simpa using hku) (by omega) (fun _=>by omega)
     rwa [hll] at this
    ·rename_i hv
     split at e
     ·obtain ⟨rfl,rfl⟩:=Prod.mk.inj (Option.some.inj e)
      obtain ⟨HH,S⟩:=HRel.new H (w':=w.alloc (.cells cs' el)) el cs' { mu:=.m,ep:=0,esz:=size,es:=litP z n ps } n rfl rfl rfl rfl rfl (by simp [hll])
       (by have:=g2.1;simp [hll] at this;simp [this]) hpos (fun i e he=>by
        obtain ⟨n1,n2⟩:=g2.2 i e he
        exact ⟨n1,fun j p hp=>by obtain ⟨u,m1,m2⟩:=n2 j p hp;exact ⟨u,by simpa using m1,m2⟩⟩)
      exact ⟨_,_,_,hrun,H.mrefNew,HH,S,fun _=>Grew.alloc w _⟩
     ·cases e
   ·cases e
  ·cases e
 ·cases e
end Go.Pm
end
section
namespace Go.Pm
variable {P:Program} {w:World} {F:Nat→Prop} {β:List (Nat × Nat)} {h:AHeap}
open Go.MapKept
theorem keyD_is {A:Nat→Prop} {t:TypeId} {k:PV} {v:Value} (hk:keyD P t k=true) (hv:VRel w A β h v k):∃ d,P.underlying t=some d∧IsKey d v∧∀ (k':PV) (v':Value) (b:Bool),sameK k k'=some b→VRel w A β h v' k'→Instr.sameNow d v v'=some b∧(b=true→Instr.sameBits 10000 v' v=true∧VRel w A β h v k'):=by
 unfold keyD at hk
 split at hk
 ·rename_i kd k n hu
  obtain rfl:=hv.int_inv
  have hk:=of_decide_eq_true hk
  refine ⟨_,hu,by simpa [IsKey] using hk,fun k' v' b hs hv'=>?_⟩
  cases k' <;> simp only [sameK] at hs <;> try (cases hs;done)
  obtain rfl:=hv'.int_inv
  split at hs
  ·rename_i hkk
   subst hkk
   obtain rfl:=Option.some.inj hs
   refine ⟨by simp [Instr.sameNow],fun hb=>?_⟩
   have:=eq_of_beq hb
   subst this
   exact ⟨by simp [Instr.sameBits],hv⟩
  ·cases hs
 ·rename_i s hu
  obtain rfl:=hv.str_inv
  refine ⟨_,hu,by simp [IsKey],fun k' v' b hs hv'=>?_⟩
  cases k' <;> simp only [sameK] at hs <;> try (cases hs;done)
  obtain rfl:=hv'.str_inv
  obtain rfl:=Option.some.inj hs
  refine ⟨by simp [Instr.sameNow],fun hb=>?_⟩
  have:=(bytes_beq _ _).1 hb
  subst this
  exact ⟨by simp only [Instr.sameBits];exact hb,hv⟩
 ·rename_i b hu
  obtain rfl:=hv.bool_inv
  refine ⟨_,hu,by simp [IsKey],fun k' v' b hs hv'=>?_⟩
  cases k' <;> simp only [sameK] at hs <;> try (cases hs;done)
  obtain rfl:=hv'.bool_inv
  obtain rfl:=Option.some.inj hs
  refine ⟨by simp [Instr.sameNow],fun hb=>?_⟩
  have:=eq_of_beq hb
  subst this
  exact ⟨by simp [Instr.sameBits],hv⟩
 ·cases hk
def EsR (w:World) (A:Nat→Prop) (β:List (Nat × Nat)) (h:AHeap) (l:List MapEntry) (ps:List PV):Prop:=
 l.length=ps.length∧∀ (i:Nat) (e:PV),ps[i]?=some e→∃ (k v:PV) (m:MapEntry),e=.agg [k,v]∧l[i]?=some m∧VRel w A β h m.key k∧VRel w A β h m.val v
theorem find_sim {A:Nat→Prop} {d:TypeDesc} {k:PV} {v:Value} (hs:∀ (k':PV) (v':Value) (b:Bool),sameK k k'=some b→VRel w A β h v' k'→Instr.sameNow d v v'=some b∧(b=true→Instr.sameBits 10000 v' v=true∧VRel w A β h v k')) :
  ∀ (l:List MapEntry) (ps:List PV) (n:Nat) (r:Option (Nat × PV)),EsR w A β h l ps→findP k ps n=some r →
   match r with
   | none=>Instr.findNow d v l n=some none
   | some (j,p)=>∃ (i:Nat) (m:MapEntry) (k':PV),j=n+i∧l[i]?=some m∧ps[i]?=some (.agg [k',p])∧Instr.findNow d v l n=some (some (j,m.val))∧VRel w A β h m.val p∧Instr.sameBits 10000 m.key v=true∧VRel w A β h v k'
 | [],ps,n,r,hR,e=>by
  obtain ⟨h1,_⟩:=hR
  have:ps=[]:=List.length_eq_zero_iff.1 h1.symm
  subst this
  simp only [findP] at e
  obtain rfl:=Option.some.inj e
  rfl
 | m::l,[],n,r,hR,e=>by
  obtain ⟨h1,_⟩:=hR
  simp at h1
 | m::l,p0::ps,n,r,hR,e=>by
  obtain ⟨h1,h2⟩:=hR
  obtain ⟨k0,v0,m0,rfl,hm,hk0,hv0⟩:=h2 0 p0 rfl
  simp at hm
  subst hm
  have hT:EsR w A β h l ps:=⟨by simpa using h1,fun i e he=>by
   obtain ⟨k1,v1,m1,g1,g2,g3⟩:=h2 (i+1) e (by simpa using he)
   exact ⟨k1,v1,m1,g1,by simpa using g2,g3⟩⟩
  simp only [findP] at e
  split at e
  ·rename_i hsk
   obtain rfl:=Option.some.inj e
   obtain ⟨q1,q2⟩:=hs k0 m.key true hsk hk0
   obtain ⟨q3,q4⟩:=q2 rfl
   exact ⟨0,m,k0,rfl,rfl,rfl,by simp [Instr.findNow,q1],hv0,q3,q4⟩
  ·rename_i hsk
   obtain ⟨q1,_⟩:=hs k0 m.key false hsk hk0
   have:=find_sim hs l ps (n+1) r hT e
   have hf:Instr.findNow d v (m::l) n=Instr.findNow d v l (n+1):=by simp [Instr.findNow,q1]
   cases r with
   | none=>simpa [hf] using this
   | some jp=>
    obtain ⟨j,p⟩:=jp
    obtain ⟨i,m1,k1,g1,g2,g3,g4,g5⟩:=this
    exact ⟨i+1,m1,k1,by omega,by simpa using g2,by simpa using g3,by rw [hf];exact g4,g5⟩
  ·cases e
theorem map_es {A:Nat→Prop} {es:Array MapEntry} {ps:List PV} (h1:es.size=ps.length) (h2:∀ (i:Nat) (e:PV),ps[i]?=some e→∃ (k v:PV) (m:MapEntry),e=.agg [k,v]∧es[i]?=some m∧VRel w A β h m.key k∧VRel w A β h m.val v) :
  EsR w A β h es.toList ps:=⟨by simpa using h1,fun i e he=>by
 obtain ⟨k,v,m,g1,g2,g3⟩:=h2 i e he
 exact ⟨k,v,m,g1,by simpa using g2,g3⟩⟩
theorem lookup_run (H:HRel w F β h) {vm vk:Value} {m k q:PV} {t:TypeId} {ok:Bool} (hm:VRel w (Av F h β) β h vm m) (hk:VRel w (Av F h β) β h vk k) (e:lookupP P h t m k ok=some q) :
  ∃ u,(Instr.lookup t vm vk ok).run P w=.ok u w∧VRel w (Av F h β) β h u q:=by
 unfold lookupP at e
 split at e
 ·rename_i kt et hu
  split at e
  ·rename_i z hz
   split at e
   ·rename_i hkd
    obtain ⟨d,hd,hik,hsame⟩:=keyD_is hkd hk
    obtain ⟨vz,z1,z2⟩:=tzero_run hz w (Av F h β) β h
    have res:∀ {u:Value} {p:PV} (b:Bool),VRel w (Av F h β) β h u p→VRel w (Av F h β) β h (if ok then .tuple #[u,.bool b] else u) (lookupRes ok p b):=by
     intro u p b hr
     unfold lookupRes
     cases ok
     ·exact hr
     ·exact .tup [u,.bool b] [p,.bool b] rfl (fun j hj=>by
       match j,hj with
       | 0,_=>exact hr
       | 1,_=>exact .val (.bool b))
    split at e
    ·obtain rfl:=Option.some.inj e
     obtain rfl:=hm.nilm_inv
     refine ⟨_,?_,res false z2⟩
     simp only [Instr.lookup,Sem.run_bind,und_run hu,Result.andThen_ok,Sem.run_pure,run_checkKey hd hik,run_findKey (l:=(#[]:Array MapEntry).toList) hd (a:=none) rfl,z1]
    ·rename_i id
     split at e
     ·rename_i o ho
      obtain ⟨bc,es,clock,rfl,k2,k3,k4⟩:=map_at H hm ho
      have hE:=map_es k3 k4
      split at e
      ·rename_i j p hf
       obtain rfl:=Option.some.inj e
       obtain ⟨i,me,k',g1,g2,g3,g4,g5,g6⟩:=find_sim hsame es.toList o.es 0 _ hE hf
       refine ⟨_,?_,res true g5⟩
       simp only [Instr.lookup,Sem.run_bind,und_run hu,Result.andThen_ok,Sem.run_pure,getObj_run k2,run_checkKey hd hik,run_findKey hd g4]
      ·rename_i hf
       obtain rfl:=Option.some.inj e
       have g4:=find_sim hsame es.toList o.es 0 _ hE hf
       refine ⟨_,?_,res false z2⟩
       simp only [Instr.lookup,Sem.run_bind,und_run hu,Result.andThen_ok,Sem.run_pure,getObj_run k2,run_checkKey hd hik,run_findKey hd g4,z1]
      ·cases e
     ·cases e
    ·cases e
   ·cases e
  ·cases e
 ·cases e
theorem makeMap_run {lv:Nat} (H:HRel w F β h) {t:TypeId} {r:Option PV} {vr:Option Value} (hr:OpR w (Av F h β) β h vr r) {p:PV} {h':AHeap} (e:makeMapP P lv h t r=some (p,h')):Sim P lv w F β h (Instr.makeMap t vr) p h':=by
 obtain ⟨H1,S1⟩:=H.newMap
 have hv:VRel (w.alloc (.map #[] 0)) (Av F (newObj h 0 []) (β++[(w.heap.size,0)])) (β++[(w.heap.size,0)]) (newObj h 0 []) (.map (some w.heap.size)) (.mapr h.length):=
  .mapr _ _ { mu:=.m,ep:=0,esz:=0,es:=[] } (w.heap.size,0) ⟨_,rfl⟩ (by simp [newObj]) (by rw [← H.len];simp) (by simp) (fun _=>rfl)
 unfold makeMapP at e
 split at e
 ·split at e
  ·obtain ⟨rfl,rfl⟩:=Prod.mk.inj (Option.some.inj e)
   cases vr with
   | some v=>exact hr.elim
   | none=>exact ⟨_,_,_,rfl,hv,H1,S1,fun _=>Grew.alloc w _⟩
  ·rename_i k n kt et hu
   obtain ⟨rfl,rfl⟩:=Prod.mk.inj (Option.some.inj e)
   cases vr with
   | none=>exact hr.elim
   | some v=>
    obtain rfl:=VRel.int_inv hr
    refine ⟨_,_,_,?_,hv,H1,S1,fun _=>Grew.alloc w _⟩
    simp [Instr.makeMap,und_run hu,asInt,asIntOf]
  ·cases e
 ·cases e
theorem update_run (H:HRel w F β h) {vm vk vx:Value} {m k x:PV} {t:TypeId} {h':AHeap} (hm:VRel w (Av F h β) β h vm m) (hk:VRel w (Av F h β) β h vk k) (hx:VRel w (Av F h β) β h vx x) (e:updateP P h t m k x=some h') :
  ∃ w' β',(Instr.mapUpdate t vm vk vx).run P w=.ok () w'∧HRel w' F β' h'∧Stp w h β w' h' β':=by
 unfold updateP at e
 split at e
 ·rename_i kt et id hu
  split at e
  ·rename_i o ho
   split at e
   ·rename_i hc
    obtain ⟨hkd,hmu⟩:=hc
    obtain ⟨e1,e2,e3,e4⟩:=mapO_some ho
    obtain ⟨bc,hb⟩:=beta_at H.len e1
    obtain ⟨_,es,clock,k2,k3,k4⟩:=(H.obj id o bc e1 hb e3).m e4
    obtain rfl:=hm.mapr_inv e1 hb e2
    have hE:=map_es k3 k4
    obtain ⟨d,hd,hik,hsame⟩:=keyD_is hkd hk
    have hlt:=(Array.getElem?_eq_some_iff.1 k2).1
    have hβ:β=β.set id bc:=by
     apply List.ext_getElem?
     intro j
     by_cases hj:j=id
     ·subst hj;rw [List.getElem?_set_self (by have:=H.len;have:=lt_of_some e1;omega)];exact hb
     ·rw [List.getElem?_set_ne (Ne.symm hj)]
    have fin:∀ (es2:Array MapEntry) (clock2:Nat) (ps:List PV),EsR w (Av F h β) β h es2.toList ps →
      HRel {w with heap:=w.heap.setIfInBounds bc.1 (.map es2 clock2) } F β (h.set id {o with es:=ps })∧Stp w h β {w with heap:=w.heap.setIfInBounds bc.1 (.map es2 clock2) } (h.set id {o with es:=ps }) β:=by
     intro es2 clock2 ps hR
     have hat:({w with heap:=w.heap.setIfInBounds bc.1 (.map es2 clock2) }:World).heap[bc.1]?=some (.map es2 clock2):=by
      simp [hlt]
     have:=HRel.setG H e1 hb hmu (w':={w with heap:=w.heap.setIfInBounds bc.1 (.map es2 clock2) }) ps o.ep bc (by simp) (fun b hb2 hne=>by
      simp only [Array.getElem?_setIfInBounds];rw [if_neg (Ne.symm hne)]) (.inl ⟨rfl,fun _=>.inr e4⟩) (Nat.le_refl _) rfl rfl rfl (fun hs=>.inr ⟨e4,es2,clock2,hat,by simpa using hR.1,fun i e he=>by
       obtain ⟨k,v,m,g1,g2,g3,g4⟩:=hR.2 i e he
       exact ⟨k,v,m,g1,by simpa using g2,g3.mono hs,g4.mono hs⟩⟩)
     rw [← hβ] at this
     exact this
    unfold putP at e
    split at e
    ·rename_i es' hput
     obtain rfl:=Option.some.inj e
     split at hput
     ·rename_i j p hf
      obtain rfl:=Option.some.inj hput
      obtain ⟨i,me,k',g1,g2,g3,g4,g5,g6,g7⟩:=find_sim hsame es.toList o.es 0 _ hE hf
      obtain rfl:j=i:=by omega
      have g2':es[j]?=some me:=by simpa using g2
      obtain ⟨HH,SS⟩:=fin (es.modify j fun e=>{e with key:=vk,val:=vx }) clock (o.es.set j (.agg [k,x])) (by
       refine ⟨by simp [k3],fun i e he=>?_⟩
       by_cases hi:i=j
       ·subst hi
        rw [List.getElem?_set_self (lt_of_some g3)] at he
        obtain rfl:=Option.some.inj he
        refine ⟨k,x,{me with key:=vk,val:=vx },rfl,?_,hk,hx⟩
        rw [Array.getElem?_toList,Array.getElem?_modify,if_pos rfl,g2'];rfl
       ·rw [List.getElem?_set_ne (Ne.symm hi)] at he
        obtain ⟨k1,v1,m1,q1,q2,q3⟩:=k4 i e he
        refine ⟨k1,v1,m1,q1,?_,q3⟩
        rw [Array.getElem?_toList,Array.getElem?_modify,if_neg (Ne.symm hi)];exact q2)
      refine ⟨_,β,?_,HH,SS⟩
      simp only [Instr.mapUpdate,Sem.run_bind,und_run hu,Result.andThen_ok,getObj_run k2,run_checkKey hd hik,run_findKey hd g4,Instr.keyThatStays,g2',Option.map_some,Option.getD_some,g6,if_true,Sem.run_pure,run_setObj_map _ k2]
     ·rename_i hf
      obtain rfl:=Option.some.inj hput
      have g4:=find_sim hsame es.toList o.es 0 _ hE hf
      obtain ⟨HH,SS⟩:=fin (es.push { key:=vk,val:=vx,born:=clock }) (clock+1) (o.es++[.agg [k,x]]) (by
       refine ⟨by simp [k3],fun i e he=>?_⟩
       by_cases hi:i<o.es.length
       ·rw [List.getElem?_append_left hi] at he
        obtain ⟨k1,v1,m1,q1,q2,q3⟩:=k4 i e he
        refine ⟨k1,v1,m1,q1,?_,q3⟩
        rw [Array.getElem?_toList,Array.getElem?_push,if_neg (by omega)];exact q2
       ·have hl:=lt_of_some he
        simp at hl
        obtain rfl:i=o.es.length:=by omega
        rw [List.getElem?_append_right (Nat.le_refl _)] at he
        simp at he
        subst he
        refine ⟨k,x,{ key:=vk,val:=vx,born:=clock },rfl,?_,hk,hx⟩
        rw [Array.getElem?_toList,← k3];simp)
      refine ⟨_,β,?_,HH,SS⟩
      simp only [Instr.mapUpdate,Sem.run_bind,und_run hu,Result.andThen_ok,getObj_run k2,run_checkKey hd hik,run_findKey hd g4,run_setObj_map _ k2]
     ·cases hput
    ·cases e
   ·cases e
  ·cases e
 ·cases e
end Go.Pm
end
section
namespace Go.Pm
variable {P:Program} {w:World} {F:Nat→Prop} {β:List (Nat × Nat)} {h:AHeap}
def ERel (w:World) (A:Nat→Prop) (β:List (Nat × Nat)) (h:AHeap) (a:Act) (ρ:Nat→PV):Prop:=∀ t,VRel w A β h (a.tmps.getD t Go.undef) (ρ t)
theorem ERel.ev {A:Nat→Prop} {a:Act} {ρ:Nat→PV} (r:ERel w A β h a ρ) (x:Operand):VRel w A β h (a.eval x) (Pm.ev ρ x):=by
 cases x with
 | tmp t=>exact r t
 | const v=>exact cv_rel w A β h v
 | global g=>exact .any _
 | func f=>exact .fn f [] [] rfl (by simp)
theorem ERel.evs {A:Nat→Prop} {a:Act} {ρ:Nat→PV} (r:ERel w A β h a ρ) (xs:List Operand):L2 (VRel w A β h) (xs.map a.eval) (xs.map (Pm.ev ρ)):=by
 refine ⟨by simp,fun j hj=>?_⟩
 simp at hj
 have e1:(xs.map a.eval).getD j undef=a.eval xs[j]:=by simp [List.getD,hj]
 have e2:(xs.map (Pm.ev ρ)).getD j .any=Pm.ev ρ xs[j]:=by simp [List.getD,hj]
 rw [e1,e2]
 exact r.ev _
theorem ERel.parts {A:Nat→Prop} {a:Act} {ρ:Nat→PV} (r:ERel w A β h a ρ) (xs:Array (Nat × Operand)):PartsR w A β h (xs.map fun (i,x)=>(i,a.eval x)).toList (xs.toList.map fun (i,x)=>(i,Pm.ev ρ x)):=by
 refine ⟨by simp,fun k x hx=>?_⟩
 simp only [List.getElem?_map,Option.map_eq_some_iff] at hx
 obtain ⟨y,h1,rfl⟩:=hx
 exact ⟨a.eval y.2,by simp only [Array.toList_map,List.getElem?_map,h1];rfl,r.ev y.2⟩
theorem ERel.opt {A:Nat→Prop} {a:Act} {ρ:Nat→PV} (r:ERel w A β h a ρ) (x:Option Operand):OpR w A β h (x.map a.eval) (x.map (Pm.ev ρ)):=by
 cases x with
 | none=>trivial
 | some x=>exact r.ev x
def OSim (P:Program) (lv:Nat) (w:World) (F:Nat→Prop) (β:List (Nat × Nat)) (h:AHeap) (s:Sem Next) (p:PV) (h':AHeap):Prop:=
 ∃ v w' β',(s.run P w=.ok (.value v) w'∨(s.run P w=.ok .skip w'∧v=undef))∧VRel w' (Av F h' β') β' h' v p∧HRel w' F β' h'∧Stp w h β w' h' β'∧(lv≤1→Grew w w')
theorem Sim.o {lv:Nat} {s:Sem Value} {p:PV} {h':AHeap} (x:Sim P lv w F β h s p h'):OSim P lv w F β h (do pure (.value (← s))) p h':=by
 obtain ⟨v,w',β',h1,h2,h3,h4⟩:=x
 exact ⟨v,w',β',.inl (by simp only [Sem.run_bind,h1,Result.andThen_ok,Sem.run_pure]),h2,h3,h4⟩
theorem still_o {lv:Nat} (H:HRel w F β h) {s:Sem Value} {p:PV} (x:∃ u,s.run P w=.ok u w∧VRel w (Av F h β) β h u p):OSim P lv w F β h (do pure (.value (← s))) p h:=by
 obtain ⟨u,h1,h2⟩:=x
 exact (Sim.still H h1 h2).o
theorem map_pair {α:Type} {x:Option α} {h:AHeap} {p:α} {h':AHeap} (e:x.map (·,h)=some (p,h')):x=some p∧h'=h:=by
 cases x with
 | none=>cases e
 | some y=>simp at e;exact ⟨by rw [e.1],e.2.symm⟩
theorem stepOp_sim (H:HRel w F β h) {a:Act} {ρ:Nat→PV} (R:ERel w (Av F h β) β h a ρ) {lv:Nat} {o:Oper} {p:PV} {h':AHeap} (hc:∀ c,o.op≠.call c) (e:stepOp P lv o.op ρ h=some (p,h')) :
  OSim P lv w F β h (execOp a.eval o) p h':=by
 obtain ⟨dst,op,type,pos,after,guard⟩:=o
 simp only at e hc ⊢
 cases op <;> simp only [stepOp] at e <;> simp only [execOp]
 case move x=>
  obtain ⟨rfl,rfl⟩:=Prod.mk.inj (Option.some.inj e)
  exact ⟨_,w,β,.inl rfl,R.ev x,H,Stp.refl w h β,fun _=>Grew.refl w⟩
 case assign x=>
  obtain ⟨rfl,rfl⟩:=Prod.mk.inj (Option.some.inj e)
  exact ⟨_,w,β,.inl rfl,R.ev x,H,Stp.refl w h β,fun _=>Grew.refl w⟩
 case pick c x y=>
  split at e
  ·rename_i t ht
   obtain ⟨rfl,rfl⟩:=Prod.mk.inj (Option.some.inj e)
   have hb:=R.ev c
   rw [ht] at hb
   have:=hb.bool_inv
   refine ⟨if t then a.eval x else a.eval y,w,β,.inl ?_,?_,H,Stp.refl w h β,fun _=>Grew.refl w⟩
   ·simp only [this,asBool,Sem.run_bind,Sem.run_pure,Result.andThen_ok]
   ·cases t
    ·exact R.ev y
    ·exact R.ev x
  ·cases e
 case alloc t=>
  split at e
  ·rename_i z hz
   split at e
   ·rename_i hcc
    obtain ⟨rfl,rfl⟩:=Prod.mk.inj (Option.some.inj e)
    exact (alloc_run H t hz hcc.2.1 hcc.2.2).o
   ·cases e
  ·cases e
 case box t x=>
  split at e
  ·rename_i hcc
   obtain ⟨rfl,rfl⟩:=Prod.mk.inj (Option.some.inj e)
   exact (box_run H t (R.ev x) hcc.2.1 hcc.2.2).o
  ·cases e
 case build t ps=>
  obtain ⟨e1,rfl⟩:=map_pair e
  exact still_o H (build_run (R.parts ps) e1)
 case buildSlice t n ps=>exact (buildSlice_run H (R.parts ps) e).o
 case load t x=>
  obtain ⟨e1,rfl⟩:=map_pair e
  exact still_o H (load_run H (R.ev x) e1)
 case store t x y=>
  split at e
  ·rename_i hlv
   cases hs:storeP P h t (Pm.ev ρ x) (Pm.ev ρ y) with
   | none=>rw [hs] at e;simp at e
   | some h2=>
    rw [hs] at e
    simp at e
    obtain ⟨rfl,rfl⟩:=e
    obtain ⟨w',β',r1,r2,r3⟩:=store_run H (R.ev x) (R.ev y) hs
    exact ⟨undef,w',β',.inr ⟨by simp only [Sem.run_bind,r1,Result.andThen_ok,Sem.run_pure],rfl⟩,.undef,r2,r3,fun hh=>by omega⟩
  ·cases e
 case nilCheck x=>
  have hx:=R.ev x
  generalize a.eval x=v at hx ⊢
  split at e
  ·rename_i id ep i oo hp
   obtain ⟨rfl,rfl⟩:=Prod.mk.inj (Option.some.inj e)
   rw [hp] at hx
   cases hx with
   | val hs=>cases hs
   | ptr _ _ _ _ _ oo bc h0 h1 h2 h3 h4 h5=>
    obtain ⟨ad,rfl⟩:=h0
    exact ⟨_,w,β,.inl rfl,.ptr _ _ _ _ _ oo bc ⟨_,rfl⟩ h1 h2 h3 h4 h5,H,Stp.refl w h β,fun _=>Grew.refl w⟩
  ·rename_i cs hp
   obtain ⟨rfl,rfl⟩:=Prod.mk.inj (Option.some.inj e)
   rw [hp] at hx
   have hs:=hx.sptr_inv
   cases hs with
   | sptr=>exact ⟨_,w,β,.inl rfl,hx,H,Stp.refl w h β,fun _=>Grew.refl w⟩
  ·rename_i f cs hp
   obtain ⟨rfl,rfl⟩:=Prod.mk.inj (Option.some.inj e)
   rw [hp] at hx
   obtain ⟨vs,rfl,_⟩:=hx.fn_inv
   exact ⟨_,w,β,.inl rfl,hx,H,Stp.refl w h β,fun _=>Grew.refl w⟩
  ·cases e
 case binOp op t x y yt=>
  obtain ⟨e1,rfl⟩:=map_pair e
  exact still_o H (bin_run (R.ev x) (R.ev y) e1)
 case unOp op t x=>
  obtain ⟨e1,rfl⟩:=map_pair e
  exact still_o H (un_run (R.ev x) e1)
 case convert s d x=>
  obtain ⟨e1,rfl⟩:=map_pair e
  exact still_o H (conv_run (R.ev x) e1)
 case makeFunc fn first caps=>
  cases fn <;> simp only at e <;> try (cases e;done)
  rename_i f
  split at e
  ·rename_i hf
   obtain ⟨rfl,rfl⟩:=Prod.mk.inj (Option.some.inj e)
   obtain rfl:first = #[]:=by simpa using hf
   obtain ⟨l1,l2⟩:=R.evs caps.toList
   refine (Sim.still H (v:=.func (.func f) #[] (caps.toList.map a.eval).toArray) ?_ (.fn f _ _ l1 l2)).o
   have:caps.map a.eval=(caps.toList.map a.eval).toArray:=by apply Array.ext';simp
   simp [Instr.makeFunc,this]
  ·obtain ⟨rfl,rfl⟩:=Prod.mk.inj (Option.some.inj e)
   obtain ⟨l1,l2⟩:=R.evs (first.toList++caps.toList)
   refine (Sim.still H (v:=.func (.func f) (((first.toList++caps.toList).map a.eval).take first.size).toArray (((first.toList++caps.toList).map a.eval).drop first.size).toArray) ?_ (.bfn f first.size _ _ l1 l2)).o
   have e1:first.map a.eval=(((first.toList++caps.toList).map a.eval).take first.size).toArray:=by apply Array.ext';simp
   have e2:caps.map a.eval=(((first.toList++caps.toList).map a.eval).drop first.size).toArray:=by apply Array.ext';simp
   simp only [Instr.makeFunc,e1,e2];rfl
 case makeSlice t l c=>exact (make_run H (R.ev l) (R.ev c) e).o
 case slice t x lo hi mx=>
  obtain ⟨e1,rfl⟩:=map_pair e
  exact still_o H (slice_run H (R.ev x) (R.opt lo) (R.opt hi) (R.opt mx) e1)
 case fieldAddr s x f=>
  obtain ⟨e1,rfl⟩:=map_pair e
  exact still_o H (fieldAddr_run H (R.ev x) e1)
 case field s x f=>
  obtain ⟨e1,rfl⟩:=map_pair e
  exact still_o H (field_run (R.ev x) e1)
 case indexAddr t x ix=>
  obtain ⟨e1,rfl⟩:=map_pair e
  exact still_o H (indexAddr_run H (R.ev x) (R.ev ix) e1)
 case index t x ix=>
  obtain ⟨e1,rfl⟩:=map_pair e
  exact still_o H (index_run (R.ev x) (R.ev ix) e1)
 case makeMap t r=>exact (makeMap_run H (R.opt r) e).o
 case lookup t x k ok=>
  obtain ⟨e1,rfl⟩:=map_pair e
  exact still_o H (lookup_run H (R.ev x) (R.ev k) e1)
 case mapUpdate t m k x=>
  split at e
  ·rename_i hlv
   cases hs:updateP P h t (Pm.ev ρ m) (Pm.ev ρ k) (Pm.ev ρ x) with
   | none=>rw [hs] at e;simp at e
   | some h2=>
    rw [hs] at e
    simp at e
    obtain ⟨rfl,rfl⟩:=e
    obtain ⟨w',β',r1,r2,r3⟩:=update_run H (R.ev m) (R.ev k) (R.ev x) hs
    exact ⟨undef,w',β',.inr ⟨by simp only [Sem.run_bind,r1,Result.andThen_ok,Sem.run_pure],rfl⟩,.undef,r2,r3,fun hh=>by omega⟩
  ·cases e
 case insert t m k x=>
  split at e
  ·rename_i hlv
   cases hs:updateP P h t (Pm.ev ρ m) (Pm.ev ρ k) (Pm.ev ρ x) with
   | none=>rw [hs] at e;simp at e
   | some h2=>
    rw [hs] at e
    simp at e
    obtain ⟨rfl,rfl⟩:=e
    obtain ⟨w',β',r1,r2,r3⟩:=update_run H (R.ev m) (R.ev k) (R.ev x) hs
    exact ⟨undef,w',β',.inr ⟨by simp only [Sem.run_bind,r1,Result.andThen_ok,Sem.run_pure],rfl⟩,.undef,r2,r3,fun hh=>by omega⟩
  ·cases e
 case extract x i=>
  split at e
  ·rename_i vs hv
   split at e
   ·rename_i v hi
    obtain ⟨rfl,rfl⟩:=Prod.mk.inj (Option.some.inj e)
    have hx:=R.ev x
    rw [hv] at hx
    obtain ⟨us,hu,hl,hr⟩:=hx.tup_inv
    have hj:=lt_of_some hi
    have:=hr i hj
    have e2:vs.getD i .any=v:=by simp [List.getD,hi]
    rw [e2] at this
    refine still_o H ⟨us.getD i Go.undef,?_,this⟩
    rw [hu]
    have:i<us.length:=by omega
    simp [Instr.extract,this,List.getD]
   ·cases e
  ·cases e
 case call c=>exact absurd rfl (hc c)
 all_goals cases e
theorem builtin_sim (H:HRel w F β h) {a:Act} {ρ:Nat→PV} (R:ERel w (Av F h β) β h a ρ) {lv:Nat} {b:Builtin} {ts:Array TypeId} {ty:TypeId} {cb:Array Bool} {xs:Array Operand} {p:PV} {h':AHeap}
  (e:builtinP P lv h b ts.toList (xs.toList.map (Pm.ev ρ))=some (p,h')):OSim P lv w F β h (builtin b ts ty cb (xs.map a.eval)) p h':=by
 have ts0:∀ {t:TypeId} {r:List TypeId},ts.toList=t::r→ts[0]?=some t:=fun hh=>by rw [← Array.getElem?_toList,hh];rfl
 have ts1:∀ {t t':TypeId} {r:List TypeId},ts.toList=t::t'::r→ts[1]?=some t':=fun hh=>by rw [← Array.getElem?_toList,hh];rfl
 have xs0:∀ {p:PV} {r:List PV},xs.toList.map (Pm.ev ρ)=p::r→∃ v,(xs.map a.eval)[0]?=some v∧VRel w (Av F h β) β h v p:=fun {p r} hh=>by
  cases hx:xs.toList with
  | nil=>rw [hx] at hh;simp at hh
  | cons y ys=>
   rw [hx] at hh
   simp at hh
   refine ⟨a.eval y,?_,by rw [← hh.1];exact R.ev y⟩
   rw [← Array.getElem?_toList,Array.toList_map,hx];rfl
 have xs1:∀ {p q:PV} {r:List PV},xs.toList.map (Pm.ev ρ)=p::q::r→∃ v,(xs.map a.eval)[1]?=some v∧VRel w (Av F h β) β h v q:=fun {p q r} hh=>by
  cases hx:xs.toList with
  | nil=>rw [hx] at hh;simp at hh
  | cons y ys=>
   cases hy:ys with
   | nil=>rw [hx,hy] at hh;simp at hh
   | cons z zs=>
    rw [hx,hy] at hh
    simp at hh
    refine ⟨a.eval z,?_,by rw [← hh.2.1];exact R.ev z⟩
    rw [← Array.getElem?_toList,Array.toList_map,hx,hy];rfl
 have earr:xs.map a.eval=(xs.toList.map a.eval).toArray:=by apply Array.ext';simp
 unfold builtinP at e
 split at e
 ·rename_i t r x r' h1 h2
  obtain ⟨e1,rfl⟩:=map_pair e
  obtain ⟨v,v1,v2⟩:=xs0 h2
  refine still_o H ?_
  cases hx:xs.toList with
  | nil=>rw [hx] at h2;simp at h2
  | cons y ys=>
   rw [earr,hx,List.map_cons]
   rw [hx] at h2
   simp at h2
   have:=R.ev y
   rw [h2.1] at this
   exact len_run H (ts0 h1) this e1
 ·rename_i st xt r s x r' h1 h2
  obtain ⟨v,v1,v2⟩:=xs0 h2
  obtain ⟨u,u1,u2⟩:=xs1 h2
  exact (append_run H (ts0 h1) (ts1 h1) v1 u1 v2 u2 e).o
 ·rename_i dt r d x r' h1 h2
  obtain ⟨v,v1,v2⟩:=xs0 h2
  obtain ⟨u,u1,u2⟩:=xs1 h2
  exact (copy_run H (ts0 h1) v1 u1 v2 u2 e).o
 ·rename_i t r x r' h1 h2
  obtain ⟨v,v1,v2⟩:=xs0 h2
  exact (clear_run H (ts0 h1) v1 v2 e).o
 ·rename_i t r x r' h1 h2
  obtain ⟨e1,rfl⟩:=map_pair e
  obtain ⟨v,v1,v2⟩:=xs0 h2
  refine still_o H ?_
  unfold capP at e1
  split at e1
  ·rename_i el es hu
   obtain rfl:=Option.some.inj e1
   obtain ⟨ad,cap,rfl,_,hf⟩:=v2.snap_inv.snap_len
   obtain rfl:=hf rfl
   exact ⟨_,by simp [Builtin.cap_,ts0 h1,v1,und_run hu,goInt],.val (.int _ _)⟩
  ·cases e1
 ·rename_i tt xx
  obtain ⟨e1,rfl⟩:=map_pair e
  rw [earr]
  exact still_o H (max_run (R.evs xs.toList) e1)
 ·rename_i tt xx
  obtain ⟨e1,rfl⟩:=map_pair e
  rw [earr]
  exact still_o H (min_run (R.evs xs.toList) e1)
 ·cases e
end Go.Pm
end
section
namespace Go.Pm
variable {P:Program} {w:World} {F:Nat→Prop} {β:List (Nat × Nat)} {h:AHeap}
theorem nrms_eq (cs:List PV):nrms cs=cs.map nrm:=by
 induction cs with
 | nil=>rfl
 | cons c r ih=>simp [nrms,ih]
theorem isVals_eq (cs:List PV):isVals cs=cs.all isVal:=by
 induction cs with
 | nil=>rfl
 | cons c r ih=>simp [isVals,ih]
theorem scals_eq (cs:List PV):scals cs=cs.all scal:=by
 induction cs with
 | nil=>rfl
 | cons c r ih=>simp [scals,ih]
theorem nrm_getD (cs:List PV) (j:Nat):(nrms cs).getD j .any=nrm (cs.getD j .any):=by
 rw [nrms_eq]
 simp only [List.getD,List.getElem?_map]
 cases cs[j]? <;> simp [nrm]
theorem cells_nrm (e:PV):Pm.cells (nrm e)=nrms (Pm.cells e):=by
 cases e <;> simp [nrm,Pm.cells,nrms]
theorem SRel.nrm {A:Nat→Prop} {v:Value} {p:PV} (r:SRel w A v p):SRel w A v (Pm.nrm p):=by
 induction r with
 | int k n=>exact .int k n
 | bool b=>exact .bool b
 | str s=>exact .str s
 | nilp=>exact .nilp
 | nilf=>exact .nilf
 | nilm=>exact .nilm
 | agg vs cs hl _ ih=>exact .agg vs _ (by simp [nrms_eq,hl]) (fun j hj=>by rw [nrm_getD];exact ih j (by simpa [nrms_eq] using hj))
 | tup vs cs hl _ ih=>exact .tup vs _ (by simp [nrms_eq,hl]) (fun j hj=>by rw [nrm_getD];exact ih j (by simpa [nrms_eq] using hj))
 | fn f vs cs hl _ ih=>exact .fn f vs _ (by simp [nrms_eq,hl]) (fun j hj=>by rw [nrm_getD];exact ih j (by simpa [nrms_eq] using hj))
 | bfn f k vs cs hl _ ih=>exact .bfn f k vs _ (by simp [nrms_eq,hl]) (fun j hj=>by rw [nrm_getD];exact ih j (by simpa [nrms_eq] using hj))
 | snapE a cap full hf=>exact .snapE a cap false (fun hh=>by cases hh)
 | snap b off cap sz full es cvs h1 h2 h3 h4 h5 h6 h7 _ ih=>
  have hl:(nrms es).length=es.length:=by simp [nrms_eq]
  have:=SRel.snap (w:=w) (A:=A) b off cap sz false (nrms es) cvs (by intro hn;rw [hn] at hl;exact h1 (List.eq_nil_of_length_eq_zero hl.symm)) (by omega) (fun hh=>by cases hh) h4 h5
   (fun i hi=>by rw [nrm_getD,cells_nrm,nrms_eq,List.length_map];exact h6 i (by omega)) (fun i j hi hj=>h7 i j (by omega) hj)
   (fun i j hi hj=>by rw [nrm_getD,cells_nrm,nrm_getD];exact ih i j (by omega) hj)
  rw [hl] at this
  exact this
 | sptr b off cs cvs h1 h2 h3 _ ih=>
  have hl:(nrms cs).length=cs.length:=by simp [nrms_eq]
  exact .sptr b off (nrms cs) cvs (by intro hn;rw [hn] at hl;exact h1 (List.eq_nil_of_length_eq_zero hl.symm)) h2 (fun j hj=>h3 j (by omega)) (fun j hj=>by rw [nrm_getD];exact ih j (by omega))
theorem all_getD {f:PV→Bool} {cs:List PV} (h:cs.all f=true) {j:Nat} (hj:j<cs.length):f (cs.getD j .any)=true:=by
 have:cs.getD j .any=cs[j]:=by simp [List.getD,hj]
 rw [this]
 exact List.all_eq_true.1 h _ (List.getElem_mem hj)
theorem SRel.scal {A A':Nat→Prop} {w':World} {v:Value} {p:PV} (r:SRel w A v p) (hs:Pm.scal p=true):SRel w' A' v p:=by
 induction r with
 | int k n=>exact .int k n
 | bool b=>exact .bool b
 | str s=>exact .str s
 | nilp=>exact .nilp
 | nilf=>exact .nilf
 | nilm=>exact .nilm
 | agg vs cs hl _ ih=>simp [Pm.scal,scals_eq] at hs;exact .agg vs _ hl (fun j hj=>ih j hj (all_getD (by simpa using hs) hj))
 | tup vs cs hl _ ih=>simp [Pm.scal,scals_eq] at hs;exact .tup vs _ hl (fun j hj=>ih j hj (all_getD (by simpa using hs) hj))
 | fn f vs cs hl _ ih=>simp [Pm.scal] at hs
 | bfn f k vs cs hl _ ih=>simp [Pm.scal] at hs
 | snapE a cap full hf=>simp [Pm.scal] at hs
 | snap=>simp [Pm.scal] at hs
 | sptr=>simp [Pm.scal] at hs
theorem rb1_sim (H:HRel w F β h) {A':Nat→Prop} (hA:∀ b,b<w.heap.size→¬ Av F h β b→¬ A' b) {v:Value} {p p':PV} (hv:VRel w (Av F h β) β h v p) (e:rb1 h p=some p')
  (hM:∀ (id:Nat) (o:AObj) (bc:Nat × Nat),id∈ids1 p→h[id]?=some o→β[id]?=some bc→(o.mu=.m∨o.mu=.f)→¬ A' bc.1):SRel w A' v p':=by
 unfold rb1 at e
 split at e
 ·rename_i id ep off len
  split at e
  ·rename_i o ho
   split at e
   ·rename_i hc
    obtain ⟨hle,hmf,hval⟩:=hc
    obtain rfl:=Option.some.inj e
    obtain ⟨e1,e2,e3⟩:=getM_some ho
    obtain ⟨bc,hb⟩:=beta_at H.len e1
    obtain ⟨h1,h2,h3⟩:=hv.mref_inv
    obtain ⟨cap,rfl,c2⟩:=h3 o bc e1 hb e3 e2 hle
    obtain ⟨T,cs0,k1,k2,k3,k4,k5⟩:=(H.obj id o bc e1 hb e3).c (h2 o e1).2
    have hlen:((o.es.drop off).take len).length=len:=by simp;omega
    by_cases hl0:len=0
    ·subst hl0
     simp
     exact .snapE _ _ _ (fun hh=>by cases hh)
    ·have at_i:∀ i,i<len→∃ e,((o.es.drop off).take len).getD i .any=e∧o.es[off+i]?=some e∧isVal e=true:=fun i hi=>by
      have g1:((o.es.drop off).take len)[i]?=some (o.es[off+i]'(by omega)):=by
       rw [List.getElem?_take,if_pos hi,List.getElem?_drop]
       exact List.getElem?_eq_getElem (by omega)
      refine ⟨o.es[off+i]'(by omega),by rw [List.getD_eq_getElem?_getD,g1];rfl,List.getElem?_eq_getElem (by omega),?_⟩
      rw [isVals_eq] at hval
      exact List.all_eq_true.1 hval _ (List.mem_of_getElem? g1)
     have celv:∀ (e:PV),isVal e=true→∀ q∈Pm.cells e,isVal q=true:=by
      intro e he q hq
      cases e <;> first
       | (simp only [Pm.cells,List.mem_singleton] at hq;subst hq;exact he)
       | (simp only [isVal,isVals_eq] at he;exact List.all_eq_true.1 he q hq)
     have hcell:∀ i j,i<len→j<o.esz→∃ u,w.cell? ⟨bc.1,off * o.esz+(i * o.esz+j),none⟩=some u∧SRel w A' u ((Pm.cells (((o.es.drop off).take len).getD i .any)).getD j .any):=by
      intro i j hi hj
      obtain ⟨el,g1,g2,g3⟩:=at_i i hi
      obtain ⟨n1,n2⟩:=k5 _ el g2
      have hq:=List.getElem?_eq_getElem (show j<(Pm.cells el).length by omega)
      obtain ⟨u,m1,m2⟩:=n2 j _ hq
      refine ⟨u,?_,?_⟩
      ·rw [cell_of_row w bc.1 _ cs0 T (0,0) k1,← Nat.add_assoc,← Nat.add_mul]
       exact m1
      ·rw [g1]
       have e2:(Pm.cells el).getD j .any=(Pm.cells el)[j]'(by omega):=by simp [List.getD,hq]
       rw [e2]
       exact (m2.toS (celv el g3 _ (List.getElem_mem _))).mono (fun _ _ _=>rfl) hA
     have:=SRel.snap (w:=w) (A:=A') bc.1 (off * o.esz) cap o.esz false ((o.es.drop off).take len) (fun i j=>(w.cell? ⟨bc.1,off * o.esz+(i * o.esz+j),none⟩).getD Go.undef)
      (by intro hn;rw [hn] at hlen;simp at hlen;omega) (by rw [hlen];omega) (fun hh=>by cases hh) (hM id o bc (by simp [ids1]) e1 hb hmf) k4
      (fun i hi=>by rw [hlen] at hi;obtain ⟨el,g1,g2,g3⟩:=at_i i hi;rw [g1];exact (k5 _ el g2).1)
      (fun i j hi hj=>by rw [hlen] at hi;obtain ⟨u,m1,m2⟩:=hcell i j hi hj;rw [m1];rfl)
      (fun i j hi hj=>by rw [hlen] at hi;obtain ⟨u,m1,m2⟩:=hcell i j hi hj;rw [m1];exact m2)
     rw [hlen] at this
     exact this
   ·cases e
  ·cases e
 ·split at e
  ·rename_i hv2
   obtain rfl:=Option.some.inj e
   exact (hv.toS hv2).mono (fun _ _ _=>rfl) hA
  ·cases e
def idsA (p:PV):List Nat:=(Pm.cells p).flatMap ids1
theorem rb1s_get {cs r:List PV} (e:rb1s h cs=some r):r.length=cs.length∧∀ j,j<cs.length→rb1 h (cs.getD j .any)=some (r.getD j .any):=by
 induction cs generalizing r with
 | nil=>simp [rb1s] at e;subst e;exact ⟨rfl,fun j hj=>by simp at hj⟩
 | cons c cs ih=>
  simp only [rb1s] at e
  split at e
  ·rename_i c' r' h1 h2
   obtain rfl:=Option.some.inj e
   obtain ⟨l1,l2⟩:=ih h2
   refine ⟨by simp [l1],fun j hj=>?_⟩
   cases j with
   | zero=>simpa using h1
   | succ j=>simpa using l2 j (by simpa using hj)
  ·cases e
theorem rbAs_get {cs r:List PV} (e:rbAs h cs=some r):r.length=cs.length∧∀ j,j<cs.length→rbA h (cs.getD j .any)=some (r.getD j .any):=by
 induction cs generalizing r with
 | nil=>simp [rbAs] at e;subst e;exact ⟨rfl,fun j hj=>by simp at hj⟩
 | cons c cs ih=>
  simp only [rbAs] at e
  split at e
  ·rename_i c' r' h1 h2
   obtain rfl:=Option.some.inj e
   obtain ⟨l1,l2⟩:=ih h2
   refine ⟨by simp [l1],fun j hj=>?_⟩
   cases j with
   | zero=>simpa using h1
   | succ j=>simpa using l2 j (by simpa using hj)
  ·cases e
theorem mem_flat {cs:List PV} {j:Nat} (hj:j<cs.length) {f:PV→List Nat} {id:Nat} (hm:id∈f (cs.getD j .any)):id∈cs.flatMap f:=by
 have:cs.getD j .any=cs[j]:=by simp [List.getD,hj]
 rw [this] at hm
 exact List.mem_flatMap.2 ⟨_,List.getElem_mem hj,hm⟩
theorem rbA_sim (H:HRel w F β h) {A':Nat→Prop} (hA:∀ b,b<w.heap.size→¬ Av F h β b→¬ A' b) {v:Value} {p p':PV} (hv:VRel w (Av F h β) β h v p) (e:rbA h p=some p')
  (hM:∀ (id:Nat) (o:AObj) (bc:Nat × Nat),id∈idsA p→h[id]?=some o→β[id]?=some bc→(o.mu=.m∨o.mu=.f)→¬ A' bc.1):SRel w A' v p':=by
 unfold rbA at e
 split at e
 ·rename_i cs
  cases hr:rb1s h cs with
  | none=>rw [hr] at e;simp at e
  | some r=>
   rw [hr] at e
   simp at e
   subst e
   obtain ⟨l1,l2⟩:=rb1s_get hr
   obtain ⟨vs,rfl,hl,hh⟩:=hv.agg_inv
   exact .agg vs r (by omega) (fun j hj=>rb1_sim H hA (hh j (by omega)) (l2 j (by omega)) (fun id o bc hm=>hM id o bc (mem_flat (cs:=cs) (by omega) hm)))
 ·rename_i hna
  have hc:Pm.cells p=[p]:=by cases p <;> first | rfl | exact absurd rfl (hna _)
  exact rb1_sim H hA hv e (fun id o bc hm=>hM id o bc (by simp [idsA,hc,hm]))
theorem rb_sim (H:HRel w F β h) {A':Nat→Prop} (hA:∀ b,b<w.heap.size→¬ Av F h β b→¬ A' b) {v:Value} {p p':PV} (hv:VRel w (Av F h β) β h v p) (e:rb h p=some p')
  (hM:∀ (id:Nat) (o:AObj) (bc:Nat × Nat),h[id]?=some o→β[id]?=some bc→(o.mu=.m∨o.mu=.f)→¬ A' bc.1):SRel w A' v p':=by
 unfold rb at e
 split at e
 ·rename_i cs
  cases hr:rbAs h cs with
  | none=>rw [hr] at e;simp at e
  | some r=>
   rw [hr] at e
   simp at e
   subst e
   obtain ⟨l1,l2⟩:=rbAs_get hr
   obtain ⟨vs,rfl,hl,hh⟩:=hv.tup_inv
   exact .tup vs r (by omega) (fun j hj=>rbA_sim H hA (hh j (by omega)) (l2 j (by omega)) (fun id o bc _=>hM id o bc))
 ·exact rbA_sim H hA hv e (fun id o bc _=>hM id o bc)
theorem mapOp_get {f:PV→Option PV}:∀ {cs r:List PV},mapOp f cs=some r→r.length=cs.length∧∀ j,j<cs.length→f (cs.getD j .any)=some (r.getD j .any)
 | [],r,e=>by simp [mapOp] at e;subst e;exact ⟨rfl,fun j hj=>by simp at hj⟩
 | c::cs,r,e=>by
  simp only [mapOp] at e
  split at e
  ·rename_i c' r' h1 h2
   obtain rfl:=Option.some.inj e
   obtain ⟨l1,l2⟩:=mapOp_get h2
   refine ⟨by simp [l1],fun j hj=>?_⟩
   cases j with
   | zero=>simpa using h1
   | succ j=>simpa using l2 j (by simpa using hj)
  ·cases e
theorem rbD_one {n:Nat} {e e':PV} (hna:∀ cs,e≠.agg cs) (he:rbD n h e=some e'):Pm.cells e=[e]∧Pm.cells e'=[e']:=by
 have hc:Pm.cells e=[e]:=by cases e <;> first | rfl | exact absurd rfl (hna _)
 refine ⟨hc,?_⟩
 cases n with
 | zero=>
  simp only [rbD] at he
  split at he
  ·obtain rfl:=Option.some.inj he;exact hc
  ·cases he
 | succ n=>
  unfold rbD at he
  split at he
  ·split at he
   ·split at he
    ·obtain ⟨r,hr,rfl⟩:=Option.map_eq_some_iff.1 he;rfl
    ·cases he
   ·cases he
  ·exact absurd rfl (hna _)
  ·obtain ⟨r,hr,rfl⟩:=Option.map_eq_some_iff.1 he;rfl
  ·split at he
   ·obtain rfl:=Option.some.inj he;exact hc
   ·cases he
theorem rbD_cells {n:Nat} {e e':PV} (he:rbD n h e=some e'):(Pm.cells e').length=(Pm.cells e).length∧∀ j,j<(Pm.cells e).length→∃ m,m≤n∧rbD m h ((Pm.cells e).getD j .any)=some ((Pm.cells e').getD j .any):=by
 by_cases hna:∀ cs,e≠.agg cs
 ·obtain ⟨c1,c2⟩:=rbD_one hna he
  rw [c1,c2]
  refine ⟨rfl,fun j hj=>?_⟩
  obtain rfl:j=0:=by simp at hj;omega
  exact ⟨n,Nat.le_refl _,by simpa using he⟩
 ·obtain ⟨cs,rfl⟩:∃ cs,e=.agg cs:=Classical.byContradiction fun hh=>hna fun cs hc=>hh ⟨cs,hc⟩
  cases n with
  | zero=>
   simp only [rbD] at he
   split at he
   ·rename_i hv
    obtain rfl:=Option.some.inj he
    refine ⟨rfl,fun j hj=>⟨0,Nat.le_refl _,?_⟩⟩
    have hv2:cs.all isVal=true:=by rw [← isVals_eq];simpa [isVal] using hv
    have hh:isVal ((Pm.cells (.agg cs)).getD j .any)=true:=all_getD hv2 hj
    simp only [rbD]
    rw [if_pos hh]
   ·cases he
  | succ n=>
   simp only [rbD] at he
   obtain ⟨r,hr,rfl⟩:=Option.map_eq_some_iff.1 he
   obtain ⟨l1,l2⟩:=mapOp_get hr
   exact ⟨l1,fun j hj=>⟨n,by omega,l2 j hj⟩⟩
theorem rbD_sim (H:HRel w F β h) {A':Nat→Prop} (hA:∀ b,b<w.heap.size→¬ Av F h β b→¬ A' b)
  (hM:∀ (id:Nat) (o:AObj) (bc:Nat × Nat),h[id]?=some o→β[id]?=some bc→(o.mu=.m∨o.mu=.f)→¬ A' bc.1):∀ (n:Nat) {v:Value} {p p':PV},VRel w (Av F h β) β h v p→rbD n h p=some p'→SRel w A' v p':=by
 intro n
 induction n using Nat.strongRecOn with
 | ind n ih=>
  intro v p p' hv e
  have vl:isVal p=true→SRel w A' v p:=fun hp=>(hv.toS hp).mono (fun _ _ _=>rfl) hA
  cases n with
  | zero=>
   simp only [rbD] at e
   split at e
   ·rename_i hp;obtain rfl:=Option.some.inj e;exact vl hp
   ·cases e
  | succ n=>
   unfold rbD at e
   split at e
   ·rename_i id ep off len
    split at e
    ·rename_i o ho
     split at e
     ·rename_i hc
      obtain ⟨hle,hmf⟩:=hc
      obtain ⟨es,hes,rfl⟩:=Option.map_eq_some_iff.1 e
      obtain ⟨e1,e2,e3⟩:=getM_some ho
      obtain ⟨bc,hb⟩:=beta_at H.len e1
      obtain ⟨h1,h2,h3⟩:=hv.mref_inv
      obtain ⟨cap,rfl,c2⟩:=h3 o bc e1 hb e3 e2 hle
      obtain ⟨T,cs0,k1,k2,k3,k4,k5⟩:=(H.obj id o bc e1 hb e3).c (h2 o e1).2
      obtain ⟨l1,l2⟩:=mapOp_get hes
      have hlen0:((o.es.drop off).take len).length=len:=by simp;omega
      have hlen:es.length=len:=by omega
      by_cases hl0:len=0
      ·subst hl0
       obtain rfl:=List.length_eq_zero_iff.1 hlen
       exact .snapE _ _ _ (fun hh=>by cases hh)
      ·have at_i:∀ i,i<len→∃ el,o.es[off+i]?=some el∧rbD n h el=some (es.getD i .any):=fun i hi=>by
        have g1:((o.es.drop off).take len)[i]?=some (o.es[off+i]'(by omega)):=by
         rw [List.getElem?_take,if_pos hi,List.getElem?_drop]
         exact List.getElem?_eq_getElem (by omega)
        have g2:=l2 i (by omega)
        rw [List.getD_eq_getElem?_getD,g1] at g2
        exact ⟨_,List.getElem?_eq_getElem (by omega),g2⟩
       have hcell:∀ i j,i<len→j<o.esz→(Pm.cells (es.getD i .any)).length=o.esz∧∃ u,w.cell? ⟨bc.1,off * o.esz+(i * o.esz+j),none⟩=some u∧SRel w A' u ((Pm.cells (es.getD i .any)).getD j .any):=by
        intro i j hi hj
        obtain ⟨el,g1,g2⟩:=at_i i hi
        obtain ⟨n1,n2⟩:=k5 _ el g1
        obtain ⟨m1,m2⟩:=rbD_cells g2
        have hq:=List.getElem?_eq_getElem (show j<(Pm.cells el).length by omega)
        obtain ⟨u,q1,q2⟩:=n2 j _ hq
        obtain ⟨m,hm,q3⟩:=m2 j (by omega)
        rw [List.getD_eq_getElem?_getD,hq] at q3
        refine ⟨by omega,u,?_,ih m (by omega) q2 q3⟩
        rw [cell_of_row w bc.1 _ cs0 T (0,0) k1,← Nat.add_assoc,← Nat.add_mul]
        exact q1
       have:=SRel.snap (w:=w) (A:=A') bc.1 (off * o.esz) cap o.esz false es (fun i j=>(w.cell? ⟨bc.1,off * o.esz+(i * o.esz+j),none⟩).getD Go.undef)
        (by intro hn;rw [hn] at hlen;simp at hlen;omega) (by rw [hlen];omega) (fun hh=>by cases hh) (hM id o bc e1 hb hmf) k4
        (fun i hi=>(hcell i 0 (by omega) k4).1)
        (fun i j hi hj=>by obtain ⟨_,u,m1,m2⟩:=hcell i j (by omega) hj;rw [m1];rfl)
        (fun i j hi hj=>by obtain ⟨_,u,m1,m2⟩:=hcell i j (by omega) hj;rw [m1];exact m2)
       rw [hlen] at this
       exact this
     ·cases e
    ·cases e
   ·rename_i cs
    obtain ⟨r,hr,rfl⟩:=Option.map_eq_some_iff.1 e
    obtain ⟨l1,l2⟩:=mapOp_get hr
    obtain ⟨vs,rfl,hl,hh⟩:=hv.agg_inv
    exact .agg vs r (by omega) (fun j hj=>ih n (by omega) (hh j (by omega)) (l2 j (by omega)))
   ·rename_i cs
    obtain ⟨r,hr,rfl⟩:=Option.map_eq_some_iff.1 e
    obtain ⟨l1,l2⟩:=mapOp_get hr
    obtain ⟨vs,rfl,hl,hh⟩:=hv.tup_inv
    exact .tup vs r (by omega) (fun j hj=>ih n (by omega) (hh j (by omega)) (l2 j (by omega)))
   ·split at e
    ·rename_i hp;obtain rfl:=Option.some.inj e;exact vl hp
    ·cases e
theorem rbX_sim (H:HRel w F β h) {A':Nat→Prop} (hA:∀ b,b<w.heap.size→¬ Av F h β b→¬ A' b) {v:Value} {p p':PV} (hv:VRel w (Av F h β) β h v p) (e:rbX h p=some p')
  (hM:∀ (id:Nat) (o:AObj) (bc:Nat × Nat),h[id]?=some o→β[id]?=some bc→(o.mu=.m∨o.mu=.f)→¬ A' bc.1):SRel w A' v p':=by
 unfold rbX at e
 split at e
 ·rename_i r hr
  obtain rfl:=Option.some.inj e
  exact rb_sim H hA hv hr hM
 ·exact rbD_sim H hA hM 8 hv e
theorem HRel.empty (w:World) (F:Nat→Prop) (hF:∀ b,F b→b<w.heap.size):HRel w F [] [] where
 len:=rfl
 fin:=hF
 obj id o bc e:=by simp at e
 dist id id' o o' bc bc' _ e:=by simp at e
 out id o bc e:=by simp at e
theorem Mb_empty (b:Nat):¬ Mb [] [] b:=by rintro ⟨id,o,bc,e,_⟩;simp at e
def CSim (P:Program) (lv:Nat) (w:World) (F:Nat→Prop) (β:List (Nat × Nat)) (h:AHeap) (f:FuncId) (vs:List Value) (r:PV) (h':AHeap):Prop:=
 Calls P f vs.toArray w fun e w'=>∃ v β',e=.returned v∧VRel w' (Av F h' β') β' h' v r∧HRel w' F β' h'∧Stp w h β w' h' β'∧(lv≤1→Grew w w')
def SimRun (P:Program) (f:FuncId) (g:List PV→AHeap→Option (PV × AHeap)):Prop:=
 ∀ args h r h',g args h=some (r,h')→∀ w F β vs,HRel w F β h→L2 (VRel w (Av F h β) β h) vs args→CSim P 2 w F β h f vs r h'
theorem HRel.freeze1 (H:HRel w F β h) {id:Nat} {h2:AHeap} (e:freeze1 h id=some h2) :
  HRel w F β h2∧Stp w h β w h2 β∧(∃ o:AObj,h2[id]?=some o∧o.mu=.f)∧(∀ (k:Nat) (o:AObj),h[k]?=some o→o.mu=.f→h2[k]?=some o):=by
 unfold Pm.freeze1 at e
 split at e
 ·rename_i o ho
  split at e
  ·rename_i hc
   obtain ⟨hv,hmf⟩:=hc
   obtain rfl:=Option.some.inj e
   have hid:=lt_of_some ho
   have hself:(h.set id {o with mu:=.f })[id]?=some {o with mu:=.f }:=by simp [hid]
   have hoth:∀ k,k≠id→(h.set id {o with mu:=.f })[k]?=h[k]?:=fun k hk=>List.getElem?_set_ne (Ne.symm hk)
   have hx:o.mu≠.x:=by rcases hmf with h | h <;> rw [h] <;> simp
   have hs:Stp w h β w (h.set id {o with mu:=.f }) β:=by
    refine ⟨Nat.le_refl _,by simp,fun _ _ _=>rfl,?_,?_,?_,rfl,rfl,rfl,Nat.le_refl _⟩
    ·rintro b hb ⟨k,o',c',e1,e2,e3,rfl⟩
     by_cases hk:k=id
     ·subst hk;rw [hself] at e1;obtain rfl:=Option.some.inj e1;simp at e3
     ·rw [hoth k hk] at e1;exact ⟨k,o',c',e1,e2,e3,rfl⟩
    ·intro k o' c' e1 e2 e3
     by_cases hk:k=id
     ·subst hk;rw [ho] at e1;obtain rfl:=Option.some.inj e1
      exact ⟨_,c',hself,e2,by simp,⟨Nat.le_refl _,fun h=>h⟩,fun _=>⟨rfl,fun _=>rfl,rfl⟩⟩
     ·exact ⟨o',c',by rw [hoth k hk];exact e1,e2,e3,⟨Nat.le_refl _,fun h=>h⟩,fun _=>⟨rfl,fun _=>rfl,rfl⟩⟩
    ·intro k o' e1 e2
     refine ⟨?_,rfl⟩
     by_cases hk:k=id
     ·subst hk
      rw [ho] at e1;obtain rfl:=Option.some.inj e1
      rw [hself]
      rcases hmf with hm | hm
      ·exact absurd hm e2
      ·congr 1;cases o;simp at hm;subst hm;rfl
     ·rw [hoth k hk];exact e1
   refine ⟨⟨by simp [H.len],H.fin,?_,?_,?_⟩,hs,⟨_,hself,rfl⟩,?_⟩
   ·intro k o' c' e1 e2 e3
    by_cases hk:k=id
    ·subst hk;rw [hself] at e1;obtain rfl:=Option.some.inj e1
     exact ORel.mono hs rfl (H.obj k o c' ho e2 hx)
    ·rw [hoth k hk] at e1;exact ORel.mono hs rfl (H.obj k o' c' e1 e2 e3)
   ·intro k k' o1 o2 c1 c2 hne e1 e2 e3 e4 m1 m2
    have hk:k≠id:=by rintro rfl;rw [hself] at e1;obtain rfl:=Option.some.inj e1;simp at m1
    rw [hoth k hk] at e1
    by_cases hk':k'=id
    ·subst hk';exact H.dist k k' o1 o c1 c2 hne e1 ho e3 e4 m1 hx
    ·rw [hoth k' hk'] at e2;exact H.dist k k' o1 o2 c1 c2 hne e1 e2 e3 e4 m1 m2
   ·intro k o' c' e1 e2 e3
    by_cases hk:k=id
    ·subst hk;exact H.out k o c' ho e2 hmf
    ·rw [hoth k hk] at e1;exact H.out k o' c' e1 e2 e3
   ·intro k o' e1 e2
    by_cases hk:k=id
    ·subst hk;rw [ho] at e1;obtain rfl:=Option.some.inj e1
     rw [hself];congr 1;cases o;simp at e2;subst e2;rfl
    ·rw [hoth k hk];exact e1
  ·cases e
 ·cases e
theorem HRel.freezes:∀ (ids:List Nat) {h h2:AHeap},HRel w F β h→freezes h ids=some h2 →
  HRel w F β h2∧Stp w h β w h2 β∧(∀ id∈ids,∃ o:AObj,h2[id]?=some o∧o.mu=.f)∧(∀ (k:Nat) (o:AObj),h[k]?=some o→o.mu=.f→h2[k]?=some o)
 | [],h,h2,H,e=>by
  simp [Pm.freezes] at e;subst e
  exact ⟨H,Stp.refl w h β,(fun _ hm=>by cases hm),(fun _ _ h1 _=>h1)⟩
 | id::r,h,h2,H,e=>by
  simp only [Pm.freezes] at e
  split at e
  ·rename_i h1 he
   obtain ⟨H1,S1,⟨o,o1,o2⟩,K1⟩:=H.freeze1 he
   obtain ⟨H2,S2,A2,K2⟩:=HRel.freezes r H1 e
   refine ⟨H2,S1.trans S2,fun k hk=>?_,fun k o h3 h4=>K2 k o (K1 k o h3 h4) h4⟩
   rcases List.mem_cons.1 hk with rfl | hk
   ·exact ⟨o,K2 _ o o1 o2,o2⟩
   ·exact A2 k hk
  ·cases e
theorem idsOf_mem {args:List PV} {j:Nat} (hj:j<args.length) {id:Nat} (hm:id∈idsA (args.getD j .any)):id∈idsOf args:=by
 have:args.getD j .any=args[j]:=by simp [List.getD,hj]
 rw [this] at hm
 exact List.mem_flatMap.2 ⟨_,List.getElem_mem hj,hm⟩
theorem frozen_out (H:HRel w F β h) {id:Nat} {o:AObj} {bc:Nat × Nat} (e1:h[id]?=some o) (e2:β[id]?=some bc) (e3:o.mu=.f):¬ Av F h β bc.1:=by
 rintro (hf | ⟨k,o',c',f1,f2,f3,f4⟩)
 ·exact H.out id o bc e1 e2 (.inr e3) hf
 ·have hne:k≠id:=by
   rintro rfl
   rw [e1] at f1
   obtain rfl:=Option.some.inj f1
   rw [e3] at f3;cases f3
  exact H.dist k id o' o c' bc hne f1 e1 f2 e2 f3 (by rw [e3];simp) f4
theorem grew_of_stp {w':World} {h':AHeap} {β':List (Nat × Nat)} (s:Stp w [] [] w' h' β'):Grew w w':=
 ⟨s.size,fun b hb=>s.keep b hb (Mb_empty b),s.os,s.tape,s.output,s.drawn⟩
theorem pure_core {f:FuncId} {run:List PV→AHeap→Option (PV × AHeap)} (S:SimRun P f run) {A:Nat→Prop} (hA:∀ b,A b→b<w.heap.size) {args:List PV} {vs:List Value} (ha:L2 (SRel w A) vs args)
  {r r':PV} {hc:AHeap} (e1:run (nrms args) []=some (r,hc)) (e2:rbX hc r=some r') :
  Calls P f vs.toArray w fun e w'=>∃ v,e=.returned v∧SRel w' A v (nrm r')∧Grew w w':=by
 have hl:(nrms args).length=args.length:=by simp [nrms_eq]
 have hAv:∀ b,Av A [] [] b↔A b:=fun b=>⟨fun h=>h.elim id (fun h=>absurd h (Mb_empty b)),.inl⟩
 have hin:L2 (VRel w (Av A [] []) [] []) vs (nrms args):=⟨by rw [hl];exact ha.1,fun j hj=>by
  rw [nrm_getD]
  exact .val (((ha.2 j (by omega)).nrm).weak (fun b hb=>(hAv b).1 hb))⟩
 refine (S (nrms args) [] r hc e1 w A [] vs (HRel.empty w A hA) hin).mono ?_
 rintro e w' ⟨v,β',rfl,q1,q2,q3,_⟩
 refine ⟨v,rfl,?_,grew_of_stp q3⟩
 refine (rbX_sim q2 (fun b _ hb ha=>hb (.inl ha)) q1 e2 (fun id o bc m1 m2 m3=>?_)).nrm
 rcases m3 with m3 | m3
 ·exact q2.out id o bc m1 m2 (.inl m3)
 ·exact q2.out id o bc m1 m2 (.inr m3)
mutual
theorem scal_nrm:∀ p:PV,scal p=true→scal (nrm p)=true
 | .agg cs,h=>by simp only [scal,nrm] at h ⊢;exact scals_nrms cs h
 | .tup cs,h=>by simp only [scal,nrm] at h ⊢;exact scals_nrms cs h
 | .int _ _,_=>rfl
 | .bool _,_=>rfl
 | .str _,_=>rfl
 | .nilp,_=>rfl
 | .nilf,_=>rfl
 | .nilm,_=>rfl
 | .snap _ _,h=>by simp [scal] at h
 | .mref _ _ _ _,h=>by simp [scal] at h
 | .ptr _ _ _ _,h=>by simp [scal] at h
 | .mapr _,h=>by simp [scal] at h
 | .sptr _,h=>by simp [scal] at h
 | .fn _ _,h=>by simp [scal] at h
 | .bfn _ _ _,h=>by simp [scal] at h
 | .undef,h=>by simp [scal] at h
 | .any,h=>by simp [scal] at h
theorem scals_nrms:∀ cs:List PV,scals cs=true→scals (nrms cs)=true
 | [],_=>rfl
 | c::r,h=>by
  simp only [scals,nrms,Bool.and_eq_true] at h ⊢
  exact ⟨scal_nrm c h.1,scals_nrms r h.2⟩
end
theorem callPure_sim {run:Run} {f:FuncId} (S:SimRun P f (run f)) {lv:Nat} {args:List PV} {r:PV} {h':AHeap} (e:callPure run lv f args h=some (r,h')) (H:HRel w F β h) {vs:List Value}
  (ha:L2 (VRel w (Av F h β) β h) vs args):CSim P lv w F β h f vs r h':=by
 unfold callPure at e
 have done:∀ {h2:AHeap} (H2:HRel w F β h2) (S2:Stp w h β w h2 β) (p:PV),(Calls P f vs.toArray w fun e w'=>∃ v,e=.returned v∧SRel w' (Av F h2 β) v p∧Grew w w')→CSim P lv w F β h f vs p h2:=by
  intro h2 H2 S2 p hc
  refine hc.mono ?_
  rintro e w' ⟨v,rfl,q1,q2⟩
  exact ⟨v,β,rfl,.val q1,H2.grew q2,S2.trans (q2.stp h2 β),fun _=>q2⟩
 split at e
 ·rename_i hv
  split at e
  ·rename_i r0 hc h1
   split at e
   ·rename_i r1 h2
    obtain ⟨rfl,rfl⟩:=Prod.mk.inj (Option.some.inj e)
    refine done H (Stp.refl w h β) _ (pure_core (A:=Av F h β) S (fun b hb=>Av.lt H hb) (args:=args) ⟨ha.1,fun j hj=>?_⟩ h1 h2)
    rw [isVals_eq] at hv
    exact (ha.2 j hj).toS (all_getD hv hj)
   ·cases e
  ·cases e
 ·split at e
  ·rename_i args' hr
   obtain ⟨l1,l2⟩:=rbAs_get hr
   split at e
   ·rename_i r0 hc h1
    split at e
    ·rename_i r1 h2
     have frozen:∀ {h2:AHeap} (H2:HRel w F β h2) (S2:Stp w h β w h2 β) (hf:∀ id∈idsOf args,∃ o:AObj,h2[id]?=some o∧o.mu=.f),L2 (SRel w (Av F h2 β)) vs args':=by
      intro h2 H2 S2 hf
      refine ⟨by rw [ha.1,l1],fun j hj=>?_⟩
      refine rbA_sim H (fun b hb hn=>Av.mono S2 b hb hn) (ha.2 j (by omega)) (l2 j (by omega)) (fun id o bc hm m1 m2 m3=>?_)
      obtain ⟨o2,g1,g2⟩:=hf id (idsOf_mem (by omega) hm)
      exact frozen_out H2 g1 m2 g2
     split at e
     ·rename_i hsc
      obtain ⟨rfl,rfl⟩:=Prod.mk.inj (Option.some.inj e)
      simp only [Bool.or_eq_true] at hsc
      rcases hsc with hsc | hsc
      ·refine done H (Stp.refl w h β) _ ?_
       have:=pure_core (P:=P) (w:=w) (A:=fun _=>False) S (fun b hb=>hb.elim) (args:=args') (vs:=vs) ⟨by rw [ha.1,l1],fun j hj=>rbA_sim H (fun _ _ _ hh=>hh) (ha.2 j (by omega)) (l2 j (by omega)) (fun _ _ _ _ _ _ _ hh=>hh)⟩ h1 h2
       refine this.mono ?_
       rintro e w' ⟨v,rfl,q1,q2⟩
       have hsn:scal (nrm r1)=true:=scal_nrm r1 hsc
       exact ⟨v,rfl,q1.scal hsn,q2⟩
      ·refine done H (Stp.refl w h β) _ (pure_core (A:=Av F h β) S (fun b hb=>Av.lt H hb) (frozen H (Stp.refl w h β) (fun id hid=>?_)) h1 h2)
       have:=List.all_eq_true.1 hsc id hid
       split at this
       ·rename_i o ho
        simp only [Bool.and_eq_true,decide_eq_true_eq] at this
        exact ⟨o,ho,this.1⟩
       ·cases this
     ·split at e
      ·cases hfz:freezes h (idsOf args) with
       | none=>rw [hfz] at e;simp at e
       | some h3=>
        rw [hfz] at e
        simp at e
        obtain ⟨rfl,rfl⟩:=e
        obtain ⟨H2,S2,A2,_⟩:=HRel.freezes (idsOf args) H hfz
        exact done H2 S2 _ (pure_core (A:=Av F h3 β) S (fun b hb=>Av.lt H2 hb) (frozen H2 S2 A2) h1 h2)
      ·cases e
    ·cases e
   ·cases e
  ·split at e
   ·rename_i args' hr
    obtain ⟨l1,l2⟩:=mapOp_get hr
    split at e
    ·rename_i r0 hc h1
     split at e
     ·rename_i r1 h2
      split at e
      ·rename_i hsc
       obtain ⟨rfl,rfl⟩:=Prod.mk.inj (Option.some.inj e)
       refine done H (Stp.refl w h β) _ ?_
       have:=pure_core (P:=P) (w:=w) (A:=fun _=>False) S (fun b hb=>hb.elim) (args:=args') (vs:=vs) ⟨by rw [ha.1,l1],fun j hj=>rbD_sim H (fun _ _ _ hh=>hh) (fun _ _ _ _ _ _ hh=>hh) 8 (ha.2 j (by omega)) (l2 j (by omega))⟩ h1 h2
       refine this.mono ?_
       rintro e w' ⟨v,rfl,q1,q2⟩
       exact ⟨v,rfl,q1.scal (scal_nrm r1 hsc),q2⟩
      ·cases e
     ·cases e
    ·cases e
   ·cases e
end Go.Pm
end
section
namespace Go.Pm
variable {C:Cfg} (T:Tab C.P)
variable {ops:Array Oper} {d:Nat} {ty:TypeId} {pos:String} {af:Array Edge} {r:List Oper} {ρ:Nat→PV} {L:List (Nat × PV)} {h:AHeap} {Q:St→Prop}
theorem R.indexStr {t:TypeId} {x ix:Operand} {s:ByteArray} {k:IntKind} {i:Nat} {b:UInt8} (hx:evL L x=some (.str s)) (hi:evL L ix=some (.int k (i:Int))) (hk:T.kd t=some .str) (hv:s[i]?=some b)
  (kk:EvOps C ops r ⟨al ((d,.int .u8 b.toNat)::L) ρ,h⟩ Q):EvOps C ops (⟨some d,.index t x ix,ty,pos,af,none⟩::r) ⟨al L ρ,h⟩ Q:=
 EvOps.valL (fun run=>by simp [opVal,stepOp,evL_ev hx,evL_ev hi,indexP,kd_str (T.hkd _ _ hk),hv]) kk
theorem R.max {ts:Array TypeId} {x y:Operand} {k:IntKind} {a b:Int} (hx:evL L x=some (.int k a)) (hy:evL L y=some (.int k b)) (kk:EvOps C ops r ⟨al ((d,.int k (max a b))::L) ρ,h⟩ Q) :
  EvOps C ops (⟨some d,.call ⟨.builtin .max,#[x,y],ts⟩,ty,pos,af,none⟩::r) ⟨al L ρ,h⟩ Q:=by
 refine EvOps.valL (v:=.int k (Max.max a b)) (fun run=>?_) kk
 have:(if b > a then b else a)=Max.max a b:=by split <;> omega
 simp [opVal,evL_ev hx,evL_ev hy,builtinP,maxP,this]
theorem R.streqT {t yt:TypeId} {x y:Operand} {a b:ByteArray} (hx:evL L x=some (.str a)) (hy:evL L y=some (.str b)) (hh:a.toList=b.toList) (k1:EvOps C ops r ⟨al ((d,(.bool true))::L) ρ,h⟩ Q) :
  EvOps C ops (⟨some d,.binOp .eql t x y yt,ty,pos,af,none⟩::r) ⟨al L ρ,h⟩ Q:=EvOps.valL (fun run=>by simp [opVal,stepOp,evL_ev hx,evL_ev hy,binP,strOp,hh]) k1
def partsL (L:List (Nat × PV)):List (Nat × Operand)→Option (List (Nat × PV))
 | []=>some []
 | (i,x)::xs=>match evL L x,partsL L xs with
  | some v,some vs=>some ((i,v)::vs)
  | _,_=>none
theorem partsL_ev {L:List (Nat × PV)} {ρ:Nat→PV}:∀ {xs:List (Nat × Operand)} {vs:List (Nat × PV)},partsL L xs=some vs→xs.map (fun (i,x)=>(i,ev (al L ρ) x))=vs
 | [],vs,e=>by simp [partsL] at e;subst e;rfl
 | (i,x)::xs,vs,e=>by
  simp only [partsL] at e
  split at e
  ·rename_i v vs' h1 h2
   obtain rfl:=Option.some.inj e
   simp only [List.map_cons,evL_ev h1,partsL_ev h2]
  ·cases e
def placesT (ts:Nat→Option Nat) (os:List (Nat × TypeId)) (i:Nat):Option (Nat × Nat):=
 match os[i]? with
 | some (off,ty)=>(ts ty).map fun s=>(off,s)
 | none=>none
theorem fillP_mono {p q:Nat→Option (Nat × Nat)} (hpq:∀ i x,p i=some x→q i=some x):∀ {parts:List (Nat × PV)} {cs r:List PV},fillP p cs parts=some r→fillP q cs parts=some r
 | [],cs,r,e=>e
 | (i,v)::parts,cs,r,e=>by
  simp only [fillP] at e ⊢
  split at e
  ·cases e
  ·rename_i off size hp
   rw [hpq _ _ hp]
   simp only
   split at e
   ·rename_i hc
    rw [if_pos hc]
    exact fillP_mono hpq e
   ·cases e
theorem buildP_of {t:TypeId} {z:PV} {os:List (Nat × TypeId)} {parts:List (Nat × PV)} {cs:List PV} (hz:T.tz t=some z) (hk:T.kd t=some (.st os)) (ha:(os.all fun o=>(T.ts o.2).isSome)=true) (h1:(cells z).all oneC=true)
  (hf:fillP (placesT T.ts os) (cells z) parts=some cs):buildP C.P t parts=some (.agg cs):=by
 obtain ⟨fs,e1,e2⟩:=kd_st (T.hkd _ _ hk)
 have hall:(fs.toList.all fun f=>(tsize C.P f.type).isSome)=true:=by
  rw [← e2,List.all_map] at ha
  rw [List.all_eq_true] at ha ⊢
  intro f hf
  have:=ha f hf
  simp only [Function.comp] at this
  cases hh:T.ts f.type with
  | none=>rw [hh] at this;cases this
  | some n=>rw [T.hts _ _ hh];rfl
 have hp:fillP (fieldPlaces C.P fs) (cells z) parts=some cs:=by
  refine fillP_mono (fun i x hx=>?_) hf
  unfold placesT at hx
  rw [← e2,List.getElem?_map] at hx
  unfold fieldPlaces
  have hfe:fs[i]?=fs.toList[i]?:=by simp
  rw [hfe]
  cases hh:fs.toList[i]? with
  | none=>rw [hh] at hx;cases hx
  | some f=>
   rw [hh] at hx
   simp only [Option.map_some] at hx ⊢
   cases hh2:T.ts f.type with
   | none=>rw [hh2] at hx;cases hx
   | some n=>rw [hh2] at hx;rw [T.hts _ _ hh2];exact hx
 unfold buildP
 rw [T.htz _ _ hz,e1]
 simp only [hall,h1,and_self,if_true,hp,Option.map_some]
def partOk (sz n:Nat) (p:Nat × PV):Bool:=decide ((cells p.2).length=sz) && (cells p.2).all oneC && decide (p.1<n)
theorem buildSliceP_of {lv:Nat} {t el:TypeId} {n sz:Nat} {z:PV} {ps:List (Nat × PV)} {es:List PV} (hk:T.kd t=some (.sl el)) (hs:T.ts el=some (sz+1)) (hz:T.tz el=some z) (hn:n * (sz+1)≤16777216) (hl:(cells z).length=sz+1) (h1:(cells z).all oneC=true)
  (hp:ps.all (partOk (sz+1) n)=true) (he:litP z n ps=es) (hv:isVals es=true):buildSliceP C.P lv h t n ps=some (.snap true es,h):=by
 unfold buildSliceP
 rw [kd_sl (T.hkd _ _ hk)]
 simp only [T.hts _ _ hs,T.htz _ _ hz]
 have hp':(ps.all fun p=>decide ((cells p.2).length=sz+1) && (cells p.2).all oneC && decide (p.1<n))=true:=hp
 rw [if_pos ⟨by omega,hn,hl,h1,hp'⟩,he,if_pos hv]
theorem R.buildSlice {t el:TypeId} {n sz:Nat} {z:PV} {parts:Array (Nat × Operand)} {ps:List (Nat × PV)} {es:List PV} (hpa:partsL L parts.toList=some ps) (hk:T.kd t=some (.sl el)) (hs:T.ts el=some (sz+1)) (hz:T.tz el=some z) (hn:n * (sz+1)≤16777216) (hl:(cells z).length=sz+1) (h1:(cells z).all oneC=true)
  (hp:ps.all (partOk (sz+1) n)=true) (he:litP z n ps=es) (hv:isVals es=true) (kk:EvOps C ops r ⟨al ((d,.snap true es)::L) ρ,h⟩ Q) :
  EvOps C ops (⟨some d,.buildSlice t n parts,ty,pos,af,none⟩::r) ⟨al L ρ,h⟩ Q:=
 EvOps.valL (fun run=>by simp only [opVal,stepOp,partsL_ev hpa,buildSliceP_of T hk hs hz hn hl h1 hp he hv]) kk
theorem roomy_of {n b:Nat} (h1:n<1000000000) (h2:b≤1000):roomy n b=true:=by
 have:n * b≤1000000000 * 1000:=Nat.mul_le_mul (by omega) h2
 simp [roomy];omega
def esOk (sz:Nat) (ys:List PV):Prop:=ys.all (fun v=>decide ((cells v).length=sz) && (cells v).all oneC)=true
theorem appendP_new {lv:Nat} {st xt el el':TypeId} {sz by':Nat} {z:PV} {full:Bool} {ys:List PV} (h1:1≤lv) (hk:T.kd st=some (.sl el)) (hk':T.kd xt=some (.sl el')) (hs:T.ts el=some (sz+1)) (hb:T.tb el=some by') (hz:T.tz el=some z) (hby:by'≤1000) (hl:(cells z).length=sz+1) (ho:(cells z).all oneC=true)
  (hy:esOk (sz+1) ys) (hne:ys.isEmpty=false) (hn:ys.length<1000000000):appendP C.P lv h st xt (.snap true []) (.snap full ys)=some (.mref h.length 0 0 ys.length,h++[⟨.m,0,sz+1,ys⟩]):=by
 unfold appendP
 rw [kd_sl (T.hkd _ _ hk)]
 simp only [T.hts _ _ hs,T.htb _ _ hb,T.htz _ _ hz,appendee,kd_sl (T.hkd _ _ hk'),elems]
 unfold esOk at hy
 rw [if_pos ⟨by omega,by omega,⟨hl,ho⟩,hy⟩]
 simp only [hne,Bool.false_eq_true,if_false,List.length_nil,Nat.zero_add,List.all_nil,List.nil_append,newObj]
 rw [if_pos ⟨trivial,h1,roomy_of hn hby,trivial⟩]
theorem appendP_m {st xt el el':TypeId} {sz by' id ep len:Nat} {z:PV} {full:Bool} {ys:List PV} {o:AObj} (hk:T.kd st=some (.sl el)) (hk':T.kd xt=some (.sl el')) (hs:T.ts el=some (sz+1)) (hb:T.tb el=some by') (hz:T.tz el=some z) (hby:by'≤1000) (hl:(cells z).length=sz+1) (ho:(cells z).all oneC=true)
  (hy:esOk (sz+1) ys) (hne:ys.isEmpty=false) (hn:len+ys.length<1000000000) (hg:getM h id ep=some o) (hm:o.mu=.m) (hz':o.esz=sz+1) (hle:len≤o.es.length) :
  appendP C.P 2 h st xt (.mref id ep 0 len) (.snap full ys)=some (.mref id (ep+1) 0 (len+ys.length),h.set id {o with ep:=ep+1,es:=o.es.take len++ys }):=by
 unfold appendP
 rw [kd_sl (T.hkd _ _ hk)]
 simp only [T.hts _ _ hs,T.htb _ _ hb,T.htz _ _ hz,appendee,kd_sl (T.hkd _ _ hk'),elems]
 unfold esOk at hy
 rw [if_pos ⟨by omega,by omega,⟨hl,ho⟩,hy⟩]
 simp only [hg]
 rw [if_pos ⟨by omega,hz'.symm⟩]
 simp only [hne,Bool.false_eq_true,if_false]
 rw [if_neg (by simp [sameObj]),if_pos ⟨trivial,by omega,hm,roomy_of hn hby⟩]
def Out (sz:Nat) (h:AHeap) (v:PV) (es:List PV):Prop:=(v=.snap true []∧es=[])∨∃ id ep,v=.mref id ep 0 es.length∧h[id]?=some ⟨.m,ep,sz,es⟩
theorem Out.app {sz:Nat} {h:AHeap} {v:PV} {es:List PV} (o:Out sz h v es) (J:AHeap):Out sz (h++J) v es:=by
 rcases o with o | ⟨id,ep,e1,e2⟩
 ·exact .inl o
 ·refine .inr ⟨id,ep,e1,?_⟩
  have:id<h.length:=by
   rcases Nat.lt_or_ge id h.length with hh | hh
   ·exact hh
   ·rw [List.getElem?_eq_none hh] at e2;cases e2
  rw [List.getElem?_append_left this];exact e2
def OutA (sz:Nat) (A J:AHeap) (v:PV) (es:List PV):Prop:=(v=.snap true []∧es=[])∨∃ id ep,v=.mref (A.length+id) ep 0 es.length∧J[id]?=some ⟨.m,ep,sz,es⟩
def HV (h:AHeap):Prop:=∀ o∈h,o.mu≠.x∧isVals o.es=true
mutual
theorem vis_val (f:Nat→Bool):∀ p,isVal p=true→visR f p=true
 | .int ..,_ | .bool _,_ | .str _,_ | .nilp,_ | .nilf,_ | .nilm,_ | .snap ..,_ | .sptr _,_=>rfl
 | .agg cs,h=>by simp only [visR];exact vis_vals f cs (by simpa [isVal] using h)
 | .tup cs,h=>by simp only [visR];exact vis_vals f cs (by simpa [isVal] using h)
 | .fn _ cs,h=>by simp only [visR];exact vis_vals f cs (by simpa [isVal] using h)
 | .bfn _ _ cs,h=>by simp only [visR];exact vis_vals f cs (by simpa [isVal] using h)
 | .mref ..,h | .ptr ..,h | .undef,h | .any,h=>by simp [isVal] at h
theorem vis_vals (f:Nat→Bool):∀ cs,isVals cs=true→visRs f cs=true
 | [],_=>rfl
 | c::r,h=>by
  simp only [isVals,Bool.and_eq_true] at h
  simp only [visRs,vis_val f c h.1,vis_vals f r h.2,Bool.and_self]
end
theorem HV.closed {h:AHeap} (H:HV h):closedH h=true:=by
 unfold closedH
 rw [List.all_eq_true]
 intro o ho
 rw [vis_vals _ _ (H o ho).2]
 simp
theorem HV.nil:HV []:=fun o ho=>by cases ho
theorem HV.app {h k:AHeap} (H:HV h) (K:HV k):HV (h++k):=fun o ho=>(List.mem_append.1 ho).elim (H o) (K o)
theorem HV.one {ep n:Nat} {es:List PV} (h:isVals es=true):HV [⟨.m,ep,n,es⟩]:=fun o ho=>by simp at ho;subst ho;exact ⟨by simp,h⟩
theorem HV.set {h:AHeap} (H:HV h) (id:Nat) {o:AObj} (h1:o.mu≠.x) (h2:isVals o.es=true):HV (h.set id o):=fun o' ho'=>by
 rcases List.mem_or_eq_of_mem_set ho' with ho' | rfl
 ·exact H o' ho'
 ·exact ⟨h1,h2⟩
theorem getM_at {h:AHeap} {id ep:Nat} {o:AObj} (e:h[id]?=some o) (h1:o.ep=ep) (h2:o.mu≠.x):getM h id ep=some o:=by simp [getM,e,h1,h2]
theorem pcOf {h:AHeap} {b n off:Nat} {e:PV} (hb:h[b]?=some ⟨.m,0,n,[e]⟩):pcells h (.ptr b 0 0 off)=some ((cells e).drop off):=by simp [pcells,getM,hb]
theorem R.load1H {t:TypeId} {x:Operand} {c e:PV} {cs:List PV} {sz b n off:Nat} (hx:evL L x=some (.ptr b 0 0 off)) (hs:T.ts t=some sz) (ht:T.ta t=some false) (hb:h[b]?=some ⟨.m,0,n,[e]⟩) (hc:(cells e).drop off=c::cs) (k:EvOps C ops r ⟨al ((d,c)::L) ρ,h⟩ Q) :
  EvOps C ops (⟨some d,.load t x,ty,pos,af,none⟩::r) ⟨al L ρ,h⟩ Q:=R.load1 T hx hs ht ((pcOf hb).trans (by rw [hc])) k
theorem R.storeH {t:TypeId} {a x:Operand} {b n off ep i sz:Nat} {o:AObj} {e v:PV} (ha:evL L a=some (.ptr b ep i off)) (hx:evL L x=some v) (hs:T.ts t=some sz) (hg:getM h b ep=some o) (hm:o.mu=.m) (hi:o.es[i]?=some e) (hl:(cells v).length=sz) (h1:(cells v).all oneC=true) (hle:off+sz≤(cells e).length)
  (k:EvOps C ops r ⟨al L ρ,h.set b {o with es:=o.es.set i (recell off sz e v) }⟩ Q):EvOps C ops (⟨none,.store t a x,ty,pos,af,none⟩::r) ⟨al L ρ,h⟩ Q:=by
 have k':EvOps C ops r ⟨updO (al L ρ) none .undef,h.set b {o with es:=o.es.set i (recell off sz e v) }⟩ Q:=k
 refine EvOps.val (v:=.undef) (h':=h.set b {o with es:=o.es.set i (recell off sz e v) }) rfl (fun run=>?_) k'
 simp only [opVal,stepOp,evL_ev ha,evL_ev hx,storeP,T.hts _ _ hs,hg,hi,Nat.le_refl,if_true]
 rw [if_pos ⟨hm,hl,h1,hle⟩]
 rfl
theorem below_val (n:Nat) {p:PV} (h:isVal p=true):below1 n p=true:=by
 unfold below1
 split <;> first | (simp [isVal] at h;done) | exact h
theorem belowA_val (n:Nat) {p:PV} (h:isVal p=true):belowA n p=true:=by
 unfold belowA
 split
 ·rename_i cs
  rw [List.all_eq_true]
  intro c hc
  have:isVals cs=true:=by simpa [isVal] using h
  rw [isVals_eq] at this
  exact below_val n (List.all_eq_true.1 this c hc)
 ·exact below_val n h
theorem HV.belowA {h:AHeap} (H:HV h) (n:Nat):(h.all fun o=>o.es.all (belowA n))=true:=by
 rw [List.all_eq_true]
 intro o ho
 have:=(H o ho).2
 rw [isVals_eq] at this
 rw [List.all_eq_true]
 intro e he
 exact belowA_val n (List.all_eq_true.1 this e he)
mutual
theorem scal_nrm':∀ p:PV,scal (nrm p)=scal p
 | .int .. | .bool _ | .str _ | .nilp | .nilf | .nilm | .mapr _ | .snap .. | .sptr _ | .fn .. | .bfn .. | .mref .. | .ptr .. | .undef | .any=>rfl
 | .agg cs=>by simp only [nrm,scal];exact scals_nrms' cs
 | .tup cs=>by simp only [nrm,scal];exact scals_nrms' cs
theorem scals_nrms':∀ cs:List PV,scals (nrms cs)=scals cs
 | []=>rfl
 | c::r=>by simp only [nrms,scals,scal_nrm' c,scals_nrms' r]
end
theorem CallEv.pureM {lv:Nat} {f:FuncId} {args args':List PV} {rv:PV} {Q:PV→AHeap→Prop} (hm:C.mode f=.pure) (hv:isVals args=false) (hr:rbAs h args=some args') (a:Fun C f (nrms args') rv) (hs:scal rv=true) (q:Q rv h):CallEv C lv f args h Q:=by
 obtain ⟨n0,hn⟩:=a
 refine ⟨rv,h,q,n0,fun n h1=>?_⟩
 obtain ⟨r0,hc,r1,e1,e2,e3⟩:=hn n h1
 unfold callF
 rw [hm]
 have hsc:scal r1=true:=by
  have:=scal_nrm' r1
  rw [e3] at this
  rw [← this];exact hs
 simp only [callPure,hv,Bool.false_eq_true,if_false,hr,e1,e2,e3,hsc,Bool.true_or,if_true]
end Go.Pm
end
section
namespace Go.Pm
variable {C:Cfg} (T:Tab C.P)
variable {ops:Array Oper} {d:Nat} {ty:TypeId} {pos:String} {af:Array Edge} {r:List Oper} {ρ:Nat→PV} {L:List (Nat × PV)} {h:AHeap} {Q:St→Prop}
theorem EvD.off {i L0:Nat} {own:List Nat} {op:Op} {g:Option (Nat × Bool)} (hw:wantedA ops ⟨some d,op,ty,pos,af,g⟩ (al L ρ)=some false) (k:EvD C ops (i+1) r ⟨⟨al ((d,.undef)::L) ρ,h⟩,L0,own⟩ Q) :
  EvD C ops i (⟨some d,op,ty,pos,af,g⟩::r) ⟨⟨al L ρ,h⟩,L0,own⟩ Q:=by
 refine EvD.step ⟨0,fun n _=>?_⟩ k
 simp only [opStepD,hw,al_cons]
theorem D.arith {i L0:Nat} {own:List Nat} {bop:BinOp} {t yt:TypeId} {x y:Operand} {k:IntKind} {a b c c':Int} (hx:evL L x=some (.int k a)) (hy:evL L y=some (.int k b)) (hp:Pm.arith bop a b=some c) (hw:k.wrap c=c') (kk:EvD C ops (i+1) r ⟨⟨al ((d,(.int k c'))::L) ρ,h⟩,L0,own⟩ Q) :
  EvD C ops i (⟨some d,.binOp bop t x y yt,ty,pos,af,none⟩::r) ⟨⟨al L ρ,h⟩,L0,own⟩ Q:=by
 refine EvD.plain (h':=h) rfl (fun run=>?_) kk
 simp only [opVal,stepOp,evL_ev hx,evL_ev hy]
 cases bop <;> simp only [Pm.arith,Option.some.injEq,reduceCtorEq] at hp <;> subst hp <;> simp [binP,intOp,hw]
theorem OutA.rb {sz:Nat} {A J:AHeap} {v:PV} {es:List PV} (o:OutA sz A J v es) (hv:isVals es=true):∃ r1,rb (A++J) v=some r1∧nrm r1=.snap false (nrms es):=by
 rcases o with ⟨rfl,rfl⟩ | ⟨id,ep,rfl,e2⟩
 ·exact ⟨_,rfl,rfl⟩
 ·refine ⟨.snap false es,?_,by simp [nrm]⟩
  have:(A++J)[A.length+id]?=some ⟨.m,ep,sz,es⟩:=by rw [List.getElem?_append_right (by omega),show A.length+id - A.length=id by omega];exact e2
  simp [Pm.rb,rbA,rb1,getM,this,hv]
end Go.Pm
end
section
namespace Go.Pm
variable {C:Cfg} (T:Tab C.P)
variable {ops:Array Oper} {d:Nat} {ty:TypeId} {pos:String} {af:Array Edge} {r:List Oper} {ρ:Nat→PV} {L:List (Nat × PV)} {h h':AHeap} {Q:St→Prop}
theorem EvOps.heap {ρ:Nat→PV} (e:h=h') (k:EvOps C ops r ⟨ρ,h'⟩ Q):EvOps C ops r ⟨ρ,h⟩ Q:=by subst e;exact k
theorem EvD.heap {i:Nat} {ρ:Nat→PV} (e:h=h') (k:EvD C ops i r ⟨⟨ρ,h'⟩,h'.length,[]⟩ Q):EvD C ops i r ⟨⟨ρ,h⟩,h.length,[]⟩ Q:=by subst e;exact k
theorem HV.take {h:AHeap} (H:HV h) (n:Nat):HV (h.take n):=fun o ho=>H o (List.mem_of_mem_take ho)
theorem CallEv.openedV {f:FuncId} {args args':List PV} {N:Nat} {P Q:PV→AHeap→Prop} (hm:C.mode f=.opened) (eh:h=h') (ea:args=args') (hN:h'.length=N) (a:FnEv C f args' h' P)
  (q:∀ r k,P r k→HV k∧(belowR N r=true→Q r (k.take N))∧(belowR N r=false→Q r k)):CallEv C 2 f args h Q:=by
 subst eh;subst ea;subst hN
 refine CallEv.opened hm (a.mono ?_)
 intro r k hp
 obtain ⟨h1,h2,h3⟩:=q r k hp
 cases hb:belowR h.length r
 ·rw [if_neg (by simp)];exact h3 hb
 ·rw [if_pos (by rw [(h1.take h.length).belowA];rfl)];exact h2 hb
end Go.Pm
end
section
namespace Go.Pm
variable {C:Cfg} (T:Tab C.P)
variable {ops:Array Oper} {d:Nat} {ty:TypeId} {pos:String} {af:Array Edge} {r:List Oper} {ρ:Nat→PV} {L:List (Nat × PV)} {h:AHeap} {Q:St→Prop}
theorem CallEv.primL {f:FuncId} {g:List PV→AHeap→Option (PV × AHeap)} {args:List PV} {h':AHeap} {rv:PV} {Q:PV→AHeap→Prop} (hm:C.mode f=.primL g) (a:g args h=some (rv,h')) (q:Q rv h'):CallEv C 2 f args h Q:=by
 refine ⟨rv,h',q,0,fun n h1=>?_⟩
 unfold callF
 rw [hm]
 simp only [lockCall,Nat.le_refl,if_true,a]
def loadT (h:AHeap) (t:TypeId) (p:PV):Option PV:=
 match T.ts t,T.ta t,pcells h p with
 | some (sz+1),some true,some cs=>if Nat.ble (sz+1) cs.length then some (.agg (cs.take (sz+1))) else none
 | some _,some false,some (c::_)=>some c
 | _,_,_=>none
theorem loadT_of {t:TypeId} {p v:PV} (e:loadT T h t p=some v):loadP C.P h t p=some v:=by
 unfold loadT at e
 unfold loadP
 split at e
 ·rename_i sz cs h1 h2 h3
  rw [T.hts _ _ h1,T.hta _ _ h2,h3]
  split at e
  ·rename_i hle
   simp only
   rw [if_pos ⟨by omega,Nat.le_of_ble_eq_true hle⟩]
   exact e
  ·cases e
 ·rename_i h1 h2 h3
  rw [T.hts _ _ h1,T.hta _ _ h2,h3]
  exact e
 ·cases e
def resC (L:List (Nat × PV)) (h:AHeap):List ResultVar→Option (List PV)
 | []=>some []
 | .tmp t::r=>match lk L t,resC L h r with
  | some v,some vs=>some (v::vs)
  | _,_=>none
 | .cell a t::r=>match lk L a with
  | some p=>match loadT T h t p,resC L h r with
   | some v,some vs=>some (v::vs)
   | _,_=>none
  | none=>none
theorem resC_of {ρ:Nat→PV}:∀ {l:List ResultVar} {vs:List PV},resC T L h l=some vs→resultOf C.P h (al L ρ) l=some vs
 | [],vs,e=>by simp [resC] at e;subst e;rfl
 | .tmp t::r,vs,e=>by
  simp only [resC] at e
  split at e
  ·rename_i v vs' h1 h2
   obtain rfl:=Option.some.inj e
   simp [resultOf,lk_al h1,resC_of h2]
  ·cases e
 | .cell a t::r,vs,e=>by
  simp only [resC] at e
  split at e
  ·rename_i p hp
   split at e
   ·rename_i v vs' h1 h2
    obtain rfl:=Option.some.inj e
    simp [resultOf,lk_al hp,loadT_of T h1,resC_of h2]
   ·cases e
  ·cases e
end Go.Pm
end
section
namespace Go.Pm
open Go.Proofs
def okV (sz:Nat) (e:PV):Bool:=isVal e && decide ((cells e).length=sz) && (cells e).all oneC
def insertPrim (args:List PV) (h:AHeap):Option (PV × AHeap):=
 match args with
 | [.snap true [],.int .i64 i,.snap _ [e]]=>if i=0∧okV 5 e=true then some (.mref h.length 0 0 1,newObj h 5 [e]) else none
 | [.mref id ep 0 len,.int .i64 i,.snap _ [e]]=>match getM h id ep with
  | some o=>if o.mu=.m∧o.esz=5∧len≤o.es.length∧0≤i∧i≤len∧len<100000000∧okV 5 e=true∧(o.es.take len).all (okV 5)=true∧closedH h=true then
    some (.mref id (ep+1) 0 (len+1),h.set id {o with ep:=ep+1,es:=(o.es.take len).take i.toNat++[e]++(o.es.take len).drop i.toNat }) else none
  | none=>none
 | _=>none
def insertPrimT (args:List PV) (h:AHeap):Option (PV × AHeap):=
 match args with
 | [.snap true [],.int .i64 i,.snap _ [e]]=>if i=0∧okV 4 e=true then some (.mref h.length 0 0 1,newObj h 4 [e]) else none
 | [.mref id ep 0 len,.int .i64 i,.snap _ [e]]=>match getM h id ep with
  | some o=>if o.mu=.m∧o.esz=4∧len≤o.es.length∧0≤i∧i≤len∧len<100000000∧okV 4 e=true∧(o.es.take len).all (okV 4)=true∧closedH h=true then
    some (.mref id (ep+1) 0 (len+1),h.set id {o with ep:=ep+1,es:=(o.es.take len).take i.toNat++[e]++(o.es.take len).drop i.toNat }) else none
  | none=>none
 | _=>none
def deletePrim (args:List PV) (h:AHeap):Option (PV × AHeap):=
 match args with
 | [.mref id ep 0 len,.int .i64 i,.int .i64 j]=>match getM h id ep with
  | some o=>if o.mu=.m∧o.esz=5∧len≤o.es.length∧0≤i∧j=i+1∧i<len∧len<100000000∧(o.es.take len).all (okV 5)=true∧closedH h=true then
    some (.mref id (ep+1) 0 (len - 1),h.set id {o with ep:=ep+1,es:=(o.es.take len).take i.toNat++(o.es.take len).drop (i.toNat+1) }) else none
  | none=>none
 | _=>none
def clonePrim (esz:Nat) (args:List PV) (h:AHeap):Option (PV × AHeap):=
 match args with
 | [.snap _ es]=>if es.isEmpty then some (.snap true [],h)
   else if es.all (fun v=>decide ((cells v).length=esz) && (cells v).all oneC)=true∧es.length<1000000000 then some (.mref h.length 0 0 es.length,newObj h esz es) else none
 | _=>none
def mode06 (f:FuncId):Mode:=
 if [0,1,347,305,183,240,281,379,161,215,216,370,15,16].contains f then .no
 else if f=194 then .ext fun | [.str a,.str b]=>some (.int .i64 (Lib.compareBytes a.data.toList b.data.toList)) | _=>none
 else if f=351 then .primL insertPrim
 else if f=352 then .primL deletePrim
 else if f=45 then .primL (clonePrim 4)
 else if f=397 then .primL (clonePrim 1)
 else if [152,310,250,311,398,372,387,388,403,402,390,391,378,399,400,207,258,162,45,397,158,203,128,154,129,130,200,87,89,143,86,142,72,104,271,320,272,270,278,371,322,323,324,368,366,367,326,325,369,381,49,51,50,100,360,361,382,359].contains f then .opened
 else if f<410 then .pure
 else .no
noncomputable def C:Cfg:=⟨Tryz.prog,mode06⟩
end Go.Pm
end
section
namespace Go.Pm
variable {C:Cfg} (T:Tab C.P)
variable {ops:Array Oper} {i:Nat} {d:Nat} {ty:TypeId} {pos:String} {af:Array Edge} {r:List Oper} {ρ:Nat→PV} {L:List (Nat × PV)} {h:AHeap} {Q:St→Prop}
theorem CallEv.out {f:FuncId} {sz:Nat} {v:PV} {es rest:List PV} {rv:PV} {Q:PV→AHeap→Prop} (hm:C.mode f=.pure) (o:Out sz h v es) (hv:isVals es=true) (hr:isVals rest=true) (a:Fun C f (.snap false (nrms es)::nrms rest) rv) (hs:scal rv=true) (q:Q rv h):CallEv C 2 f (v::rest) h Q:=by
 rcases o with ⟨rfl,rfl⟩ | ⟨id,ep,rfl,e2⟩
 ·exact CallEv.pure hm (by simp [isVals,isVal,hr]) (by simpa [nrms,nrm] using a) q
 ·refine CallEv.pureM (args':=.snap false es::rest) hm (by simp [isVals,isVal]) ?_ (by simpa [nrms,nrm] using a) hs q
  have h1:rbA h (.mref id ep 0 es.length)=some (.snap false es):=by simp [rbA,rb1,getM,e2,hv]
  have h2:∀ l:List PV,isVals l=true→rbAs h l=some l:=by
   intro l
   induction l with
   | nil=>intro _;rfl
   | cons c l ih=>
    intro hl
    simp only [isVals,Bool.and_eq_true] at hl
    simp only [rbAs,ih hl.2]
    have:rbA h c=some c:=by
     unfold rbA
     split
     ·rename_i cs
      have hcs:isVals cs=true:=by simpa [isVal] using hl.1
      have key:∀ cs:List PV,isVals cs=true→rb1s h cs=some cs:=by
       intro cs
       induction cs with
       | nil=>intro _;rfl
       | cons c cs ih=>
        intro hh
        simp only [isVals,Bool.and_eq_true] at hh
        have:rb1 h c=some c:=by
         unfold rb1
         split
         ·simp [isVal] at hh
         ·rw [if_pos hh.1]
        simp only [rb1s,this,ih hh.2]
      rw [key cs hcs];rfl
     ·unfold rb1
      split
      ·simp [isVal] at hl
      ·rw [if_pos hl.1]
    rw [this]
  simp only [rbAs,h1,h2 rest hr]
structure LP (H:AHeap) (v:PV) (sz:Nat) (es':List PV) (r:PV) (h':AHeap):Prop where
 out:Out sz h' r es'
 hv:HV h'
 len:H.length≤h'.length
 fr:∀ j,j<H.length→(∀ ep n,v≠.mref j ep 0 n)→h'[j]?=H[j]?
 ref:∀ j ep n,r=.mref j ep 0 n→(∃ ep' n',v=.mref j ep' 0 n')∨H.length≤j
theorem okV_vals {sz:Nat}:∀ {es:List PV},es.all (okV sz)=true→isVals es=true
 | [],_=>rfl
 | e::es,h=>by
  rw [List.all_cons,Bool.and_eq_true] at h
  obtain ⟨h1,h2⟩:=h
  unfold okV at h1
  simp only [Bool.and_eq_true] at h1
  simp only [isVals,h1.1.1,okV_vals h2,Bool.and_self]
end Go.Pm
end
