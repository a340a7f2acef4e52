/-
  A part of the library Pm and its contracts (joined by program): PmLay PmSo PmCloI PmUp PmInsPt PmIXt PmISt PmIGt PmIZt PmCloK PmCloP PmCloD PmCloB PmNine PmMemo. Conditions: none.
-/
import Derived.Shelf.SlLaysF0
import Derived.Test.YtimogkojklpdnaaGreatDoorProg
import Derived.KernelRfl
import Derived.Test.YtimogkojklpdnaaGreatDoorPzAH
import Derived.Test.YtimogkojklpdnaaGreatDoorPzAD
import Derived.Shelf.SlSortCmp.NoneTotal
import Derived.Test.YtimogkojklpdnaaGreatDoorPzAG
import Derived.Test.YtimogkojklpdnaaGreatDoorPzAA
set_option linter.unusedVariables false
set_option linter.unusedSimpArgs false
section
namespace Go.Pm
open Go.Proofs Go.Shelf
def layS_ren:Go.Shelf.Ren:=⟨fun | 6=>161 | 15=>208 | 14=>207 | 28=>266 | 29=>267 | 20=>258 | 21=>259 | 22=>260 | 23=>261 | 24=>262 | 25=>263 | 26=>264 | 27=>265 | 46=>313 | 47=>314 | 48=>315 | 49=>316 | 50=>317 | 57=>355 | n=>n,fun | 22=>31 | 24=>33 | 25=>75 | 3=>3 | 39=>190 | 0=>0 | 53=>223 | 55=>202 | 4=>4 | 46=>217 | 45=>216 | 50=>164 | 5=>5 | 9=>9 | 66=>246 | 70=>154 | 76=>285 | 77=>286 | n=>n,fun | n=>n⟩
theorem layS:Go.Proofs.SlLaysF0.n6 Tryz.prog layS_ren:={
 mixed:=by kernel_rfl
 f6:=⟨Tryz.f161.name,by decide,Tryz.func161.trans (congrArg some (by kernel_rfl))⟩
 f14:=⟨Tryz.f207.name,by decide,Tryz.func207.trans (congrArg some (by kernel_rfl))⟩
 f15:=Tryz.func208.trans (congrArg some (by kernel_rfl))
 f20:=⟨Tryz.f258.name,by decide,Tryz.func258.trans (congrArg some (by kernel_rfl))⟩
 f21:=⟨Tryz.f259.name,by decide,Tryz.func259.trans (congrArg some (by kernel_rfl))⟩
 f22:=⟨Tryz.f260.name,by decide,Tryz.func260.trans (congrArg some (by kernel_rfl))⟩
 f23:=⟨Tryz.f261.name,by decide,Tryz.func261.trans (congrArg some (by kernel_rfl))⟩
 f24:=⟨Tryz.f262.name,by decide,Tryz.func262.trans (congrArg some (by kernel_rfl))⟩
 f25:=⟨Tryz.f263.name,by decide,Tryz.func263.trans (congrArg some (by kernel_rfl))⟩
 f26:=⟨Tryz.f264.name,by decide,Tryz.func264.trans (congrArg some (by kernel_rfl))⟩
 f27:=⟨Tryz.f265.name,by decide,Tryz.func265.trans (congrArg some (by kernel_rfl))⟩
 f28:=Tryz.func266.trans (congrArg some (by kernel_rfl))
 f29:=Tryz.func267.trans (congrArg some (by kernel_rfl))
 f46:=⟨Tryz.f313.name,by decide,Tryz.func313.trans (congrArg some (by kernel_rfl))⟩
 f47:=Tryz.func314.trans (congrArg some (by kernel_rfl))
 f48:=Tryz.func315.trans (congrArg some (by kernel_rfl))
 f49:=⟨Tryz.f316.name,by decide,Tryz.func316.trans (congrArg some (by kernel_rfl))⟩
 f50:=⟨Tryz.f317.name,by decide,Tryz.func317.trans (congrArg some (by kernel_rfl))⟩
 f57:=⟨Tryz.f355.name,by decide,Tryz.func355.trans (congrArg some (by kernel_rfl))⟩
 t0:=Tryz.underlying0
 a0:=Tryz.isAgg0
 z0:=Tryz.sizeOf0
 v0:=Tryz.zeroValue0
 t3:=Tryz.underlying3
 a3:=Tryz.isAgg3
 z3:=Tryz.sizeOf3
 v3:=Tryz.zeroValue3
 t4:=Tryz.underlying4
 a4:=Tryz.isAgg4
 z4:=Tryz.sizeOf4
 v4:=Tryz.zeroValue4
 t5:=Tryz.underlying5
 a5:=Tryz.isAgg5
 z5:=Tryz.sizeOf5
 v5:=Tryz.zeroValue5
 t9:=Tryz.underlying9
 a9:=Tryz.isAgg9
 z9:=Tryz.sizeOf9
 v9:=Tryz.zeroValue9
 t22:=Tryz.underlying31
 a22:=Tryz.isAgg31
 z22:=Tryz.sizeOf31
 v22:=Tryz.zeroValue31
 t25:=Tryz.underlying75
 a25:=Tryz.isAgg75
 z25:=Tryz.sizeOf75
 v25:=Tryz.zeroValue75
 t39:=Tryz.underlying190
 a39:=Tryz.isAgg190
 z39:=Tryz.sizeOf190
 v39:=Tryz.zeroValue190
 t45:=Tryz.underlying216
 a45:=Tryz.isAgg216
 z45:=Tryz.sizeOf216
 v45:=Tryz.zeroValue216
 t46:=Tryz.underlying217
 a46:=Tryz.isAgg217
 z46:=Tryz.sizeOf217
 v46:=Tryz.zeroValue217
 t50:=Tryz.underlying164
 a50:=Tryz.isAgg164
 z50:=Tryz.sizeOf164
 v50:=Tryz.zeroValue164
 t53:=Tryz.underlying223
 a53:=Tryz.isAgg223
 z53:=Tryz.sizeOf223
 v53:=Tryz.zeroValue223
 t55:=Tryz.underlying202
 a55:=Tryz.isAgg202
 z55:=Tryz.sizeOf202
 v55:=Tryz.zeroValue202
 t66:=Tryz.underlying246
 a66:=Tryz.isAgg246
 z66:=Tryz.sizeOf246
 v66:=Tryz.zeroValue246
 t70:=Tryz.underlying154
 a70:=Tryz.isAgg154
 z70:=Tryz.sizeOf154
 v70:=Tryz.zeroValue154
 t76:=Tryz.underlying285
 a76:=Tryz.isAgg285
 z76:=Tryz.sizeOf285
 v76:=Tryz.zeroValue285
 t77:=Tryz.underlying286
 a77:=Tryz.isAgg286
 z77:=Tryz.sizeOf286
 v77:=Tryz.zeroValue286 }
theorem laySA:∀ w,(isAgg (layS_ren.t 24)).run Tryz.prog w=.ok true w:=Tryz.isAgg33
theorem laySZ:∀ w,(Go.sizeOf (layS_ren.t 24)).run Tryz.prog w=.ok 4 w:=Tryz.sizeOf33
end Go.Pm
end
section
set_option maxRecDepth 20000
namespace Go.Pm
open Go.Proofs Go.Sort
theorem encs_map (l:List Tm):encs l=l.map enc:=by
 induction l with
 | nil=>rfl
 | cons t l ih=>simp only [encs,List.map_cons,ih]
theorem encs_nth {l:List Tm} {i:Nat} {t:Tm} (h:l[i]?=some t):(encs l)[i]?=some (enc t):=by rw [encs_map,List.getElem?_map,h];rfl
mutual
def decT:PV→Option Tm
 | .agg [.int .i64 k,.str s,.int .i64 o,.snap false l]=>match decTs l with
  | some l'=>some (.mk k s o l')
  | none=>none
 | _=>none
def decTs:List PV→Option (List Tm)
 | []=>some []
 | x::l=>match decT x with
  | some t=>match decTs l with
   | some ts=>some (t::ts)
   | none=>none
  | none=>none
end
mutual
theorem decT_enc:∀ t:Tm,decT (enc t)=some t
 | .mk k s o l=>by simp only [enc,decT,decTs_encs l]
theorem decTs_encs:∀ l:List Tm,decTs (encs l)=some l
 | []=>rfl
 | t::l=>by simp only [encs,decTs,decT_enc t,decTs_encs l]
end
mutual
theorem enc_decT:∀ (p:PV) {t:Tm},decT p=some t→enc t=p
 | .agg [.int .i64 k,.str s,.int .i64 o,.snap false l],t,h=>by
  simp only [decT] at h
  split at h
  ·rename_i l' hl
   obtain rfl:=Option.some.inj h
   simp only [enc,encs_decTs l hl]
  ·cases h
 | p,t,h=>by
  unfold decT at h
  split at h
  ·rename_i k s o l
   split at h
   ·rename_i l' hl
    obtain rfl:=Option.some.inj h
    simp only [enc,encs_decTs l hl]
   ·cases h
  ·cases h
theorem encs_decTs:∀ (es:List PV) {ts:List Tm},decTs es=some ts→encs ts=es
 | [],ts,h=>by simp only [decTs,Option.some.injEq] at h;subst h;rfl
 | x::l,ts,h=>by
  simp only [decTs] at h
  split at h
  ·rename_i t ht
   split at h
   ·rename_i ts' hts
    obtain rfl:=Option.some.inj h
    simp only [encs,enc_decT x ht,encs_decTs l hts]
   ·cases h
  ·cases h
end
theorem cmpT_le_trans {a b c:Tm} (h1:cmpT a b≤0) (h2:cmpT b c≤0):cmpT a c≤0:=by
 rcases Int.lt_or_eq_of_le h1 with h1 | h1
 ·rcases Int.lt_or_eq_of_le h2 with h2 | h2
  ·exact Int.le_of_lt (cmpT_trans h1 h2)
  ·rw [← cmpT_zero h2];exact Int.le_of_lt h1
 ·rw [cmpT_zero h1];exact h2
def insT (t:Tm):List Tm→List Tm
 | []=>[t]
 | x::r=>if cmpT t x≤0 then t::x::r else x::insT t r
def sortT:List Tm→List Tm
 | []=>[]
 | t::r=>insT t (sortT r)
theorem insT_perm (t:Tm):∀ l:List Tm,(insT t l).Perm (t::l)
 | []=>.refl _
 | x::r=>by
  unfold insT
  split
  ·exact .refl _
  ·exact ((insT_perm t r).cons x).trans (.swap t x r)
theorem sortT_perm:∀ ts:List Tm,(sortT ts).Perm ts
 | []=>.refl _
 | t::r=>(insT_perm t (sortT r)).trans ((sortT_perm r).cons t)
theorem insT_srt (t:Tm):∀ {l:List Tm},(l.Pairwise fun x y=>cmpT x y≤0)→(insT t l).Pairwise fun x y=>cmpT x y≤0
 | [],_=>by simp [insT]
 | x::r,h=>by
  unfold insT
  have h2:=List.pairwise_cons.1 h
  split
  ·rename_i hc
   refine List.pairwise_cons.2 ⟨fun y hy=>?_,h⟩
   rcases List.mem_cons.1 hy with rfl | hy
   ·exact hc
   ·exact cmpT_le_trans hc (h2.1 y hy)
  ·rename_i hc
   have ng:=cmpT_neg t x
   refine List.pairwise_cons.2 ⟨fun y hy=>?_,insT_srt t h2.2⟩
   rcases List.mem_cons.1 ((insT_perm t r).mem_iff.1 hy) with rfl | hy
   ·omega
   ·exact h2.1 y hy
theorem sortT_srt:∀ ts:List Tm,(sortT ts).Pairwise fun x y=>cmpT x y≤0
 | []=>.nil
 | t::r=>insT_srt t (sortT_srt r)
theorem sort_unique {a b:List Tm} (hp:a.Perm b) (ha:a.Pairwise fun x y=>cmpT x y≤0) (hb:b.Pairwise fun x y=>cmpT x y≤0):a=b:=
 hp.eq_of_pairwise (fun x y _ _ h1 h2=>cmpT_zero (by have:=cmpT_neg x y;omega)) ha hb
def sortPrim (args:List PV) (h:AHeap):Option (PV × AHeap):=
 match args with
 | [.snap true [],.fn _ []]=>some (.tup [],h)
 | [.mref id ep 0 len,.fn g []]=>match getM h id ep with
  | some o=>match decTs o.es with
   | some ts=>if g=52∧o.mu=.m∧o.esz=4∧len=o.es.length∧len<1000000000∧(ts.all fun t=>decide (bulk t<1000000000))=true then
     some (.tup [],h.set id {o with es:=encs (sortT ts) }) else none
   | none=>none
  | none=>none
 | _=>none
theorem sortPrim_of {h:AHeap} {id ep:Nat} {ts:List Tm} (e:h[id]?=some ⟨.m,ep,4,encs ts⟩) (hn:ts.length<1000000000) (hb:∀ t∈ts,bulk t<1000000000) :
  sortPrim [.mref id ep 0 ts.length,.fn 52 []] h=some (.tup [],h.set id ⟨.m,ep,4,encs (sortT ts)⟩):=by
 have hg:getM h id ep=some ⟨.m,ep,4,encs ts⟩:=getM_at e rfl (by simp)
 have hl:=encs_len ts
 simp only [sortPrim,hg,decTs_encs]
 rw [if_pos ⟨trivial,trivial,trivial,hl.symm,hn,by simpa using hb⟩]
def TV (w:World) (A:Nat→Prop):Type:={ x:Tm × List Value // x.2.length=4∧(∀ v∈x.2,v.oneCell'=true)∧bulk x.1<1000000000∧SRel w A (.agg x.2.toArray) (enc x.1) }
instance (w:World) (A:Nat→Prop):Inhabited (TV w A):=
 ⟨⟨(.mk 0 ByteArray.empty 0 [],[.int .i64 0,.string ByteArray.empty,.int .i64 0,.slice none 0 0]),rfl,by simp [Value.oneCell'],by simp [bulk,bulks],.agg _ _ rfl (fun j hj=>by
  match j,hj with
  | 0,_=>exact .int _ _
  | 1,_=>exact .str _
  | 2,_=>exact .int _ _
  | 3,_=>exact .snapE _ _ _ (fun h=>by cases h)
  | j+4,hj=>simp at hj;omega)⟩⟩
theorem exists_arr {α:Type} [Inhabited α] {R:Nat→α→Prop}:∀ n:Nat,(∀ i,i<n→∃ x,R i x)→∃ d:Array α,d.size=n∧∀ i,i<n→R i d[i]!
 | 0,_=>⟨#[],rfl,fun i hi=>by omega⟩
 | n+1,h=>by
  obtain ⟨d,d1,d2⟩:=exists_arr n (fun i hi=>h i (by omega))
  obtain ⟨x,hx⟩:=h n (by omega)
  refine ⟨d.push x,by simp [d1],fun i hi=>?_⟩
  by_cases hin:i=n
  ·subst hin
   have:(d.push x)[i]! = x:=by simp [← d1]
   rw [this];exact hx
  ·have:(d.push x)[i]! = d[i]!:=by
    have hlt:i<d.size:=by omega
    simp [Array.getElem!_eq_getD,Array.getD,Array.getElem_push,hlt,Nat.lt_succ_of_lt hlt]
   rw [this];exact d2 i (by omega)
theorem swo_T (w:World) (A:Nat→Prop):SWO (ltOf fun x y:TV w A=>cmpT x.1.1 y.1.1) where
 irrefl x:=by simp [ltOf,cmpT_self]
 trans x y z h1 h2:=by
  simp only [ltOf,decide_eq_true_eq] at *
  exact cmpT_trans h1 h2
 ntrans x y z h1 h2:=by
  simp only [ltOf,decide_eq_false_iff_not,Int.not_lt] at *
  have a:=cmpT_neg x.1.1 y.1.1
  have b:=cmpT_neg y.1.1 z.1.1
  have c:=cmpT_neg x.1.1 z.1.1
  have:=cmpT_le_trans (a:=z.1.1) (b:=y.1.1) (c:=x.1.1) (by omega) (by omega)
  omega
theorem sortWorldK_off {α:Type} [Inhabited α] (enc:α→List Value) (k:Nat) (w:World) (blk off m:Nat) (dk:Array α) (os:Array Obj) (b:Nat) (hb:b<w.heap.size) (hne:b≠blk):(sortWorldK enc k w blk off m dk os).heap[b]?=w.heap[b]?:=by
 unfold sortWorldK putRowK putRow mapBlock
 rw [heap_grow_old _ _ (by simpa [ahead] using hb)]
 show (Array.modify w.heap blk _)[b]?=_
 rw [Array.getElem?_modify,if_neg (Ne.symm hne)]
theorem sortWorldK_at {α:Type} [Inhabited α] (enc:α→List Value) (k:Nat) (w:World) (blk off m:Nat) (dk:Array α) (os:Array Obj) {cs:Array Value} {T:TypeId} {fr:Nat × Nat} (hb:w.heap[blk]?=some (.cells cs T fr)) :
  (sortWorldK enc k w blk off m dk os).heap[blk]?=some (.cells (putCells id off (flatK enc k dk) cs) T fr):=by
 have hlt:blk<w.heap.size:=by
  rcases Nat.lt_or_ge blk w.heap.size with h | h
  ·exact h
  ·rw [Array.getElem?_eq_none h] at hb;cases hb
 unfold sortWorldK putRowK putRow mapBlock
 rw [heap_grow_old _ _ (by simpa [ahead] using hlt)]
 show (Array.modify w.heap blk _)[blk]?=_
 rw [Array.getElem?_modify,if_pos rfl,hb]
 rfl
theorem sortWorldK_size {α:Type} [Inhabited α] (enc:α→List Value) (k:Nat) (w:World) (blk off m:Nat) (dk:Array α) (os:Array Obj):w.heap.size≤(sortWorldK enc k w blk off m dk os).heap.size:=by
 unfold sortWorldK putRowK putRow mapBlock
 rw [size_grow]
 simp [ahead]
theorem putCells_get {α:Type} [Inhabited α] {enc:α→List Value} {k:Nat} {dk:Array α} {cs:Array Value} {i j:Nat} (hi:i<dk.size) (hj:j<k) (hs:dk.size * k≤cs.size) (hk:∀ x,(enc x).length=k) :
  (putCells id 0 (flatK enc k dk) cs)[i * k+j]?=(enc dk[i]!)[j]?:=by
 have lt:i * k+j<dk.size * k:=by
  have:=Nat.mul_le_mul_right k (show i+1≤dk.size from hi);rw [Nat.add_mul,Nat.one_mul] at this;omega
 have e1:(i * k+j) / k=i:=(blk_iff k i _ (by omega)).1 ⟨by omega,by omega⟩
 have e2:(i * k+j) % k=j:=by rw [Nat.mod_eq_sub_div_mul,e1];omega
 unfold putCells
 rw [Array.getElem?_mapIdx,Array.getElem?_eq_getElem (show i * k+j<cs.size by omega)]
 simp only [Option.map_some,Nat.zero_le,true_and,Nat.zero_add,size_flatK,if_pos lt,id,Nat.sub_zero]
 rw [get_flatK _ _ _ _ lt,e1,e2,List.getElem?_eq_getElem (by rw [hk];exact hj)]
 rw [getElem!_pos _ j (by rw [hk];exact hj)]
variable {w:World} {F:Nat→Prop} {β:List (Nat × Nat)} {h:AHeap}
theorem tv_of {cs:Array Value} {t:Tm} {i:Nat} (hb:bulk t<1000000000) (q2:∀ (j:Nat) (p:PV),(cells (enc t))[j]?=some p→∃ v:Value,cs[i * 4+j]?=some v∧VRel w (Av F h β) β h v p) :
  ∃ x:TV w (Av F h β),x.1.1=t∧∀ j,j<4→cs[i * 4+j]?=x.1.2[j]?:=by
 obtain ⟨k,s,o,l⟩:=t
 obtain ⟨a,a1,a2⟩:=q2 0 (.int .i64 k) rfl
 obtain ⟨b,b1,b2⟩:=q2 1 (.str s) rfl
 obtain ⟨c,c1,c2⟩:=q2 2 (.int .i64 o) rfl
 obtain ⟨d,d1,d2⟩:=q2 3 (.snap false (encs l)) rfl
 have a3:=a2.toS rfl
 have b3:=b2.toS rfl
 have c3:=c2.toS rfl
 have d3:=d2.snap_inv
 have o4:d.oneCell'=true:=by obtain ⟨ad,cap,rfl,_⟩:=d3.snap_len;rfl
 refine ⟨⟨(.mk k s o l,[a,b,c,d]),rfl,?_,hb,.agg [a,b,c,d] _ rfl (fun j hj=>?_)⟩,rfl,fun j hj=>?_⟩
 ·intro v hv
  simp only [List.mem_cons,List.not_mem_nil,or_false] at hv
  rcases hv with rfl | rfl | rfl | rfl
  ·cases a3;rfl
  ·cases b3;rfl
  ·cases c3;rfl
  ·exact o4
 ·match j,hj with
  | 0,_=>exact a3
  | 1,_=>exact b3
  | 2,_=>exact c3
  | 3,_=>exact d3
  | j+4,hj=>simp at hj;omega
 ·match j,hj with
  | 0,_=>exact a1
  | 1,_=>exact b1
  | 2,_=>exact c1
  | 3,_=>exact d1
  | j+4,hj=>omega
theorem L2.two {R:Value→PV→Prop} {vs:List Value} {a b:PV} (h:L2 R vs [a,b]):∃ x y,vs=[x,y]∧R x a∧R y b:=by
 obtain ⟨h1,h2⟩:=h
 match vs,h1 with
 | [x,y],_=>exact ⟨x,y,rfl,h2 0 (by simp),h2 1 (by simp)⟩
theorem cmp_enters (args:Array Value) (w:World):(callFunc 52 args).run C.P w=.ok (.enter 52 args) w:=enters_of Tryz.func52 (by kernel_rfl) rfl args w
theorem sort_core {vs:List Value} {id ep:Nat} {o:AObj} {ts:List Tm} (H:HRel w F β h) (ha:L2 (VRel w (Av F h β) β h) vs [.mref id ep 0 o.es.length,.fn 52 []]) (hg:getM h id ep=some o) (hm:o.mu=.m) (hz:o.esz=4)
  (hn:o.es.length<1000000000) (hes:encs ts=o.es) (hbk:∀ t∈ts,bulk t<1000000000):CSim C.P 2 w F β h 161 vs (.tup []) (h.set id {o with es:=encs (sortT ts) }):=by
 obtain ⟨g1,g2,g3⟩:=getM_some hg
 obtain ⟨bc,hbc⟩:=beta_at H.len g1
 obtain ⟨v0,v1,rfl,h0,h1⟩:=ha.two
 obtain ⟨_,_,m3⟩:=h0.mref_inv
 obtain ⟨cap,c1,c2⟩:=m3 o bc g1 hbc g3 g2 (by omega)
 rw [Nat.zero_mul] at c1
 obtain ⟨us,d1,d2,_⟩:=h1.fn_inv
 obtain rfl:us=[]:=List.eq_nil_of_length_eq_zero d2
 subst c1 d1
 obtain ⟨T,cs,k1,k2,k3,k4,k5⟩:=(H.obj id o bc g1 hbc g3).c (by omega)
 have hblk:bc.1<w.heap.size:=Mb.lt H ⟨id,o,bc,g1,hbc,hm,rfl⟩
 have hav:Av F h β bc.1:=.inr ⟨id,o,bc,g1,hbc,hm,rfl⟩
 have hlen:ts.length=o.es.length:=by rw [← hes,encs_len]
 have hcs:ts.length * 4≤cs.size:=by rw [hz] at k3;omega
 obtain ⟨d,dl,dh⟩:=exists_arr (α:=TV w (Av F h β)) (R:=fun i x=>ts[i]?=some x.1.1∧∀ j,j<4→cs[i * 4+j]?=x.1.2[j]?) ts.length (fun i hi=>by
  have ht:ts[i]?=some ts[i]:=List.getElem?_eq_getElem hi
  obtain ⟨_,q2⟩:=k5 i (enc ts[i]) (by rw [← hes];exact encs_nth ht)
  rw [hz] at q2
  obtain ⟨x,x1,x2⟩:=tv_of (hbk _ (List.getElem_mem hi)) q2
  exact ⟨x,by rw [ht,x1],x2⟩)
 have hk:∀ x:TV w (Av F h β),x.1.2.length=4:=fun x=>x.2.1
 have hH:HoldsK (fun x:TV w (Av F h β)=>x.1.2) 4 w bc.1 0 d:=by
  intro j hj
  rw [size_flatK] at hj
  have hj4:j / 4<d.size:=by omega
  obtain ⟨_,r2⟩:=dh (j / 4) (by omega)
  have:=r2 (j % 4) (by omega)
  rw [show j / 4 * 4+j % 4=j by omega] at this
  refine ⟨?_,by simp [World.frozen?,k1]⟩
  rw [get_flatK _ _ _ _ hj]
  have hl:j % 4<(d[j / 4]!).1.2.length:=by rw [hk];omega
  rw [List.getElem?_eq_getElem hl] at this
  simp only [World.cell?,k1,Nat.zero_add,this]
  rw [getElem!_pos (d[j / 4]!).1.2 (j % 4) hl]
  rfl
 have hcmp:CmpLays C.P 52 #[] (fun x:TV w (Av F h β)=>x.1.2) 4 (fun x y=>cmpT x.1.1 y.1.1) bc.1 0 d.size w:=by
  intro m os dk hs x y
  obtain ⟨n,hn⟩:=(tcmp_fun x.1.1 y.1.1 x.2.2.2.1 y.2.2.2.1).pureF
  have up:∀ (x:TV w (Av F h β)),SRel (sortWorldK (fun x:TV w (Av F h β)=>x.1.2) 4 w bc.1 0 m dk os) (fun _=>False) (.agg x.1.2.toArray) (enc x.1.1):=fun x=>
   x.2.2.2.2.mono (fun b hb hnb=>sortWorldK_off _ _ _ _ _ _ _ _ b hb (fun e=>hnb (e ▸ hav))) (fun _ _ _ hh=>hh)
  have hargs:L2 (SRel (sortWorldK (fun x:TV w (Av F h β)=>x.1.2) 4 w bc.1 0 m dk os) (fun _=>False)) [.agg x.1.2.toArray,.agg y.1.2.toArray] [enc x.1.1,enc y.1.1]:=⟨rfl,fun j hj=>by
   match j,hj with
   | 0,_=>exact up x
   | 1,_=>exact up y
   | j+2,hj=>simp at hj;omega⟩
  rw [Array.append_empty]
  refine (pureF_sim cfgOk6 codesOk6 (.inl rfl) hn (fun b hb=>hb.elim) hargs).mono ?_
  rintro e w' ⟨v,rfl,hv,hgr⟩
  cases hv
  exact ⟨rfl,hgr.grow⟩
 have hcon:=AnyQ.slices_SortFunc layS 4 laySA laySZ (fun x:TV w (Av F h β)=>x.1.2) hk (fun x=>x.2.2.1) (fun x y=>cmpT x.1.1 y.1.1) (swo_T w _) 52 #[] bc.1 0 cap d w cmp_enters hcmp hH hblk (by omega)
 rw [dl,hlen] at hcon
 refine hcon.mono ?_
 rintro e w' ⟨rfl,d',n,os,hp,hs,rfl⟩
 rw [← hlen,← dl] at hp hs
 have hsz':d'.size=d.size:=hp.1
 have hdt:d.toList.map (fun x=>x.1.1)=ts:=by
  apply List.ext_getElem?
  intro i
  by_cases hi:i<ts.length
  ·rw [List.getElem?_map,(dh i hi).1,Array.getElem?_toList,Array.getElem?_eq_getElem (by omega),getElem!_pos d i (by omega)];rfl
  ·rw [List.getElem?_eq_none (by simp;omega),List.getElem?_eq_none (by omega)]
 have hts:d'.toList.map (fun x=>x.1.1)=sortT ts:=by
  refine sort_unique ?_ ?_ (sortT_srt ts)
  ·have h3:=hp.2.2
   rw [show d.extract 0 d.size=d by simp,show d'.extract 0 d.size=d' by rw [← hsz'];simp] at h3
   refine (h3.map _).trans ?_
   rw [hdt]
   exact (sortT_perm ts).symm
  ·rw [List.pairwise_map,List.pairwise_iff_getElem]
   intro i j hi hj hij
   simp only [Array.length_toList] at hi hj
   have:=hs i j (Nat.zero_le _) hij (by omega)
   rw [getElem!_pos d' i (by omega),getElem!_pos d' j (by omega)] at this
   simp only [ltOf,decide_eq_false_iff_not,Int.not_lt] at this
   have ng:=cmpT_neg d'[i].1.1 d'[j].1.1
   simp only [Array.getElem_toList]
   omega
 have hl2:(encs (sortT ts)).length=o.es.length:=by rw [encs_len,← hts];simp;omega
 obtain ⟨H',S'⟩:=H.set (w':=sortWorldK (fun x:TV w (Av F h β)=>x.1.2) 4 w bc.1 0 n d' os) g1 hbc hm T (putCells _root_.id 0 (flatK (fun x:TV w (Av F h β)=>x.1.2) 4 d') cs) (encs (sortT ts)) o.ep bc (sortWorldK_size _ _ _ _ _ _ _ _) (sortWorldK_at _ _ _ _ _ _ _ _ k1)
  (fun b hb hne=>sortWorldK_off _ _ _ _ _ _ _ _ b hb hne) (.inl ⟨rfl,fun _=>hl2⟩) (Nat.le_refl _) rfl rfl rfl (by rw [hl2];exact k2) (by simpa [putCells] using k3) (fun i e he=>by
   have hi:i<d'.size:=by have:=lt_of_some he;omega
   have he2:(sortT ts)[i]?=some d'[i].1.1:=by rw [← hts,List.getElem?_map,Array.getElem?_toList,Array.getElem?_eq_getElem hi];rfl
   rw [encs_nth he2] at he
   obtain rfl:=Option.some.inj he
   have sr:=d'[i].2.2.2.2
   obtain ⟨z1,z2⟩:=sr.cells
   rw [hz]
   have hcl:(cells (enc d'[i].1.1)).length=4:=by
    rw [← z1];show d'[i].1.2.toArray.size=4;simpa using hk d'[i]
   refine ⟨hcl,fun j p hp=>?_⟩
   obtain ⟨u,u1,u2⟩:=z2 j p hp
   refine ⟨u,?_,.val u2⟩
   have hj:=lt_of_some hp
   rw [putCells_get (enc:=fun x:TV w (Av F h β)=>x.1.2) hi (by omega) (by omega) hk,getElem!_pos d' i hi]
   have u3:d'[i].1.2.toArray[j]?=some u:=u1
   simpa using u3) (by show w.drawn≤w.drawn+n;omega)
 rw [beta_set hbc] at H' S'
 exact ⟨_,β,rfl,.val (.tup [] [] rfl (fun j hj=>by simp at hj)),H',S',fun hh=>by omega⟩
theorem sort_sim:SimRun C.P 161 sortPrim:=by
 intro args h r h' e w F β vs H ha
 unfold sortPrim at e
 split at e
 ·rename_i g
  obtain ⟨rfl,rfl⟩:=Prod.mk.inj (Option.some.inj e)
  obtain ⟨v0,v1,rfl,h0,h1⟩:=ha.two
  obtain ⟨ad,cap,rfl,_,_⟩:=h0.snap_inv.snap_len
  have hcon:=AnyF.slices_SortFunc_none layS ad cap v1 w
  refine hcon.mono ?_
  rintro e w' ⟨rfl,rfl⟩
  exact ⟨_,β,rfl,.val (.tup [] [] rfl (fun j hj=>by simp at hj)),H,Stp.refl w' h β,fun hh=>by omega⟩
 ·rename_i id ep len g
  split at e
  ·rename_i o hg
   split at e
   ·rename_i ts hd
    split at e
    ·rename_i hc
     obtain ⟨rfl,rfl⟩:=Prod.mk.inj (Option.some.inj e)
     obtain ⟨rfl,c1,c2,rfl,c4,c5⟩:=hc
     exact sort_core H ha hg c1 c2 c4 (encs_decTs _ hd) (by simpa using c5)
    ·cases e
   ·cases e
  ·cases e
 ·cases e
end Go.Pm
end
section
set_option maxRecDepth 100000
set_option maxHeartbeats 4000000
namespace Go.Pm
open Go.Proofs
variable {w:World} {F:Nat→Prop} {β:List (Nat × Nat)} {h:AHeap}
attribute [local irreducible] thenQ blockQ loopQ bodyQ Ev EvOps CallEv FnEv EvD
namespace Zero
end Zero
end Go.Pm
end
section
namespace Go.Pm
def Moded (md md':FuncId→Mode):Prop:=∀ f,md f=.no∨md f=md' f
variable {P:Program} {md md':FuncId→Mode} {run run':Run}
def CallLe (P:Program) (md md':FuncId→Mode) (run run':Run):Prop:=∀ (lv:Nat) (f:FuncId) (args:List PV) (h:AHeap) (x:PV × AHeap),callF ⟨P,md⟩ run lv f args h=some x→callF ⟨P,md'⟩ run' lv f args h=some x
theorem callF_up (M:Moded md md') (L:RunLe run run') {lv:Nat} {f:FuncId} {args:List PV} {h:AHeap} {x:PV × AHeap} (e:callF ⟨P,md⟩ run lv f args h=some x):callF ⟨P,md'⟩ run' lv f args h=some x:=by
 unfold callF at e ⊢
 rcases M f with hz | hz
 ·simp only [hz] at e
  cases e
 simp only [← hz]
 cases hm:md f <;> simp only [hm] at e ⊢
 ·cases e
 ·exact callPure_mono L e
 ·exact callOpen_mono L e
 ·exact e
 ·exact lockCall_mono (fun _ _ _ x=>x) e
 ·exact e
theorem callLe_of (M:Moded md md') (L:RunLe run run'):CallLe P md md' run run':=fun lv f args h x e=>callF_up M L e
theorem opVal_up (M:CallLe P md md' run run') {lv:Nat} {op:Op} {ρ:Nat→PV} {h:AHeap} {x:PV × AHeap} (e:opVal ⟨P,md⟩ run lv op ρ h=some x):opVal ⟨P,md'⟩ run' lv op ρ h=some x:=by
 unfold opVal at e ⊢
 split at e
 ·split at e
  ·unfold calleeP at e ⊢
   split at e
   ·exact M _ _ _ _ _ e
   ·exact M _ _ _ _ _ e
   ·cases e
  ·exact e
  ·cases e
 ·exact e
theorem opStep_up (M:CallLe P md md' run run') {ops:Array Oper} {o:Oper} {s s':St} (e:opStep ⟨P,md⟩ run ops o s=some s'):opStep ⟨P,md'⟩ run' ops o s=some s':=by
 unfold opStep at e ⊢
 split at e
 ·cases hr:opVal ⟨P,md⟩ run 2 o.op s.ρ s.h with
  | none=>rw [hr] at e;cases e
  | some y=>rw [hr] at e;rw [opVal_up M hr];exact e
 ·exact e
 ·cases e
theorem evalOps_up (M:CallLe P md md' run run') {ops:Array Oper}:∀ {l:List Oper} {s s':St},evalOps ⟨P,md⟩ run ops l s=some s'→evalOps ⟨P,md'⟩ run' ops l s=some s'
 | [],s,s',e=>e
 | o::l,s,s',e=>by
  simp only [evalOps] at e ⊢
  cases hr:opStep ⟨P,md⟩ run ops o s with
  | none=>rw [hr] at e;cases e
  | some y=>
   rw [hr] at e
   rw [opStep_up M hr]
   exact evalOps_up M e
theorem opStepD_up (M:CallLe P md md' run run') {ops:Array Oper} {b:List Nat} {i:Nat} {o:Oper} {s s':DSt} (e:opStepD ⟨P,md⟩ run ops b i o s=some s'):opStepD ⟨P,md'⟩ run' ops b i o s=some s':=by
 unfold opStepD at e ⊢
 split at e
 ·split at e
  ·rename_i hh
   rw [if_pos hh]
   cases hr:opVal ⟨P,md⟩ run 1 o.op s.s.ρ s.s.h with
   | none=>rw [hr] at e;cases e
   | some y=>rw [hr] at e;rw [opVal_up M hr];exact e
  ·rename_i hh
   rw [if_neg hh]
   split at e
   ·rename_i hl
    rw [if_pos hl]
    cases hr:opVal ⟨P,md⟩ run 2 o.op s.s.ρ s.s.h with
    | none=>rw [hr] at e;cases e
    | some y=>rw [hr] at e;rw [opVal_up M hr];exact e
   ·rename_i hl
    rw [if_neg hl]
    simp only at e ⊢
    split at e
    ·rename_i hc
     rw [if_pos hc]
     cases hr:opVal ⟨P,md⟩ run 1 o.op s.s.ρ (maskE (b.getD i 0).testBit s.L0 s.own s.s.h) with
     | none=>rw [hr] at e;cases e
     | some y=>rw [hr] at e;rw [opVal_up M hr];exact e
    ·cases e
 ·exact e
 ·cases e
theorem evalOpsD_up (M:CallLe P md md' run run') {ops:Array Oper} {b:List Nat}:∀ {l:List Oper} {i:Nat} {s s':DSt},evalOpsD ⟨P,md⟩ run ops b i l s=some s'→evalOpsD ⟨P,md'⟩ run' ops b i l s=some s'
 | [],i,s,s',e=>e
 | o::l,i,s,s',e=>by
  simp only [evalOpsD] at e ⊢
  cases hr:opStepD ⟨P,md⟩ run ops b i o s with
  | none=>rw [hr] at e;cases e
  | some y=>
   rw [hr] at e
   rw [opStepD_up M hr]
   exact evalOpsD_up M e
theorem opStepK_up (M:CallLe P md md' run run') {ops:Array Oper} {b:List Nat} {h0:AHeap} {i:Nat} {o:Oper} {s s':St} (e:opStepK ⟨P,md⟩ run ops b h0 i o s=some s'):opStepK ⟨P,md'⟩ run' ops b h0 i o s=some s':=by
 unfold opStepK at e ⊢
 split at e
 ·split at e
  ·rename_i hh
   rw [if_pos hh]
   cases hr:opVal ⟨P,md⟩ run 1 o.op s.ρ s.h with
   | none=>rw [hr] at e;cases e
   | some y=>rw [hr] at e;rw [opVal_up M hr];exact e
  ·rename_i hh
   rw [if_neg hh]
   split at e
   ·rename_i hl
    rw [if_pos hl];exact e
   ·rename_i hl
    rw [if_neg hl]
    cases hs:(if isBs o.op then stepOp P 1 o.op s.ρ s.h else none) with
    | some y=>rw [hs] at e;exact e
    | none=>
     rw [hs] at e
     simp only at e ⊢
     split at e
     ·rename_i hk
      rw [if_pos hk]
      cases hr:opVal ⟨P,md⟩ run 2 o.op s.ρ s.h with
      | none=>rw [hr] at e;cases e
      | some y=>rw [hr] at e;rw [opVal_up M hr];exact e
     ·cases e
 ·exact e
 ·cases e
theorem evalOpsK_up (M:CallLe P md md' run run') {ops:Array Oper} {b:List Nat} {h0:AHeap}:∀ {l:List Oper} {i:Nat} {s s':St},evalOpsK ⟨P,md⟩ run ops b h0 i l s=some s'→evalOpsK ⟨P,md'⟩ run' ops b h0 i l s=some s'
 | [],i,s,s',e=>e
 | o::l,i,s,s',e=>by
  simp only [evalOpsK] at e ⊢
  cases hr:opStepK ⟨P,md⟩ run ops b h0 i o s with
  | none=>rw [hr] at e;cases e
  | some y=>
   rw [hr] at e
   rw [opStepK_up M hr]
   exact evalOpsK_up M e
theorem calmD_up (M:CallLe P md md' run run') {ops:Array Oper} {s s':St} (e:calmD ⟨P,md⟩ run ops s=some s'):calmD ⟨P,md'⟩ run' ops s=some s':=by
 unfold calmD at e ⊢
 cases hr:evalOpsK ⟨P,md⟩ run ops (before ops) (lockL (lockIds ops (before ops) s.ρ) s.h) 0 ops.toList ⟨s.ρ,lockL (lockIds ops (before ops) s.ρ) s.h⟩ with
 | none=>rw [hr] at e;cases e
 | some y=>rw [hr] at e;rw [evalOpsK_up M hr];exact e
theorem evalC_up (M:CallLe P md md' run run') {n m:Nat} (hnm:n≤m):∀ (c:Code) {s:St} {x:Ex × St},evalC ⟨P,md⟩ run n c s=some x→evalC ⟨P,md'⟩ run' m c s=some x:=by
 intro c
 induction c with
 | region id ops draw=>
  intro s x e
  simp only [evalC] at e ⊢
  cases draw with
  | false=>
   simp only [Bool.false_eq_true,if_false] at e ⊢
   cases hr:evalOps ⟨P,md⟩ run ops ops.toList s with
   | none=>rw [hr] at e;cases e
   | some y=>rw [hr] at e;rw [evalOps_up M hr];exact e
  | true=>
   simp only [if_true] at e ⊢
   by_cases hk:calmS ops=true
   ·simp only [hk,if_true] at e ⊢
    cases hr:calmD ⟨P,md⟩ run ops s with
    | none=>rw [hr] at e;cases e
    | some y=>rw [hr] at e;rw [calmD_up M hr];exact e
   ·simp only [hk] at e ⊢
    cases hr:evalOpsD ⟨P,md⟩ run ops (before ops) 0 ops.toList ⟨s,s.h.length,[]⟩ with
    | none=>rw [hr] at e;simp at e
    | some y=>rw [hr] at e;rw [evalOpsD_up M hr];exact e
 | seq a b iha ihb=>
  intro s x e
  simp only [evalC] at e ⊢
  cases hr:evalC ⟨P,md⟩ run n a s with
  | none=>rw [hr] at e;cases e
  | some y=>
   rw [hr] at e
   rw [iha hr]
   obtain ⟨ex,s'⟩:=y
   cases ex with
   | normal=>exact ihb e
   | exit id=>exact e
   | ret=>exact e
 | cond c a b iha ihb=>
  intro s x e
  simp only [evalC] at e ⊢
  split at e
  ·exact iha e
  ·exact ihb e
  ·cases e
 | block id c ih=>
  intro s x e
  simp only [evalC] at e ⊢
  cases hr:evalC ⟨P,md⟩ run n c s with
  | none=>rw [hr] at e;cases e
  | some y=>rw [hr] at e;rw [ih hr];exact e
 | loop c ih=>
  intro s x e
  simp only [evalC] at e ⊢
  exact iter_mono (fun s x=>ih) hnm e
 | scope c ih=>
  intro s x e
  simp only [evalC] at e ⊢
  exact ih e
 | _=>
  intro s x e
  first
   | exact e
   | (simp [evalC] at e;done)
   | (simp only [evalC] at e ⊢;exact e)
theorem bodyF_up (M:CallLe P md md' run run') {n m:Nat} (hnm:n≤m):RunLe (bodyF ⟨P,md⟩ run n) (bodyF ⟨P,md'⟩ run' m):=by
 intro f args h x e
 unfold bodyF at e ⊢
 cases hf:P.funcs[f]? with
 | none=>rw [hf] at e;cases e
 | some fn=>
  rw [hf] at e
  simp only at e ⊢
  cases hb:fn.body with
  | none=>rw [hb] at e;cases e
  | some c=>
   rw [hb] at e
   simp only at e ⊢
   cases hr:evalC ⟨P,md⟩ run n c ⟨envOf args,h⟩ with
   | none=>rw [hr] at e;cases e
   | some y=>rw [hr] at e;rw [evalC_up M hnm c hr];exact e
theorem runF_up (M:Moded md md'):∀ n,RunLe (runF ⟨P,md⟩ n) (runF ⟨P,md'⟩ n)
 | 0=>fun f args h x e=>by cases e
 | n+1=>bodyF_up (callLe_of M (runF_up M n)) (Nat.le_refl n)
theorem Fun.up (M:Moded md md') {f:FuncId} {args:List PV} {r:PV} (a:Fun ⟨P,md⟩ f args r):Fun ⟨P,md'⟩ f args r:=by
 obtain ⟨n0,hn⟩:=a
 refine ⟨n0,fun n h1=>?_⟩
 obtain ⟨r0,hc,r1,e1,e2⟩:=hn n h1
 exact ⟨r0,hc,r1,runF_up M n _ _ _ _ e1,e2⟩
end Go.Pm
end
section
set_option maxRecDepth 100000
set_option maxHeartbeats 4000000
namespace Go.Pm
open Go.Proofs
open Go.Pm.Zero (of_fnEv l2_three)
attribute [local irreducible] thenQ blockQ loopQ bodyQ Ev EvOps CallEv FnEv EvD
variable {w:World} {F:Nat→Prop} {β:List (Nat × Nat)} {h:AHeap}
namespace ZeroT
noncomputable abbrev T6:Tab C0.P:=Zero.T6
theorem insNil_ev {h:AHeap} {fl:Bool} {e:PV} (he:okV 4 e=true):FnEv C0 215 [.snap true [],.int .i64 0,.snap fl [e]] h (fun r h'=>r=.mref h.length 0 0 1∧h'=h++[⟨.m,0,4,[e]⟩]):=by
 refine FnEv.bodyL Tryz.func215 rfl ?_
 have hu:C0.P.underlying 132=some (.slice 33):=kd_sl (T6.hkd 132 _ rfl)
 have hl1:([e]:List PV).length=1:=rfl
 (repeat' (first | refine EvOps.nil ?_ | (apply R.move;exact rfl) | (apply R.assign;exact rfl) | refine Ev.seq ?_ | refine Ev.region ?_ | refine thenQ.normal ?_ | fail))
 apply R.slice
 ·exact rfl
 ·exact rfl
 ·exact rfl
 ·exact rfl
 ·exact sliceLo_s hu (T6.hts 33 4 rfl)
 (repeat' (first | refine EvOps.nil ?_ | (apply R.move;exact rfl) | (apply R.assign;exact rfl) | (apply R.cmp;exact rfl;exact rfl;exact rfl;all_goals intro hc;all_goals (try (exfalso;omega))) | (apply R.lenS T6;exact rfl;exact rfl) | refine Ev.seq ?_ | refine Ev.region ?_ | (apply Ev.condB;exact rfl) | refine Ev.skip ?_ | refine thenQ.normal ?_ | fail))
 all_goals try (exfalso;revert hc;decide)
 all_goals (
  apply R.appendS1 T6;exact rfl;exact rfl;exact rfl;exact rfl;exact rfl;exact rfl;exact rfl;exact (by decide);exact rfl;exact rfl;exact okV_esOk he;exact (by simp);exact (by show 1<_;decide)
  (repeat' (first | refine EvOps.nil ?_ | (apply R.assign;exact rfl) | refine Ev.ret ?_ | refine thenQ.normal ?_ | refine thenQ.ret ?_ | (apply bodyQ.ret;exact rfl) | fail))
  exact ⟨rfl,rfl⟩)
theorem insEnd_ev {h:AHeap} {fl:Bool} {e:PV} {id ep len:Nat} {o:AObj} (he:okV 4 e=true) (hg:getM h id ep=some o) (hm:o.mu=.m) (hz:o.esz=4) (hle:len≤o.es.length) (hn:len<100000000) :
  FnEv C0 215 [.mref id ep 0 len,.int .i64 (len:Int),.snap fl [e]] h (fun r h'=>r=.mref id (ep+1) 0 (len+1)∧h'=h.set id {o with ep:=ep+1,es:=o.es.take len++[e] }):=by
 refine FnEv.bodyL Tryz.func215 rfl ?_
 have hu:C0.P.underlying 132=some (.slice 33):=kd_sl (T6.hkd 132 _ rfl)
 have hl1:([e]:List PV).length=1:=rfl
 have hsz:tsize C0.P 33=some o.esz:=by rw [hz];exact T6.hts 33 4 rfl
 (repeat' (first | refine EvOps.nil ?_ | (apply R.move;exact rfl) | (apply R.assign;exact rfl) | refine Ev.seq ?_ | refine Ev.region ?_ | refine thenQ.normal ?_ | fail))
 apply R.slice
 ·exact rfl
 ·exact rfl
 ·exact rfl
 ·exact rfl
 ·exact sliceLo_m hu hsz hg (Nat.le_refl _) hle
 (repeat' (first | refine EvOps.nil ?_ | (apply R.move;exact rfl) | (apply R.assign;exact rfl) | (apply R.cmp;exact rfl;exact rfl;exact rfl;all_goals intro hc;all_goals (try (exfalso;omega))) | (apply R.lenS T6;exact rfl;exact rfl) | refine Ev.seq ?_ | refine Ev.region ?_ | (apply Ev.condB;exact rfl) | refine Ev.skip ?_ | refine thenQ.normal ?_ | fail))
 all_goals try (exfalso;revert hc;decide)
 all_goals (
  apply R.lenM T6 (o:=o);exact rfl;exact rfl;exact hg;exact (by omega)
  (repeat' (first | refine EvOps.nil ?_ | (apply R.move;exact rfl) | (apply R.assign;exact rfl) | (apply R.cmp;exact rfl;exact rfl;exact rfl;all_goals intro hc;all_goals (try (exfalso;omega))) | refine Ev.seq ?_ | refine Ev.region ?_ | (apply Ev.condB;exact rfl) | refine thenQ.normal ?_ | fail))
  apply R.appendMm T6 (o:=o);exact rfl;exact rfl;exact rfl;exact rfl;exact rfl;exact rfl;exact rfl;exact (by decide);exact rfl;exact rfl;exact okV_esOk he;exact rfl;exact (by show len+1<_;omega);exact hg;exact hm;exact hz;exact hle
  (repeat' (first | refine EvOps.nil ?_ | (apply R.assign;exact rfl) | refine Ev.ret ?_ | refine thenQ.normal ?_ | refine thenQ.ret ?_ | (apply bodyQ.ret;exact rfl) | fail))
  exact ⟨rfl,rfl⟩)
end ZeroT
end Go.Pm
end
section
set_option maxRecDepth 100000
set_option maxHeartbeats 4000000
namespace Go.Pm
open Go.Proofs
open Go.Pm.Zero (of_fnEv l2_three)
attribute [local irreducible] thenQ blockQ loopQ bodyQ Ev EvOps CallEv FnEv EvD
variable {w:World} {F:Nat→Prop} {β:List (Nat × Nat)} {h:AHeap}
namespace ZeroT
noncomputable def c63:Code:=match Tryz.f215.body with | some c=>c | none=>.skip
theorem body63:Tryz.f215.body=some c63:=rfl
variable {w:World} {F:Nat→Prop} {β:List (Nat × Nat)}
theorem ins_pre {h:AHeap} {id ep len i N:Nat} {o:AObj} {fl:Bool} {e:PV} {a:Act} {Q:Exit→Act→World→Prop} (hg:getM h id ep=some o) (hz:o.esz=4) (hle:len≤o.es.length) (hi:i<len) (hn:len<100000000) (hN:N=Tryz.f215.ntmps)
  (RR:SR N w F β ⟨envOf [.mref id ep 0 len,.int .i64 (i:Int),.snap fl [e]],h⟩ a)
  (k:∀ a' w' β' ρ',SR N w' F β' ⟨al [(0,.mref id ep 0 len),(1,.int .i64 (i:Int)),(2,.snap fl [e]),(7,.int .i64 1),(8,.int .i64 (len:Int))] ρ',h⟩ a'→Stp w h β w' h β'→(tlC 6 c63).wp C0.P Q a' w'):c63.wp C0.P Q a w:=by
 subst hN
 have hu:C0.P.underlying 132=some (.slice 33):=kd_sl (T6.hkd 132 _ rfl)
 have hsz:tsize C0.P 33=some o.esz:=by rw [hz];exact T6.hts 33 4 rfl
 have hl1:([e]:List PV).length=1:=rfl
 refine wp_seq ?_
 refine ev_wp K0 mixed0 S0 (M:=fun ex s'=>ex=.normal∧∃ ρ',s'=⟨al [(0,.mref id ep 0 len),(1,.int .i64 (i:Int)),(2,.snap fl [e])] ρ',h⟩) rfl ?_ RR ?_
 ·rw [envOf_al]
  (repeat' (first | refine EvOps.nil ?_ | (apply R.assign;exact rfl) | refine Ev.region ?_ | fail))
  exact ⟨rfl,_,St.keep ⟨rfl,rfl,rfl,trivial⟩⟩
 rintro ex s' a1 w1 β1 ⟨rfl,ρ1,rfl⟩ R1 S1
 refine wp_seq ?_
 refine ev_wp K0 mixed0 S0 (M:=fun ex s'=>ex=.normal∧∃ ρ',s'=⟨al [(0,.mref id ep 0 len),(1,.int .i64 (i:Int)),(2,.snap fl [e])] ρ',h⟩) rfl ?_ R1 ?_
 ·(repeat' (first | (apply R.move;exact rfl) | refine Ev.region ?_ | fail))
  apply R.slice
  ·exact rfl
  ·exact rfl
  ·exact rfl
  ·exact rfl
  ·exact sliceLo_m1 hu hsz hg hi hle
  (repeat' (first | refine EvOps.nil ?_ | fail))
  exact ⟨rfl,_,St.keep ⟨rfl,rfl,rfl,trivial⟩⟩
 rintro ex s' a2 w2 β2 ⟨rfl,ρ2,rfl⟩ R2 S2
 refine wp_seq ?_
 refine ev_wp K0 mixed0 S0 (M:=fun ex s'=>ex=.normal∧∃ ρ',s'=⟨al [(0,.mref id ep 0 len),(1,.int .i64 (i:Int)),(2,.snap fl [e]),(7,.int .i64 1)] ρ',h⟩) rfl ?_ R2 ?_
 ·(repeat' (first | refine EvOps.nil ?_ | (apply R.move;exact rfl) | (apply R.assign;exact rfl) | (apply R.lenS T6;exact rfl;exact rfl) | refine Ev.region ?_ | fail))
  exact ⟨rfl,_,St.keep ⟨rfl,rfl,rfl,rfl,trivial⟩⟩
 rintro ex s' a3 w3 β3 ⟨rfl,ρ3,rfl⟩ R3 S3
 refine wp_seq ?_
 refine ev_wp K0 mixed0 S0 (M:=fun ex s'=>ex=.normal∧∃ ρ',s'=⟨al [(0,.mref id ep 0 len),(1,.int .i64 (i:Int)),(2,.snap fl [e]),(7,.int .i64 1)] ρ',h⟩) rfl ?_ R3 ?_
 ·(repeat' (first | refine EvOps.nil ?_ | (apply R.move;exact rfl) | (apply R.cmp;exact rfl;exact rfl;exact rfl;all_goals intro hc;all_goals (try (exfalso;omega))) | refine Ev.seq ?_ | refine Ev.region ?_ | (apply Ev.condB;exact rfl) | refine Ev.skip ?_ | refine thenQ.normal ?_ | fail))
  exact ⟨rfl,_,St.keep ⟨rfl,rfl,rfl,rfl,trivial⟩⟩
 rintro ex s' a4 w4 β4 ⟨rfl,ρ4,rfl⟩ R4 S4
 refine wp_seq ?_
 refine ev_wp K0 mixed0 S0 (M:=fun ex s'=>ex=.normal∧∃ ρ',s'=⟨al [(0,.mref id ep 0 len),(1,.int .i64 (i:Int)),(2,.snap fl [e]),(7,.int .i64 1),(8,.int .i64 (len:Int))] ρ',h⟩) rfl ?_ R4 ?_
 ·(repeat' (first | (apply R.move;exact rfl) | refine Ev.region ?_ | fail))
  apply R.lenM T6 (o:=o);exact rfl;exact rfl;exact hg;exact (by omega)
  (repeat' (first | refine EvOps.nil ?_ | (apply R.assign;exact rfl) | fail))
  exact ⟨rfl,_,St.keep ⟨rfl,rfl,rfl,rfl,rfl,trivial⟩⟩
 rintro ex s' a5 w5 β5 ⟨rfl,ρ5,rfl⟩ R5 S5
 refine wp_seq ?_
 refine ev_wp K0 mixed0 S0 (M:=fun ex s'=>ex=.normal∧∃ ρ',s'=⟨al [(0,.mref id ep 0 len),(1,.int .i64 (i:Int)),(2,.snap fl [e]),(7,.int .i64 1),(8,.int .i64 (len:Int))] ρ',h⟩) rfl ?_ R5 ?_
 ·(repeat' (first | refine EvOps.nil ?_ | (apply R.move;exact rfl) | (apply R.cmp;exact rfl;exact rfl;exact rfl;all_goals intro hc;all_goals (try (exfalso;omega))) | refine Ev.seq ?_ | refine Ev.region ?_ | (apply Ev.condB;exact rfl) | refine Ev.skip ?_ | refine thenQ.normal ?_ | fail))
  exact ⟨rfl,_,St.keep ⟨rfl,rfl,rfl,rfl,rfl,trivial⟩⟩
 rintro ex s' a6 w6 β6 ⟨rfl,ρ6,rfl⟩ R6 S6
 exact k _ _ _ _ R6 (((((S1.trans S2).trans S3).trans S4).trans S5).trans S6)
end ZeroT
end Go.Pm
end
section
set_option maxRecDepth 100000
set_option maxHeartbeats 4000000
namespace Go.Pm
open Go.Proofs
open Go.Pm.Zero (of_fnEv l2_three)
attribute [local irreducible] thenQ blockQ loopQ bodyQ Ev EvOps CallEv FnEv EvD
variable {w:World} {F:Nat→Prop} {β:List (Nat × Nat)} {h:AHeap}
namespace ZeroT
variable {w:World} {F:Nat→Prop} {β:List (Nat × Nat)}
theorem ins_shift {h:AHeap} {id ep len i:Nat} {o:AObj} {fl:Bool} {e X:PV} {pre:List PV} {vs:List Value} (H:HRel w F β h) (ha:L2 (VRel w (Av F h β) β h) vs [.mref id ep 0 len,.int .i64 (i:Int),.snap fl [e]])
  (hg:getM h id ep=some o) (hm:o.mu=.m) (hz:o.esz=4) (hes:o.es=pre++[X]) (hpl:pre.length=len) (hi:i<len) (hn:len<100000000) (hok:pre.all (okV 4)=true) (hX:(cells X).length=4) (he:okV 4 e=true) (hcl:closedH h=true) :
  CSim C0.P 2 w F β h 215 vs (.mref id ep 0 (len+1)) (h.set id {o with es:=pre.take i++[e]++pre.drop i }):=by
 have hel:o.es.length=len+1:=by rw [hes];simp [hpl]
 have hu:C0.P.underlying 132=some (.slice 33):=kd_sl (T6.hkd 132 _ rfl)
 have hs63:tsize C0.P 33=some 4:=T6.hts 33 4 rfl
 have hsz:tsize C0.P 33=some o.esz:=by rw [hz];exact hs63
 obtain ⟨g1,g2,g3⟩:=getM_some hg
 have hlt:=lt_of_some g1
 obtain ⟨bc,hbc⟩:=beta_at H.len g1
 obtain ⟨T,cs,k1,k2,k3,k4,k5⟩:=(H.obj id o bc g1 hbc g3).c (by omega)
 have hcap:len+1≤bc.2:=by omega
 have hvis:visible h id=true:=by unfold visible;rw [g1];simp [hm]
 have hj:((len:Int)+1)=((len+1:Nat):Int):=by omega
 have hj2:((i:Int)+1)=((i+1:Nat):Int):=by omega
 have hb':∀ {w':World} {β':List (Nat × Nat)},Stp w h β w' h β'→β'[id]?=some bc:=by
  intro w' β' S
  obtain ⟨o',bc',f1,f2,f3,f4,f5⟩:=S.refs id o bc g1 hbc g3
  obtain rfl:=Option.some.inj (g1.symm.trans f1)
  rw [f2,(f5 rfl).2.2]
 refine csim_wp (P:=C0.P) (c:=c63) Tryz.func215 body63 H ha (fun a RR=>ins_pre hg hz (by omega) hi hn rfl RR (fun a1 w1 β1 ρ1 R1 S1=>?_))
 refine wp_seq ?_
 refine wp_seq ?_
 apply region_special K0 S0 (pre:=[_,_,_,_]) (post:=[_]) (R:=R1) (M:=fun s'=>∃ ρ',s'=⟨al ((28,.int .i64 ((len:Int)+1))::(29,.mref id ep 0 len)::[(0,.mref id ep 0 len),(1,.int .i64 (i:Int)),(2,.snap fl [e]),(7,.int .i64 1),(8,.int .i64 (len:Int))]) ρ',h⟩) (M2:=fun s'=>∃ ρ',s'=⟨al ((31,.bool false)::[(0,.mref id ep 0 len),(1,.int .i64 (i:Int)),(2,.snap fl [e]),(7,.int .i64 1),(8,.int .i64 (len:Int))]) ρ',h⟩)
 ·rfl
 ·rfl
 ·(repeat' (first | refine EvOps.nil ?_ | (apply R.move;exact rfl) | (apply R.arith;exact rfl;exact rfl;exact rfl;exact (wrapI (by omega) (by omega))) | fail))
  exact ⟨_,St.keep ⟨rfl,rfl,rfl,rfl,rfl,rfl,rfl,trivial⟩⟩
 ·rintro s1 a2 w2 β2 ⟨ρ2,rfl⟩ R2 S2
  refine ⟨.int .i64 (bc.2:Int),h,cap_osim (t:=132) (x:=.tmp 29) R2.hr R2.er hu (lk_al (t:=29) rfl ρ2) hg (hb' (S1.trans S2)) (by omega) _ rfl,?_⟩
  show EvOps C0 _ _ ⟨updO (al _ ρ2) (some 30) (.int .i64 (bc.2:Int)),h⟩ _
  rw [al_cons]
  (repeat' (first | refine EvOps.nil ?_ | (apply R.cmp;exact rfl;exact rfl;exact rfl;all_goals intro hc;all_goals (try (exfalso;omega))) | fail))
  exact ⟨_,St.keep ⟨rfl,rfl,rfl,rfl,rfl,rfl,trivial⟩⟩
 rintro s3 a3 w3 β3 ⟨ρ3,rfl⟩ R3 S3
 refine ev_wp K0 mixed0 S0 (M:=fun ex s'=>ex=.normal∧∃ ρ',s'=⟨al [(0,.mref id ep 0 len),(1,.int .i64 (i:Int)),(2,.snap fl [e]),(7,.int .i64 1),(8,.int .i64 (len:Int))] ρ',h⟩) rfl ?_ R3 ?_
 ·(repeat' (first | (apply Ev.condB;exact rfl) | refine Ev.skip ?_ | fail))
  exact ⟨rfl,_,St.keep ⟨rfl,rfl,rfl,rfl,rfl,trivial⟩⟩
 rintro ex s' a4 w4 β4 ⟨rfl,ρ4,rfl⟩ R4 S4
 refine wp_seq ?_
 refine ev_wp K0 mixed0 S0 (M:=fun ex s'=>ex=.normal∧∃ ρ',s'=⟨al [(0,.mref id ep 0 (len+1)),(1,.int .i64 (i:Int)),(2,.snap fl [e]),(7,.int .i64 1)] ρ',h⟩) rfl ?_ R4 ?_
 ·(repeat' (first | (apply R.move;exact rfl) | (apply R.arith;exact rfl;exact rfl;exact rfl;exact (wrapI (by omega) (by omega))) | refine Ev.region ?_ | fail))
  apply R.slice
  ·exact rfl
  ·exact rfl
  ·exact rfl
  ·exact rfl
  ·show sliceP C0.P h 132 (.mref id ep 0 len) none (some (.int .i64 ((len:Int)+1))) none=_
   rw [hj]
   exact sliceBeyond0_m hu hsz hg (by omega) (by omega)
  (repeat' (first | refine EvOps.nil ?_ | (apply R.assign;exact rfl) | fail))
  exact ⟨rfl,_,St.keep ⟨rfl,rfl,rfl,rfl,trivial⟩⟩
 rintro ex s' a5 w5 β5 ⟨rfl,ρ5,rfl⟩ R5 S5
 refine wp_seq ?_
 refine wp_seq ?_
 apply region_special K0 S0 (pre:=[_,_,_,_,_,_]) (post:=[_]) (R:=R5) (M:=fun s'=>∃ ρ',s'=⟨al ((61,.snap fl [e])::(66,.mref id ep (i+1) (len+1 - (i+1)))::[(0,.mref id ep 0 (len+1)),(1,.int .i64 (i:Int)),(2,.snap fl [e]),(7,.int .i64 1)]) ρ',h⟩) (M2:=fun s'=>∃ ρ',s'=⟨al ((68,.bool true)::[(0,.mref id ep 0 (len+1)),(1,.int .i64 (i:Int)),(2,.snap fl [e]),(7,.int .i64 1)]) ρ',h⟩)
 ·rfl
 ·rfl
 ·(repeat' (first | (apply R.move;exact rfl) | (apply R.arith;exact rfl;exact rfl;exact rfl;exact (wrapI (by omega) (by omega))) | fail))
  apply R.slice
  ·exact rfl
  ·exact rfl
  ·exact rfl
  ·exact rfl
  ·show sliceP C0.P h 132 (.mref id ep 0 (len+1)) (some (.int .i64 ((i:Int)+1))) none none=_
   rw [hj2]
   exact sliceLo_m1 hu hsz hg (by omega) (by omega)
  (repeat' (first | refine EvOps.nil ?_ | fail))
  exact ⟨_,St.keep ⟨rfl,rfl,rfl,rfl,rfl,rfl,trivial⟩⟩
 ·rintro s1 a6 w6 β6 ⟨ρ6,rfl⟩ R6 S6
  refine ⟨.bool false,h,overlaps_osim (t:=31) (tR:=4) (x:=.tmp 61) (y:=.tmp 66) (f:=281) R6.hr R6.er (kd_sl (T6.hkd 31 _ rfl)) hs63 (lk_al (t:=61) rfl ρ6) (lk_al (t:=66) rfl ρ6) hg hm (by omega) Tryz.func281 (by kernel_rfl) (by kernel_rfl) (by kernel_rfl) (by kernel_rfl) _ rfl,?_⟩
  show EvOps C0 _ _ ⟨updO (al _ ρ6) (some 67) (.bool false),h⟩ _
  rw [al_cons]
  (repeat' (first | refine EvOps.nil ?_ | (apply R.not;exact rfl;exact rfl) | fail))
  exact ⟨_,St.keep ⟨rfl,rfl,rfl,rfl,rfl,trivial⟩⟩
 rintro s7 a7 w7 β7 ⟨ρ7,rfl⟩ R7 S7
 obtain ⟨ys,hys⟩:∃ ys,ys=((pre++[X]).drop i).take (pre.length+1 - i):=⟨_,rfl⟩
 obtain ⟨es2,hes2⟩:∃ es2,es2=(pre++[X]).take (i+1)++ys.take (pre.length - i)++(pre++[X]).drop (i+1+(pre.length - i)):=⟨_,rfl⟩
 obtain ⟨l1,l2,l3⟩:=shift_list (e:=e) (by omega) hys hes2
 rw [hpl] at l1 l2
 have hyl:ys.length=len+1 - i:=by rw [hys];simp;omega
 have hymem:∀ v∈ys,(cells v).length=4:=by
  intro v hv
  rw [hys] at hv
  have:=List.mem_of_mem_drop (List.mem_of_mem_take hv)
  rcases List.mem_append.1 this with hv | hv
  ·have:=List.all_eq_true.1 hok v hv
   unfold okV at this
   simp only [Bool.and_eq_true,decide_eq_true_eq] at this
   exact this.1.2
  ·obtain rfl:=List.mem_singleton.1 hv
   exact hX
 have he2:(cells e).length=4∧(cells e).all oneC=true:=by
  unfold okV at he
  simp only [Bool.and_eq_true,decide_eq_true_eq] at he
  exact ⟨he.1.2,he.2⟩
 have hmn:min ys.length (len+1 - (i+1))=len - i:=by omega
 have hh2:h.set id {o with es:=o.es.take (i+1)++ys.take (min ys.length (len+1 - (i+1)))++o.es.drop (i+1+min ys.length (len+1 - (i+1))) }=h.set id {o with es:=es2 }:=by
  rw [hmn,hes,hes2,hpl]
 have hg2:getM (h.set id {o with es:=es2 }) id ep=some {o with es:=es2 }:=getM_at (List.getElem?_set_self hlt) g2 (by show o.mu≠.x;rw [hm];simp)
 have hmn2:min ([e]:List PV).length (len+1 - i)=1:=by show min 1 _=1;omega
 have hfin:(h.set id {o with es:=es2 }).set id { ({o with es:=es2 }:AObj) with es:=es2.take i++[e].take (min ([e]:List PV).length (len+1 - i))++es2.drop (i+min ([e]:List PV).length (len+1 - i)) }=h.set id {o with es:=pre.take i++[e]++pre.drop i }:=by
  rw [List.set_set,hmn2,← l3];rfl
 refine ev_wp K0 mixed0 S0 (M:=fun ex s'=>ex=.ret∧∃ ρ',s'=⟨al [(6,.mref id ep 0 (len+1))] ρ',h.set id {o with es:=pre.take i++[e]++pre.drop i }⟩) rfl ?_ R7 ?_
 ·(repeat' (first | refine Ev.seq ?_ | refine Ev.regionD ?_ | (apply D.move;exact rfl) | (apply D.arith;exact rfl;exact rfl;exact rfl;exact (wrapI (by omega) (by omega))) | (apply Ev.condB;exact rfl) | fail))
  apply D.slice
  ·exact hcl
  ·exact rfl
  ·exact hvis
  ·exact rfl
  ·exact rfl
  ·exact rfl
  ·exact rfl
  ·exact rfl
  ·exact rfl
  ·show sliceP C0.P h 132 (.mref id ep 0 (len+1)) (some (.int .i64 ((i:Int)+1))) none none=_
   rw [hj2]
   exact sliceLo_m1 hu hsz hg (by omega) (by omega)
  (repeat' (first | (apply D.move;exact rfl) | fail))
  apply D.slice
  ·exact hcl
  ·exact rfl
  ·exact hvis
  ·exact rfl
  ·exact rfl
  ·exact rfl
  ·exact rfl
  ·exact rfl
  ·exact rfl
  ·exact sliceLo_m1 hu hsz hg (by omega) (by omega)
  apply D.copy T6 (ys:=ys) (o:=o) (sz:=4)
  ·exact rfl
  ·exact rfl
  ·exact rfl
  ·exact rfl
  ·exact rfl
  ·simp only [elems,hg]
   rw [if_pos (by omega),hes,hys,hpl]
  ·exact hg
  ·exact hm
  ·exact hz
  ·omega
  ·rw [List.all_eq_true]
   intro v hv
   simp [hymem v hv]
  ·rw [hmn,l1,List.all_eq_true]
   intro v hv
   have:=List.all_eq_true.1 hok v (List.mem_of_mem_drop hv)
   unfold okV at this
   simp only [Bool.and_eq_true] at this ⊢
   exact ⟨this.1.2,this.2⟩
  refine EvD.heap hh2 ?_
  (repeat' (first | (apply R.move;exact rfl) | refine Ev.seq ?_ | refine Ev.region ?_ | refine EvD.nil ?_ | refine thenQ.normal ?_ | fail))
  apply R.slice
  ·exact rfl
  ·exact rfl
  ·exact rfl
  ·exact rfl
  ·exact sliceLo_m1 (o:={o with es:=es2 }) hu hsz hg2 (by omega) (by show len+1≤es2.length;omega)
  (repeat' (first | (apply R.move;exact rfl) | fail))
  apply R.copy T6 (ys:=[e]) (o:={o with es:=es2 }) (sz:=4)
  ·exact rfl
  ·exact rfl
  ·exact rfl
  ·exact rfl
  ·exact rfl
  ·exact hg2
  ·exact hm
  ·exact hz
  ·show i+(len+1 - i)≤es2.length;omega
  ·simp [he2.1]
  ·simp only [hmn2,List.take_succ_cons,List.take_zero,List.all_cons,List.all_nil,he2.1,he2.2];rfl
  (repeat' (first | refine EvOps.nil ?_ | (apply R.move;exact rfl) | (apply R.assign;exact rfl) | refine Ev.seq ?_ | refine Ev.region ?_ | refine Ev.ret ?_ | refine thenQ.normal ?_ | fail))
  exact ⟨rfl,_,(congrArg (fun hh=>(⟨_,hh⟩:St)) hfin).trans (St.keep ⟨rfl,trivial⟩)⟩
 rintro ex s8 a8 w8 β8 ⟨rfl,ρ8,rfl⟩ R8 S8
 refine ⟨.inr rfl,_,β8,R8,(((((S1.trans S3).trans S4).trans S5).trans S7).trans S8),[.mref id ep 0 (len+1)],?_,fun u hu'=>⟨β8,hu',R8.hr,(((((S1.trans S3).trans S4).trans S5).trans S7).trans S8)⟩⟩
 ·exact resT_of (L:=[(6,.mref id ep 0 (len+1))]) rfl
 all_goals rfl
end ZeroT
end Go.Pm
end
section
set_option maxRecDepth 100000
set_option maxHeartbeats 4000000
namespace Go.Pm
open Go.Proofs
open Go.Pm.Zero (of_fnEv l2_three)
attribute [local irreducible] thenQ blockQ loopQ bodyQ Ev EvOps CallEv FnEv EvD
variable {w:World} {F:Nat→Prop} {β:List (Nat × Nat)} {h:AHeap}
namespace ZeroT
variable {w:World} {F:Nat→Prop} {β:List (Nat × Nat)}
theorem ins_grow {h:AHeap} {id ep len i:Nat} {o:AObj} {bc:Nat × Nat} {fl:Bool} {e:PV} {vs:List Value} (H:HRel w F β h) (ha:L2 (VRel w (Av F h β) β h) vs [.mref id ep 0 len,.int .i64 (i:Int),.snap fl [e]])
  (hg:getM h id ep=some o) (hz:o.esz=4) (hle:len≤o.es.length) (hbc:β[id]?=some bc) (hcap:bc.2<len+1) (hi:i<len) (hn:len<100000000) (hok:(o.es.take len).all (okV 4)=true) (he:okV 4 e=true) (hcl:closedH h=true) :
  CSim C0.P 2 w F β h 215 vs (.mref h.length 0 0 (len+1)) (h++[⟨.m,0,4,(o.es.take len).take i++[e]++(o.es.take len).drop i⟩]):=by
 have hu:C0.P.underlying 132=some (.slice 33):=kd_sl (T6.hkd 132 _ rfl)
 have hs63:tsize C0.P 33=some 4:=T6.hts 33 4 rfl
 have hsz:tsize C0.P 33=some o.esz:=by rw [hz];exact hs63
 obtain ⟨g1,g2,g3⟩:=getM_some hg
 have hlt:=lt_of_some g1
 have hj:((i:Int)+1)=((i+1:Nat):Int):=by omega
 have hj3:((len:Int)+1 - (i:Int))=((len+1 - i:Nat):Int):=by omega
 have hin:i+(len+1 - i)=len+1:=by omega
 have hb':∀ {w':World} {β':List (Nat × Nat)},Stp w h β w' h β'→β'[id]?=some bc:=by
  intro w' β' S
  obtain ⟨o',bc',f1,f2,f3,f4,f5⟩:=S.refs id o bc g1 hbc g3
  obtain rfl:=Option.some.inj (g1.symm.trans f1)
  rw [f2,(f5 rfl).2.2]
 obtain ⟨es1,hes1⟩:∃ es1,es1=o.es.take i++List.replicate (len+1 - i) (.agg [.int .i64 0,.str ByteArray.empty,.int .i64 0,.snap true []]:PV):=⟨_,rfl⟩
 obtain ⟨es2,hes2⟩:∃ es2,es2=es1.take i++[e]++es1.drop (i+1):=⟨_,rfl⟩
 obtain ⟨ys,hys⟩:∃ ys,ys=(o.es.drop i).take (len - i):=⟨_,rfl⟩
 obtain ⟨l1,l2,l3,l4,l5⟩:=grow_list hi hle hes1 hes2 hys
 have he2:(cells e).length=4∧(cells e).all oneC=true∧isVal e=true:=by
  unfold okV at he
  simp only [Bool.and_eq_true,decide_eq_true_eq] at he
  exact ⟨he.1.2,he.2,he.1.1⟩
 have hyok:ys.all (okV 4)=true:=by
  rw [l4,List.all_eq_true]
  intro v hv
  exact List.all_eq_true.1 hok v (List.mem_of_mem_drop hv)
 have hv1:isVals es1=true:=by
  rw [hes1,isVals_eq,List.all_append,← isVals_eq]
  have:isVals (o.es.take i)=true:=by
   refine okV_vals (sz:=4) ?_
   rw [List.all_eq_true]
   intro v hv
   refine List.all_eq_true.1 hok v ?_
   have:o.es.take i=(o.es.take len).take i:=by rw [List.take_take];congr 1;omega
   rw [this] at hv
   exact List.mem_of_mem_take hv
  rw [this,Bool.true_and,List.all_eq_true]
  intro v hv
  obtain rfl:=List.eq_of_mem_replicate hv
  rfl
 have hv2:isVals es2=true:=by
  rw [isVals_eq,List.all_eq_true] at hv1 ⊢
  intro v hv
  rw [hes2] at hv
  rcases List.mem_append.1 hv with hv | hv
  ·rcases List.mem_append.1 hv with hv | hv
   ·exact hv1 v (List.mem_of_mem_take hv)
   ·obtain rfl:=List.mem_singleton.1 hv
    exact he2.2.2
  ·exact hv1 v (List.mem_of_mem_drop hv)
 have hcl2:closedH (h++[⟨.m,0,4,es2⟩])=true:=closed_push hv2 hcl
 have hgn:∀ es,getM (h++[⟨.m,0,4,es⟩]) h.length 0=some ⟨.m,0,4,es⟩:=fun es=>at_push (o:=⟨.m,0,4,es⟩) (by simp)
 have hgo:∀ es,getM (h++[⟨.m,0,4,es⟩]) id ep=some o:=fun es=>at_old hg
 have hvis:∀ es,visible (h++[⟨.m,0,4,es⟩]) id=true:=fun es=>by unfold visible;rw [List.getElem?_append_left hlt,g1];simpa using g3
 have hvisn:∀ es,visible (h++[⟨.m,0,4,es⟩]) h.length=true:=fun es=>by unfold visible;simp
 refine csim_wp (P:=C0.P) (c:=c63) Tryz.func215 body63 H ha (fun a RR=>ins_pre hg hz (by omega) hi hn rfl RR (fun a1 w1 β1 ρ1 R1 S1=>?_))
 refine wp_seq ?_
 refine wp_seq ?_
 apply region_special K0 S0 (pre:=[_,_,_,_]) (post:=[_]) (R:=R1) (M:=fun s'=>∃ ρ',s'=⟨al ((28,.int .i64 ((len:Int)+1))::(29,.mref id ep 0 len)::[(0,.mref id ep 0 len),(1,.int .i64 (i:Int)),(2,.snap fl [e]),(7,.int .i64 1),(8,.int .i64 (len:Int))]) ρ',h⟩) (M2:=fun s'=>∃ ρ',s'=⟨al ((31,.bool true)::[(0,.mref id ep 0 len),(1,.int .i64 (i:Int)),(2,.snap fl [e]),(7,.int .i64 1),(8,.int .i64 (len:Int))]) ρ',h⟩)
 ·rfl
 ·rfl
 ·(repeat' (first | refine EvOps.nil ?_ | (apply R.move;exact rfl) | (apply R.arith;exact rfl;exact rfl;exact rfl;exact (wrapI (by omega) (by omega))) | fail))
  exact ⟨_,St.keep ⟨rfl,rfl,rfl,rfl,rfl,rfl,rfl,trivial⟩⟩
 ·rintro s1 a2 w2 β2 ⟨ρ2,rfl⟩ R2 S2
  refine ⟨.int .i64 (bc.2:Int),h,cap_osim (t:=132) (x:=.tmp 29) R2.hr R2.er hu (lk_al (t:=29) rfl ρ2) hg (hb' (S1.trans S2)) (by omega) _ rfl,?_⟩
  show EvOps C0 _ _ ⟨updO (al _ ρ2) (some 30) (.int .i64 (bc.2:Int)),h⟩ _
  rw [al_cons]
  (repeat' (first | refine EvOps.nil ?_ | (apply R.cmp;exact rfl;exact rfl;exact rfl;all_goals intro hc;all_goals (try (exfalso;omega))) | fail))
  exact ⟨_,St.keep ⟨rfl,rfl,rfl,rfl,rfl,rfl,trivial⟩⟩
 rintro s3 a3 w3 β3 ⟨ρ3,rfl⟩ R3 S3
 have ht31:a3.eval (.tmp 31)=.bool true:=by
  have:=R3.er.ev (.tmp 31)
  rw [show ev (al ((31,PV.bool true)::[(0,.mref id ep 0 len),(1,.int .i64 (i:Int)),(2,.snap fl [e]),(7,.int .i64 1),(8,.int .i64 (len:Int))]) ρ3) (.tmp 31)=.bool true from lk_al (t:=31) rfl ρ3] at this
  exact this.bool_inv
 refine wp_cond_true ht31 ?_
 refine wp_seq ?_
 apply region_special K0 S0 (pre:=[_,_,_,_,_,_,_,_]) (post:=[_]) (R:=R3) (M:=fun s'=>∃ ρ',s'=⟨al ((34,.mref id ep 0 i)::(39,.int .i64 ((len:Int)+1 - (i:Int)))::[(0,.mref id ep 0 len),(1,.int .i64 (i:Int)),(2,.snap fl [e]),(7,.int .i64 1),(8,.int .i64 (len:Int))]) ρ',h⟩) (M2:=fun s'=>∃ ρ',s'=⟨al ((9,.mref h.length 0 0 (len+1))::[(0,.mref id ep 0 len),(1,.int .i64 (i:Int)),(2,.snap fl [e]),(7,.int .i64 1),(8,.int .i64 (len:Int))]) ρ',h++[⟨.m,0,4,es1⟩]⟩)
 case ho=>rfl
 case hg=>rfl
 ·(repeat' (first | (apply R.move;exact rfl) | fail))
  apply R.slice
  ·exact rfl
  ·exact rfl
  ·exact rfl
  ·exact rfl
  ·exact sliceHi_m hu hsz hg (by omega) hle
  (repeat' (first | refine EvOps.nil ?_ | (apply R.move;exact rfl) | (apply R.arith;exact rfl;exact rfl;exact rfl;exact (wrapI (by omega) (by omega))) | fail))
  exact ⟨_,St.keep ⟨rfl,rfl,rfl,rfl,rfl,rfl,rfl,trivial⟩⟩
 ·rintro s1 a4 w4 β4 ⟨ρ4,rfl⟩ R4 S4
  have os:=append_osim (P:=C0.P) (st:=132) (xt:=3) (el:=33) (x:=.tmp 34) (y:=.tmp 39) (k:=.i64) (n:=len+1 - i) (len:=i) R4.hr R4.er hu (kd_int (T6.hkd 3 _ rfl)) hs63 (by decide) (T6.htb 33 _ rfl) (by decide) (T6.htz 33 (.agg [.int .i64 0,.str ByteArray.empty,.int .i64 0,.snap true []]) rfl) rfl rfl (lk_al (t:=34) rfl ρ4) (by rw [← hj3];exact lk_al (t:=39) rfl ρ4) hg (hb' ((S1.trans S3).trans S4)) (by omega) hz (by omega) (by omega)
  rw [hin,← hes1] at os
  refine ⟨.mref h.length 0 0 (len+1),h++[⟨.m,0,4,es1⟩],os _ rfl,?_⟩
  show EvOps C0 _ _ ⟨updO (al _ ρ4) (some 40) (.mref h.length 0 0 (len+1)),_⟩ _
  rw [al_cons]
  (repeat' (first | refine EvOps.nil ?_ | (apply R.assign;exact rfl) | fail))
  exact ⟨_,St.keep ⟨rfl,rfl,rfl,rfl,rfl,rfl,trivial⟩⟩
 rintro s5 a5 w5 β5 ⟨ρ5,rfl⟩ R5 S5
 have hmn:min ([e]:List PV).length (len+1 - i)=1:=by show min 1 _=1;omega
 have hmn2:min ys.length (len+1 - (i+1))=len - i:=by omega
 have hyt:ys.take (len - i)=ys:=List.take_of_length_le (by omega)
 have hh2:(h++[⟨.m,0,4,es1⟩]:AHeap).set h.length { (⟨.m,0,4,es1⟩:AObj) with es:=es1.take i++[e].take (min ([e]:List PV).length (len+1 - i))++es1.drop (i+min ([e]:List PV).length (len+1 - i)) }=h++[⟨.m,0,4,es2⟩]:=by
  rw [hmn,set_push,hes2];rfl
 have hh3:(h++[⟨.m,0,4,es2⟩]:AHeap).set h.length { (⟨.m,0,4,es2⟩:AObj) with es:=es2.take (i+1)++ys.take (min ys.length (len+1 - (i+1)))++es2.drop (i+1+min ys.length (len+1 - (i+1))) }=h++[⟨.m,0,4,(o.es.take len).take i++[e]++(o.es.take len).drop i⟩]:=by
  rw [hmn2,set_push,hyt,l5]
 refine ev_wp K0 mixed0 S0 (M:=fun ex s'=>ex=.ret∧∃ ρ',s'=⟨al [(6,.mref h.length 0 0 (len+1))] ρ',h++[⟨.m,0,4,(o.es.take len).take i++[e]++(o.es.take len).drop i⟩]⟩) rfl ?_ R5 ?_
 ·(repeat' (first | (apply R.move;exact rfl) | refine Ev.seq ?_ | refine Ev.region ?_ | fail))
  apply R.slice
  ·exact rfl
  ·exact rfl
  ·exact rfl
  ·exact rfl
  ·exact sliceLo_m1 hu hs63 (hgn es1) (by omega) (by show len+1≤es1.length;omega)
  (repeat' (first | (apply R.move;exact rfl) | fail))
  apply R.copy T6 (ys:=[e]) (o:=⟨.m,0,4,es1⟩) (sz:=4)
  ·exact rfl
  ·exact rfl
  ·exact rfl
  ·exact rfl
  ·exact rfl
  ·exact hgn es1
  ·exact rfl
  ·exact rfl
  ·show i+(len+1 - i)≤es1.length;omega
  ·simp [he2.1]
  ·simp only [hmn,List.take_succ_cons,List.take_zero,List.all_cons,List.all_nil,he2.1,he2.2.1];rfl
  rw [hh2]
  (repeat' (first | refine EvOps.nil ?_ | refine Ev.seq ?_ | refine Ev.regionD ?_ | (apply D.move;exact rfl) | (apply D.arith;exact rfl;exact rfl;exact rfl;exact (wrapI (by omega) (by omega))) | refine thenQ.normal ?_ | fail))
  apply D.slice
  ·exact hcl2
  ·exact rfl
  ·exact hvisn es2
  ·exact rfl
  ·exact rfl
  ·exact rfl
  ·exact rfl
  ·exact rfl
  ·exact rfl
  ·show sliceP C0.P _ 132 (.mref h.length 0 0 (len+1)) (some (.int .i64 ((i:Int)+1))) none none=_
   rw [hj]
   exact sliceLo_m1 hu hs63 (hgn es2) (by omega) (by show len+1≤es2.length;omega)
  (repeat' (first | (apply D.move;exact rfl) | fail))
  apply D.slice
  ·exact hcl2
  ·exact rfl
  ·exact hvis es2
  ·exact rfl
  ·exact rfl
  ·exact rfl
  ·exact rfl
  ·exact rfl
  ·exact rfl
  ·exact sliceLo_m1 hu hsz (hgo es2) hi hle
  apply D.copy T6 (ys:=ys) (o:=⟨.m,0,4,es2⟩) (sz:=4)
  ·exact rfl
  ·exact rfl
  ·exact rfl
  ·exact rfl
  ·exact rfl
  ·simp only [elems,hgo]
   rw [if_pos (by omega),hys]
  ·exact hgn es2
  ·exact rfl
  ·exact rfl
  ·show i+1+(len+1 - (i+1))≤es2.length;omega
  ·rw [List.all_eq_true]
   intro v hv
   have:=List.all_eq_true.1 hyok v hv
   unfold okV at this
   simp only [Bool.and_eq_true] at this
   exact this.1.2
  ·rw [hmn2,hyt,List.all_eq_true]
   intro v hv
   have:=List.all_eq_true.1 hyok v hv
   unfold okV at this
   simp only [Bool.and_eq_true] at this ⊢
   exact ⟨this.1.2,this.2⟩
  refine EvD.heap hh3 ?_
  (repeat' (first | refine EvOps.nil ?_ | (apply R.move;exact rfl) | (apply R.assign;exact rfl) | refine Ev.seq ?_ | refine Ev.region ?_ | refine EvD.nil ?_ | refine Ev.ret ?_ | refine thenQ.normal ?_ | fail))
  exact ⟨rfl,_,St.keep ⟨rfl,trivial⟩⟩
 rintro ex s8 a8 w8 β8 ⟨rfl,ρ8,rfl⟩ R8 S8
 have SS:=(((S1.trans S3).trans S5).trans S8)
 refine ⟨.inr rfl,_,β8,R8,SS,[.mref h.length 0 0 (len+1)],?_,fun u hu'=>⟨β8,hu',R8.hr,SS⟩⟩
 ·exact resT_of (L:=[(6,.mref h.length 0 0 (len+1))]) rfl
 all_goals rfl
end ZeroT
end Go.Pm
end
section
set_option maxRecDepth 100000
set_option maxHeartbeats 4000000
namespace Go.Pm
open Go.Proofs
open Go.Pm.Zero (of_fnEv l2_three)
attribute [local irreducible] thenQ blockQ loopQ bodyQ Ev EvOps CallEv FnEv EvD
variable {w:World} {F:Nat→Prop} {β:List (Nat × Nat)} {h:AHeap}
namespace ZeroT
variable {w:World} {F:Nat→Prop} {β:List (Nat × Nat)}
theorem insert_simT:SimRun C0.P 215 insertPrimT:=by
 intro args h r h' e w F β vs H ha
 unfold insertPrimT at e
 split at e
 ·rename_i i fl e1
  split at e
  ·rename_i hc
   obtain ⟨rfl,he⟩:=hc
   obtain ⟨rfl,rfl⟩:=Prod.mk.inj (Option.some.inj e)
   exact of_fnEv (c0_open rfl) (insNil_ev he) H ha
  ·cases e
 ·rename_i id ep len i fl e1
  split at e
  ·rename_i o hg
   split at e
   ·rename_i hc
    obtain ⟨hm,hz,hle,hi0,hi,hn,he,hok,hcl⟩:=hc
    obtain ⟨rfl,rfl⟩:=Prod.mk.inj (Option.some.inj e)
    obtain ⟨k,rfl⟩:=Int.eq_ofNat_of_zero_le hi0
    have hk:k≤len:=by omega
    rw [show Int.toNat (k:Int)=k from rfl]
    obtain ⟨g1,g2,g3⟩:=getM_some hg
    have hlt:=lt_of_some g1
    obtain ⟨bc,hbc⟩:=beta_at H.len g1
    have hpl:(o.es.take len).length=len:=by simp;omega
    by_cases hkl:k=len
    ·subst hkl
     have hfin:(o.es.take k).take k++[e1]++(o.es.take k).drop k=o.es.take k++[e1]:=by
      rw [List.take_take,Nat.min_self,List.drop_eq_nil_of_le (by omega),List.append_nil]
     rw [hfin]
     exact of_fnEv (c0_open rfl) (insEnd_ev he hg hm hz hle hn) H ha
    ·have hk':k<len:=by omega
     by_cases hroom:len+1≤bc.2
     ·-- there is room
      have hXc:(cells (PV.agg [.any,.any,.any,.any])).length=4:=rfl
      obtain ⟨Hp,Sp⟩:=H.reshape g1 hbc hm (o.es.take len++[.agg [.any,.any,.any,.any]]) (ep+1) (by omega) (by simp;omega) (fun i e he=>by
       rcases Nat.lt_or_ge i len with hil | hil
       ·left
        rw [List.getElem?_append_left (by omega),List.getElem?_take,if_pos hil] at he
        exact he
       ·right
        rw [List.getElem?_append_right (by omega)] at he
        obtain rfl:=List.mem_singleton.1 (List.mem_of_getElem? he)
        refine ⟨by rw [hXc,hz],fun p hp=>?_⟩
        simp only [cells] at hp
        simpa using hp)
      have hselfp:(h.set id {o with es:=o.es.take len++[.agg [.any,.any,.any,.any]],ep:=ep+1 })[id]?=some {o with es:=o.es.take len++[.agg [.any,.any,.any,.any]],ep:=ep+1 }:=List.getElem?_set_self hlt
      have hclp:closedH (h.set id {o with es:=o.es.take len++[.agg [.any,.any,.any,.any]],ep:=ep+1 })=true:=by
       refine closed_mono (h:=h) (fun i hi=>?_) (fun o' h1=>?_) hcl
       ·unfold visible at hi ⊢
        by_cases hii:i=id
        ·subst hii
         rw [hselfp]
         simp [hm]
        ·rw [List.getElem?_set_ne (Ne.symm hii)];exact hi
       ·rcases List.mem_or_eq_of_mem_set h1 with h1 | rfl
        ·exact .inr (.inr ⟨o',h1,rfl,fun hh=>hh⟩)
        ·exact .inr (.inl (visRs_app (vis_vals _ _ (okV_vals hok)) rfl))
      have hap:L2 (VRel w (Av F (h.set id {o with es:=o.es.take len++[.agg [.any,.any,.any,.any]],ep:=ep+1 }) β) β (h.set id {o with es:=o.es.take len++[.agg [.any,.any,.any,.any]],ep:=ep+1 })) vs [.mref id (ep+1) 0 len,.int .i64 (k:Int),.snap fl [e1]]:=
       l2_three ha (fun v hv=>VRel.reshape g1 hbc hm hv g2 hle _ _) (fun v hv=>hv.mono Sp) (fun v hv=>hv.mono Sp)
      have cs:=ins_shift (o:={o with es:=o.es.take len++[.agg [.any,.any,.any,.any]],ep:=ep+1 }) (X:=.agg [.any,.any,.any,.any]) (pre:=o.es.take len) Hp hap (getM_at hselfp rfl (by show o.mu≠.x;rw [hm];simp)) hm hz rfl hpl hk' hn hok rfl he hclp
      refine cs.mono ?_
      rintro en w' ⟨v,β1,rfl,q1,q2,q3,_⟩
      rw [List.set_set] at q1 q2 q3
      exact ⟨v,β1,rfl,q1,q2,Sp.trans q3,fun hh=>by omega⟩
     ·-- all is made anew
      obtain ⟨p1,p2,p3,p4,p5,p6⟩:=lock1_shape o
      have gl:getM (h.map lock1) id ep=some (lock1 o):=getM_at (by rw [List.getElem?_map,g1];rfl) (by rw [p1];exact g2) (fun hh=>g3 (p4.1 hh))
      have hAl:∀ b,Av (Av F h β) (h.map lock1) β b→Av F h β b:=fun b hb=>hb.elim (fun hh=>hh) (fun hm=>absurd hm (lock_Mb h β b))
      have cs:=ins_grow (o:=lock1 o) (bc:=bc) H.lock (l2_three ha (fun v hv=>hv.alike (alike_lock h) hAl) (fun v hv=>hv.alike (alike_lock h) hAl) (fun v hv=>hv.alike (alike_lock h) hAl)) gl (by rw [p2];exact hz) (by rw [p3];exact hle) hbc (by omega) hk' hn (by rw [p3];exact hok) he (closed_lock hcl)
      rw [p3,List.length_map] at cs
      refine cs.mono ?_
      rintro en w' ⟨v,β1,rfl,q1,q2,q3,_⟩
      obtain ⟨es3,hes3⟩:∃ es3,es3=(o.es.take len).take k++[e1]++(o.es.take len).drop k:=⟨_,rfl⟩
      rw [← hes3] at q1 q2 q3 ⊢
      have hl3:es3.length=len+1:=by rw [hes3];simp;omega
      have hok3:es3.all (okV 4)=true:=by
       rw [List.all_eq_true] at hok ⊢
       intro x hx
       rw [hes3] at hx
       rcases List.mem_append.1 hx with hx | hx
       ·rcases List.mem_append.1 hx with hx | hx
        ·exact hok x (List.mem_of_mem_take hx)
        ·obtain rfl:=List.mem_singleton.1 hx
         exact he
       ·exact hok x (List.mem_of_mem_drop hx)
      have enew:(h.map lock1++[(⟨.m,0,4,es3⟩:AObj)])[h.length]?=some ⟨.m,0,4,es3⟩:=by
       rw [List.getElem?_append_right (by simp)];simp
      obtain ⟨bn,hbn⟩:=beta_at q2.len enew
      have mnew:Mb (h.map lock1++[⟨.m,0,4,es3⟩]) β1 bn.1:=⟨h.length,_,bn,enew,hbn,rfl,rfl⟩
      obtain ⟨T,cs0,k1,k2,k3,k4,k5⟩:=(q2.obj h.length _ bn enew hbn (by simp)).c (by simp)
      have hge:w.heap.size≤bn.1:=by
       rcases Nat.lt_or_ge bn.1 w.heap.size with hh | hh
       ·exact absurd (q3.shr bn.1 hh mnew) (lock_Mb h β bn.1)
       ·exact hh
      have hA:∀ b,Av F (h.set id {o with es:=es3,ep:=ep+1 }) (β.set id bn) b→Av (Av F h β) (h.map lock1++[⟨.m,0,4,es3⟩]) β1 b:=by
       rintro b (hb | ⟨id',o',bc',e1',e2',e3',e4'⟩)
       ·exact .inl (.inl hb)
       ·by_cases hid:id'=id
        ·subst hid
         rw [List.getElem?_set_self (by rw [H.len];exact hlt)] at e2'
         obtain rfl:=Option.some.inj e2'
         rw [← e4']
         exact .inr mnew
        ·rw [List.getElem?_set_ne (Ne.symm hid)] at e1' e2'
         exact .inl (.inr ⟨id',o',bc',e1',e2',e3',e4'⟩)
      obtain ⟨HH,SS⟩:=H.setNew (w':=w') g1 hbc hm T cs0 es3 (ep+1) bn q3.size k1 (fun b hb=>q3.keep b hb (lock_Mb h β b)) hge (by omega) q3.os q3.tape q3.output k2 (by rw [hz];exact k3) (fun i e hee=>by
       obtain ⟨m1,m2⟩:=k5 i e hee
       refine ⟨by rw [hz];exact m1,fun j p hp=>?_⟩
       obtain ⟨u,n1,n2⟩:=m2 j p hp
       have hv:isVal e=true:=by
        have:=List.all_eq_true.1 hok3 e (List.mem_of_getElem? hee)
        unfold okV at this
        simp only [Bool.and_eq_true] at this
        exact this.1.1
       exact ⟨u,by rw [hz];exact n1,n2.valWeak (celv hv p (List.mem_of_getElem? hp)) hA⟩) q3.drawn
      obtain ⟨_,_,m3⟩:=q1.mref_inv
      obtain ⟨cap,c1,c2⟩:=m3 _ bn enew hbn (by simp) rfl (by show 0+(len+1)≤es3.length;omega)
      refine ⟨v,β.set id bn,rfl,?_,HH,SS,fun hh=>by omega⟩
      refine .mref v id (ep+1) 0 (len+1) {o with es:=es3,ep:=ep+1 } bn ⟨_,_,_,c1⟩ (List.getElem?_set_self hlt) (List.getElem?_set_self (by rw [H.len];exact hlt)) (by show o.mu≠.x;rw [hm];simp) ⟨Nat.le_refl _,by show 0<o.esz;omega⟩ (fun _ _=>⟨cap,?_,c2⟩)
      rw [c1,Nat.zero_mul,Nat.zero_mul]
   ·cases e
  ·cases e
 ·cases e
end ZeroT
end Go.Pm
end
section
set_option maxRecDepth 100000
set_option maxHeartbeats 4000000
namespace Go.Pm
open Go.Proofs
attribute [local irreducible] thenQ blockQ loopQ bodyQ Ev EvOps CallEv FnEv EvD
variable {w:World} {F:Nat→Prop} {β:List (Nat × Nat)} {h:AHeap}
namespace Zero
theorem cloneK {fl:Bool} {es:List PV} {vs:List Value} (H:HRel w F β h) (ha:L2 (VRel w (Av F h β) β h) vs [.snap fl es]) (hes:esOk 4 es) (hn:es.length<1000000000) {r:PV} {h':AHeap}
  (hr:(es=[]∧r=.snap true []∧h'=h)∨(es≠[]∧r=.mref h.length 0 0 es.length∧h'=h++[⟨.m,0,4,es⟩])):CSim C0.P 2 w F β h 216 vs r h':=by
 refine csim_wp (P:=C0.P) Tryz.func216 rfl H ha (fun a RR=>?_)
 refine wp_seq ?_
 refine ev_wp K0 mixed0 S0 (M:=fun ex s'=>ex=.normal∧∃ ρ',s'=⟨al [(0,.snap fl es)] ρ',h⟩) rfl ?_ RR ?_
 ·rw [envOf_al]
  (repeat' (first | refine EvOps.nil ?_ | (apply R.assign;exact rfl) | refine Ev.region ?_ | fail))
  exact ⟨rfl,_,St.keep ⟨rfl,trivial⟩⟩
 rintro ex s' a1 w1 β1 ⟨rfl,ρ1,rfl⟩ R1 S1
 refine wp_seq ?_
 refine wp_seq ?_
 apply region_special K0 S0 (pre:=[_]) (post:=[]) (R:=R1) (M:=fun s'=>∃ ρ',s'=⟨al [(0,.snap fl es),(3,.snap fl es)] ρ',h⟩) (M2:=fun s'=>∃ bb ρ',s'=⟨al [(0,.snap fl es),(4,.bool bb)] ρ',h⟩∧(bb=true→es=[]))
 ·rfl
 ·rfl
 ·(repeat' (first | refine EvOps.nil ?_ | (apply R.move;exact rfl) | fail))
  exact ⟨_,St.keep ⟨rfl,rfl,trivial⟩⟩
 ·rintro s1 a2 w2 β2 ⟨ρ2,rfl⟩ R2 S2
  obtain ⟨bb,hb,os⟩:=eqnil_osim (t:=132) (yt:=132) (el:=33) (x:=.tmp 3) (fl:=fl) (es:=es) R2.hr R2.er (kd_sl (T6.hkd 132 _ rfl)) (lk_al (L:=[(0,.snap fl es),(3,.snap fl es)]) (t:=3) rfl ρ2)
  refine ⟨.bool bb,h,os _ rfl,EvOps.nil ⟨bb,al ((4,.bool bb)::[(0,.snap fl es),(3,.snap fl es)]) ρ2,?_,hb⟩⟩
  show (⟨updO (al [(0,.snap fl es),(3,.snap fl es)] ρ2) (some 4) (.bool bb),h⟩:St)=_
  rw [al_cons]
  exact St.keep ⟨rfl,rfl,trivial⟩
 rintro s3 a3 w3 β3 ⟨bb,ρ3,rfl,hb⟩ R3 S3
 cases bb
 ·refine ev_wp K0 mixed0 S0 (M:=fun ex s'=>ex=.normal∧∃ ρ',s'=⟨al [(0,.snap fl es)] ρ',h⟩) rfl ?_ R3 ?_
  ·(repeat' (first | (apply Ev.condB;exact rfl) | refine Ev.skip ?_ | fail))
   exact ⟨rfl,_,St.keep ⟨rfl,trivial⟩⟩
  rintro ex s' a4 w4 β4 ⟨rfl,ρ4,rfl⟩ R4 S4
  refine ev_wp K0 mixed0 S0 (M:=fun ex s'=>ex=.ret∧∃ ρ',s'=⟨al [(2,r)] ρ',h'⟩) rfl ?_ R4 ?_
  ·(repeat' (first | (apply R.move;exact rfl) | (apply R.buildSlice T6;exact rfl;exact rfl;exact rfl;exact rfl;exact (by decide);exact rfl;exact rfl;exact rfl;exact rfl;exact rfl) | refine Ev.seq ?_ | refine Ev.region ?_ | fail))
   rcases hr with ⟨rfl,rfl,rfl⟩ | ⟨hne,rfl,rfl⟩
   ·apply R.appendS0 T6;exact rfl;exact rfl;exact rfl;exact rfl;exact rfl;exact rfl;exact rfl;exact (by decide);exact rfl;exact rfl
    (repeat' (first | refine EvOps.nil ?_ | (apply R.assign;exact rfl) | refine Ev.ret ?_ | refine thenQ.normal ?_ | fail))
    exact ⟨rfl,_,St.keep ⟨rfl,trivial⟩⟩
   ·apply R.appendS1 T6;exact rfl;exact rfl;exact rfl;exact rfl;exact rfl;exact rfl;exact rfl;exact (by decide);exact rfl;exact rfl;exact hes;exact hne;exact hn
    (repeat' (first | refine EvOps.nil ?_ | (apply R.assign;exact rfl) | refine Ev.ret ?_ | refine thenQ.normal ?_ | fail))
    exact ⟨rfl,_,St.keep ⟨rfl,trivial⟩⟩
  rintro ex s5 a5 w5 β5 ⟨rfl,ρ5,rfl⟩ R5 S5
  refine ⟨.inr rfl,_,β5,R5,((S1.trans S3).trans S4).trans S5,[r],?_,fun u hu=>⟨β5,hu,R5.hr,((S1.trans S3).trans S4).trans S5⟩⟩
  exact resT_of (L:=[(2,r)]) rfl
 ·obtain rfl:=hb rfl
  rcases hr with ⟨_,rfl,rfl⟩ | ⟨hne,_⟩
  ·refine ev_wp K0 mixed0 S0 (M:=fun ex s'=>ex=.ret∧∃ ρ',s'=⟨al [(2,.snap true [])] ρ',h'⟩) rfl ?_ R3 ?_
   ·(repeat' (first | refine EvOps.nil ?_ | (apply R.assign;exact rfl) | refine Ev.seq ?_ | refine Ev.region ?_ | (apply Ev.condB;exact rfl) | refine Ev.ret ?_ | refine thenQ.normal ?_ | fail))
    exact ⟨rfl,_,St.keep ⟨rfl,trivial⟩⟩
   rintro ex s5 a5 w5 β5 ⟨rfl,ρ5,rfl⟩ R5 S5
   refine ⟨.inr rfl,_,β5,R5,(S1.trans S3).trans S5,[.snap true []],?_,fun u hu=>⟨β5,hu,R5.hr,(S1.trans S3).trans S5⟩⟩
   exact resT_of (L:=[(2,.snap true [])]) rfl
  ·exact absurd rfl hne
 ·rfl
end Zero
theorem clone_simK:SimRun C.P 216 (clonePrim 4):=by
 intro args h r h' e w F β vs H ha
 unfold clonePrim at e
 split at e
 ·rename_i fl es
  split at e
  ·rename_i hem
   obtain ⟨rfl,rfl⟩:=Prod.mk.inj (Option.some.inj e)
   obtain rfl:es=[]:=by simpa using hem
   exact Zero.cloneK H ha rfl (by simp) (.inl ⟨rfl,rfl,rfl⟩)
  ·rename_i hem
   split at e
   ·rename_i hc
    obtain ⟨rfl,rfl⟩:=Prod.mk.inj (Option.some.inj e)
    exact Zero.cloneK H ha hc.1 hc.2 (.inr ⟨by simpa using hem,rfl,rfl⟩)
   ·cases e
 ·cases e
end Go.Pm
end
section
set_option maxRecDepth 100000
set_option maxHeartbeats 4000000
namespace Go.Pm
open Go.Proofs
attribute [local irreducible] thenQ blockQ loopQ bodyQ Ev EvOps CallEv FnEv EvD
variable {w:World} {F:Nat→Prop} {β:List (Nat × Nat)} {h:AHeap}
namespace Zero
theorem cloneP {fl:Bool} {es:List PV} {vs:List Value} (H:HRel w F β h) (ha:L2 (VRel w (Av F h β) β h) vs [.snap fl es]) (hes:esOk 5 es) (hn:es.length<1000000000) {r:PV} {h':AHeap}
  (hr:(es=[]∧r=.snap true []∧h'=h)∨(es≠[]∧r=.mref h.length 0 0 es.length∧h'=h++[⟨.m,0,5,es⟩])):CSim C0.P 2 w F β h 370 vs r h':=by
 refine csim_wp (P:=C0.P) Tryz.func370 rfl H ha (fun a RR=>?_)
 refine wp_seq ?_
 refine ev_wp K0 mixed0 S0 (M:=fun ex s'=>ex=.normal∧∃ ρ',s'=⟨al [(0,.snap fl es)] ρ',h⟩) rfl ?_ RR ?_
 ·rw [envOf_al]
  (repeat' (first | refine EvOps.nil ?_ | (apply R.assign;exact rfl) | refine Ev.region ?_ | fail))
  exact ⟨rfl,_,St.keep ⟨rfl,trivial⟩⟩
 rintro ex s' a1 w1 β1 ⟨rfl,ρ1,rfl⟩ R1 S1
 refine wp_seq ?_
 refine wp_seq ?_
 apply region_special K0 S0 (pre:=[_]) (post:=[]) (R:=R1) (M:=fun s'=>∃ ρ',s'=⟨al [(0,.snap fl es),(3,.snap fl es)] ρ',h⟩) (M2:=fun s'=>∃ bb ρ',s'=⟨al [(0,.snap fl es),(4,.bool bb)] ρ',h⟩∧(bb=true→es=[]))
 ·rfl
 ·rfl
 ·(repeat' (first | refine EvOps.nil ?_ | (apply R.move;exact rfl) | fail))
  exact ⟨_,St.keep ⟨rfl,rfl,trivial⟩⟩
 ·rintro s1 a2 w2 β2 ⟨ρ2,rfl⟩ R2 S2
  obtain ⟨bb,hb,os⟩:=eqnil_osim (t:=175) (yt:=175) (el:=187) (x:=.tmp 3) (fl:=fl) (es:=es) R2.hr R2.er (kd_sl (T6.hkd 175 _ rfl)) (lk_al (L:=[(0,.snap fl es),(3,.snap fl es)]) (t:=3) rfl ρ2)
  refine ⟨.bool bb,h,os _ rfl,EvOps.nil ⟨bb,al ((4,.bool bb)::[(0,.snap fl es),(3,.snap fl es)]) ρ2,?_,hb⟩⟩
  show (⟨updO (al [(0,.snap fl es),(3,.snap fl es)] ρ2) (some 4) (.bool bb),h⟩:St)=_
  rw [al_cons]
  exact St.keep ⟨rfl,rfl,trivial⟩
 rintro s3 a3 w3 β3 ⟨bb,ρ3,rfl,hb⟩ R3 S3
 cases bb
 ·refine ev_wp K0 mixed0 S0 (M:=fun ex s'=>ex=.normal∧∃ ρ',s'=⟨al [(0,.snap fl es)] ρ',h⟩) rfl ?_ R3 ?_
  ·(repeat' (first | (apply Ev.condB;exact rfl) | refine Ev.skip ?_ | fail))
   exact ⟨rfl,_,St.keep ⟨rfl,trivial⟩⟩
  rintro ex s' a4 w4 β4 ⟨rfl,ρ4,rfl⟩ R4 S4
  refine ev_wp K0 mixed0 S0 (M:=fun ex s'=>ex=.ret∧∃ ρ',s'=⟨al [(2,r)] ρ',h'⟩) rfl ?_ R4 ?_
  ·(repeat' (first | (apply R.move;exact rfl) | (apply R.buildSlice T6;exact rfl;exact rfl;exact rfl;exact rfl;exact (by decide);exact rfl;exact rfl;exact rfl;exact rfl;exact rfl) | refine Ev.seq ?_ | refine Ev.region ?_ | fail))
   rcases hr with ⟨rfl,rfl,rfl⟩ | ⟨hne,rfl,rfl⟩
   ·apply R.appendS0 T6;exact rfl;exact rfl;exact rfl;exact rfl;exact rfl;exact rfl;exact rfl;exact (by decide);exact rfl;exact rfl
    (repeat' (first | refine EvOps.nil ?_ | (apply R.assign;exact rfl) | refine Ev.ret ?_ | refine thenQ.normal ?_ | fail))
    exact ⟨rfl,_,St.keep ⟨rfl,trivial⟩⟩
   ·apply R.appendS1 T6;exact rfl;exact rfl;exact rfl;exact rfl;exact rfl;exact rfl;exact rfl;exact (by decide);exact rfl;exact rfl;exact hes;exact hne;exact hn
    (repeat' (first | refine EvOps.nil ?_ | (apply R.assign;exact rfl) | refine Ev.ret ?_ | refine thenQ.normal ?_ | fail))
    exact ⟨rfl,_,St.keep ⟨rfl,trivial⟩⟩
  rintro ex s5 a5 w5 β5 ⟨rfl,ρ5,rfl⟩ R5 S5
  refine ⟨.inr rfl,_,β5,R5,((S1.trans S3).trans S4).trans S5,[r],?_,fun u hu=>⟨β5,hu,R5.hr,((S1.trans S3).trans S4).trans S5⟩⟩
  exact resT_of (L:=[(2,r)]) rfl
 ·obtain rfl:=hb rfl
  rcases hr with ⟨_,rfl,rfl⟩ | ⟨hne,_⟩
  ·refine ev_wp K0 mixed0 S0 (M:=fun ex s'=>ex=.ret∧∃ ρ',s'=⟨al [(2,.snap true [])] ρ',h'⟩) rfl ?_ R3 ?_
   ·(repeat' (first | refine EvOps.nil ?_ | (apply R.assign;exact rfl) | refine Ev.seq ?_ | refine Ev.region ?_ | (apply Ev.condB;exact rfl) | refine Ev.ret ?_ | refine thenQ.normal ?_ | fail))
    exact ⟨rfl,_,St.keep ⟨rfl,trivial⟩⟩
   rintro ex s5 a5 w5 β5 ⟨rfl,ρ5,rfl⟩ R5 S5
   refine ⟨.inr rfl,_,β5,R5,(S1.trans S3).trans S5,[.snap true []],?_,fun u hu=>⟨β5,hu,R5.hr,(S1.trans S3).trans S5⟩⟩
   exact resT_of (L:=[(2,.snap true [])]) rfl
  ·exact absurd rfl hne
 ·rfl
end Zero
theorem clone_simP:SimRun C.P 370 (clonePrim 5):=by
 intro args h r h' e w F β vs H ha
 unfold clonePrim at e
 split at e
 ·rename_i fl es
  split at e
  ·rename_i hem
   obtain ⟨rfl,rfl⟩:=Prod.mk.inj (Option.some.inj e)
   obtain rfl:es=[]:=by simpa using hem
   exact Zero.cloneP H ha rfl (by simp) (.inl ⟨rfl,rfl,rfl⟩)
  ·rename_i hem
   split at e
   ·rename_i hc
    obtain ⟨rfl,rfl⟩:=Prod.mk.inj (Option.some.inj e)
    exact Zero.cloneP H ha hc.1 hc.2 (.inr ⟨by simpa using hem,rfl,rfl⟩)
   ·cases e
 ·cases e
end Go.Pm
end
section
set_option maxRecDepth 100000
set_option maxHeartbeats 4000000
namespace Go.Pm
open Go.Proofs
attribute [local irreducible] thenQ blockQ loopQ bodyQ Ev EvOps CallEv FnEv EvD
variable {w:World} {F:Nat→Prop} {β:List (Nat × Nat)} {h:AHeap}
namespace Zero
theorem cloneD {fl:Bool} {es:List PV} {vs:List Value} (H:HRel w F β h) (ha:L2 (VRel w (Av F h β) β h) vs [.snap fl es]) (hes:esOk 5 es) (hn:es.length<1000000000) {r:PV} {h':AHeap}
  (hr:(es=[]∧r=.snap true []∧h'=h)∨(es≠[]∧r=.mref h.length 0 0 es.length∧h'=h++[⟨.m,0,5,es⟩])):CSim C0.P 2 w F β h 15 vs r h':=by
 refine csim_wp (P:=C0.P) Tryz.func15 rfl H ha (fun a RR=>?_)
 refine wp_seq ?_
 refine ev_wp K0 mixed0 S0 (M:=fun ex s'=>ex=.normal∧∃ ρ',s'=⟨al [(0,.snap fl es)] ρ',h⟩) rfl ?_ RR ?_
 ·rw [envOf_al]
  (repeat' (first | refine EvOps.nil ?_ | (apply R.assign;exact rfl) | refine Ev.region ?_ | fail))
  exact ⟨rfl,_,St.keep ⟨rfl,trivial⟩⟩
 rintro ex s' a1 w1 β1 ⟨rfl,ρ1,rfl⟩ R1 S1
 refine wp_seq ?_
 refine wp_seq ?_
 apply region_special K0 S0 (pre:=[_]) (post:=[]) (R:=R1) (M:=fun s'=>∃ ρ',s'=⟨al [(0,.snap fl es),(3,.snap fl es)] ρ',h⟩) (M2:=fun s'=>∃ bb ρ',s'=⟨al [(0,.snap fl es),(4,.bool bb)] ρ',h⟩∧(bb=true→es=[]))
 ·rfl
 ·rfl
 ·(repeat' (first | refine EvOps.nil ?_ | (apply R.move;exact rfl) | fail))
  exact ⟨_,St.keep ⟨rfl,rfl,trivial⟩⟩
 ·rintro s1 a2 w2 β2 ⟨ρ2,rfl⟩ R2 S2
  obtain ⟨bb,hb,os⟩:=eqnil_osim (t:=22) (yt:=22) (el:=35) (x:=.tmp 3) (fl:=fl) (es:=es) R2.hr R2.er (kd_sl (T6.hkd 22 _ rfl)) (lk_al (L:=[(0,.snap fl es),(3,.snap fl es)]) (t:=3) rfl ρ2)
  refine ⟨.bool bb,h,os _ rfl,EvOps.nil ⟨bb,al ((4,.bool bb)::[(0,.snap fl es),(3,.snap fl es)]) ρ2,?_,hb⟩⟩
  show (⟨updO (al [(0,.snap fl es),(3,.snap fl es)] ρ2) (some 4) (.bool bb),h⟩:St)=_
  rw [al_cons]
  exact St.keep ⟨rfl,rfl,trivial⟩
 rintro s3 a3 w3 β3 ⟨bb,ρ3,rfl,hb⟩ R3 S3
 cases bb
 ·refine ev_wp K0 mixed0 S0 (M:=fun ex s'=>ex=.normal∧∃ ρ',s'=⟨al [(0,.snap fl es)] ρ',h⟩) rfl ?_ R3 ?_
  ·(repeat' (first | (apply Ev.condB;exact rfl) | refine Ev.skip ?_ | fail))
   exact ⟨rfl,_,St.keep ⟨rfl,trivial⟩⟩
  rintro ex s' a4 w4 β4 ⟨rfl,ρ4,rfl⟩ R4 S4
  refine ev_wp K0 mixed0 S0 (M:=fun ex s'=>ex=.ret∧∃ ρ',s'=⟨al [(2,r)] ρ',h'⟩) rfl ?_ R4 ?_
  ·(repeat' (first | (apply R.move;exact rfl) | (apply R.buildSlice T6;exact rfl;exact rfl;exact rfl;exact rfl;exact (by decide);exact rfl;exact rfl;exact rfl;exact rfl;exact rfl) | refine Ev.seq ?_ | refine Ev.region ?_ | fail))
   rcases hr with ⟨rfl,rfl,rfl⟩ | ⟨hne,rfl,rfl⟩
   ·apply R.appendS0 T6;exact rfl;exact rfl;exact rfl;exact rfl;exact rfl;exact rfl;exact rfl;exact (by decide);exact rfl;exact rfl
    (repeat' (first | refine EvOps.nil ?_ | (apply R.assign;exact rfl) | refine Ev.ret ?_ | refine thenQ.normal ?_ | fail))
    exact ⟨rfl,_,St.keep ⟨rfl,trivial⟩⟩
   ·apply R.appendS1 T6;exact rfl;exact rfl;exact rfl;exact rfl;exact rfl;exact rfl;exact rfl;exact (by decide);exact rfl;exact rfl;exact hes;exact hne;exact hn
    (repeat' (first | refine EvOps.nil ?_ | (apply R.assign;exact rfl) | refine Ev.ret ?_ | refine thenQ.normal ?_ | fail))
    exact ⟨rfl,_,St.keep ⟨rfl,trivial⟩⟩
  rintro ex s5 a5 w5 β5 ⟨rfl,ρ5,rfl⟩ R5 S5
  refine ⟨.inr rfl,_,β5,R5,((S1.trans S3).trans S4).trans S5,[r],?_,fun u hu=>⟨β5,hu,R5.hr,((S1.trans S3).trans S4).trans S5⟩⟩
  exact resT_of (L:=[(2,r)]) rfl
 ·obtain rfl:=hb rfl
  rcases hr with ⟨_,rfl,rfl⟩ | ⟨hne,_⟩
  ·refine ev_wp K0 mixed0 S0 (M:=fun ex s'=>ex=.ret∧∃ ρ',s'=⟨al [(2,.snap true [])] ρ',h'⟩) rfl ?_ R3 ?_
   ·(repeat' (first | refine EvOps.nil ?_ | (apply R.assign;exact rfl) | refine Ev.seq ?_ | refine Ev.region ?_ | (apply Ev.condB;exact rfl) | refine Ev.ret ?_ | refine thenQ.normal ?_ | fail))
    exact ⟨rfl,_,St.keep ⟨rfl,trivial⟩⟩
   rintro ex s5 a5 w5 β5 ⟨rfl,ρ5,rfl⟩ R5 S5
   refine ⟨.inr rfl,_,β5,R5,(S1.trans S3).trans S5,[.snap true []],?_,fun u hu=>⟨β5,hu,R5.hr,(S1.trans S3).trans S5⟩⟩
   exact resT_of (L:=[(2,.snap true [])]) rfl
  ·exact absurd rfl hne
 ·rfl
end Zero
theorem clone_simD:SimRun C.P 15 (clonePrim 5):=by
 intro args h r h' e w F β vs H ha
 unfold clonePrim at e
 split at e
 ·rename_i fl es
  split at e
  ·rename_i hem
   obtain ⟨rfl,rfl⟩:=Prod.mk.inj (Option.some.inj e)
   obtain rfl:es=[]:=by simpa using hem
   exact Zero.cloneD H ha rfl (by simp) (.inl ⟨rfl,rfl,rfl⟩)
  ·rename_i hem
   split at e
   ·rename_i hc
    obtain ⟨rfl,rfl⟩:=Prod.mk.inj (Option.some.inj e)
    exact Zero.cloneD H ha hc.1 hc.2 (.inr ⟨by simpa using hem,rfl,rfl⟩)
   ·cases e
 ·cases e
end Go.Pm
end
section
set_option maxRecDepth 100000
set_option maxHeartbeats 4000000
namespace Go.Pm
open Go.Proofs
attribute [local irreducible] thenQ blockQ loopQ bodyQ Ev EvOps CallEv FnEv EvD
variable {w:World} {F:Nat→Prop} {β:List (Nat × Nat)} {h:AHeap}
namespace Zero
theorem cloneB {fl:Bool} {es:List PV} {vs:List Value} (H:HRel w F β h) (ha:L2 (VRel w (Av F h β) β h) vs [.snap fl es]) (hes:esOk 8 es) (hn:es.length<1000000000) {r:PV} {h':AHeap}
  (hr:(es=[]∧r=.snap true []∧h'=h)∨(es≠[]∧r=.mref h.length 0 0 es.length∧h'=h++[⟨.m,0,8,es⟩])):CSim C0.P 2 w F β h 16 vs r h':=by
 refine csim_wp (P:=C0.P) Tryz.func16 rfl H ha (fun a RR=>?_)
 refine wp_seq ?_
 refine ev_wp K0 mixed0 S0 (M:=fun ex s'=>ex=.normal∧∃ ρ',s'=⟨al [(0,.snap fl es)] ρ',h⟩) rfl ?_ RR ?_
 ·rw [envOf_al]
  (repeat' (first | refine EvOps.nil ?_ | (apply R.assign;exact rfl) | refine Ev.region ?_ | fail))
  exact ⟨rfl,_,St.keep ⟨rfl,trivial⟩⟩
 rintro ex s' a1 w1 β1 ⟨rfl,ρ1,rfl⟩ R1 S1
 refine wp_seq ?_
 refine wp_seq ?_
 apply region_special K0 S0 (pre:=[_]) (post:=[]) (R:=R1) (M:=fun s'=>∃ ρ',s'=⟨al [(0,.snap fl es),(3,.snap fl es)] ρ',h⟩) (M2:=fun s'=>∃ bb ρ',s'=⟨al [(0,.snap fl es),(4,.bool bb)] ρ',h⟩∧(bb=true→es=[]))
 ·rfl
 ·rfl
 ·(repeat' (first | refine EvOps.nil ?_ | (apply R.move;exact rfl) | fail))
  exact ⟨_,St.keep ⟨rfl,rfl,trivial⟩⟩
 ·rintro s1 a2 w2 β2 ⟨ρ2,rfl⟩ R2 S2
  obtain ⟨bb,hb,os⟩:=eqnil_osim (t:=23) (yt:=23) (el:=38) (x:=.tmp 3) (fl:=fl) (es:=es) R2.hr R2.er (kd_sl (T6.hkd 23 _ rfl)) (lk_al (L:=[(0,.snap fl es),(3,.snap fl es)]) (t:=3) rfl ρ2)
  refine ⟨.bool bb,h,os _ rfl,EvOps.nil ⟨bb,al ((4,.bool bb)::[(0,.snap fl es),(3,.snap fl es)]) ρ2,?_,hb⟩⟩
  show (⟨updO (al [(0,.snap fl es),(3,.snap fl es)] ρ2) (some 4) (.bool bb),h⟩:St)=_
  rw [al_cons]
  exact St.keep ⟨rfl,rfl,trivial⟩
 rintro s3 a3 w3 β3 ⟨bb,ρ3,rfl,hb⟩ R3 S3
 cases bb
 ·refine ev_wp K0 mixed0 S0 (M:=fun ex s'=>ex=.normal∧∃ ρ',s'=⟨al [(0,.snap fl es)] ρ',h⟩) rfl ?_ R3 ?_
  ·(repeat' (first | (apply Ev.condB;exact rfl) | refine Ev.skip ?_ | fail))
   exact ⟨rfl,_,St.keep ⟨rfl,trivial⟩⟩
  rintro ex s' a4 w4 β4 ⟨rfl,ρ4,rfl⟩ R4 S4
  refine ev_wp K0 mixed0 S0 (M:=fun ex s'=>ex=.ret∧∃ ρ',s'=⟨al [(2,r)] ρ',h'⟩) rfl ?_ R4 ?_
  ·(repeat' (first | (apply R.move;exact rfl) | (apply R.buildSlice T6;exact rfl;exact rfl;exact rfl;exact rfl;exact (by decide);exact rfl;exact rfl;exact rfl;exact rfl;exact rfl) | refine Ev.seq ?_ | refine Ev.region ?_ | fail))
   rcases hr with ⟨rfl,rfl,rfl⟩ | ⟨hne,rfl,rfl⟩
   ·apply R.appendS0 T6;exact rfl;exact rfl;exact rfl;exact rfl;exact rfl;exact rfl;exact rfl;exact (by decide);exact rfl;exact rfl
    (repeat' (first | refine EvOps.nil ?_ | (apply R.assign;exact rfl) | refine Ev.ret ?_ | refine thenQ.normal ?_ | fail))
    exact ⟨rfl,_,St.keep ⟨rfl,trivial⟩⟩
   ·apply R.appendS1 T6;exact rfl;exact rfl;exact rfl;exact rfl;exact rfl;exact rfl;exact rfl;exact (by decide);exact rfl;exact rfl;exact hes;exact hne;exact hn
    (repeat' (first | refine EvOps.nil ?_ | (apply R.assign;exact rfl) | refine Ev.ret ?_ | refine thenQ.normal ?_ | fail))
    exact ⟨rfl,_,St.keep ⟨rfl,trivial⟩⟩
  rintro ex s5 a5 w5 β5 ⟨rfl,ρ5,rfl⟩ R5 S5
  refine ⟨.inr rfl,_,β5,R5,((S1.trans S3).trans S4).trans S5,[r],?_,fun u hu=>⟨β5,hu,R5.hr,((S1.trans S3).trans S4).trans S5⟩⟩
  exact resT_of (L:=[(2,r)]) rfl
 ·obtain rfl:=hb rfl
  rcases hr with ⟨_,rfl,rfl⟩ | ⟨hne,_⟩
  ·refine ev_wp K0 mixed0 S0 (M:=fun ex s'=>ex=.ret∧∃ ρ',s'=⟨al [(2,.snap true [])] ρ',h'⟩) rfl ?_ R3 ?_
   ·(repeat' (first | refine EvOps.nil ?_ | (apply R.assign;exact rfl) | refine Ev.seq ?_ | refine Ev.region ?_ | (apply Ev.condB;exact rfl) | refine Ev.ret ?_ | refine thenQ.normal ?_ | fail))
    exact ⟨rfl,_,St.keep ⟨rfl,trivial⟩⟩
   rintro ex s5 a5 w5 β5 ⟨rfl,ρ5,rfl⟩ R5 S5
   refine ⟨.inr rfl,_,β5,R5,(S1.trans S3).trans S5,[.snap true []],?_,fun u hu=>⟨β5,hu,R5.hr,(S1.trans S3).trans S5⟩⟩
   exact resT_of (L:=[(2,.snap true [])]) rfl
  ·exact absurd rfl hne
 ·rfl
end Zero
theorem clone_simB:SimRun C.P 16 (clonePrim 8):=by
 intro args h r h' e w F β vs H ha
 unfold clonePrim at e
 split at e
 ·rename_i fl es
  split at e
  ·rename_i hem
   obtain ⟨rfl,rfl⟩:=Prod.mk.inj (Option.some.inj e)
   obtain rfl:es=[]:=by simpa using hem
   exact Zero.cloneB H ha rfl (by simp) (.inl ⟨rfl,rfl,rfl⟩)
  ·rename_i hem
   split at e
   ·rename_i hc
    obtain ⟨rfl,rfl⟩:=Prod.mk.inj (Option.some.inj e)
    exact Zero.cloneB H ha hc.1 hc.2 (.inr ⟨by simpa using hem,rfl,rfl⟩)
   ·cases e
 ·cases e
end Go.Pm
end
section
set_option maxRecDepth 100000
namespace Go.Pm.Nine
open Go.Proofs
abbrev PrL:=List PV→AHeap→Option (PV × AHeap)
def prims:List (FuncId × PrL):=[(161,sortPrim),(215,insertPrimT),(216,clonePrim 4),(370,clonePrim 5),(15,clonePrim 5),(16,clonePrim 8)]
def mode9 (f:FuncId):Mode:=match prims.lookup f with | some g=>.primL g | none=>mode06 f
noncomputable def C:Cfg:=⟨Go.Pm.C.P,mode9⟩
noncomputable def T6:Tab C.P:=Go.Pm.T6
theorem lookup_mem {α:Type} {l:List (Nat × α)} {f:Nat} {g:α} (h:l.lookup f=some g):(f,g)∈l:=by
 induction l with
 | nil=>cases h
 | cons x l ih=>
  obtain ⟨a,b⟩:=x
  simp only [List.lookup] at h
  split at h
  ·rename_i he
   obtain rfl:=Option.some.inj h
   rw [eq_of_beq he];simp
  ·exact List.mem_cons_of_mem _ (ih h)
theorem mode9_cases (f:FuncId):(∃ g,(f,g)∈prims∧mode9 f=.primL g)∨mode9 f=mode06 f:=by
 unfold mode9
 cases h:prims.lookup f with
 | none=>exact .inr rfl
 | some g=>exact .inl ⟨g,lookup_mem h,rfl⟩
theorem prims_no (x:FuncId × PrL) (h:x∈prims):mode06 x.1=.no:=by
 simp only [prims,List.mem_cons,List.mem_nil_iff,or_false] at h
 repeat' (first | (rcases h with rfl | h) | subst h | fail)
 all_goals rfl
theorem prims_sim (x:FuncId × PrL) (h:x∈prims):SimRun C.P x.1 x.2:=by
 simp only [prims,List.mem_cons,List.mem_nil_iff,or_false] at h
 repeat' (first | (rcases h with rfl | h) | subst h | fail)
 all_goals first | exact sort_sim  | exact ZeroT.insert_simT | exact clone_simK | exact clone_simP | exact clone_simD | exact clone_simB
theorem prims_fn (x : FuncId × PrL) (h : x ∈ prims) : ∃ fn, C.P.funcs[x.1]? = some fn ∧ fn.body.isSome = true ∧ (fn.name == "runtime.NumGoroutine") = false := by
 simp only [prims,List.mem_cons,List.mem_nil_iff,or_false] at h
 repeat' (first | (rcases h with rfl | h) | subst h | fail)
 all_goals first
  | exact ⟨_,Tryz.func161,by kernel_rfl,by kernel_rfl⟩
  | exact ⟨_,Tryz.func215,by kernel_rfl,by kernel_rfl⟩
  | exact ⟨_,Tryz.func216,by kernel_rfl,by kernel_rfl⟩
  | exact ⟨_,Tryz.func370,by kernel_rfl,by kernel_rfl⟩
  | exact ⟨_,Tryz.func15,by kernel_rfl,by kernel_rfl⟩
  | exact ⟨_,Tryz.func16,by kernel_rfl,by kernel_rfl⟩
theorem moded:Moded mode06 mode9:=fun f=>by
 rcases mode9_cases f with ⟨g,h,_⟩ | h
 ·exact .inl (prims_no _ h)
 ·exact .inr h.symm
theorem _root_.Go.Pm.Fun.nine {f:FuncId} {args:List PV} {r:PV} (a:Fun Go.Pm.C f args r):Fun C f args r:=Fun.up moded a
theorem cfgOk9:CfgOk C where
 enters f hf hne:=by
  rcases mode9_cases f with ⟨g,h,_⟩ | h
  ·exact prims_fn _ h
  ·exact cfgOk6.enters f (fun h2=>hf (h.trans h2)) (fun g h2=>hne g (h.trans h2))
 primQ f g hh:=by
  rcases mode9_cases f with ⟨g',_,h⟩ | h
  ·cases h.symm.trans hh
  ·exact cfgOk6.primQ f g (h.symm.trans hh)
 primL f g hh:=by
  rcases mode9_cases f with ⟨g',h1,h⟩ | h
  ·obtain rfl:=Mode.primL.inj (h.symm.trans hh)
   exact prims_sim _ h1
  ·exact cfgOk6.primL f g (h.symm.trans hh)
 ext f g hh:=by
  rcases mode9_cases f with ⟨g',_,h⟩ | h
  ·cases h.symm.trans hh
  ·exact cfgOk6.ext f g (h.symm.trans hh)
theorem codesOk9:CodesOk C where
 mixed:=codesOk6.mixed
 codes f fn c hm hf hb:=by
  rcases mode9_cases f with ⟨g',_,h⟩ | h
  ·rcases hm with hm | hm <;> cases h.symm.trans hm
  ·exact codesOk6.codes f fn c (hm.imp (fun h2=>h.symm.trans h2) (fun h2=>h.symm.trans h2)) hf hb
end Go.Pm.Nine
end
section
namespace Go.Pm
mutual
def eqV:PV→PV→Bool
 | .int k n,.int k' n'=>decide (k=k') && decide (n=n')
 | .bool a,.bool b=>a == b
 | .str a,.str b=>a.data.toList == b.data.toList
 | .agg cs,.agg ds=>eqVs cs ds
 | .tup cs,.tup ds=>eqVs cs ds
 | .snap f cs,.snap g ds=>(f == g) && eqVs cs ds
 | .nilm,.nilm=>true
 | .nilp,.nilp=>true
 | .nilf,.nilf=>true
 | _,_=>false
def eqVs:List PV→List PV→Bool
 | [],[]=>true
 | c::cs,d::ds=>eqV c d && eqVs cs ds
 | _,_=>false
end
mutual
theorem eqV_eq:∀ {a b:PV},eqV a b=true→a=b
 | .int k n,b,h=>by cases b <;> simp [eqV] at h;rw [h.1,h.2]
 | .bool x,b,h=>by cases b <;> simp [eqV] at h;rw [h]
 | .str x,b,h=>by
  cases b <;> simp [eqV] at h
  rename_i y
  cases x;cases y
  simp at h
  rw [h]
 | .agg cs,b,h=>by cases b <;> simp [eqV] at h;rw [eqVs_eq h]
 | .tup cs,b,h=>by cases b <;> simp [eqV] at h;rw [eqVs_eq h]
 | .snap f cs,b,h=>by cases b <;> simp [eqV] at h;rw [h.1,eqVs_eq h.2]
 | .nilm,b,h=>by cases b <;> simp [eqV] at h;rfl
 | .nilp,b,h=>by cases b <;> simp [eqV] at h;rfl
 | .nilf,b,h=>by cases b <;> simp [eqV] at h;rfl
 | .mref ..,b,h=>by simp [eqV] at h
 | .ptr ..,b,h=>by simp [eqV] at h
 | .sptr _,b,h=>by simp [eqV] at h
 | .mapr _,b,h=>by simp [eqV] at h
 | .fn ..,b,h=>by simp [eqV] at h
 | .bfn ..,b,h=>by simp [eqV] at h
 | .undef,b,h=>by simp [eqV] at h
 | .any,b,h=>by simp [eqV] at h
theorem eqVs_eq:∀ {a b:List PV},eqVs a b=true→a=b
 | [],b,h=>by cases b <;> simp [eqVs] at h;rfl
 | c::cs,b,h=>by
  cases b with
  | nil=>simp [eqVs] at h
  | cons d ds=>
   simp only [eqVs,Bool.and_eq_true] at h
   rw [eqV_eq h.1,eqVs_eq h.2]
end
abbrev Memo:=List (FuncId × List PV × PV)
def memoG (m:Memo) (f:FuncId) (args:List PV):Option PV:=(m.find? fun x=>Nat.beq x.1 f && eqVs x.2.1 args).map (·.2.2)
def modeM (m:Memo) (md:FuncId→Mode) (f:FuncId):Mode:=if m.any (fun x=>Nat.beq x.1 f)=true then .ext (memoG m f) else md f
variable {P:Program} {md:FuncId→Mode}
def MemoOk (P:Program) (md:FuncId→Mode) (m:Memo):Prop:=∀ x∈m,md x.1=.pure∧Fun ⟨P,md⟩ x.1 x.2.1 x.2.2
theorem memo_fuel:∀ {m:Memo},MemoOk P md m→∃ n0,∀ x∈m,md x.1=.pure∧∀ n,n0≤n→∃ r0 hc r1,runF ⟨P,md⟩ n x.1 x.2.1 []=some (r0,hc)∧rbX hc r0=some r1∧nrm r1=x.2.2
 | [],_=>⟨0,fun x hx=>by cases hx⟩
 | y::m,h=>by
  obtain ⟨n1,h1⟩:=memo_fuel (m:=m) fun x hx=>h x (by simp [hx])
  obtain ⟨hp,n2,h2⟩:=h y (by simp)
  refine ⟨max n1 n2,fun x hx=>?_⟩
  rcases List.mem_cons.1 hx with rfl | hx
  ·exact ⟨hp,fun n hn=>h2 n (by omega)⟩
  ·exact ⟨(h1 x hx).1,fun n hn=>(h1 x hx).2 n (by omega)⟩
theorem memo_le {m:Memo} {n0:Nat} (hm:∀ x∈m,md x.1=.pure∧∀ n,n0≤n→∃ r0 hc r1,runF ⟨P,md⟩ n x.1 x.2.1 []=some (r0,hc)∧rbX hc r0=some r1∧nrm r1=x.2.2):∀ n,RunLe (runF ⟨P,modeM m md⟩ n) (runF ⟨P,md⟩ (n+n0))
 | 0=>fun f args h x e=>by cases e
 | n+1=>by
  have ih:=memo_le hm n
  rw [show n+1+n0=(n+n0)+1 by omega]
  refine bodyF_up (P:=P) (md:=modeM m md) (md':=md) (run:=runF ⟨P,modeM m md⟩ n) (run':=runF ⟨P,md⟩ (n+n0)) ?_ (by omega)
  intro lv f args h x e
  by_cases hf:m.any (fun x=>Nat.beq x.1 f)=true
  ·unfold callF at e
   simp only [modeM,if_pos hf] at e
   split at e
   ·rename_i hv
    obtain ⟨r,hr,rfl⟩:=Option.map_eq_some_iff.1 e
    obtain ⟨y,hy,rfl⟩:=Option.map_eq_some_iff.1 hr
    have hy1:=List.find?_some hy
    have hy2:=List.mem_of_find?_eq_some hy
    simp only [Bool.and_eq_true] at hy1
    obtain rfl:=Nat.eq_of_beq_eq_true hy1.1
    have ha:=eqVs_eq hy1.2
    obtain ⟨hp,hq⟩:=hm y hy2
    obtain ⟨r0,hc,r1,e1,e2,e3⟩:=hq (n+n0) (by omega)
    unfold callF
    rw [show (⟨P,md⟩:Cfg).mode y.1=.pure from hp]
    rw [ha] at e1
    simp only [callPure,hv,if_true,e1,e2,e3]
   ·cases e
  ·have hmd:modeM m md f=md f:=if_neg hf
   unfold callF at e ⊢
   simp only [hmd] at e
   cases hq:md f <;> simp only [hq] at e ⊢
   ·cases e
   ·exact callPure_mono ih e
   ·exact callOpen_mono ih e
   ·exact e
   ·exact lockCall_mono (fun _ _ _ x=>x) e
   ·exact e
theorem Fun.memo {m:Memo} (hm:MemoOk P md m) {f:FuncId} {args:List PV} {r:PV} (a:Fun ⟨P,modeM m md⟩ f args r):Fun ⟨P,md⟩ f args r:=by
 obtain ⟨n0,hq⟩:=memo_fuel hm
 obtain ⟨n1,hn⟩:=a
 refine ⟨n1+n0,fun n h1=>?_⟩
 obtain ⟨r0,hc,r1,e1,e2⟩:=hn (n - n0) (by omega)
 refine ⟨r0,hc,r1,?_,e2⟩
 have:=memo_le hq (n - n0) _ _ _ _ e1
 rwa [show n - n0+n0=n by omega] at this
def isPure:Mode→Bool | .pure=>true | _=>false
theorem isPure_eq {m:Mode} (h:isPure m=true):m=.pure:=by cases m <;> first | rfl | cases h
def memoRun (P:Program) (md:FuncId→Mode) (n:Nat) (rows:Memo):Bool:=rows.all fun x=>match pureF ⟨P,md⟩ n x.1 x.2.1 with
 | some r=>eqV r x.2.2
 | none=>false
theorem memo_ext {m rows:Memo} {n:Nat} (hm:MemoOk P md m) (h1:memoRun P (modeM m md) n rows=true) (h2:(rows.all fun x=>isPure (md x.1))=true):MemoOk P md (rows++m):=by
 intro x hx
 rcases List.mem_append.1 hx with hx | hx
 ·refine ⟨isPure_eq (List.all_eq_true.1 h2 x hx),?_⟩
  have h3:=List.all_eq_true.1 h1 x hx
  split at h3
  ·rename_i r hr
   rw [← eqV_eq h3]
   exact Fun.memo hm (Fun.of_run hr)
  ·cases h3
 ·exact hm x hx
end Go.Pm
end
