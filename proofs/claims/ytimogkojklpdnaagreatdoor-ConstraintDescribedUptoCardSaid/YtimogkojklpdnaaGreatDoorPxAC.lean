/-
  Pm, a part. Conditions: none.
-/
import Derived.Test.YtimogkojklpdnaaGreatDoorPxAB
import Derived.Test.YtimogkojklpdnaaGreatDoorProg
import Derived.KernelRfl
import Derived.Lib.Bytealg
set_option linter.unusedVariables false
set_option linter.unusedSimpArgs false
set_option linter.unnecessarySimpa false
namespace Go.Pm
variable{P:Program}{w:World}{F:Nat->Prop}{β:List (Nat×Nat)}{h:ab}
def iz(w:World)(A:Nat->Prop)(β:List (Nat×Nat))(h:ab)(a:Act)(ρ:Nat->PV):Prop:=∀t,aE w A β h (a.tmps.getD t Go.undef) (ρ t)
theorem iz.ev{A:Nat->Prop}{a:Act}{ρ:Nat->PV}(r:iz w A β h a ρ)(x:Operand):aE w A β h (a.eval x) (Pm.ev ρ x):=by
 cases x with
 |tmp t=>exact r t
 |const v=>exact Hq w A β h v
 |global g=>exact .any _
 |func f=>exact .fn f [] [] rfl (by simp)
theorem iz.Mt{A:Nat->Prop}{a:Act}{ρ:Nat->PV}(r:iz w A β h a ρ)(xs:List Operand):L2 (aE w A β h) (xs.map a.eval) (xs.map (Pm.ev ρ)):=by
 refine⟨by simp,λj hj=>?_⟩;simp at hj;have e1:(xs.map a.eval).getD j undef=a.eval xs[j]:=by simp[List.getD,hj]
 have e2:(xs.map (Pm.ev ρ)).getD j .any=Pm.ev ρ xs[j]:=by simp[List.getD,hj]
 rw[e1,e2];exact r.ev _
theorem iz.parts{A:Nat->Prop}{a:Act}{ρ:Nat->PV}(r:iz w A β h a ρ)(xs:Array (Nat×Operand)):nr w A β h (xs.map λ(i,x)=>(i,a.eval x)).toList (xs.toList.map λ(i,x)=>(i,Pm.ev ρ x)):=by
 refine⟨by simp,λk x hx=>?_⟩;simp only[abB,aca]at hx;obtain⟨y,h1,rfl⟩:=hx;exact⟨a.eval y.2,by simp only[Array.toList_map,abB,h1];rfl,r.ev y.2⟩
theorem iz.opt{A:Nat->Prop}{a:Act}{ρ:Nat->PV}(r:iz w A β h a ρ)(x:Option Operand):tC w A β h (x.map a.eval) (x.map (Pm.ev ρ)):=by
 cases x with
 |none=>trivial
 |some x=>exact r.ev x
def wg(P:Program)(lv:Nat)(w:World)(F:Nat->Prop)(β:List (Nat×Nat))(h:ab)(s:Sem Next)(p:PV)(h':ab):Prop:=
 ∃v w' β',(s.run P w=.ok (.value v) w'\/(s.run P w=.ok .skip w'/\v=undef))/\aE w' (Av F h' β') β' h' v p/\bm w' F β' h'/\eg w h β w' h' β'/\(lv<=1->dH w w')
theorem Cn.o{lv:Nat}{s:Sem Value}{p:PV}{h':ab}(x:Cn P lv w F β h s p h'):wg P lv w F β h (do pure (.value (<-s))) p h':=by
 obtain⟨v,w',β',h1,h2,h3,h4⟩:=x;exact⟨v,w',β',.inl (by simp only[Sem.run_bind,h1,Result.andThen_ok,Sem.run_pure]),h2,h3,h4⟩
theorem fH{lv:Nat}(H:bm w F β h){s:Sem Value}{p:PV}(x:∃u,s.run P w=.ok u w/\aE w (Av F h β) β h u p):wg P lv w F β h (do pure (.value (<-s))) p h:=by
 obtain⟨u,h1,h2⟩:=x;exact(Cn.still H h1 h2).o
theorem dI{α:Type}{x:Option α}{h:ab}{p:α}{h':ab}(e:x.map (·,h)=some (p,h')):x=some p/\h'=h:=by
 cases x with
 |none=>cases e
 |some y=>simp at e;exact⟨by rw[e.1],e.2.symm⟩
theorem F'(H:bm w F β h){a:Act}{ρ:Nat->PV}(R:iz w (Av F h β) β h a ρ){lv:Nat}{o:Oper}{p:PV}{h':ab}(hc:∀c,o.op≠.call c)(e:aC P lv o.op ρ h=some (p,h')):
  wg P lv w F β h (execOp a.eval o) p h':=by
 obtain⟨dst,op,type,pos,after,guard⟩:=o;simp only at e hc ⊢
 cases op <;>simp only[aC]at e <;>simp only[execOp]
 case move x=>
  obtain⟨rfl,rfl⟩:=abv (abi e);exact⟨_,w,β,.inl rfl,R.ev x,H,eg.refl w h β,λ_=>dH.refl w⟩
 case assign x=>
  obtain⟨rfl,rfl⟩:=abv (abi e);exact⟨_,w,β,.inl rfl,R.ev x,H,eg.refl w h β,λ_=>dH.refl w⟩
 case pick c x y=>
  split at e
  ·rename_i t ht
   obtain⟨rfl,rfl⟩:=abv (abi e);have hb:=R.ev c;rw[ht]at hb;have:=hb.gG;refine⟨if t then a.eval x else a.eval y,w,β,.inl ?_,?_,H,eg.refl w h β,λ_=>dH.refl w⟩
   ·simp only[this,asBool,Sem.run_bind,Sem.run_pure,Result.andThen_ok]
   ·cases t
    ·exact R.ev y
    ·exact R.ev x
  ·cases e
 case alloc t=>
  split at e
  ·rename_i z hz
   split at e
   ·rename_i FE
    obtain⟨rfl,rfl⟩:=abv (abi e);exact(KQ H t hz FE.2.1 FE.2.2).o
   ·cases e
  ·cases e
 case box t x=>
  split at e
  ·rename_i FE
   obtain⟨rfl,rfl⟩:=abv (abi e);exact(Ja H t (R.ev x) FE.2.1 FE.2.2).o
  ·cases e
 case build t ps=>
  obtain⟨e1,rfl⟩:=dI e;exact fH H (KY (R.parts ps) e1)
 case buildSlice t n ps=>exact(ze H (R.parts ps) e).o
 case load t x=>
  obtain⟨e1,rfl⟩:=dI e;exact fH H (EU H (R.ev x) e1)
 case store t x y=>
  split at e
  ·rename_i FH
   cases hs:hZ P h t (Pm.ev ρ x) (Pm.ev ρ y)with
   |none=>rw[hs]at e;simp at e
   |some h2=>
    rw[hs]at e;simp at e;obtain⟨rfl,rfl⟩:=e;obtain⟨w',β',r1,r2,r3⟩:=KP H (R.ev x) (R.ev y) hs;exact⟨undef,w',β',.inr ⟨by simp only[Sem.run_bind,r1,Result.andThen_ok,Sem.run_pure],rfl⟩,.undef,r2,r3,λhh=>by omega⟩
  ·cases e
 case nilCheck x=>
  have hx:=R.ev x;generalize a.eval x=v at hx ⊢
  split at e
  ·rename_i id ep i oo hp
   obtain⟨rfl,rfl⟩:=abv (abi e);rw[hp]at hx
   cases hx with
   |val hs=>cases hs
   |ptr _ _ _ _ _ oo bc h0 h1 h2 h3 h4 h5=>
    obtain⟨ad,rfl⟩:=h0;exact⟨_,w,β,.inl rfl,.ptr _ _ _ _ _ oo bc ⟨_,rfl⟩ h1 h2 h3 h4 h5,H,eg.refl w h β,λ_=>dH.refl w⟩
  ·rename_i cs hp
   obtain⟨rfl,rfl⟩:=abv (abi e);rw[hp]at hx;have hs:=hx.tJ
   cases hs with
   |eQ=>exact⟨_,w,β,.inl rfl,hx,H,eg.refl w h β,λ_=>dH.refl w⟩
  ·rename_i f cs hp
   obtain⟨rfl,rfl⟩:=abv (abi e);rw[hp]at hx;obtain⟨vs,rfl,_⟩:=hx.F9;exact⟨_,w,β,.inl rfl,hx,H,eg.refl w h β,λ_=>dH.refl w⟩
  ·cases e
 case binOp op t x y yt=>
  obtain⟨e1,rfl⟩:=dI e;exact fH H (RW (R.ev x) (R.ev y) e1)
 case unOp op t x=>
  obtain⟨e1,rfl⟩:=dI e;exact fH H (V' (R.ev x) e1)
 case convert s d x=>
  obtain⟨e1,rfl⟩:=dI e;exact fH H (OL (R.ev x) e1)
 case makeFunc fn first dn=>
  cases fn <;>simp only at e <;>try(cases e;done)
  rename_i f
  split at e
  ·rename_i hf
   obtain⟨rfl,rfl⟩:=abv (abi e);obtain rfl:first= #[]:=by simpa using hf
   obtain⟨l1,l2⟩:=R.Mt dn.toList;refine(Cn.still H (v:=.func (.func f) #[] (dn.toList.map a.eval).toArray) ?_ (.fn f _ _ l1 l2)).o;have:dn.map a.eval=(dn.toList.map a.eval).toArray:=by apply acT;simp
   simp[Instr.makeFunc,this]
  ·obtain⟨rfl,rfl⟩:=abv (abi e);obtain⟨l1,l2⟩:=R.Mt (first.toList++dn.toList);refine(Cn.still H (v:=.func (.func f) (((first.toList++dn.toList).map a.eval).take first.size).toArray (((first.toList++dn.toList).map a.eval).drop first.size).toArray) ?_ (.ou f first.size _ _ l1 l2)).o;have e1:first.map a.eval=(((first.toList++dn.toList).map a.eval).take first.size).toArray:=by apply acT;simp
   have e2:dn.map a.eval=(((first.toList++dn.toList).map a.eval).drop first.size).toArray:=by apply acT;simp
   simp only[Instr.makeFunc,e1,e2];rfl
 case makeSlice t l c=>exact(OJ H (R.ev l) (R.ev c) e).o
 case slice t x lo hi mx=>
  obtain⟨e1,rfl⟩:=dI e;exact fH H (KU H (R.ev x) (R.opt lo) (R.opt hi) (R.opt mx) e1)
 case fieldAddr s x f=>
  obtain⟨e1,rfl⟩:=dI e;exact fH H (Aw H (R.ev x) e1)
 case field s x f=>
  obtain⟨e1,rfl⟩:=dI e;exact fH H (KN (R.ev x) e1)
 case indexAddr t x ix=>
  obtain⟨e1,rfl⟩:=dI e;exact fH H (Ax H (R.ev x) (R.ev ix) e1)
 case index t x ix=>
  obtain⟨e1,rfl⟩:=dI e;exact fH H (KO (R.ev x) (R.ev ix) e1)
 case makeMap t r=>exact(EK H (R.opt r) e).o
 case lookup t x k ok=>
  obtain⟨e1,rfl⟩:=dI e;exact fH H (Hj H (R.ev x) (R.ev k) e1)
 case mapUpdate t m k x=>
  split at e
  ·rename_i FH
   cases hs:oA P h t (Pm.ev ρ m) (Pm.ev ρ k) (Pm.ev ρ x)with
   |none=>rw[hs]at e;simp at e
   |some h2=>
    rw[hs]at e;simp at e;obtain⟨rfl,rfl⟩:=e;obtain⟨w',β',r1,r2,r3⟩:=yO H (R.ev m) (R.ev k) (R.ev x) hs;exact⟨undef,w',β',.inr ⟨by simp only[Sem.run_bind,r1,Result.andThen_ok,Sem.run_pure],rfl⟩,.undef,r2,r3,λhh=>by omega⟩
  ·cases e
 case insert t m k x=>
  split at e
  ·rename_i FH
   cases hs:oA P h t (Pm.ev ρ m) (Pm.ev ρ k) (Pm.ev ρ x)with
   |none=>rw[hs]at e;simp at e
   |some h2=>
    rw[hs]at e;simp at e;obtain⟨rfl,rfl⟩:=e;obtain⟨w',β',r1,r2,r3⟩:=yO H (R.ev m) (R.ev k) (R.ev x) hs;exact⟨undef,w',β',.inr ⟨by simp only[Sem.run_bind,r1,Result.andThen_ok,Sem.run_pure],rfl⟩,.undef,r2,r3,λhh=>by omega⟩
  ·cases e
 case extract x i=>
  split at e
  ·rename_i vs hv
   split at e
   ·rename_i v hi
    obtain⟨rfl,rfl⟩:=abv (abi e);have hx:=R.ev x;rw[hv]at hx;obtain⟨us,hu,hl,hr⟩:=hx.wS;have hj:=ag hi;have:=hr i hj;have e2:vs.getD i .any=v:=by simp[List.getD,hi]
    rw[e2]at this;refine fH H ⟨us.getD i Go.undef,?_,this⟩;rw[hu];have:i<us.length:=by omega
    simp[Instr.extract,this,List.getD]
   ·cases e
  ·cases e
 case call c=>exact absurd rfl (hc c)
 all_goals cases e
theorem DF(H:bm w F β h){a:Act}{ρ:Nat->PV}(R:iz w (Av F h β) β h a ρ){lv:Nat}{b:Builtin}{ts:Array TypeId}{ty:TypeId}{cb:Array Bool}{xs:Array Operand}{p:PV}{h':ab}
  (e:bt P lv h b ts.toList (xs.toList.map (Pm.ev ρ))=some (p,h')):wg P lv w F β h (builtin b ts ty cb (xs.map a.eval)) p h':=by
 have ts0:∀{t:TypeId} {r:List TypeId},ts.toList=t::r->ts[0]?=some t:=λhh=>by rw[<-abQ,hh];rfl
 have ts1:∀{t t':TypeId} {r:List TypeId},ts.toList=t::t'::r->ts[1]?=some t':=λhh=>by rw[<-abQ,hh];rfl
 have xs0:∀{p:PV} {r:List PV},xs.toList.map (Pm.ev ρ)=p::r->∃v,(xs.map a.eval)[0]?=some v/\aE w (Av F h β) β h v p:=λ{p r} hh=>by
  cases hx:xs.toList with
  |nil=>rw[hx]at hh;simp at hh
  |cons y ys=>
   rw[hx]at hh;simp at hh;refine⟨a.eval y,?_,by rw[<-hh.1];exact R.ev y⟩;rw[<-abQ,Array.toList_map,hx];rfl
 have xs1:∀{p q:PV} {r:List PV},xs.toList.map (Pm.ev ρ)=p::q::r->∃v,(xs.map a.eval)[1]?=some v/\aE w (Av F h β) β h v q:=λ{p q r} hh=>by
  cases hx:xs.toList with
  |nil=>rw[hx]at hh;simp at hh
  |cons y ys=>
   cases hy:ys with
   |nil=>rw[hx,hy]at hh;simp at hh
   |cons z zs=>
    rw[hx,hy]at hh;simp at hh;refine⟨a.eval z,?_,by rw[<-hh.2.1];exact R.ev z⟩;rw[<-abQ,Array.toList_map,hx,hy];rfl
 have earr:xs.map a.eval=(xs.toList.map a.eval).toArray:=by apply acT;simp
 unfold bt at e
 split at e
 ·rename_i t r x r' h1 h2
  obtain⟨e1,rfl⟩:=dI e;obtain⟨v,v1,v2⟩:=xs0 h2;refine fH H ?_
  cases hx:xs.toList with
  |nil=>rw[hx]at h2;simp at h2
  |cons y ys=>
   rw[earr,hx,abD];rw[hx]at h2;simp at h2;have:=R.ev y;rw[h2.1]at this;exact RS H (ts0 h1) this e1
 ·rename_i st xt r s x r' h1 h2
  obtain⟨v,v1,v2⟩:=xs0 h2;obtain⟨u,u1,u2⟩:=xs1 h2;exact(Hr H (ts0 h1) (ts1 h1) v1 u1 v2 u2 e).o
 ·rename_i dt r d x r' h1 h2
  obtain⟨v,v1,v2⟩:=xs0 h2;obtain⟨u,u1,u2⟩:=xs1 h2;exact(OI H (ts0 h1) v1 u1 v2 u2 e).o
 ·rename_i t r x r' h1 h2
  obtain⟨v,v1,v2⟩:=xs0 h2;exact(KR H (ts0 h1) v1 v2 e).o
 ·rename_i t r x r' h1 h2
  obtain⟨e1,rfl⟩:=dI e;obtain⟨v,v1,v2⟩:=xs0 h2;refine fH H ?_;unfold T2 at e1
  split at e1
  ·rename_i el es hu
   obtain rfl:=abi e1;obtain⟨ad,cap,rfl,_,hf⟩:=v2.fN.kG;obtain rfl:=hf rfl;exact⟨_,by simp[Builtin.cap_,ts0 h1,v1,bQ hu,goInt],.val (.int _ _)⟩
  ·cases e1
 ·rename_i tt xx
  obtain⟨e1,rfl⟩:=dI e;rw[earr];exact fH H (RU (R.Mt xs.toList) e1)
 ·rename_i tt xx
  obtain⟨e1,rfl⟩:=dI e;rw[earr];exact fH H (RV (R.Mt xs.toList) e1)
 ·cases e
theorem cI(cs:List PV):aR cs=cs.map b9:=by
 induction cs with
 |nil=>rfl
 |cons c r ih=>simp[aR,ih]
theorem bB(cs:List PV):ar cs=cs.all aW:=by
 induction cs with
 |nil=>rfl
 |cons c r ih=>simp[ar,ih]
theorem Dh(cs:List PV):pC cs=cs.all dO:=by
 induction cs with
 |nil=>rfl
 |cons c r ih=>simp[pC,ih]
theorem fZ(cs:List PV)(j:Nat):(aR cs).getD j .any=b9 (cs.getD j .any):=by
 rw[cI];simp only[List.getD,abB]
 cases cs[j]? <;>simp[b9]
theorem AK(e:PV):Pm.cells (b9 e)=aR (Pm.cells e):=by
 cases e <;>simp[b9,Pm.cells,aR]
theorem ch.b9{A:Nat->Prop}{v:Value}{p:PV}(r:ch w A v p):ch w A v (Pm.b9 p):=by
 induction r with
 |int k n=>exact .int k n
 |bool b=>exact .bool b
 |str s=>exact .str s
 |eE=>exact .eE
 |aG=>exact .aG
 |gN=>exact .gN
 |agg vs cs hl _ ih=>exact .agg vs _ (by simp[cI,hl]) (λj hj=>by rw[fZ];exact ih j (by simpa[cI]using hj))
 |ct vs cs hl _ ih=>exact .ct vs _ (by simp[cI,hl]) (λj hj=>by rw[fZ];exact ih j (by simpa[cI]using hj))
 |fn f vs cs hl _ ih=>exact .fn f vs _ (by simp[cI,hl]) (λj hj=>by rw[fZ];exact ih j (by simpa[cI]using hj))
 |ou f k vs cs hl _ ih=>exact .ou f k vs _ (by simp[cI,hl]) (λj hj=>by rw[fZ];exact ih j (by simpa[cI]using hj))
 |gY a cap full hf=>exact .gY a cap false (λhh=>by cases hh)
 |aa b off cap sz full es pN h1 h2 h3 h4 h5 h6 h7 _ ih=>
  have hl:(aR es).length=es.length:=by simp[cI]
  have:=ch.aa (w:=w) (A:=A) b off cap sz false (aR es) pN (by intro hn;rw[hn]at hl;exact h1 (abA hl.symm)) (by omega) (λhh=>by cases hh) h4 h5
   (λi hi=>by rw[fZ,AK,cI,acy];exact h6 i (by omega)) (λi j hi hj=>h7 i j (by omega) hj)
   (λi j hi hj=>by rw[fZ,AK,fZ];exact ih i j (by omega) hj)
  rw[hl]at this;exact this
 |eQ b off cs pN h1 h2 h3 _ ih=>
  have hl:(aR cs).length=cs.length:=by simp[cI]
  exact .eQ b off (aR cs) pN (by intro hn;rw[hn]at hl;exact h1 (abA hl.symm)) h2 (λj hj=>h3 j (by omega)) (λj hj=>by rw[fZ];exact ih j (by omega))
theorem fK{f:PV->Bool}{cs:List PV}(h:cs.all f=true){j:Nat}(hj:j<cs.length):f (cs.getD j .any)=true:=by
 have:cs.getD j .any=cs[j]:=by simp[List.getD,hj]
 rw[this];exact abk.1 h _ (abV hj)
theorem ch.dO{A A':Nat->Prop}{w':World}{v:Value}{p:PV}(r:ch w A v p)(hs:Pm.dO p=true):ch w' A' v p:=by
 induction r with
 |int k n=>exact .int k n
 |bool b=>exact .bool b
 |str s=>exact .str s
 |eE=>exact .eE
 |aG=>exact .aG
 |gN=>exact .gN
 |agg vs cs hl _ ih=>simp[Pm.dO,Dh]at hs;exact .agg vs _ hl (λj hj=>ih j hj (fK (by simpa using hs) hj))
 |ct vs cs hl _ ih=>simp[Pm.dO,Dh]at hs;exact .ct vs _ hl (λj hj=>ih j hj (fK (by simpa using hs) hj))
 |fn f vs cs hl _ ih=>simp[Pm.dO]at hs
 |ou f k vs cs hl _ ih=>simp[Pm.dO]at hs
 |gY a cap full hf=>simp[Pm.dO]at hs
 |aa=>simp[Pm.dO]at hs
 |eQ=>simp[Pm.dO]at hs
theorem Il(H:bm w F β h){A':Nat->Prop}(hA:∀b,b<w.heap.size->¬Av F h β b->¬A' b){v:Value}{p p':PV}(hv:aE w (Av F h β) β h v p)(e:oB h p=some p')
  (hM:∀(id:Nat) (o:aw) (bc:Nat×Nat),id∈zU p->h[id]?=some o->β[id]?=some bc->(o.mu=.m\/o.mu=.f)->¬A' bc.1):ch w A' v p':=by
 unfold oB at e
 split at e
 ·rename_i id ep off len
  split at e
  ·rename_i o ho
   split at e
   ·rename_i hc
    obtain⟨hle,JC,jQ⟩:=hc;obtain rfl:=abi e;obtain⟨e1,e2,e3⟩:=getM_some ho;obtain⟨bc,hb⟩:=du H.len e1;obtain⟨h1,h2,h3⟩:=hv.dP;obtain⟨cap,rfl,c2⟩:=h3 o bc e1 hb e3 e2 hle;obtain⟨T,ue,k1,k2,k3,k4,k5⟩:=(H.obj id o bc e1 hb e3).c (h2 o e1).2;have hlen:((o.es.drop off).take len).length=len:=by simp;omega
    by_cases Im:len=0
    ·subst Im;simp;exact .gY _ _ _ (λhh=>by cases hh)
    ·have at_i:∀i,i<len->∃e,((o.es.drop off).take len).getD i .any=e/\o.es[off+i]?=some e/\aW e=true:=λi hi=>by
      have g1:((o.es.drop off).take len)[i]?=some (o.es[off+i]'(by omega)):=by
       rw[abF,if_pos hi,abS];exact abo (by omega)
      refine⟨o.es[off+i]'(by omega),by rw[abK,g1];rfl,abo (by omega),?_⟩;rw[bB]at jQ;exact abk.1 jQ _ (aby g1)
     have JD:∀(e:PV),aW e=true->∀q∈Pm.cells e,aW q=true:=by
      intro e he q hq
      cases e <;>first
       |(simp only[Pm.cells,abP]at hq;subst hq;exact he)
       |(simp only[aW,bB]at he;exact abk.1 he q hq)
     have ll:∀i j,i<len->j<o.bM->∃u,w.cell? ⟨bc.1,off * o.bM+(i * o.bM+j),none⟩=some u/\ch w A' u ((Pm.cells (((o.es.drop off).take len).getD i .any)).getD j .any):=by
      intro i j hi hj
      obtain⟨el,g1,g2,g3⟩:=at_i i hi;obtain⟨n1,n2⟩:=k5 _ el g2;have hq:=abo (show j<(Pm.cells el).length by omega);obtain⟨u,m1,m2⟩:=n2 j _ hq;refine⟨u,?_,?_⟩
      ·rw[cell_of_row w bc.1 _ ue T (0,0) k1,<-acW,<-ab9];exact m1
      ·rw[g1];have e2:(Pm.cells el).getD j .any=(Pm.cells el)[j]'(by omega):=by simp[List.getD,hq]
       rw[e2];exact(m2.JE (JD el g3 _ (abV _))).mono (λ_ _ _=>rfl) hA
     have:=ch.aa (w:=w) (A:=A') bc.1 (off * o.bM) cap o.bM false ((o.es.drop off).take len) (λi j=>(w.cell? ⟨bc.1,off * o.bM+(i * o.bM+j),none⟩).getD Go.undef)
      (by intro hn;rw[hn]at hlen;simp at hlen;omega) (by rw[hlen];omega) (λhh=>by cases hh) (hM id o bc (by simp[zU]) e1 hb JC) k4
      (λi hi=>by rw[hlen]at hi;obtain⟨el,g1,g2,g3⟩:=at_i i hi;rw[g1];exact(k5 _ el g2).1)
      (λi j hi hj=>by rw[hlen]at hi;obtain⟨u,m1,m2⟩:=ll i j hi hj;rw[m1];rfl)
      (λi j hi hj=>by rw[hlen]at hi;obtain⟨u,m1,m2⟩:=ll i j hi hj;rw[m1];exact m2)
     rw[hlen]at this;exact this
   ·cases e
  ·cases e
 ·split at e
  ·rename_i Di
   obtain rfl:=abi e;exact(hv.JE Di).mono (λ_ _ _=>rfl) hA
  ·cases e
def Ua(p:PV):List Nat:=(Pm.cells p).flatMap zU
theorem Mo{cs r:List PV}(e:nw h cs=some r):r.length=cs.length/\∀j,j<cs.length->oB h (cs.getD j .any)=some (r.getD j .any):=by
 induction cs generalizing r with
 |nil=>simp[nw]at e;subst e;exact⟨rfl,λj hj=>by simp at hj⟩
 |cons c cs ih=>
  simp only[nw]at e
  split at e
  ·rename_i c' r' h1 h2
   obtain rfl:=abi e;obtain⟨l1,l2⟩:=ih h2;refine⟨by simp[l1],λj hj=>?_⟩
   cases j with
   |zero=>simpa using h1
   |succ j=>simpa using l2 j (by simpa using hj)
  ·cases e
theorem Dj{cs r:List PV}(e:gz h cs=some r):r.length=cs.length/\∀j,j<cs.length->ke h (cs.getD j .any)=some (r.getD j .any):=by
 induction cs generalizing r with
 |nil=>simp[gz]at e;subst e;exact⟨rfl,λj hj=>by simp at hj⟩
 |cons c cs ih=>
  simp only[gz]at e
  split at e
  ·rename_i c' r' h1 h2
   obtain rfl:=abi e;obtain⟨l1,l2⟩:=ih h2;refine⟨by simp[l1],λj hj=>?_⟩
   cases j with
   |zero=>simpa using h1
   |succ j=>simpa using l2 j (by simpa using hj)
  ·cases e
theorem Mp{cs:List PV}{j:Nat}(hj:j<cs.length){f:PV->List Nat}{id:Nat}(hm:id∈f (cs.getD j .any)):id∈cs.flatMap f:=by
 have:cs.getD j .any=cs[j]:=by simp[List.getD,hj]
 rw[this]at hm;exact acp.2 ⟨_,abV hj,hm⟩
theorem wR(H:bm w F β h){A':Nat->Prop}(hA:∀b,b<w.heap.size->¬Av F h β b->¬A' b){v:Value}{p p':PV}(hv:aE w (Av F h β) β h v p)(e:ke h p=some p')
  (hM:∀(id:Nat) (o:aw) (bc:Nat×Nat),id∈Ua p->h[id]?=some o->β[id]?=some bc->(o.mu=.m\/o.mu=.f)->¬A' bc.1):ch w A' v p':=by
 unfold ke at e
 split at e
 ·rename_i cs
  cases hr:nw h cs with
  |none=>rw[hr]at e;simp at e
  |some r=>
   rw[hr]at e;simp at e;subst e;obtain⟨l1,l2⟩:=Mo hr;obtain⟨vs,rfl,hl,hh⟩:=hv.sM;exact .agg vs r (by omega) (λj hj=>Il H hA (hh j (by omega)) (l2 j (by omega)) (λid o bc hm=>hM id o bc (Mp (cs:=cs) (by omega) hm)))
 ·rename_i Qd
  have hc:Pm.cells p=[p]:=by cases p <;>first |rfl |exact absurd rfl (Qd _)
  exact Il H hA hv e (λid o bc hm=>hM id o bc (by simp[Ua,hc,hm]))
theorem Ub(H:bm w F β h){A':Nat->Prop}(hA:∀b,b<w.heap.size->¬Av F h β b->¬A' b){v:Value}{p p':PV}(hv:aE w (Av F h β) β h v p)(e:rb h p=some p')
  (hM:∀(id:Nat) (o:aw) (bc:Nat×Nat),h[id]?=some o->β[id]?=some bc->(o.mu=.m\/o.mu=.f)->¬A' bc.1):ch w A' v p':=by
 unfold rb at e
 split at e
 ·rename_i cs
  cases hr:gz h cs with
  |none=>rw[hr]at e;simp at e
  |some r=>
   rw[hr]at e;simp at e;subst e;obtain⟨l1,l2⟩:=Dj hr;obtain⟨vs,rfl,hl,hh⟩:=hv.wS;exact .ct vs r (by omega) (λj hj=>wR H hA (hh j (by omega)) (l2 j (by omega)) (λid o bc _=>hM id o bc))
 ·exact wR H hA hv e (λid o bc _=>hM id o bc)
theorem lE{f:PV->Option PV}:∀{cs r:List PV},gA f cs=some r->r.length=cs.length/\∀j,j<cs.length->f (cs.getD j .any)=some (r.getD j .any)
 |[],r,e=>by simp[gA]at e;subst e;exact⟨rfl,λj hj=>by simp at hj⟩
 |c::cs,r,e=>by
  simp only[gA]at e
  split at e
  ·rename_i c' r' h1 h2
   obtain rfl:=abi e;obtain⟨l1,l2⟩:=lE h2;refine⟨by simp[l1],λj hj=>?_⟩
   cases j with
   |zero=>simpa using h1
   |succ j=>simpa using l2 j (by simpa using hj)
  ·cases e
theorem Qe{n:Nat}{e e':PV}(Qd:∀cs,e≠.agg cs)(he:qC n h e=some e'):Pm.cells e=[e]/\Pm.cells e'=[e']:=by
 have hc:Pm.cells e=[e]:=by cases e <;>first |rfl |exact absurd rfl (Qd _)
 refine⟨hc,?_⟩
 cases n with
 |zero=>
  simp only[qC]at he
  split at he
  ·obtain rfl:=abi he;exact hc
  ·cases he
 |succ n=>
  unfold qC at he
  split at he
  ·split at he
   ·split at he
    ·obtain⟨r,hr,rfl⟩:=aca.1 he;rfl
    ·cases he
   ·cases he
  ·exact absurd rfl (Qd _)
  ·obtain⟨r,hr,rfl⟩:=aca.1 he;rfl
  ·split at he
   ·obtain rfl:=abi he;exact hc
   ·cases he
theorem JF{n:Nat}{e e':PV}(he:qC n h e=some e'):(Pm.cells e').length=(Pm.cells e).length/\∀j,j<(Pm.cells e).length->∃m,m<=n/\qC m h ((Pm.cells e).getD j .any)=some ((Pm.cells e').getD j .any):=by
 by_cases Qd:∀cs,e≠.agg cs
 ·obtain⟨c1,c2⟩:=Qe Qd he;rw[c1,c2];refine⟨rfl,λj hj=>?_⟩;obtain rfl:j=0:=by simp at hj;omega
  exact⟨n,abn _,by simpa using he⟩
 ·obtain⟨cs,rfl⟩:∃cs,e=.agg cs:=adt λhh=>Qd λcs hc=>hh ⟨cs,hc⟩
  cases n with
  |zero=>
   simp only[qC]at he
   split at he
   ·rename_i hv
    obtain rfl:=abi he;refine⟨rfl,λj hj=>⟨0,abn _,?_⟩⟩;have Di:cs.all aW=true:=by rw[<-bB];simpa[aW]using hv
    have hh:aW ((Pm.cells (.agg cs)).getD j .any)=true:=fK Di hj;simp only[qC];rw[if_pos hh]
   ·cases he
  |succ n=>
   simp only[qC]at he;obtain⟨r,hr,rfl⟩:=aca.1 he;obtain⟨l1,l2⟩:=lE hr;exact⟨l1,λj hj=>⟨n,by omega,l2 j hj⟩⟩
theorem Io(H:bm w F β h){A':Nat->Prop}(hA:∀b,b<w.heap.size->¬Av F h β b->¬A' b)
  (hM:∀(id:Nat) (o:aw) (bc:Nat×Nat),h[id]?=some o->β[id]?=some bc->(o.mu=.m\/o.mu=.f)->¬A' bc.1):∀(n:Nat) {v:Value} {p p':PV},aE w (Av F h β) β h v p->qC n h p=some p'->ch w A' v p':=by
 intro n
 induction n using Nat.strongRecOn with
 |ind n ih=>
  intro v p p' hv e
  have vl:aW p=true->ch w A' v p:=λhp=>(hv.JE hp).mono (λ_ _ _=>rfl) hA
  cases n with
  |zero=>
   simp only[qC]at e
   split at e
   ·rename_i hp;obtain rfl:=abi e;exact vl hp
   ·cases e
  |succ n=>
   unfold qC at e
   split at e
   ·rename_i id ep off len
    split at e
    ·rename_i o ho
     split at e
     ·rename_i hc
      obtain⟨hle,JC⟩:=hc;obtain⟨es,iK,rfl⟩:=aca.1 e;obtain⟨e1,e2,e3⟩:=getM_some ho;obtain⟨bc,hb⟩:=du H.len e1;obtain⟨h1,h2,h3⟩:=hv.dP;obtain⟨cap,rfl,c2⟩:=h3 o bc e1 hb e3 e2 hle;obtain⟨T,ue,k1,k2,k3,k4,k5⟩:=(H.obj id o bc e1 hb e3).c (h2 o e1).2;obtain⟨l1,l2⟩:=lE iK;have SY:((o.es.drop off).take len).length=len:=by simp;omega
      have hlen:es.length=len:=by omega
      by_cases Im:len=0
      ·subst Im;obtain rfl:=List.length_eq_zero_iff.1 hlen;exact .gY _ _ _ (λhh=>by cases hh)
      ·have at_i:∀i,i<len->∃el,o.es[off+i]?=some el/\qC n h el=some (es.getD i .any):=λi hi=>by
        have g1:((o.es.drop off).take len)[i]?=some (o.es[off+i]'(by omega)):=by
         rw[abF,if_pos hi,abS];exact abo (by omega)
        have g2:=l2 i (by omega);rw[abK,g1]at g2;exact⟨_,abo (by omega),g2⟩
       have ll:∀i j,i<len->j<o.bM->(Pm.cells (es.getD i .any)).length=o.bM/\∃u,w.cell? ⟨bc.1,off * o.bM+(i * o.bM+j),none⟩=some u/\ch w A' u ((Pm.cells (es.getD i .any)).getD j .any):=by
        intro i j hi hj
        obtain⟨el,g1,g2⟩:=at_i i hi;obtain⟨n1,n2⟩:=k5 _ el g1;obtain⟨m1,m2⟩:=JF g2;have hq:=abo (show j<(Pm.cells el).length by omega);obtain⟨u,q1,q2⟩:=n2 j _ hq;obtain⟨m,hm,q3⟩:=m2 j (by omega);rw[abK,hq]at q3;refine⟨by omega,u,?_,ih m (by omega) q2 q3⟩;rw[cell_of_row w bc.1 _ ue T (0,0) k1,<-acW,<-ab9];exact q1
       have:=ch.aa (w:=w) (A:=A') bc.1 (off * o.bM) cap o.bM false es (λi j=>(w.cell? ⟨bc.1,off * o.bM+(i * o.bM+j),none⟩).getD Go.undef)
        (by intro hn;rw[hn]at hlen;simp at hlen;omega) (by rw[hlen];omega) (λhh=>by cases hh) (hM id o bc e1 hb JC) k4
        (λi hi=>(ll i 0 (by omega) k4).1)
        (λi j hi hj=>by obtain⟨_,u,m1,m2⟩:=ll i j (by omega) hj;rw[m1];rfl)
        (λi j hi hj=>by obtain⟨_,u,m1,m2⟩:=ll i j (by omega) hj;rw[m1];exact m2)
       rw[hlen]at this;exact this
     ·cases e
    ·cases e
   ·rename_i cs
    obtain⟨r,hr,rfl⟩:=aca.1 e;obtain⟨l1,l2⟩:=lE hr;obtain⟨vs,rfl,hl,hh⟩:=hv.sM;exact .agg vs r (by omega) (λj hj=>ih n (by omega) (hh j (by omega)) (l2 j (by omega)))
   ·rename_i cs
    obtain⟨r,hr,rfl⟩:=aca.1 e;obtain⟨l1,l2⟩:=lE hr;obtain⟨vs,rfl,hl,hh⟩:=hv.wS;exact .ct vs r (by omega) (λj hj=>ih n (by omega) (hh j (by omega)) (l2 j (by omega)))
   ·split at e
    ·rename_i hp;obtain rfl:=abi e;exact vl hp
    ·cases e
theorem Ip(H:bm w F β h){A':Nat->Prop}(hA:∀b,b<w.heap.size->¬Av F h β b->¬A' b){v:Value}{p p':PV}(hv:aE w (Av F h β) β h v p)(e:AG h p=some p')
  (hM:∀(id:Nat) (o:aw) (bc:Nat×Nat),h[id]?=some o->β[id]?=some bc->(o.mu=.m\/o.mu=.f)->¬A' bc.1):ch w A' v p':=by
 unfold AG at e
 split at e
 ·rename_i r hr
  obtain rfl:=abi e;exact Ub H hA hv hr hM
 ·exact Io H hA hM 8 hv e
theorem bm.empty(w:World)(F:Nat->Prop)(hF:∀b,F b->b<w.heap.size):bm w F [] [] where
 len:=rfl
 fin:=hF
 obj id o bc e:=by simp at e
 iL id eA o o' bc dm _ e:=by simp at e
 out id o bc e:=by simp at e
theorem xB(b:Nat):¬Mb [] [] b:=by rintro⟨id,o,bc,e,_⟩;simp at e
def mZ(P:Program)(lv:Nat)(w:World)(F:Nat->Prop)(β:List (Nat×Nat))(h:ab)(f:FuncId)(vs:List Value)(r:PV)(h':ab):Prop:=
 Calls P f vs.toArray w λe w'=>∃v β',e=.returned v/\aE w' (Av F h' β') β' h' v r/\bm w' F β' h'/\eg w h β w' h' β'/\(lv<=1->dH w w')
def fL(P:Program)(f:FuncId)(g:List PV->ab->Option (PV×ab)):Prop:=
 ∀args h r h',g args h=some (r,h')->∀w F β vs,bm w F β h->L2 (aE w (Av F h β) β h) vs args->mZ P 2 w F β h f vs r h'
theorem bm.kg(H:bm w F β h){id:Nat}{h2:ab}(e:kg h id=some h2):
  bm w F β h2/\eg w h β w h2 β/\(∃o:aw,h2[id]?=some o/\o.mu=.f)/\(∀(k:Nat) (o:aw),h[k]?=some o->o.mu=.f->h2[k]?=some o):=by
 unfold Pm.kg at e
 split at e
 ·rename_i o ho
  split at e
  ·rename_i hc
   obtain⟨hv,JC⟩:=hc;obtain rfl:=abi e;have bW:=ag ho;have nC:(h.set id {o with mu:=.f})[id]?=some {o with mu:=.f}:=by simp[bW]
   have kE:∀k,k≠id->(h.set id {o with mu:=.f})[k]?=h[k]?:=λk hk=>abm (acd hk)
   have hx:o.mu≠.x:=by rcases JC with h |h <;>rw[h] <;>simp
   have hs:eg w h β w (h.set id {o with mu:=.f}) β:=by
    refine⟨abn _,by simp,λ_ _ _=>rfl,?_,?_,?_,rfl,rfl,rfl,abn _⟩
    ·rintro b hb ⟨k,o',c',e1,e2,e3,rfl⟩
     by_cases hk:k=id
     ·subst hk;rw[nC]at e1;obtain rfl:=abi e1;simp at e3
     ·rw[kE k hk]at e1;exact⟨k,o',c',e1,e2,e3,rfl⟩
    ·intro k o' c' e1 e2 e3
     by_cases hk:k=id
     ·subst hk;rw[ho]at e1;obtain rfl:=abi e1;exact⟨_,c',nC,e2,by simp,⟨abn _,λh=>h⟩,λ_=>⟨rfl,λ_=>rfl,rfl⟩⟩
     ·exact⟨o',c',by rw[kE k hk];exact e1,e2,e3,⟨abn _,λh=>h⟩,λ_=>⟨rfl,λ_=>rfl,rfl⟩⟩
    ·intro k o' e1 e2
     refine⟨?_,rfl⟩
     by_cases hk:k=id
     ·subst hk;rw[ho]at e1;obtain rfl:=abi e1;rw[nC];rcases JC with hm |hm
      ·exact absurd hm e2
      ·congr 1;cases o;simp at hm;subst hm;rfl
     ·rw[kE k hk];exact e1
   refine⟨⟨by simp[H.len],H.fin,?_,?_,?_⟩,hs,⟨_,nC,rfl⟩,?_⟩
   ·intro k o' c' e1 e2 e3
    by_cases hk:k=id
    ·subst hk;rw[nC]at e1;obtain rfl:=abi e1;exact kY.mono hs rfl (H.obj k o c' ho e2 hx)
    ·rw[kE k hk]at e1;exact kY.mono hs rfl (H.obj k o' c' e1 e2 e3)
   ·intro k k' o1 o2 c1 c2 bN e1 e2 e3 e4 m1 m2
    have hk:k≠id:=by rintro rfl;rw[nC]at e1;obtain rfl:=abi e1;simp at m1
    rw[kE k hk]at e1
    by_cases gv:k'=id
    ·subst gv;exact H.iL k k' o1 o c1 c2 bN e1 ho e3 e4 m1 hx
    ·rw[kE k' gv]at e2;exact H.iL k k' o1 o2 c1 c2 bN e1 e2 e3 e4 m1 m2
   ·intro k o' c' e1 e2 e3
    by_cases hk:k=id
    ·subst hk;exact H.out k o c' ho e2 JC
    ·rw[kE k hk]at e1;exact H.out k o' c' e1 e2 e3
   ·intro k o' e1 e2
    by_cases hk:k=id
    ·subst hk;rw[ho]at e1;obtain rfl:=abi e1;rw[nC];congr 1;cases o;simp at e2;subst e2;rfl
    ·rw[kE k hk];exact e1
  ·cases e
 ·cases e
theorem bm.eZ:∀(ids:List Nat) {h h2:ab},bm w F β h->eZ h ids=some h2->
  bm w F β h2/\eg w h β w h2 β/\(∀id∈ids,∃o:aw,h2[id]?=some o/\o.mu=.f)/\(∀(k:Nat) (o:aw),h[k]?=some o->o.mu=.f->h2[k]?=some o)
 |[],h,h2,H,e=>by
  simp[Pm.eZ]at e;subst e;exact⟨H,eg.refl w h β,(λ_ hm=>by cases hm),(λ_ _ h1 _=>h1)⟩
 |id::r,h,h2,H,e=>by
  simp only[Pm.eZ]at e
  split at e
  ·rename_i h1 he
   obtain⟨H1,S1,⟨o,o1,o2⟩,K1⟩:=H.kg he;obtain⟨H2,S2,A2,K2⟩:=bm.eZ r H1 e;refine⟨H2,S1.trans S2,λk hk=>?_,λk o h3 h4=>K2 k o (K1 k o h3 h4) h4⟩;rcases abu.1 hk with rfl |hk
   ·exact⟨o,K2 _ o o1 o2,o2⟩
   ·exact A2 k hk
  ·cases e
theorem JG{args:List PV}{j:Nat}(hj:j<args.length){id:Nat}(hm:id∈Ua (args.getD j .any)):id∈jK args:=by
 have:args.getD j .any=args[j]:=by simp[List.getD,hj]
 rw[this]at hm;exact acp.2 ⟨_,abV hj,hm⟩
theorem xC(H:bm w F β h){id:Nat}{o:aw}{bc:Nat×Nat}(e1:h[id]?=some o)(e2:β[id]?=some bc)(e3:o.mu=.f):¬Av F h β bc.1:=by
 rintro(hf |⟨k,o',c',f1,f2,f3,f4⟩)
 ·exact H.out id o bc e1 e2 (.inr e3) hf
 ·have bN:k≠id:=by
   rintro rfl;rw[e1]at f1;obtain rfl:=abi f1;rw[e3]at f3;cases f3
  exact H.iL k id o' o c' bc bN f1 e1 f2 e2 f3 (by rw[e3];simp) f4
theorem vn{w':World}{h':ab}{β':List (Nat×Nat)}(s:eg w [] [] w' h' β'):dH w w':=
 ⟨s.size,λb hb=>s.aU b hb (xB b),s.os,s.tape,s.output,s.drawn⟩
theorem nD{f:FuncId}{run:List PV->ab->Option (PV×ab)}(S:fL P f run){A:Nat->Prop}(hA:∀b,A b->b<w.heap.size){args:List PV}{vs:List Value}(ha:L2 (ch w A) vs args)
  {r r':PV} {hc:ab} (e1:run (aR args) []=some (r,hc)) (e2:AG hc r=some r'):
  Calls P f vs.toArray w λe w'=>∃v,e=.returned v/\ch w' A v (b9 r')/\dH w w':=by
 have hl:(aR args).length=args.length:=by simp[cI]
 have hAv:∀b,Av A [] [] b↔A b:=λb=>⟨λh=>h.elim id (λh=>absurd h (xB b)),.inl⟩
 have jJ:L2 (aE w (Av A [] []) [] []) vs (aR args):=⟨by rw[hl];exact ha.1,λj hj=>by
  rw[fZ];exact .val (((ha.2 j (by omega)).b9).wc (λb hb=>(hAv b).1 hb))⟩
 refine(S (aR args) [] r hc e1 w A [] vs (bm.empty w A hA) jJ).mono ?_;rintro e w' ⟨v,β',rfl,q1,q2,q3,_⟩;refine⟨v,rfl,?_,vn q3⟩;refine(Ip q2 (λb _ hb ha=>hb (.inl ha)) q1 e2 (λid o bc m1 m2 m3=>?_)).b9;rcases m3 with m3 |m3
 ·exact q2.out id o bc m1 m2 (.inl m3)
 ·exact q2.out id o bc m1 m2 (.inr m3)
mutual
theorem xD:∀p:PV,dO p=true->dO (b9 p)=true
 | .agg cs,h=>by simp only[dO,b9]at h ⊢;exact rS cs h
 | .ct cs,h=>by simp only[dO,b9]at h ⊢;exact rS cs h
 | .int _ _,_=>rfl
 | .bool _,_=>rfl
 | .str _,_=>rfl
 | .eE,_=>rfl
 | .aG,_=>rfl
 | .gN,_=>rfl
 | .aa _ _,h=>by simp[dO]at h
 | .ak _ _ _ _,h=>by simp[dO]at h
 | .ptr _ _ _ _,h=>by simp[dO]at h
 | .cD _,h=>by simp[dO]at h
 | .eQ _,h=>by simp[dO]at h
 | .fn _ _,h=>by simp[dO]at h
 | .ou _ _ _,h=>by simp[dO]at h
 | .undef,h=>by simp[dO]at h
 | .any,h=>by simp[dO]at h
theorem rS:∀cs:List PV,pC cs=true->pC (aR cs)=true
 |[],_=>rfl
 |c::r,h=>by
  simp only[pC,aR,abq]at h ⊢;exact⟨xD c h.1,rS r h.2⟩
end
theorem BZ{run:iI}{f:FuncId}(S:fL P f (run f)){lv:Nat}{args:List PV}{r:PV}{h':ab}(e:dp run lv f args h=some (r,h'))(H:bm w F β h){vs:List Value}
  (ha:L2 (aE w (Av F h β) β h) vs args):mZ P lv w F β h f vs r h':=by
 unfold dp at e
 have done:∀{h2:ab} (H2:bm w F β h2) (S2:eg w h β w h2 β) (p:PV),(Calls P f vs.toArray w λe w'=>∃v,e=.returned v/\ch w' (Av F h2 β) v p/\dH w w')->mZ P lv w F β h f vs p h2:=by
  intro h2 H2 S2 p hc
  refine hc.mono ?_;rintro e w' ⟨v,rfl,q1,q2⟩;exact⟨v,β,rfl,.val q1,H2.Mq q2,S2.trans (q2.SZ h2 β),λ_=>q2⟩
 split at e
 ·rename_i hv
  split at e
  ·rename_i r0 hc h1
   split at e
   ·rename_i r1 h2
    obtain⟨rfl,rfl⟩:=abv (abi e);refine done H (eg.refl w h β) _ (nD (A:=Av F h β) S (λb hb=>Av.lt H hb) (args:=args) ⟨ha.1,λj hj=>?_⟩ h1 h2);rw[bB]at hv;exact(ha.2 j hj).JE (fK hv hj)
   ·cases e
  ·cases e
 ·split at e
  ·rename_i args' hr
   obtain⟨l1,l2⟩:=Dj hr
   split at e
   ·rename_i r0 hc h1
    split at e
    ·rename_i r1 h2
     have frozen:∀{h2:ab} (H2:bm w F β h2) (S2:eg w h β w h2 β) (hf:∀id∈jK args,∃o:aw,h2[id]?=some o/\o.mu=.f),L2 (ch w (Av F h2 β)) vs args':=by
      intro h2 H2 S2 hf
      refine⟨by rw[ha.1,l1],λj hj=>?_⟩;refine wR H (λb hb hn=>Av.mono S2 b hb hn) (ha.2 j (by omega)) (l2 j (by omega)) (λid o bc hm m1 m2 m3=>?_);obtain⟨o2,g1,g2⟩:=hf id (JG (by omega) hm);exact xC H2 g1 m2 g2
     split at e
     ·rename_i zH
      obtain⟨rfl,rfl⟩:=abv (abi e);simp only[abN]at zH;rcases zH with zH |zH
      ·refine done H (eg.refl w h β) _ ?_;have:=nD (P:=P) (w:=w) (A:=λ_=>False) S (λb hb=>hb.elim) (args:=args') (vs:=vs) ⟨by rw[ha.1,l1],λj hj=>wR H (λ_ _ _ hh=>hh) (ha.2 j (by omega)) (l2 j (by omega)) (λ_ _ _ _ _ _ _ hh=>hh)⟩ h1 h2;refine this.mono ?_;rintro e w' ⟨v,rfl,q1,q2⟩;have m':dO (b9 r1)=true:=xD r1 zH;exact⟨v,rfl,q1.dO m',q2⟩
      ·refine done H (eg.refl w h β) _ (nD (A:=Av F h β) S (λb hb=>Av.lt H hb) (frozen H (eg.refl w h β) (λid bW=>?_)) h1 h2);have:=abk.1 zH id bW
       split at this
       ·rename_i o ho
        simp only[abq,decide_eq_true_eq]at this;exact⟨o,ho,this.1⟩
       ·cases this
     ·split at e
      ·cases S9:eZ h (jK args)with
       |none=>rw[S9]at e;simp at e
       |some h3=>
        rw[S9]at e;simp at e;obtain⟨rfl,rfl⟩:=e;obtain⟨H2,S2,A2,_⟩:=bm.eZ (jK args) H S9;exact done H2 S2 _ (nD (A:=Av F h3 β) S (λb hb=>Av.lt H2 hb) (frozen H2 S2 A2) h1 h2)
      ·cases e
    ·cases e
   ·cases e
  ·split at e
   ·rename_i args' hr
    obtain⟨l1,l2⟩:=lE hr
    split at e
    ·rename_i r0 hc h1
     split at e
     ·rename_i r1 h2
      split at e
      ·rename_i zH
       obtain⟨rfl,rfl⟩:=abv (abi e);refine done H (eg.refl w h β) _ ?_;have:=nD (P:=P) (w:=w) (A:=λ_=>False) S (λb hb=>hb.elim) (args:=args') (vs:=vs) ⟨by rw[ha.1,l1],λj hj=>Io H (λ_ _ _ hh=>hh) (λ_ _ _ _ _ _ hh=>hh) 8 (ha.2 j (by omega)) (l2 j (by omega))⟩ h1 h2;refine this.mono ?_;rintro e w' ⟨v,rfl,q1,q2⟩;exact⟨v,rfl,q1.dO (xD r1 zH),q2⟩
      ·cases e
     ·cases e
    ·cases e
   ·cases e
end Go.Pm
namespace Go.Pm
variable{C:cR}(T:lQ C.P)
variable{ops:Array Oper}{d:Nat}{ty:TypeId}{pos:String}{af:Array Edge}{r:List Oper}{ρ:Nat->PV}{L:List (Nat×PV)}{h:ab}{Q:St->Prop}
theorem R.jG{t:TypeId}{x ix:Operand}{s:ByteArray}{k:IntKind}{i:Nat}{b:UInt8}(hx:cM L x=some (.str s))(hi:cM L ix=some (.int k (i:Int)))(hk:T.kd t=some .str)(hv:s[i]?=some b)
  (kk:ah C ops r ⟨al ((d,.int .u8 b.toNat)::L) ρ,h⟩ Q):ah C ops (⟨some d,.index t x ix,ty,pos,af,none⟩::r) ⟨al L ρ,h⟩ Q:=
 ah.fe (λrun=>by simp[au,aC,an hx,an hi,xu,qo (T.cT _ _ hk),hv]) kk
theorem R.max{ts:Array TypeId}{x y:Operand}{k:IntKind}{a b:Int}(hx:cM L x=some (.int k a))(hy:cM L y=some (.int k b))(kk:ah C ops r ⟨al ((d,.int k (max a b))::L) ρ,h⟩ Q):
  ah C ops (⟨some d,.call ⟨.builtin .max,#[x,y],ts⟩,ty,pos,af,none⟩::r) ⟨al L ρ,h⟩ Q:=by
 refine ah.fe (v:=.int k (Max.max a b)) (λrun=>?_) kk;have:(if b>a then b else a)=Max.max a b:=by split <;>omega
 simp[au,an hx,an hy,bt,Mg,this]
theorem R.neg{t:TypeId}{x:Operand}{k:IntKind}{a c:Int}(hx:cM L x=some (.int k a))(hw:k.wrap (0 - a)=c)(kk:ah C ops r ⟨al ((d,.int k c)::L) ρ,h⟩ Q):
  ah C ops (⟨some d,.unOp .neg t x,ty,pos,af,none⟩::r) ⟨al L ρ,h⟩ Q:=
 ah.fe (λrun=>by simp only[au,aC,an hx,SQ,hw,abw]) kk
theorem R.O0{t yt:TypeId}{x y:Operand}{a b:ByteArray}(hx:cM L x=some (.str a))(hy:cM L y=some (.str b))(hh:a.toList=b.toList)(k1:ah C ops r ⟨al ((d,(.bool true))::L) ρ,h⟩ Q):
  ah C ops (⟨some d,.binOp .eql t x y yt,ty,pos,af,none⟩::r) ⟨al L ρ,h⟩ Q:=ah.fe (λrun=>by simp[au,aC,an hx,an hy,fE,mE,hh]) k1
theorem R.O1{t yt:TypeId}{x y:Operand}{a b:ByteArray}(hx:cM L x=some (.str a))(hy:cM L y=some (.str b))(hh:¬a.toList=b.toList)(k1:ah C ops r ⟨al ((d,(.bool false))::L) ρ,h⟩ Q):
  ah C ops (⟨some d,.binOp .eql t x y yt,ty,pos,af,none⟩::r) ⟨al L ρ,h⟩ Q:=ah.fe (λrun=>by simp[au,aC,an hx,an hy,fE,mE,hh]) k1
def li(L:List (Nat×PV)):List (Nat×Operand)->Option (List (Nat×PV))
 |[]=>some []
 |(i,x)::xs=>match cM L x,li L xs with
  |some v,some vs=>some ((i,v)::vs)
  |_,_=>none
theorem ji{L:List (Nat×PV)}{ρ:Nat->PV}:∀{xs:List (Nat×Operand)} {vs:List (Nat×PV)},li L xs=some vs->xs.map (λ(i,x)=>(i,ev (al L ρ) x))=vs
 |[],vs,e=>by simp[li]at e;subst e;rfl
 |(i,x)::xs,vs,e=>by
  simp only[li]at e
  split at e
  ·rename_i v Hu h1 h2
   obtain rfl:=abi e;simp only[abD,an h1,ji h2]
  ·cases e
def q'(ts:Nat->Option Nat)(os:List (Nat×TypeId))(i:Nat):Option (Nat×Nat):=
 match os[i]? with
 |some (off,ty)=>(ts ty).map λs=>(off,s)
 |none=>none
theorem zm{p q:Nat->Option (Nat×Nat)}(hpq:∀i x,p i=some x->q i=some x):∀{parts:List (Nat×PV)} {cs r:List PV},kC p cs parts=some r->kC q cs parts=some r
 |[],cs,r,e=>e
 |(i,v)::parts,cs,r,e=>by
  simp only[kC]at e ⊢
  split at e
  ·cases e
  ·rename_i off size hp
   rw[hpq _ _ hp];simp only
   split at e
   ·rename_i hc
    rw[if_pos hc];exact zm hpq e
   ·cases e
theorem uX{t:TypeId}{z:PV}{os:List (Nat×TypeId)}{parts:List (Nat×PV)}{cs:List PV}(hz:T.tz t=some z)(hk:T.kd t=some (.st os))(ha:(os.all λo=>(T.ts o.2).isSome)=true)(h1:(cells z).all bH=true)
  (hf:kC (q' T.ts os) (cells z) parts=some cs):xp C.P t parts=some (.agg cs):=by
 obtain⟨fs,e1,e2⟩:=OW (T.cT _ _ hk)
 have eK:(fs.toList.all λf=>(cA C.P f.type).isSome)=true:=by
  rw[<-e2,List.all_map]at ha;rw[abk]at ha ⊢
  intro f hf
  have:=ha f hf;simp only[Function.comp]at this
  cases hh:T.ts f.type with
  |none=>rw[hh]at this;cases this
  |some n=>rw[T.dV _ _ hh];rfl
 have hp:kC (iV C.P fs) (cells z) parts=some cs:=by
  refine zm (λi x hx=>?_) hf;unfold q' at hx;rw[<-e2,abB]at hx;unfold iV;have YA:fs[i]?=fs.toList[i]?:=by simp
  rw[YA]
  cases hh:fs.toList[i]? with
  |none=>rw[hh]at hx;cases hx
  |some f=>
   rw[hh]at hx;simp only[abw]at hx ⊢
   cases AO:T.ts f.type with
   |none=>rw[AO]at hx;cases hx
   |some n=>rw[AO]at hx;rw[T.dV _ _ AO];exact hx
 unfold xp;rw[T.nt _ _ hz,e1];simp only[eK,h1,and_self,if_true,hp,abw]
theorem R.build{t:TypeId}{parts:Array (Nat×Operand)}{ps:List (Nat×PV)}{z:PV}{os:List (Nat×TypeId)}{cs:List PV}(hp:li L parts.toList=some ps)(hz:T.tz t=some z)(hk:T.kd t=some (.st os))(ha:(os.all λo=>(T.ts o.2).isSome)=true)(h1:(cells z).all bH=true)
  (hf:kC (q' T.ts os) (cells z) ps=some cs) (kk:ah C ops r ⟨al ((d,.agg cs)::L) ρ,h⟩ Q):ah C ops (⟨some d,.build t parts,ty,pos,af,none⟩::r) ⟨al L ρ,h⟩ Q:=
 ah.fe (λrun=>by simp only[au,aC,ji hp,uX T hz hk ha h1 hf,abw]) kk
theorem D.build{i L0:Nat}{own:List Nat}{t:TypeId}{parts:Array (Nat×Operand)}{ps:List (Nat×PV)}{z:PV}{os:List (Nat×TypeId)}{cs:List PV}(hp:li L parts.toList=some ps)(hz:T.tz t=some z)(hk:T.kd t=some (.st os))(ha:(os.all λo=>(T.ts o.2).isSome)=true)(h1:(cells z).all bH=true)
  (hf:kC (q' T.ts os) (cells z) ps=some cs) (kk:aY C ops (i+1) r ⟨⟨al ((d,.agg cs)::L) ρ,h⟩,L0,own⟩ Q):aY C ops i (⟨some d,.build t parts,ty,pos,af,none⟩::r) ⟨⟨al L ρ,h⟩,L0,own⟩ Q:=
 aY.plain (h':=h) rfl (λrun=>by simp only[au,aC,ji hp,uX T hz hk ha h1 hf,abw]) kk
theorem D.zn{i L0:Nat}{own:List Nat}{s:TypeId}{x:Operand}{f off:Nat}{ft:TypeId}{os:List (Nat×TypeId)}{sz:Nat}{cs jH:List PV}{c:PV}(hx:cM L x=some (.eQ cs))(hk:T.kd s=some (.st os))(hf:os[f]?=some (off,ft))(hs:T.ts ft=some (sz+1))
  (hc:cs.drop off=c::jH) (k:aY C ops (i+1) r ⟨⟨al ((d,.eQ (c::jH))::L) ρ,h⟩,L0,own⟩ Q):aY C ops i (⟨some d,.fieldAddr s x f,ty,pos,af,none⟩::r) ⟨⟨al L ρ,h⟩,L0,own⟩ Q:=by
 have hl:off<cs.length:=by
  rcases ab0 off cs.length with h |h
  ·exact h
  ·rw[abR h]at hc;cases hc
 exact aY.plain (h':=h) rfl (λrun=>by simp[au,aC,an hx,gy,mV T hk hf hs,hl,hc]) k
def zo(sz n:Nat)(p:Nat×PV):Bool:=decide ((cells p.2).length=sz)&& (cells p.2).all bH&&decide (p.1<n)
theorem qs{lv:Nat}{t el:TypeId}{n sz:Nat}{z:PV}{ps:List (Nat×PV)}{es:List PV}(hk:T.kd t=some (.sl el))(hs:T.ts el=some (sz+1))(hz:T.tz el=some z)(hn:n * (sz+1)<=16777216)(hl:(cells z).length=sz+1)(h1:(cells z).all bH=true)
  (hp:ps.all (zo (sz+1) n)=true) (he:zS z n ps=es) (hv:ar es=true):dB C.P lv h t n ps=some (.aa true es,h):=by
 unfold dB;rw[bz (T.cT _ _ hk)];simp only[T.dV _ _ hs,T.nt _ _ hz];have hp':(ps.all λp=>decide ((cells p.2).length=sz+1)&& (cells p.2).all bH&&decide (p.1<n))=true:=hp;rw[if_pos ⟨by omega,hn,hl,h1,hp'⟩,he,if_pos hv]
theorem R.buildSlice{t el:TypeId}{n sz:Nat}{z:PV}{parts:Array (Nat×Operand)}{ps:List (Nat×PV)}{es:List PV}(V5:li L parts.toList=some ps)(hk:T.kd t=some (.sl el))(hs:T.ts el=some (sz+1))(hz:T.tz el=some z)(hn:n * (sz+1)<=16777216)(hl:(cells z).length=sz+1)(h1:(cells z).all bH=true)
  (hp:ps.all (zo (sz+1) n)=true) (he:zS z n ps=es) (hv:ar es=true) (kk:ah C ops r ⟨al ((d,.aa true es)::L) ρ,h⟩ Q):
  ah C ops (⟨some d,.buildSlice t n parts,ty,pos,af,none⟩::r) ⟨al L ρ,h⟩ Q:=
 ah.fe (λrun=>by simp only[au,aC,ji V5,qs T hk hs hz hn hl h1 hp he hv]) kk
theorem D.buildSlice{i:Nat}{t el:TypeId}{n sz:Nat}{z:PV}{parts:Array (Nat×Operand)}{ps:List (Nat×PV)}{es:List PV}(dw:aV h=true)(V5:li L parts.toList=some ps)(ij:(ps.all λp=>bq (aQ h) p.2)=true)(hk:T.kd t=some (.sl el))(hs:T.ts el=some (sz+1))(hz:T.tz el=some z)(hn:n * (sz+1)<=16777216)(hl:(cells z).length=sz+1)(h1:(cells z).all bH=true)
  (hp:ps.all (zo (sz+1) n)=true) (he:zS z n ps=es) (hv:ar es=true) (kk:aY C ops (i+1) r ⟨⟨al ((d,.aa true es)::L) ρ,h⟩,h.length,[]⟩ Q):
  aY C ops i (⟨some d,.buildSlice t n parts,ty,pos,af,none⟩::r) ⟨⟨al L ρ,h⟩,h.length,[]⟩ Q:=by
 refine aY.read rfl dw ?_ ⟨0,λn lv _ _=>by simp only[au,aC,ji V5,qs T hk hs hz hn hl h1 hp he hv]⟩ kk;rw[abk]
 intro y hy
 have hm:y∈parts.toList.map (·.2):=by simpa[Op.operands]using hy
 obtain⟨x,hx,rfl⟩:=abZ.1 hm;have:=ji (ρ:=ρ) V5;rw[<-this,List.all_map,abk]at ij;exact ij x hx
theorem jv{n b:Nat}(h1:n<1000000000)(h2:b<=1000):roomy n b=true:=by
 have:n * b<=1000000000 * 1000:=adi (by omega) h2;simp[roomy];omega
def dK(sz:Nat)(ys:List PV):Prop:=ys.all (λv=>decide ((cells v).length=sz)&& (cells v).all bH)=true
theorem gF{lv:Nat}{st xt el rk:TypeId}{sz gh:Nat}{z:PV}{full:Bool}{ys:List PV}(h1:1<=lv)(hk:T.kd st=some (.sl el))(gv:T.kd xt=some (.sl rk))(hs:T.ts el=some (sz+1))(hb:T.tb el=some gh)(hz:T.tz el=some z)(jo:gh<=1000)(hl:(cells z).length=sz+1)(ho:(cells z).all bH=true)
  (hy:dK (sz+1) ys) (bN:ys.isEmpty=false) (hn:ys.length<1000000000):bP C.P lv h st xt (.aa true []) (.aa full ys)=some (.ak h.length 0 0 ys.length,h++[⟨.m,0,sz+1,ys⟩]):=by
 unfold bP;rw[bz (T.cT _ _ hk)];simp only[T.dV _ _ hs,T.rU _ _ hb,T.nt _ _ hz,cC,bz (T.cT _ _ gv),cu];unfold dK at hy;rw[if_pos ⟨by omega,by omega,⟨hl,ho⟩,hy⟩];simp only[bN,abz,if_false,abX,abE,acS,abT,newObj];rw[if_pos ⟨trivial,h1,jv hn jo,trivial⟩]
theorem lG{st xt el rk:TypeId}{sz gh id ep len:Nat}{z:PV}{full:Bool}{ys:List PV}{o:aw}(hk:T.kd st=some (.sl el))(gv:T.kd xt=some (.sl rk))(hs:T.ts el=some (sz+1))(hb:T.tb el=some gh)(hz:T.tz el=some z)(jo:gh<=1000)(hl:(cells z).length=sz+1)(ho:(cells z).all bH=true)
  (hy:dK (sz+1) ys) (bN:ys.isEmpty=false) (hn:len+ys.length<1000000000) (hg:getM h id ep=some o) (hm:o.mu=.m) (JL:o.bM=sz+1) (hle:len<=o.es.length):
  bP C.P 2 h st xt (.ak id ep 0 len) (.aa full ys)=some (.ak id (ep+1) 0 (len+ys.length),h.set id {o with ep:=ep+1,es:=o.es.take len++ys}):=by
 unfold bP;rw[bz (T.cT _ _ hk)];simp only[T.dV _ _ hs,T.rU _ _ hb,T.nt _ _ hz,cC,bz (T.cT _ _ gv),cu];unfold dK at hy;rw[if_pos ⟨by omega,by omega,⟨hl,ho⟩,hy⟩];simp only[hg];rw[if_pos ⟨by omega,JL.symm⟩];simp only[bN,abz,if_false];rw[if_neg (by simp[iH]),if_pos ⟨trivial,by omega,hm,jv hn jo⟩]
def Out(sz:Nat)(h:ab)(v:PV)(es:List PV):Prop:=(v=.aa true []/\es=[])\/∃id ep,v=.ak id ep 0 es.length/\h[id]?=some ⟨.m,ep,sz,es⟩
theorem Out.nil(sz:Nat)(h:ab):Out sz h (.aa true []) []:=.inl ⟨rfl,rfl⟩
theorem Out.cB{sz:Nat}{h:ab}{v:PV}{es:List PV}(o:Out sz h v es)(J:ab):Out sz (h++J) v es:=by
 rcases o with o |⟨id,ep,e1,e2⟩
 ·exact .inl o
 ·refine .inr ⟨id,ep,e1,?_⟩
  have:id<h.length:=by
   rcases ab0 id h.length with hh |hh
   ·exact hh
   ·rw[abC hh]at e2;cases e2
  rw[abj this];exact e2
def Zo(sz:Nat)(A J:ab)(v:PV)(es:List PV):Prop:=(v=.aa true []/\es=[])\/∃id ep,v=.ak (A.length+id) ep 0 es.length/\J[id]?=some ⟨.m,ep,sz,es⟩
def HV(h:ab):Prop:=∀o∈h,o.mu≠.x/\ar o.es=true
mutual
theorem wW(f:Nat->Bool):∀p,aW p=true->bq f p=true
 | .int ..,_ | .bool _,_ | .str _,_ | .eE,_ | .aG,_ | .gN,_ | .aa ..,_ | .eQ _,_=>rfl
 | .agg cs,h=>by simp only[bq];exact bj f cs (by simpa[aW]using h)
 | .ct cs,h=>by simp only[bq];exact bj f cs (by simpa[aW]using h)
 | .fn _ cs,h=>by simp only[bq];exact bj f cs (by simpa[aW]using h)
 | .ou _ _ cs,h=>by simp only[bq];exact bj f cs (by simpa[aW]using h)
 | .ak ..,h | .ptr ..,h | .undef,h | .any,h=>by simp[aW]at h
theorem bj(f:Nat->Bool):∀cs,ar cs=true->bw f cs=true
 |[],_=>rfl
 |c::r,h=>by
  simp only[ar,abq]at h;simp only[bw,wW f c h.1,bj f r h.2,adG]
end
theorem HV.closed{h:ab}(H:HV h):aV h=true:=by
 unfold aV;rw[abk]
 intro o ho
 rw[bj _ _ (H o ho).2];simp
theorem HV.TA{h:ab}(H:HV h){id:Nat}(bW:id<h.length):aQ h id=true:=by
 unfold aQ;rw[abo bW];simpa using(H _ (abV bW)).1
theorem HV.nil:HV []:=λo ho=>by cases ho
theorem HV.cB{h k:ab}(H:HV h)(K:HV k):HV (h++k):=λo ho=>(abp.1 ho).elim (H o) (K o)
theorem HV.one{ep n:Nat}{es:List PV}(h:ar es=true):HV [⟨.m,ep,n,es⟩]:=λo ho=>by simp at ho;subst ho;exact⟨by simp,h⟩
theorem HV.set{h:ab}(H:HV h)(id:Nat){o:aw}(h1:o.mu≠.x)(h2:ar o.es=true):HV (h.set id o):=λo' PH=>by
 rcases acR PH with PH|rfl
 ·exact H o' PH
 ·exact⟨h1,h2⟩
theorem bo{h:ab}{id ep:Nat}{o:aw}(e:h[id]?=some o)(h1:o.ep=ep)(h2:o.mu≠.x):getM h id ep=some o:=by simp[getM,e,h1,h2]
theorem O2{h:ab}{b n off:Nat}{e:PV}(hb:h[b]?=some ⟨.m,0,n,[e]⟩):cN h (.ptr b 0 0 off)=some ((cells e).drop off):=by simp[cN,getM,hb]
theorem R.rX{t:TypeId}{x:Operand}{c e:PV}{cs:List PV}{sz b n off:Nat}(hx:cM L x=some (.ptr b 0 0 off))(hs:T.ts t=some sz)(ht:T.ta t=some false)(hb:h[b]?=some ⟨.m,0,n,[e]⟩)(hc:(cells e).drop off=c::cs)(k:ah C ops r ⟨al ((d,c)::L) ρ,h⟩ Q):
  ah C ops (⟨some d,.load t x,ty,pos,af,none⟩::r) ⟨al L ρ,h⟩ Q:=R.gD T hx hs ht ((O2 hb).trans (by rw[hc])) k
theorem R.CU{t:TypeId}{x:Operand}{e:PV}{jH:List PV}{sz b n off:Nat}(hx:cM L x=some (.ptr b 0 0 off))(hs:T.ts t=some (sz+1))(ht:T.ta t=some true)(hb:h[b]?=some ⟨.m,0,n,[e]⟩)(hc:qp (sz+1) ((cells e).drop off) jH)(k:ah C ops r ⟨al ((d,.agg jH)::L) ρ,h⟩ Q):
  ah C ops (⟨some d,.load t x,ty,pos,af,none⟩::r) ⟨al L ρ,h⟩ Q:=R.pn T hx hs ht (O2 hb) hc k
theorem R.iM{t:TypeId}{a x:Operand}{b n off ep i sz:Nat}{o:aw}{e v:PV}(ha:cM L a=some (.ptr b ep i off))(hx:cM L x=some v)(hs:T.ts t=some sz)(hg:getM h b ep=some o)(hm:o.mu=.m)(hi:o.es[i]?=some e)(hl:(cells v).length=sz)(h1:(cells v).all bH=true)(hle:off+sz<=(cells e).length)
  (k:ah C ops r ⟨al L ρ,h.set b {o with es:=o.es.set i (eR off sz e v)}⟩ Q):ah C ops (⟨none,.store t a x,ty,pos,af,none⟩::r) ⟨al L ρ,h⟩ Q:=by
 have k':ah C ops r ⟨cd (al L ρ) none .undef,h.set b {o with es:=o.es.set i (eR off sz e v)}⟩ Q:=k;refine ah.val (v:=.undef) (h':=h.set b {o with es:=o.es.set i (eR off sz e v)}) rfl (λrun=>?_) k';simp only[au,aC,an ha,an hx,hZ,T.dV _ _ hs,hg,hi,abn,if_true];rw[if_pos ⟨hm,hl,h1,hle⟩]
 rfl
theorem BH(n:Nat){p:PV}(h:aW p=true):dY n p=true:=by
 unfold dY
 split <;>first |(simp[aW]at h;done)|exact h
theorem HI(n:Nat){p:PV}(h:aW p=true):cK n p=true:=by
 unfold cK
 split
 ·rename_i cs
  rw[abk]
  intro c hc
  have:ar cs=true:=by simpa[aW]using h
  rw[bB]at this;exact BH n (abk.1 this c hc)
 ·exact BH n h
theorem HV.cK{h:ab}(H:HV h)(n:Nat):(h.all λo=>o.es.all (cK n))=true:=by
 rw[abk]
 intro o ho
 have:=(H o ho).2;rw[bB]at this;rw[abk]
 intro e he
 exact HI n (abk.1 this e he)
mutual
theorem ja:∀p:PV,dO (b9 p)=dO p
 | .int .. | .bool _ | .str _ | .eE | .aG | .gN | .cD _ | .aa .. | .eQ _ | .fn .. | .ou .. | .ak .. | .ptr .. | .undef | .any=>rfl
 | .agg cs=>by simp only[b9,dO];exact qt cs
 | .ct cs=>by simp only[b9,dO];exact qt cs
theorem qt:∀cs:List PV,pC (aR cs)=pC cs
 |[]=>rfl
 |c::r=>by simp only[aR,pC,ja c,qt r]
end
theorem aj.Zp{lv:Nat}{f:FuncId}{args args':List PV}{rv:PV}{Q:PV->ab->Prop}(hm:C.mode f=.pure)(hv:ar args=false)(hr:gz h args=some args')(a:aI C f (aR args') rv)(hs:dO rv=true)(q:Q rv h):aj C lv f args h Q:=by
 obtain⟨n0,hn⟩:=a;refine⟨rv,h,q,n0,λn h1=>?_⟩;obtain⟨r0,hc,r1,e1,e2,e3⟩:=hn n h1;unfold dg;rw[hm]
 have zH:dO r1=true:=by
  have:=ja r1;rw[e3]at this;rw[<-this];exact hs
 simp only[dp,hv,abz,if_false,hr,e1,e2,e3,zH,ady,if_true]
theorem R.Jc{t:TypeId}{x:Operand}{e c:PV}{cs:List PV}{n sz off:Nat}(hx:cM L x=some (.ptr h.length 0 0 off))(hs:T.ts t=some sz)(ht:T.ta t=some false)(hc:(cells e).drop off=c::cs)
  (k:ah C ops r ⟨al ((d,c)::L) ρ,h++[⟨.m,0,n,[e]⟩]⟩ Q):ah C ops (⟨some d,.load t x,ty,pos,af,none⟩::r) ⟨al L ρ,h++[⟨.m,0,n,[e]⟩]⟩ Q:=
 R.gD T hx hs ht (aaK.trans (by rw[hc])) k
theorem D.xy{i:Nat}{x:wP}{op:Op}{j d':Nat}{want b:Bool}(hd:(ops.toList[j]?).bind (·.dst)=some d')(hx:x.s.ρ=al L ρ)(hb:lk L d'=some (.bool b))(he:(b==want)=true)(k:aY C ops i (⟨some d,op,ty,pos,af,none⟩::r) x Q):
  aY C ops i (⟨some d,op,ty,pos,af,some (j,want)⟩::r) x Q:=by
 obtain⟨y,q,n0,hn⟩:=k;refine⟨y,q,n0,λn h1=>?_⟩;rw[<-hn n h1];simp only[dF,cz,bA,hd,hx,dC hb,he]
theorem aY.off{i L0:Nat}{own:List Nat}{op:Op}{g:Option (Nat×Bool)}(hw:bA ops ⟨some d,op,ty,pos,af,g⟩ (al L ρ)=some false)(k:aY C ops (i+1) r ⟨⟨al ((d,.undef)::L) ρ,h⟩,L0,own⟩ Q):
  aY C ops i (⟨some d,op,ty,pos,af,g⟩::r) ⟨⟨al L ρ,h⟩,L0,own⟩ Q:=by
 refine aY.step ⟨0,λn _=>?_⟩ k;simp only[cz,hw,cj]
theorem D.oH{i L0:Nat}{own:List Nat}{op:Op}{j d':Nat}{want b:Bool}(hd:(ops.toList[j]?).bind (·.dst)=some d')(hb:lk L d'=some (.bool b))(he:(b==want)=false)(k:aY C ops (i+1) r ⟨⟨al ((d,.undef)::L) ρ,h⟩,L0,own⟩ Q):
  aY C ops i (⟨some d,op,ty,pos,af,some (j,want)⟩::r) ⟨⟨al L ρ,h⟩,L0,own⟩ Q:=aY.off (by simp only[bA,hd,dC hb,he]) k
theorem D.iY{i L0:Nat}{own:List Nat}{c x y:Operand}{v:PV}(hc:cM L c=some (.bool true))(hx:cM L x=some v)(k:aY C ops (i+1) r ⟨⟨al ((d,v)::L) ρ,h⟩,L0,own⟩ Q):aY C ops i (⟨some d,.pick c x y,ty,pos,af,none⟩::r) ⟨⟨al L ρ,h⟩,L0,own⟩ Q:=
 aY.plain (h':=h) rfl (λrun=>by simp only[au,aC,an hc,an hx,if_true]) k
theorem D.iW{i L0:Nat}{own:List Nat}{c x y:Operand}{v:PV}(hc:cM L c=some (.bool false))(hx:cM L y=some v)(k:aY C ops (i+1) r ⟨⟨al ((d,v)::L) ρ,h⟩,L0,own⟩ Q):aY C ops i (⟨some d,.pick c x y,ty,pos,af,none⟩::r) ⟨⟨al L ρ,h⟩,L0,own⟩ Q:=
 aY.plain (h':=h) rfl (λrun=>by simp only[au,aC,an hc,an hx,abz,if_false]) k
theorem D.arith{i L0:Nat}{own:List Nat}{vB:BinOp}{t yt:TypeId}{x y:Operand}{k:IntKind}{a b c c':Int}(hx:cM L x=some (.int k a))(hy:cM L y=some (.int k b))(hp:Pm.arith vB a b=some c)(hw:k.wrap c=c')(kk:aY C ops (i+1) r ⟨⟨al ((d,(.int k c'))::L) ρ,h⟩,L0,own⟩ Q):
  aY C ops i (⟨some d,.binOp vB t x y yt,ty,pos,af,none⟩::r) ⟨⟨al L ρ,h⟩,L0,own⟩ Q:=by
 refine aY.plain (h':=h) rfl (λrun=>?_) kk;simp only[au,aC,an hx,an hy]
 cases vB <;>simp only[Pm.arith,abU,reduceCtorEq]at hp <;>subst hp <;>simp[fE,gW,hw]
theorem D.cmp{i L0:Nat}{own:List Nat}{vB:BinOp}{t yt:TypeId}{x y:Operand}{k:IntKind}{a b:Int}{p:Prop}(hx:cM L x=some (.int k a))(hy:cM L y=some (.int k b))(hp:Gu vB a b=some p)
  (k1:p->aY C ops (i+1) r ⟨⟨al ((d,(.bool true))::L) ρ,h⟩,L0,own⟩ Q) (k2:¬p->aY C ops (i+1) r ⟨⟨al ((d,(.bool false))::L) ρ,h⟩,L0,own⟩ Q):aY C ops i (⟨some d,.binOp vB t x y yt,ty,pos,af,none⟩::r) ⟨⟨al L ρ,h⟩,L0,own⟩ Q:=by
 by_cases LV:p
 ·refine aY.plain (h':=h) rfl (λrun=>?_) (k1 LV);simp only[au,aC,an hx,an hy]
  cases vB <;>simp only[Gu,abU,reduceCtorEq]at hp <;>subst hp <;>simp[fE,gW,LV]
 ·refine aY.plain (h':=h) rfl (λrun=>?_) (k2 LV);simp only[au,aC,an hx,an hy]
  cases vB <;>simp only[Gu,abU,reduceCtorEq]at hp <;>subst hp <;>simp[fE,gW,LV] <;>omega
theorem Zo.rb{sz:Nat}{A J:ab}{v:PV}{es:List PV}(o:Zo sz A J v es)(hv:ar es=true):∃r1,rb (A++J) v=some r1/\b9 r1=.aa false (aR es):=by
 rcases o with⟨rfl,rfl⟩|⟨id,ep,rfl,e2⟩
 ·exact⟨_,rfl,rfl⟩
 ·refine⟨.aa false es,?_,by simp[b9]⟩;have:(A++J)[A.length+id]?=some ⟨.m,ep,sz,es⟩:=by rw[abt (by omega),show A.length+id - A.length=id by omega];exact e2
  simp[Pm.rb,ke,oB,getM,this,hv]
end Go.Pm
namespace Go.Pm
variable{C:cR}(T:lQ C.P)
variable{ops:Array Oper}{d:Nat}{ty:TypeId}{pos:String}{af:Array Edge}{r:List Oper}{ρ:Nat->PV}{L:List (Nat×PV)}{h h':ab}{Q:St->Prop}
theorem ah.heap{ρ:Nat->PV}(e:h=h')(k:ah C ops r ⟨ρ,h'⟩ Q):ah C ops r ⟨ρ,h⟩ Q:=by subst e;exact k
theorem aY.heap{i:Nat}{ρ:Nat->PV}(e:h=h')(k:aY C ops i r ⟨⟨ρ,h'⟩,h'.length,[]⟩ Q):aY C ops i r ⟨⟨ρ,h⟩,h.length,[]⟩ Q:=by subst e;exact k
theorem ay.heap{f:FuncId}{args args':List PV}{Q:PV->ab->Prop}(e:h=h')(ea:args=args')(k:ay C f args' h' Q):ay C f args h Q:=by subst e;subst ea;exact k
theorem HV.take{h:ab}(H:HV h)(n:Nat):HV (h.take n):=λo ho=>H o (ab3 ho)
theorem aj.sO{f:FuncId}{args args':List PV}{N:Nat}{P Q:PV->ab->Prop}(hm:C.mode f=.opened)(eh:h=h')(ea:args=args')(hN:h'.length=N)(a:ay C f args' h' P)
  (q:∀r k,P r k->HV k/\(dZ N r=true->Q r (k.take N))/\(dZ N r=false->Q r k)):aj C 2 f args h Q:=by
 subst eh;subst ea;subst hN;refine aj.opened hm (a.mono ?_)
 intro r k hp
 obtain⟨h1,h2,h3⟩:=q r k hp
 cases hb:dZ h.length r
 ·rw[if_neg (by simp)];exact h3 hb
 ·rw[if_pos (by rw[(h1.take h.length).cK];rfl)];exact h2 hb
end Go.Pm
namespace Go.Pm
variable{C:cR}(T:lQ C.P)
variable{ops:Array Oper}{d:Nat}{ty:TypeId}{pos:String}{af:Array Edge}{r:List Oper}{ρ:Nat->PV}{L:List (Nat×PV)}{h:ab}{Q:St->Prop}
theorem aj.cS{f:FuncId}{g:List PV->ab->Option (PV×ab)}{args:List PV}{h':ab}{rv:PV}{Q:PV->ab->Prop}(hm:C.mode f=.cS g)(a:g args h=some (rv,h'))(q:Q rv h'):aj C 2 f args h Q:=by
 refine⟨rv,h',q,0,λn h1=>?_⟩;unfold dg;rw[hm];simp only[ek,abn,if_true,a]
def loadT(h:ab)(t:TypeId)(p:PV):Option PV:=
 match T.ts t,T.ta t,cN h p with
 |some (sz+1),some true,some cs=>if Nat.ble (sz+1) cs.length then some (.agg (cs.take (sz+1)))else none
 |some _,some false,some (c::_)=>some c
 |_,_,_=>none
theorem sQ{t:TypeId}{p v:PV}(e:loadT T h t p=some v):iU C.P h t p=some v:=by
 unfold loadT at e;unfold iU
 split at e
 ·rename_i sz cs h1 h2 h3
  rw[T.dV _ _ h1,T.OU _ _ h2,h3]
  split at e
  ·rename_i hle
   simp only;rw[if_pos ⟨by omega,acu hle⟩];exact e
  ·cases e
 ·rename_i h1 h2 h3
  rw[T.dV _ _ h1,T.OU _ _ h2,h3];exact e
 ·cases e
def zp(L:List (Nat×PV))(h:ab):List ResultVar->Option (List PV)
 |[]=>some []
 | .tmp t::r=>match lk L t,zp L h r with
  |some v,some vs=>some (v::vs)
  |_,_=>none
 | .cell a t::r=>match lk L a with
  |some p=>match loadT T h t p,zp L h r with
   |some v,some vs=>some (v::vs)
   |_,_=>none
  |none=>none
theorem xi{ρ:Nat->PV}:∀{l:List ResultVar} {vs:List PV},zp T L h l=some vs->dq C.P h (al L ρ) l=some vs
 |[],vs,e=>by simp[zp]at e;subst e;rfl
 | .tmp t::r,vs,e=>by
  simp only[zp]at e
  split at e
  ·rename_i v Hu h1 h2
   obtain rfl:=abi e;simp[dq,dC h1,xi h2]
  ·cases e
 | .cell a t::r,vs,e=>by
  simp only[zp]at e
  split at e
  ·rename_i p hp
   split at e
   ·rename_i v Hu h1 h2
    obtain rfl:=abi e;simp[dq,dC hp,sQ T h1,xi h2]
   ·cases e
  ·cases e
theorem aJ.aaL{fn:Func}{Q:PV->ab->Prop}{vs:List PV}(hr:zp T L h fn.results.toList=some vs)(q:Q (aO vs) h):aJ C fn Q .ret ⟨al L ρ,h⟩:=⟨.inr rfl,vs,xi T hr,q⟩
theorem F7{A J:ab}(h1:(A.all λo=>decide (o.mu=.x)||bw (aQ (A++J)) o.es)=true)(hJ:HV J):aV (A++J)=true:=by
 unfold aV;rw[acj,h1,acs,abk]
 intro o ho
 rw[bj _ _ (hJ o ho).2];simp
theorem D.rW{i:Nat}{t el:TypeId}{x ix:Operand}{id ep off len:Nat}{k:IntKind}{j:Nat}{o:aw}(dw:aV h=true)(hx:cM L x=some (.ak id ep off len))(hi:cM L ix=some (.int k (j:Int)))(hk:T.kd t=some (.sl el))(ho:getM h id ep=some o)(hs:T.ts el=some o.bM)(cG:j<len)(hle:off+len<=o.es.length)
  (kk:aY C ops (i+1) r ⟨⟨al ((d,.ptr id ep (off+j) 0)::L) ρ,h⟩,h.length,[]⟩ Q):aY C ops i (⟨some d,.indexAddr t x ix,ty,pos,af,none⟩::r) ⟨⟨al L ρ,h⟩,h.length,[]⟩ Q:=by
 have ij:aQ h id=true:=by
  unfold getM at ho
  split at ho
  ·rename_i o' PH
   split at ho
   ·rename_i hc
    unfold aQ;rw[PH];simpa using hc.2
   ·cases ho
  ·cases ho
 exact aY.read rfl dw (by simp[Op.operands,an hx,an hi,bq,ij]) ⟨0,λn lv _ _=>by simp[au,aC,an hx,an hi,cE,bz (T.cT _ _ hk),T.dV _ _ hs,ho,cG,hle]⟩ kk
theorem D.iM{i L0:Nat}{own:List Nat}{t:TypeId}{a x:Operand}{b off ep j sz:Nat}{o:aw}{e v:PV}(di:level ops (before ops) i=2)(ha:cM L a=some (.ptr b ep j off))(hx:cM L x=some v)(hs:T.ts t=some sz)(hg:getM h b ep=some o)(hm:o.mu=.m)(hi:o.es[j]?=some e)(hl:(cells v).length=sz)(h1:(cells v).all bH=true)(hle:off+sz<=(cells e).length)
  (k:aY C ops (i+1) r ⟨⟨al L ρ,h.set b {o with es:=o.es.set j (eR off sz e v)}⟩,(h.set b {o with es:=o.es.set j (eR off sz e v)}).length,[]⟩ Q):aY C ops i (⟨none,.store t a x,ty,pos,af,none⟩::r) ⟨⟨al L ρ,h⟩,L0,own⟩ Q:=by
 refine aY.step ⟨0,λn _=>?_⟩ k;simp only[cz,bA,cZ,ab2,if_false,di,if_true,au,aC,an ha,an hx,hZ,T.dV _ _ hs,hg,hi,abn,hm,hl,h1,hle,and_self,abw,cd]
theorem D.CT{i:Nat}{t:TypeId}{x:Operand}{e:PV}{jH:List PV}{n sz:Nat}(dw:aV (h++[⟨.m,0,n,[e]⟩])=true)(hx:cM L x=some (.ptr h.length 0 0 0))(hs:T.ts t=some (sz+1))(ht:T.ta t=some true)(hc:qp (sz+1) (cells e) jH)
  (k:aY C ops (i+1) r ⟨⟨al ((d,(.agg jH))::L) ρ,h++[⟨.m,0,n,[e]⟩]⟩,(h++[⟨.m,0,n,[e]⟩]:ab).length,[]⟩ Q):aY C ops i (⟨some d,.load t x,ty,pos,af,none⟩::r) ⟨⟨al L ρ,h++[⟨.m,0,n,[e]⟩]⟩,(h++[⟨.m,0,n,[e]⟩]:ab).length,[]⟩ Q:=
 D.pn T dw hx (by simp[bq,aQ]) hs ht pcN hc k
end Go.Pm
namespace Go.Pm
open Go.Proofs
def kX(sz:Nat)(e:PV):Bool:=aW e&&decide ((cells e).length=sz)&& (cells e).all bH
def jO(args:List PV)(h:ab):Option (PV×ab):=
 match args with
 |[.aa true [],.int .i64 i,.aa _ [e]]=>if i=0/\kX 5 e=true then some (.ak h.length 0 0 1,newObj h 5 [e])else none
 |[.ak id ep 0 len,.int .i64 i,.aa _ [e]]=>match getM h id ep with
  |some o=>if o.mu=.m/\o.bM=5/\len<=o.es.length/\0<=i/\i<=len/\len<100000000/\kX 5 e=true/\(o.es.take len).all (kX 5)=true/\aV h=true then
    some (.ak id (ep+1) 0 (len+1),h.set id {o with ep:=ep+1,es:=(o.es.take len).take i.toNat++[e]++(o.es.take len).drop i.toNat})else none
  |none=>none
 |_=>none
def iX(args:List PV)(h:ab):Option (PV×ab):=
 match args with
 |[.aa true [],.int .i64 i,.aa _ [e]]=>if i=0/\kX 4 e=true then some (.ak h.length 0 0 1,newObj h 4 [e])else none
 |[.ak id ep 0 len,.int .i64 i,.aa _ [e]]=>match getM h id ep with
  |some o=>if o.mu=.m/\o.bM=4/\len<=o.es.length/\0<=i/\i<=len/\len<100000000/\kX 4 e=true/\(o.es.take len).all (kX 4)=true/\aV h=true then
    some (.ak id (ep+1) 0 (len+1),h.set id {o with ep:=ep+1,es:=(o.es.take len).take i.toNat++[e]++(o.es.take len).drop i.toNat})else none
  |none=>none
 |_=>none
def lR(args:List PV)(h:ab):Option (PV×ab):=
 match args with
 |[.ak id ep 0 len,.int .i64 i,.int .i64 j]=>match getM h id ep with
  |some o=>if o.mu=.m/\o.bM=5/\len<=o.es.length/\0<=i/\j=i+1/\i<len/\len<100000000/\(o.es.take len).all (kX 5)=true/\aV h=true then
    some (.ak id (ep+1) 0 (len - 1),h.set id {o with ep:=ep+1,es:=(o.es.take len).take i.toNat++(o.es.take len).drop (i.toNat+1)})else none
  |none=>none
 |_=>none
def bG(bM:Nat)(args:List PV)(h:ab):Option (PV×ab):=
 match args with
 |[.aa _ es]=>if es.isEmpty then some (.aa true [],h)
   else if es.all (λv=>decide ((cells v).length=bM)&& (cells v).all bH)=true/\es.length<1000000000 then some (.ak h.length 0 0 es.length,newObj h bM es)else none
 |_=>none
def jP(f:FuncId):Mode:=
 if[0,1,347,305,183,240,281,379,161,215,216,370,15,16].contains f then .no
 else if f=194 then .ext λ|[.str a,.str b]=>some (.int .i64 (Lib.compareBytes a.data.toList b.data.toList))|_=>none
 else if f=351 then .cS jO
 else if f=352 then .cS lR
 else if f=45 then .cS (bG 4)
 else if f=397 then .cS (bG 1)
 else if[65,226,229,152,310,250,311,398,372,387,388,403,402,390,391,378,399,400,207,258,162,45,397,158,203,128,154,129,130,200,87,89,143,86,142,72,104,271,320,272,270,278,371,322,323,324,368,366,367,326,325,369,381,49,51,50,100,360,361,382,359].contains f then .opened
 else if f<410 then .pure
 else .no
noncomputable def C:cR:=⟨Tryz.prog,jP⟩
end Go.Pm
namespace Go.Pm
variable{C:cR}(T:lQ C.P)
variable{ops:Array Oper}{i:Nat}{d:Nat}{ty:TypeId}{pos:String}{af:Array Edge}{r:List Oper}{ρ:Nat->PV}{L:List (Nat×PV)}{h:ab}{Q:St->Prop}
theorem D.rX{t:TypeId}{x:Operand}{c e:PV}{cs:List PV}{sz b n off:Nat}(hV:HV h)(hx:cM L x=some (.ptr b 0 0 off))(hs:T.ts t=some sz)(ht:T.ta t=some false)(hb:h[b]?=some ⟨.m,0,n,[e]⟩)(hc:(cells e).drop off=c::cs)
  (k:aY C ops (i+1) r ⟨⟨al ((d,c)::L) ρ,h⟩,h.length,[]⟩ Q):aY C ops i (⟨some d,.load t x,ty,pos,af,none⟩::r) ⟨⟨al L ρ,h⟩,h.length,[]⟩ Q:=
 D.gD T hV.closed hx (by simp only[bq];exact hV.TA (ag hb)) hs ht ((O2 hb).trans (by rw[hc])) k
theorem D.CU{t:TypeId}{x:Operand}{e:PV}{jH:List PV}{sz b n off:Nat}(hV:HV h)(hx:cM L x=some (.ptr b 0 0 off))(hs:T.ts t=some (sz+1))(ht:T.ta t=some true)(hb:h[b]?=some ⟨.m,0,n,[e]⟩)(hc:qp (sz+1) ((cells e).drop off) jH)
  (k:aY C ops (i+1) r ⟨⟨al ((d,.agg jH)::L) ρ,h⟩,h.length,[]⟩ Q):aY C ops i (⟨some d,.load t x,ty,pos,af,none⟩::r) ⟨⟨al L ρ,h⟩,h.length,[]⟩ Q:=
 D.pn T hV.closed hx (by simp only[bq];exact hV.TA (ag hb)) hs ht (O2 hb) hc k
theorem D.call{L0:Nat}{own:List Nat}{x:Operand}{xs:List Operand}{Bh:Array TypeId}{f:FuncId}{dn args:List PV}(di:level ops (before ops) i=2)(hf:cM L x=some (.fn f dn))(ha:zl L xs=some args)
  (hc:aj C 2 f (args++dn) h (λv h'=>aY C ops (i+1) r ⟨⟨al ((d,v)::L) ρ,h'⟩,h'.length,[]⟩ Q)):aY C ops i (⟨some d,.call ⟨.value x,xs.toArray,Bh⟩,ty,pos,af,none⟩::r) ⟨⟨al L ρ,h⟩,L0,own⟩ Q:=by
 obtain⟨v,h',q,n0,hn⟩:=hc;refine aY.two rfl di ⟨n0,λn h1=>?_⟩ q;simp only[au,gr,an hf];have he:=gV (ρ:=ρ) ha;simp only[he];exact hn n h1
theorem aj.out{f:FuncId}{sz:Nat}{v:PV}{es rest:List PV}{rv:PV}{Q:PV->ab->Prop}(hm:C.mode f=.pure)(o:Out sz h v es)(hv:ar es=true)(hr:ar rest=true)(a:aI C f (.aa false (aR es)::aR rest) rv)(hs:dO rv=true)(q:Q rv h):aj C 2 f (v::rest) h Q:=by
 rcases o with⟨rfl,rfl⟩|⟨id,ep,rfl,e2⟩
 ·exact aj.pure hm (by simp[ar,aW,hr]) (by simpa[aR,b9]using a) q
 ·refine aj.Zp (args':=.aa false es::rest) hm (by simp[ar,aW]) ?_ (by simpa[aR,b9]using a) hs q;have h1:ke h (.ak id ep 0 es.length)=some (.aa false es):=by simp[ke,oB,getM,e2,hv]
  have h2:∀l:List PV,ar l=true->gz h l=some l:=by
   intro l
   induction l with
   |nil=>intro _;rfl
   |cons c l ih=>
    intro hl
    simp only[ar,abq]at hl;simp only[gz,ih hl.2]
    have:ke h c=some c:=by
     unfold ke
     split
     ·rename_i cs
      have hcs:ar cs=true:=by simpa[aW]using hl.1
      have key:∀cs:List PV,ar cs=true->nw h cs=some cs:=by
       intro cs
       induction cs with
       |nil=>intro _;rfl
       |cons c cs ih=>
        intro hh
        simp only[ar,abq]at hh
        have:oB h c=some c:=by
         unfold oB
         split
         ·simp[aW]at hh
         ·rw[if_pos hh.1]
        simp only[nw,this,ih hh.2]
      rw[key cs hcs];rfl
     ·unfold oB
      split
      ·simp[aW]at hl
      ·rw[if_pos hl.1]
    rw[this]
  simp only[gz,h1,h2 rest hr]
structure LP(H:ab)(v:PV)(sz:Nat)(fA:List PV)(r:PV)(h':ab):Prop where
 out:Out sz h' r fA
 hv:HV h'
 len:H.length<=h'.length
 fr:∀j,j<H.length->(∀ep n,v≠.ak j ep 0 n)->h'[j]?=H[j]?
 ref:∀j ep n,r=.ak j ep 0 n->(∃im n',v=.ak j im 0 n')\/H.length<=j
theorem l6{sz:Nat}:∀{es:List PV},es.all (kX sz)=true->ar es=true
 |[],_=>rfl
 |e::es,h=>by
  rw[ace,abq]at h;obtain⟨h1,h2⟩:=h;unfold kX at h1;simp only[abq]at h1;simp only[ar,h1.1.1,l6 h2,adG]
theorem yu{v e:PV}{es:List PV}{full:Bool}{j:Nat}(o:Out 5 h v es)(hV:HV h)(hj:j<=es.length)(hn:es.length<100000000)(iK:es.all (kX 5)=true)(Rb:kX 5 e=true):
  ∃rv h',jO [v,.int .i64 (j:Int),.aa full [e]] h=some (rv,h')/\LP h v 5 (es.take j++[e]++es.drop j) rv h':=by
 have he:ar (es.take j++[e]++es.drop j)=true:=by
  refine l6 (sz:=5) ?_;rw[abk]at iK ⊢
  intro x hx
  simp only[abI,abp,abP]at hx;rcases hx with hx |hx |hx
  ·exact iK x (ab3 hx)
  ·rw[hx];exact Rb
  ·exact iK x (ab4 hx)
 rcases o with⟨rfl,rfl⟩|⟨id,ep,rfl,e2⟩
 ·obtain rfl:j=0:=by simpa using hj
  refine⟨.ak h.length 0 0 1,h++[⟨.m,0,5,[e]⟩],?_,.inr ⟨h.length,0,rfl,by simp⟩,hV.cB (HV.one (by simpa using he)),by simp,λj hj _=>abj hj,λj ep n hh=>?_⟩
  ·simp[jO,newObj,Rb]
  ·cases hh;exact .inr (abn _)
 ·have cG:=ag e2;have hl:(es.take j++[e]++es.drop j).length=es.length+1:=by simp;omega
  refine⟨.ak id (ep+1) 0 (es.length+1),h.set id ⟨.m,ep+1,5,es.take j++[e]++es.drop j⟩,?_,.inr ⟨id,ep+1,by rw[hl],abl cG⟩,hV.set id (by simp) he,by simp,λk hk bN=>?_,λk im n hh=>?_⟩
  ·have hg:getM h id ep=some ⟨.m,ep,5,es⟩:=by simp[getM,e2]
   simp only[jO,hg,ack,acI];rw[if_pos ⟨trivial,trivial,abn _,by omega,by omega,hn,Rb,iK,hV.closed⟩]
  ·exact abm (λhh=>bN ep es.length (by rw[hh]))
  ·cases hh;exact .inl ⟨ep,es.length,rfl⟩
theorem yv{id ep j:Nat}{es:List PV}(e2:h[id]?=some ⟨.m,ep,5,es⟩)(hV:HV h)(hj:j+1<=es.length)(hn:es.length<100000000)(iK:es.all (kX 5)=true):
  ∃rv h',lR [.ak id ep 0 es.length,.int .i64 (j:Int),.int .i64 ((j:Int)+1)] h=some (rv,h')/\LP h (.ak id ep 0 es.length) 5 (es.take j++es.drop (j+1)) rv h':=by
 have cG:=ag e2
 have he:ar (es.take j++es.drop (j+1))=true:=by
  refine l6 (sz:=5) ?_;rw[abk]at iK ⊢
  intro x hx
  rcases abp.1 hx with hx |hx
  ·exact iK x (ab3 hx)
  ·exact iK x (ab4 hx)
 have hl:(es.take j++es.drop (j+1)).length=es.length - 1:=by simp;omega
 refine⟨.ak id (ep+1) 0 (es.length - 1),h.set id ⟨.m,ep+1,5,es.take j++es.drop (j+1)⟩,?_,.inr ⟨id,ep+1,by rw[hl],abl cG⟩,hV.set id (by simp) he,by simp,λk hk bN=>?_,λk im n hh=>?_⟩
 ·have hg:getM h id ep=some ⟨.m,ep,5,es⟩:=by simp[getM,e2]
  simp only[lR,hg,ack,acI];rw[if_pos ⟨trivial,trivial,abn _,by omega,trivial,by omega,hn,iK,hV.closed⟩]
 ·exact abm (λhh=>bN ep es.length (by rw[hh]))
 ·cases hh;exact .inl ⟨ep,es.length,rfl⟩
end Go.Pm
namespace Go.Pm
set_option maxRecDepth 20000
def tsL:List (Option Nat):=[some (1),some (1),some (1),some (1),some (1),some (1),some (1),some (4),some (4),some (1),some (1),some (1),some (1),some (2),some (2),some (1),some (1),some (1),some (1),some (1),some (1),some (1),some (1),some (1),some (1),some (1),some (1),some (1),some (1),some (1),some (1),some (1),some (4),some (4),some (5),some (5),some (1),some (8),some (8),some (1),some (1),some (1),some (1),some (1),some (1),some (1),some (1),some (1),some (1),some (1),some (1),some (1),some (1),some (1),some (1),some (1),some (1),some (1),some (1),some (1),some (2),some (2),some (1),some (1),some (1),some (1),some (1),some (1),some (1),some (1),some (1),some (1),some (1),some (1),some (1),some (1),some (1),some (1),some (1),some (1),some (1),some (1),some (1),some (1),some (1),some (1),some (1),some (1),some (1),some (1),some (1),some (1),some (1),some (1),some (1),some (1),some (1),some (1),some (1),some (1),some (1),some (1),some (2),some (2),some (1),some (1),some (1),some (1),some (1),some (1),some (1),some (1),some (1),some (1),some (1),some (1),some (1),some (1),some (1),some (1),some (1),some (1),some (1),some (1),some (1),some (1),some (1),some (1),some (4),some (4),some (1),some (1),some (1),some (1),some (1),some (1),some (1),some (1),some (1),some (1),some (1),some (1),some (1),some (1),some (1),some (1),some (1),some (1),some (1),some (1),some (1),some (1),some (1),some (1),some (1),some (1),some (1),some (1),some (1),some (1),some (1),some (1),some (1),some (1),some (1),some (1),some (1),some (1),some (1),some (1),some (1),some (1),some (1),some (1),some (1),some (1),some (1),some (1),some (1),some (1),some (1),some (1),some (1),some (1),some (1),some (1),some (5),some (5),some (1),some (1),some (1),some (1),some (1),some (1),some (1),some (1),some (1),some (1),some (2),some (2),some (1),some (24),some (1),some (1),some (1),some (1),some (1),some (1),some (1),some (1),some (1),some (1),some (1),some (1),some (1),some (1),some (1),some (1),some (1),some (1),some (1),some (1),some (1),some (1),some (1),some (1),some (1),some (1),some (1),some (1),some (1),some (1),some (1),some (1),some (1),some (1),some (1),some (1),some (1),some (20),some (65),some (1),some (1),some (1),some (1),some (1),some (1),some (1),some (1),some (1),some (1),some (1),some (1),some (1),some (1),some (1),some (1),some (1),some (1),some (1),some (1),some (5),some (5),some (1),some (1),some (1),some (1),some (1),some (1),some (1),some (1),some (2),some (2),some (1),some (1),some (1),some (1),some (1),some (1),some (1),some (1),some (1),some (1),some (1),some (1),some (1),some (1),some (1),some (1),some (256),some (256),some (1),some (1),some (1),some (1),some (1),some (1),some (1),some (1),some (1),some (1),some (1),some (1),some (3),some (3),some (1),some (1),some (1),some (1),some (3),some (3),some (1),some (1),some (32),some (64),some (1),some (1),some (1),some (1),some (1),some (1),some (1),some (1),some (1),some (1),some (4),some (4),some (1),some (1),some (1),some (1),some (1),some (1),some (1),some (1),some (1),some (1),some (1),some (1),some (1),some (1),some (1),some (256),some (2),some (2),some (32),some (1),some (2),some (1),some (4),some (4),some (0),some (0),some (0),some (1),some (1),some (1),some (1),some (1),some (1),some (11),some (11)]
def tbL:List (Option Nat):=[some (0),some (8),some (8),some (8),some (1),some (1),some (1),some (24),some (24),some (16),some (16),some (16),some (8),some (24),some (24),some (8),some (8),some (8),some (8),some (8),some (16),some (4),some (24),some (24),some (8),some (8),some (8),some (8),some (0),some (8),some (8),some (24),some (56),some (56),some (80),some (80),some (8),some (112),some (112),some (8),some (24),some (24),some (8),some (8),some (8),some (8),some (8),some (24),some (8),some (8),some (0),some (8),some (8),some (8),some (0),some (8),some (8),some (8),some (8),some (24),some (48),some (48),some (8),some (8),some (8),some (0),some (8),some (8),some (8),some (8),some (8),some (8),some (8),some (8),some (8),some (8),some (8),some (8),some (8),some (0),some (8),some (0),some (8),some (8),some (8),some (0),some (8),some (8),some (8),some (0),some (8),some (8),some (8),some (8),some (8),some (8),some (8),some (8),some (8),some (8),some (8),some (8),some (32),some (32),some (16),some (16),some (0),some (8),some (8),some (8),some (8),some (8),some (8),some (8),some (8),some (8),some (8),some (8),some (8),some (8),some (8),some (8),some (8),some (8),some (8),some (8),some (8),some (8),some (40),some (40),some (8),some (8),some (24),some (0),some (8),some (8),some (8),some (8),some (8),some (8),some (8),some (8),some (8),some (8),some (8),some (8),some (8),some (8),some (8),some (8),some (8),some (8),some (8),some (8),some (8),some (24),some (8),some (8),some (8),some (8),some (8),some (8),some (8),some (8),some (0),some (8),some (8),some (8),some (8),some (8),some (8),some (8),some (8),some (8),some (8),some (24),some (0),some (8),some (8),some (8),some (8),some (0),some (8),some (24),some (8),some (8),some (64),some (64),some (8),some (8),some (8),some (8),some (8),some (8),some (24),some (8),some (24),some (8),some (32),some (32),some (8),some (24),some (8),some (8),some (8),some (0),some (8),some (8),some (8),some (0),some (8),some (8),some (8),some (8),some (8),some (8),some (8),some (0),some (8),some (8),some (8),some (8),some (8),some (4),some (0),some (8),some (8),some (8),some (0),some (8),some (0),some (8),some (8),some (8),some (8),some (8),some (8),some (8),some (8),some (160),some (65),some (8),some (8),some (8),some (8),some (8),some (8),some (8),some (8),some (8),some (8),some (8),some (8),some (8),some (8),some (24),some (24),some (0),some (8),some (8),some (8),some (72),some (72),some (24),some (8),some (8),some (8),some (8),some (24),some (0),some (8),some (48),some (48),some (8),some (8),some (8),some (0),some (8),some (8),some (8),some (8),some (8),some (8),some (8),some (8),some (8),some (0),some (8),some (8),some (256),some (256),some (0),some (8),some (8),some (8),some (8),some (0),some (8),some (8),some (8),some (8),some (0),some (8),some (56),some (56),some (8),some (8),some (8),some (24),some (72),some (72),some (0),some (8),some (32),some (64),some (8),some (8),some (8),some (0),some (8),some (8),some (8),some (0),some (8),some (24),some (80),some (80),some (8),some (8),some (0),some (8),some (0),some (8),some (8),some (8),some (8),some (8),some (8),some (8),some (0),some (8),some (8),some (256),some (2),some (2),some (32),some (8),some (48),some (24),some (40),some (40),some (0),some (0),some (0),some (8),some (1),some (1),some (8),some (4),some (4),some (48),some (48)]
def taL:List (Option Bool):=[some (false),some (false),some (false),some (false),some (false),some (false),some (false),some (true),some (true),some (false),some (false),some (false),some (false),some (true),some (true),some (false),some (false),some (false),some (true),some (true),some (false),some (false),some (false),some (false),some (false),some (false),some (false),some (false),some (false),some (false),some (false),some (false),some (true),some (true),some (true),some (true),some (false),some (true),some (true),some (false),some (false),some (false),some (false),some (false),some (false),some (false),some (false),some (false),some (false),some (false),some (false),some (false),some (false),some (false),some (false),some (false),some (false),some (false),some (false),some (false),some (true),some (true),some (false),some (false),some (false),some (false),some (false),some (false),some (false),some (false),some (false),some (false),some (false),some (false),some (false),some (false),some (false),some (false),some (false),some (false),some (false),some (false),some (false),some (false),some (false),some (false),some (false),some (false),some (false),some (false),some (false),some (false),some (false),some (false),some (false),some (false),some (false),some (false),some (false),some (false),some (false),some (false),some (true),some (true),some (false),some (false),some (false),some (false),some (false),some (false),some (false),some (false),some (false),some (false),some (false),some (false),some (false),some (false),some (false),some (false),some (false),some (false),some (false),some (false),some (false),some (false),some (false),some (false),some (true),some (true),some (false),some (false),some (false),some (false),some (false),some (false),some (false),some (false),some (false),some (false),some (false),some (false),some (false),some (false),some (false),some (false),some (false),some (false),some (false),some (false),some (false),some (false),some (false),some (false),some (false),some (false),some (false),some (false),some (false),some (false),some (false),some (false),some (false),some (false),some (false),some (false),some (false),some (false),some (false),some (false),some (false),some (false),some (false),some (false),some (false),some (false),some (false),some (false),some (false),some (false),some (false),some (false),some (false),some (false),some (false),some (false),some (true),some (true),some (false),some (false),some (false),some (false),some (false),some (false),some (false),some (false),some (false),some (false),some (true),some (true),some (false),some (true),some (false),some (false),some (false),some (false),some (false),some (false),some (false),some (false),some (false),some (false),some (false),some (false),some (false),some (false),some (false),some (false),some (false),some (false),some (false),some (false),some (false),some (false),some (false),some (false),some (false),some (false),some (false),some (false),some (false),some (false),some (false),some (false),some (false),some (false),some (false),some (false),some (false),some (true),some (true),some (false),some (false),some (false),some (false),some (false),some (false),some (false),some (false),some (false),some (false),some (false),some (false),some (false),some (false),some (false),some (false),some (false),some (false),some (false),some (false),some (true),some (true),some (false),some (false),some (false),some (false),some (false),some (false),some (false),some (false),some (true),some (true),some (false),some (false),some (false),some (false),some (false),some (false),some (false),some (false),some (false),some (false),some (false),some (false),some (false),some (false),some (false),some (false),some (true),some (true),some (false),some (false),some (false),some (false),some (false),some (false),some (false),some (false),some (false),some (false),some (false),some (false),some (true),some (true),some (false),some (false),some (false),some (false),some (true),some (true),some (false),some (false),some (true),some (true),some (false),some (false),some (false),some (false),some (false),some (false),some (false),some (false),some (false),some (false),some (true),some (true),some (false),some (false),some (false),some (false),some (false),some (false),some (false),some (false),some (false),some (false),some (false),some (false),some (false),some (false),some (false),some (true),some (true),some (true),some (true),some (false),some (true),some (false),some (true),some (true),some (true),some (true),some (true),some (false),some (false),some (false),some (false),some (false),some (false),some (true),some (true)]
def kdL:List (Option Kd):=[some (.other),some (.other),some (.int .i64),some (.int .i64),some (.bool),some (.int .u8),some (.int .u8),some (.st [(0,2),(1,3),(2,4),(3,6)]),some (.st [(0,2),(1,3),(2,4),(3,6)]),some (.str),some (.str),some (.str),some (.int .u64),some (.st [(0,9),(1,12)]),some (.st [(0,9),(1,12)]),some (.other),some (.other),some (.other),some (.st [(0,17)]),some (.st [(0,17)]),some (.other),some (.int .i32),some (.sl 35),some (.sl 38),some (.other),some (.other),some (.other),some (.int .i64),some (.other),some (.other),some (.other),some (.sl 33),some (.st [(0,3),(1,9),(2,3),(3,31)]),some (.st [(0,3),(1,9),(2,3),(3,31)]),some (.st [(0,31),(1,33)]),some (.st [(0,31),(1,33)]),some (.other),some (.st [(0,33),(4,33)]),some (.st [(0,33),(4,33)]),some (.other),some (.sl 41),some (.sl 5),some (.other),some (.other),some (.other),some (.other),some (.other),some (.sl 3),some (.other),some (.other),some (.other),some (.other),some (.other),some (.other),some (.other),some (.other),some (.other),some (.other),some (.other),some (.sl 9),some (.st [(0,59),(1,59)]),some (.st [(0,59),(1,59)]),some (.other),some (.other),some (.other),some (.other),some (.other),some (.other),some (.other),some (.other),some (.other),some (.other),some (.other),some (.other),some (.other),some (.other),some (.other),some (.other),some (.other),some (.other),some (.other),some (.other),some (.other),some (.other),some (.other),some (.other),some (.other),some (.other),some (.other),some (.other),some (.other),some (.other),some (.other),some (.other),some (.other),some (.mp 9 4),some (.other),some (.other),some (.other),some (.other),some (.other),some (.other),some (.st [(0,101),(1,41)]),some (.st [(0,101),(1,41)]),some (.other),some (.other),some (.other),some (.other),some (.other),some (.other),some (.other),some (.other),some (.other),some (.other),some (.other),some (.other),some (.other),some (.mp 3 3),some (.other),some (.other),some (.other),some (.other),some (.other),some (.other),some (.other),some (.other),some (.other),some (.other),some (.st [(0,9),(1,3),(2,3),(3,3)]),some (.st [(0,9),(1,3),(2,3),(3,3)]),some (.other),some (.other),some (.sl 33),some (.other),some (.other),some (.other),some (.other),some (.other),some (.other),some (.other),some (.other),some (.other),some (.other),some (.other),some (.other),some (.other),some (.other),some (.other),some (.other),some (.other),some (.other),some (.other),some (.other),some (.other),some (.other),some (.sl 129),some (.other),some (.other),some (.other),some (.other),some (.other),some (.other),some (.other),some (.other),some (.other),some (.other),some (.other),some (.other),some (.other),some (.other),some (.other),some (.other),some (.other),some (.other),some (.other),some (.sl 187),some (.other),some (.other),some (.other),some (.other),some (.other),some (.other),some (.other),some (.sl 31),some (.other),some (.other),some (.st [(0,33),(4,3)]),some (.st [(0,33),(4,3)]),some (.other),some (.other),some (.int .u64),some (.other),some (.other),some (.mp 9 3),some (.sl 199),some (.other),some (.sl 4),some (.other),some (.st [(0,47),(1,3)]),some (.st [(0,47),(1,3)]),some (.other),some (.arr 24 5),some (.int .u64),some (.other),some (.other),some (.other),some (.other),some (.other),some (.other),some (.other),some (.other),some (.other),some (.other),some (.other),some (.other),some (.other),some (.int .i64),some (.other),some (.other),some (.other),some (.other),some (.other),some (.other),some (.int .u32),some (.other),some (.other),some (.other),some (.other),some (.other),some (.other),some (.other),some (.other),some (.other),some (.other),some (.other),some (.other),some (.other),some (.other),some (.other),some (.arr 20 202),some (.arr 65 5),some (.other),some (.other),some (.other),some (.other),some (.other),some (.int .u64),some (.other),some (.other),some (.other),some (.other),some (.other),some (.other),some (.other),some (.other),some (.sl 202),some (.sl 202),some (.other),some (.other),some (.other),some (.mp 3 256),some (.st [(0,31),(1,3),(2,260),(3,260),(4,47)]),some (.st [(0,31),(1,3),(2,260),(3,260),(4,47)]),some (.sl 175),some (.other),some (.other),some (.other),some (.other),some (.sl 272),some (.other),some (.other),some (.st [(0,31),(1,47)]),some (.st [(0,31),(1,47)]),some (.other),some (.other),some (.other),some (.other),some (.other),some (.other),some (.other),some (.other),some (.other),some (.other),some (.other),some (.other),some (.other),some (.other),some (.other),some (.other),some (.arr 256 4),some (.arr 256 4),some (.other),some (.other),some (.other),some (.other),some (.other),some (.other),some (.other),some (.other),some (.other),some (.other),some (.other),some (.other),some (.st [(0,47),(1,47),(2,4)]),some (.st [(0,47),(1,47),(2,4)]),some (.other),some (.other),some (.other),some (.sl 47),some (.st [(0,31),(1,308),(2,47)]),some (.st [(0,31),(1,308),(2,47)]),some (.other),some (.other),some (.arr 32 5),some (.arr 64 5),some (.other),some (.other),some (.other),some (.other),some (.other),some (.other),some (.other),some (.other),some (.other),some (.sl 300),some (.st [(0,31),(1,324),(2,47),(3,4)]),some (.st [(0,31),(1,324),(2,47),(3,4)]),some (.other),some (.other),some (.other),some (.other),some (.other),some (.other),some (.other),some (.other),some (.other),some (.other),some (.other),some (.other),some (.other),some (.other),some (.other),some (.arr 256 5),some (.st [(0,5),(1,5)]),some (.st [(0,5),(1,5)]),some (.arr 16 344),some (.other),some (.arr 2 47),some (.sl 347),some (.st [(0,17),(1,17),(2,17),(3,9)]),some (.st [(0,17),(1,17),(2,17),(3,9)]),some (.arr 0 16),some (.st [(0,351)]),some (.st [(0,351)]),some (.other),some (.int .u8),some (.int .u8),some (.other),some (.int .i32),some (.int .i32),some (.st [(0,12),(1,12),(2,223),(3,355),(4,5),(5,5),(6,356),(7,357),(8,147),(9,358),(10,359)]),some (.st [(0,12),(1,12),(2,223),(3,355),(4,5),(5,5),(6,356),(7,357),(8,147),(9,358),(10,359)])]
def tzL:List (Option PV):=[none,some (.aG),some (.int .i64 (0)),some (.int .i64 (0)),some (.bool false),some (.int .u8 (0)),some (.int .u8 (0)),some (.agg [.int .i64 (0),.int .i64 (0),.bool false,.int .u8 (0)]),some (.agg [.int .i64 (0),.int .i64 (0),.bool false,.int .u8 (0)]),some (.str ByteArray.empty),some (.str ByteArray.empty),some (.str ByteArray.empty),some (.int .u64 (0)),some (.agg [.str ByteArray.empty,.int .u64 (0)]),some (.agg [.str ByteArray.empty,.int .u64 (0)]),some (.eE),some (.eE),some (.eE),some (.agg [.eE]),some (.agg [.eE]),none,some (.int .i32 (0)),some (.aa true []),some (.aa true []),some (.aG),some (.aG),some (.aG),some (.int .i64 (0)),none,some (.aG),some (.aG),some (.aa true []),some (.agg [.int .i64 (0),.str ByteArray.empty,.int .i64 (0),.aa true []]),some (.agg [.int .i64 (0),.str ByteArray.empty,.int .i64 (0),.aa true []]),some (.agg [.aa true [],.int .i64 (0),.str ByteArray.empty,.int .i64 (0),.aa true []]),some (.agg [.aa true [],.int .i64 (0),.str ByteArray.empty,.int .i64 (0),.aa true []]),some (.aG),some (.agg [.int .i64 (0),.str ByteArray.empty,.int .i64 (0),.aa true [],.int .i64 (0),.str ByteArray.empty,.int .i64 (0),.aa true []]),some (.agg [.int .i64 (0),.str ByteArray.empty,.int .i64 (0),.aa true [],.int .i64 (0),.str ByteArray.empty,.int .i64 (0),.aa true []]),some (.aG),some (.aa true []),some (.aa true []),some (.aG),some (.aG),some (.aG),some (.aG),some (.aG),some (.aa true []),some (.aG),some (.aG),none,some (.aG),some (.aG),some (.aG),none,some (.aG),some (.aG),some (.aG),some (.aG),some (.aa true []),some (.agg [.aa true [],.aa true []]),some (.agg [.aa true [],.aa true []]),some (.aG),some (.aG),some (.aG),none,some (.aG),some (.aG),some (.aG),some (.aG),some (.aG),some (.aG),some (.aG),some (.aG),some (.aG),some (.aG),some (.aG),some (.aG),some (.aG),none,some (.aG),none,some (.aG),some (.aG),some (.aG),none,some (.aG),some (.aG),some (.aG),none,some (.aG),some (.aG),some (.aG),some (.aG),some (.aG),some (.gN),some (.aG),some (.aG),some (.aG),some (.aG),some (.aG),some (.eE),some (.agg [.eE,.aa true []]),some (.agg [.eE,.aa true []]),none,none,none,some (.aG),some (.aG),some (.aG),some (.aG),some (.aG),some (.aG),some (.aG),some (.aG),some (.aG),some (.aG),some (.gN),some (.aG),some (.aG),some (.aG),some (.aG),some (.aG),some (.aG),some (.aG),some (.aG),some (.aG),some (.aG),some (.agg [.str ByteArray.empty,.int .i64 (0),.int .i64 (0),.int .i64 (0)]),some (.agg [.str ByteArray.empty,.int .i64 (0),.int .i64 (0),.int .i64 (0)]),some (.aG),some (.aG),some (.aa true []),none,some (.aG),some (.aG),some (.aG),some (.aG),some (.aG),some (.aG),some (.aG),some (.aG),some (.aG),some (.aG),some (.aG),some (.aG),some (.aG),some (.eE),some (.aG),some (.aG),some (.aG),some (.aG),some (.aG),some (.aG),some (.eE),some (.aa true []),some (.aG),some (.aG),some (.aG),some (.aG),some (.aG),some (.aG),some (.aG),some (.aG),none,some (.aG),some (.aG),some (.aG),some (.aG),some (.aG),some (.aG),some (.eE),some (.aG),some (.aG),some (.aG),some (.aa true []),none,some (.aG),some (.aG),some (.aG),some (.aG),none,some (.aG),some (.aa true []),some (.aG),some (.aG),some (.agg [.int .i64 (0),.str ByteArray.empty,.int .i64 (0),.aa true [],.int .i64 (0)]),some (.agg [.int .i64 (0),.str ByteArray.empty,.int .i64 (0),.aa true [],.int .i64 (0)]),some (.aG),some (.aG),some (.int .u64 (0)),some (.aG),some (.aG),some (.gN),some (.aa true []),some (.aG),some (.aa true []),some (.aG),some (.agg [.aa true [],.int .i64 (0)]),some (.agg [.aa true [],.int .i64 (0)]),some (.aG),none,some (.int .u64 (0)),some (.aG),some (.aG),none,some (.aG),some (.aG),some (.aG),none,some (.aG),some (.aG),some (.aG),some (.aG),some (.aG),some (.aG),some (.int .i64 (0)),none,some (.aG),some (.aG),some (.aG),some (.aG),some (.aG),some (.int .u32 (0)),none,some (.aG),some (.aG),some (.aG),none,some (.aG),none,some (.aG),some (.aG),some (.aG),some (.aG),some (.aG),some (.aG),some (.aG),some (.aG),none,none,some (.aG),some (.aG),some (.aG),some (.aG),some (.aG),some (.int .u64 (0)),some (.aG),some (.aG),some (.aG),some (.aG),some (.aG),some (.aG),some (.eE),some (.aG),some (.aa true []),some (.aa true []),none,some (.aG),some (.aG),some (.gN),some (.agg [.aa true [],.int .i64 (0),.gN,.gN,.aa true []]),some (.agg [.aa true [],.int .i64 (0),.gN,.gN,.aa true []]),some (.aa true []),some (.aG),some (.aG),some (.aG),some (.aG),some (.aa true []),none,some (.aG),some (.agg [.aa true [],.aa true []]),some (.agg [.aa true [],.aa true []]),some (.aG),some (.aG),some (.aG),none,some (.aG),some (.eE),some (.aG),some (.aG),some (.aG),some (.aG),some (.aG),some (.aG),some (.eE),none,some (.aG),some (.aG),none,none,none,some (.aG),some (.aG),some (.eE),some (.aG),none,some (.aG),some (.aG),some (.eE),some (.eE),none,some (.aG),some (.agg [.aa true [],.aa true [],.bool false]),some (.agg [.aa true [],.aa true [],.bool false]),some (.aG),some (.aG),some (.aG),some (.aa true []),some (.agg [.aa true [],.aa true [],.aa true []]),some (.agg [.aa true [],.aa true [],.aa true []]),none,some (.aG),none,none,some (.aG),some (.aG),some (.aG),none,some (.aG),some (.aG),some (.aG),none,some (.aG),some (.aa true []),some (.agg [.aa true [],.aa true [],.aa true [],.bool false]),some (.agg [.aa true [],.aa true [],.aa true [],.bool false]),some (.aG),some (.aG),none,some (.aG),none,some (.aG),some (.aG),some (.aG),some (.aG),some (.aG),some (.aG),some (.aG),none,some (.aG),some (.aG),none,some (.agg [.int .u8 (0),.int .u8 (0)]),some (.agg [.int .u8 (0),.int .u8 (0)]),none,some (.aG),some (.agg [.aa true [],.aa true []]),some (.aa true []),some (.agg [.eE,.eE,.eE,.str ByteArray.empty]),some (.agg [.eE,.eE,.eE,.str ByteArray.empty]),some (.agg []),some (.agg []),some (.agg []),some (.aG),some (.int .u8 (0)),some (.int .u8 (0)),some (.aG),some (.int .i32 (0)),some (.int .i32 (0)),some (.agg [.int .u64 (0),.int .u64 (0),.int .u32 (0),.int .u8 (0),.int .u8 (0),.int .u8 (0),.int .u8 (0),.aG,.eE,.int .i32 (0),.int .i32 (0)]),some (.agg [.int .u64 (0),.int .u64 (0),.int .u32 (0),.int .u8 (0),.int .u8 (0),.int .u8 (0),.int .u8 (0),.aG,.eE,.int .i32 (0),.int .i32 (0)])]
def tN:Nat:=362
theorem aaP:(List.range tN).map (cA C.P)=tsL:=by kernel_rfl
theorem aaQ:(List.range tN).map (Jx C.P)=taL:=by kernel_rfl
theorem aaR:(List.range tN).map (mW C.P)=tbL:=by kernel_rfl
theorem aaS:(List.range tN).map (λt=>(C.P.underlying t).map pA)=kdL:=by kernel_rfl
theorem aaT:(List.range tN).map (λt=>if(tzL.getD t none).isSome then jq C.P t else none)=tzL:=by kernel_rfl
theorem zu{α:Type}{f:Nat->Option α}{l:List (Option α)}(h:(List.range tN).map f=l)(t:Nat)(n:α)(e:(l[t]?).bind id=some n):f t=some n:=by
 subst h;rw[abB]at e
 cases hr:(List.range tN)[t]? with
 |none=>rw[hr]at e;simp at e
 |some k=>
  rw[hr]at e
  have hk:k=t:=by
   have:=ac4.1 hr;obtain⟨h1,h2⟩:=this;simp at h2;exact h2.symm
  subst hk;simpa using e
def T6:lQ C.P where
 ts t:=(tsL[t]?).bind id
 ta t:=(taL[t]?).bind id
 tb t:=(tbL[t]?).bind id
 kd t:=(kdL[t]?).bind id
 tz t:=(tzL[t]?).bind id
 dV:=zu aaP
 OU:=zu aaQ
 rU:=zu aaR
 cT:=zu aaS
 nt t n e:=by
  have:=zu aaT t n e
  split at this
  ·exact this
  ·cases this
inductive Tm where
 |mk (kind:Int) (name:ByteArray) (sort:Int) (kids:List Tm)
def Tm.kids:Tm->List Tm | .mk _ _ _ k=>k
mutual
def enc:Tm->PV
 | .mk k s o l=>.agg [.int .i64 k,.str s,.int .i64 o,.aa false (ae l)]
def ae:List Tm->List PV
 |[]=>[]
 |t::l=>enc t::ae l
end
mutual
theorem ra:∀t,aW (enc t)=true
 | .mk k s o l=>by simp[enc,aW,ar]
end
theorem fk(l:List Tm):ar (ae l)=true:=by
 induction l with
 |nil=>rfl
 |cons t l ih=>simp[ae,ar,ra,ih]
mutual
theorem xj:∀t,b9 (enc t)=enc t
 | .mk k s o l=>by simp[enc,b9,aR,aZ l]
theorem aZ:∀l,aR (ae l)=ae l
 |[]=>rfl
 |t::l=>by simp[ae,aR,xj t,aZ l]
end
theorem ai(l:List Tm):(ae l).length=l.length:=by
 induction l with
 |nil=>rfl
 |cons t l ih=>simp[ae,ih]
theorem c9(l:List Tm):ae l=l.map enc:=by
 induction l with
 |nil=>rfl
 |cons t l ih=>simp[ae,ih]
theorem Sn(t:Tm):∃a b c d,enc t=.agg [a,b,c,d]:=by cases t;exact⟨_,_,_,_,by rw[enc]⟩
mutual
def ax:Tm->Nat
 | .mk k s o l=>1+s.size+bp l
def bp:List Tm->Nat
 |[]=>0
 |t::l=>ax t+bp l
end
theorem yG(t:Tm):0<ax t:=by cases t;simp[ax];omega
theorem ba(l:List Tm):l.length<=bp l:=by
 induction l with
 |nil=>simp
 |cons t l ih=>have:=yG t;simp[bp];omega
theorem bC{l:List Tm}{t:Tm}(h:t∈l):ax t<=bp l:=by
 induction l with
 |nil=>cases h
 |cons u l ih=>
  simp only[bp];rcases abu.1 h with rfl |h
  ·omega
  ·have:=ih h;omega
theorem Tm.ind{P:Tm->Prop}(h:∀k s o l,(∀t∈l,P t)->P (.mk k s o l)):∀t,P t:=by
 intro t
 have key:∀n t,ax t<=n->P t:=by
  intro n
  induction n with
  |zero=>intro t ht;have:=yG t;omega
  |succ n ih=>
   intro t ht
   obtain⟨k,s,o,l⟩:=t;refine h k s o l (λu hu=>ih u ?_);have:=bC hu;simp[ax]at ht;omega
 exact key (ax t) t (abn _)
theorem Sq{l:List Tm}{i:Nat}(hc:(i:Int)<((ae l).length:Int)):∃t a1 a2 a3 a4,t∈l/\enc t=.agg [a1,a2,a3,a4]/\(ae l)[i]?=some (.agg [a1,a2,a3,a4])/\l.drop i=t::l.drop (i+1)/\i<l.length/\l[i]?=some t:=by
 have lu:i<l.length:=by have:=ai l;omega
 obtain⟨a1,a2,a3,a4,ha⟩:=Sn l[i];refine⟨l[i],a1,a2,a3,a4,abV lu,ha,?_,ac3 lu,lu,abo lu⟩;rw[c9,abB,abo lu,<-ha]
 rfl
theorem kF{l:List Tm}{i:Nat}(hc:¬(i:Int)<((ae l).length:Int)):l.drop i=[]:=abR (by have:=ai l;omega)
theorem bh(k:Int)(s:ByteArray)(o:Int)(l:List Tm):enc (.mk k s o l)=.agg [.int .i64 k,.str s,.int .i64 o,.aa false (ae l)]:=by rw[enc]
theorem gE{l:List Tm}{i:Nat}(hc:(i:Int)<((ae l).length:Int)):∃k s o l',.mk k s o l'∈l/\(ae l)[i]?=some (.agg [.int .i64 k,.str s,.int .i64 o,.aa false (ae l')])/\l.drop i=.mk k s o l'::l.drop (i+1)/\i<l.length/\l[i]?=some (.mk k s o l'):=by
 obtain⟨t,a1,a2,a3,a4,h1,h2,h3,h4,h5,h6⟩:=Sq hc;obtain⟨k,s,o,l'⟩:=t;rw[bh]at h2;exact⟨k,s,o,l',h1,by rw[h3,<-h2],h4,h5,h6⟩
mutual
def size:Tm->Int
 | .mk _ _ _ l=>1+dU l
def dU:List Tm->Int
 |[]=>0
 |t::l=>size t+dU l
end
mutual
theorem gP:∀t,0<size t/\size t<=(ax t:Int)
 | .mk k s o l=>by
  have:=de l;simp only[size,ax];omega
theorem de:∀l,0<=dU l/\dU l<=(bp l:Int)
 |[]=>by simp[dU,bp]
 |t::l=>by
  have h1:=gP t;have h2:=de l;simp only[dU,bp];omega
end
def fw(a b:Int):Int:=if a<b then -1 else if b<a then 1 else 0
mutual
def aT:Tm->Tm->Int
 | .mk k s o l,.mk k' s' o' l'=>
  if fw (size (.mk k s o l)) (size (.mk k' s' o' l'))≠0 then fw (size (.mk k s o l)) (size (.mk k' s' o' l'))else
  if fw k k'≠0 then fw k k' else
  if Op.bytesLess s.toList s'.toList=true then -1 else
  if(!(Op.bytesLess s.toList s'.toList ||s.toList==s'.toList))=true then 1 else
  if fw o o'≠0 then fw o o' else
  if fw l.length l'.length≠0 then fw l.length l'.length else mC l l'
def mC:List Tm->List Tm->Int
 |[],_=>0
 |_::_,[]=>0
 |t::l,t'::l'=>if aT t t'≠0 then aT t t' else mC l l'
end
def mr(x y:Int):Int:=if x≠0 then x else y
def eY:List UInt8->List UInt8->Int:=Lib.compareBytes
theorem O7:∀a b:List UInt8,Op.bytesLess a b=decide (eY a b<0)/\((a==b)=decide (eY a b=0))
 |[],[]=>by simp[Op.bytesLess,eY,Lib.compareBytes]
 |[],_::_=>by simp[Op.bytesLess,eY,Lib.compareBytes]
 |_::_,[]=>by simp[Op.bytesLess,eY,Lib.compareBytes]
 |a::x,b::y=>by
  obtain⟨h1,h2⟩:=O7 x y;have hc:eY (a::x) (b::y)=if a<b then -1 else if b<a then 1 else eY x y:=rfl
  have key:a<b\/b<a\/a=b:=by
   rcases acV a.toNat b.toNat with h |h |h
   ·exact .inl (acx.2 h)
   ·exact .inr (.inr (UInt8.toNat_inj.1 h))
   ·exact .inr (.inl (acx.2 h))
  have asym:∀p q:UInt8,p<q->¬q<p:=λp q h1 h2=>by
   have:=acx.1 h1;have:=acx.1 h2;omega
  have irr:∀p:UInt8,¬p<p:=λp h1=>asym p p h1 h1
  rcases key with h |h |h
  ·have bN:a≠b:=λe=>irr b (e▸h)
   rw[hc,if_pos h];simp[Op.bytesLess,h,bN]
  ·have bN:a≠b:=λe=>irr b (e▸h)
   have hn:=asym _ _ h;rw[hc,if_neg hn,if_pos h];simp[Op.bytesLess,hn,bN]
  ·subst h;rw[hc,if_neg (irr a),if_neg (irr a)];simp only[Op.bytesLess,h1,irr,decide_false,acD,BEq.rfl,acs,true_and];rw[<-h2];simp[List.cons_beq_cons]
structure Sk(x y z:Int):Prop where
 e1:x=0->z=y
 e2:y=0->z=x
 lt:x<0->y<0->z<0
theorem Sk.lex{x y z x' y' z':Int}(a:Sk x y z)(b:x=0->y=0->Sk x' y' z'):Sk (mr x x') (mr y y') (mr z z'):=by
 obtain⟨e1,e2,lt⟩:=a;unfold mr
 by_cases hx:x=0 <;>by_cases hy:y=0
 ·have hz:z=0:=by rw[e1 hx,hy]
  rw[if_neg (by simp[hx]),if_neg (by simp[hy]),if_neg (by simp[hz])];exact b hx hy
 ·have hz:z=y:=e1 hx;rw[if_neg (by simp[hx]),if_pos hy,hz,if_pos hy];exact⟨λ_=>rfl,λh=>absurd h hy,λ_ h=>h⟩
 ·have hz:z=x:=e2 hy;rw[if_neg (by simp[hy]:¬y≠0),if_pos hx,hz,if_pos hx];exact⟨λh=>absurd h hx,λ_=>rfl,λh _=>h⟩
 ·rw[if_pos hx,if_pos hy];refine⟨λh=>absurd h hx,λh=>absurd h hy,λh1 h2=>?_⟩;have:=lt h1 h2;rw[if_pos (by omega)];exact this
theorem rc(x y:Int):mr (-x) (-y)=- mr x y:=by unfold mr;split <;>split <;>omega
theorem O8{x y:Int}:mr x y=0↔x=0/\y=0:=by unfold mr;split <;>omega
theorem j9{x y:Int}(h:mr x y=0):x=0/\y=0:=O8.1 h
theorem qv(a b c:Int):Sk (fw a b) (fw b c) (fw a c):=by
 unfold fw
 constructor <;>(repeat' split) <;>omega
theorem qw(a b:Int):fw b a=- fw a b:=by unfold fw;(repeat' split) <;>omega
theorem jj{a b:Int}(h:fw a b=0):a=b:=by unfold fw at h;(repeat' split at h) <;>omega
theorem O9(a b:Int):fw a b=-1\/fw a b=0\/fw a b=1:=by unfold fw;(repeat' split) <;>omega
theorem iT(a b:UInt8)(x y:List UInt8):eY (a::x) (b::y)=mr (fw a.toNat b.toNat) (eY x y):=by
 have hc:eY (a::x) (b::y)=if a<b then -1 else if b<a then 1 else eY x y:=rfl;rw[hc]
 by_cases h1:a<b
 ·have:=acx.1 h1;have e:fw a.toNat b.toNat=-1:=by unfold fw;rw[if_pos (by omega)]
  rw[if_pos h1,e];rfl
 ·by_cases h2:b<a
  ·have:=acx.1 h2;have e:fw a.toNat b.toNat=1:=by unfold fw;rw[if_neg (by omega),if_pos (by omega)]
   rw[if_neg h1,if_pos h2,e];rfl
  ·have P9:¬a.toNat<b.toNat:=λh=>h1 (acx.2 h)
   have h2':¬b.toNat<a.toNat:=λh=>h2 (acx.2 h)
   have e:fw a.toNat b.toNat=0:=by unfold fw;rw[if_neg (by omega),if_neg (by omega)]
   rw[if_neg h1,if_neg h2,e];rfl
theorem BI:∀a b c:List UInt8,Sk (eY a b) (eY b c) (eY a c)
 |[],[],[]=>by constructor <;>decide
 |[],[],_::_=>by constructor <;>intros <;>simp_all[eY,Lib.compareBytes]
 |[],_::_,[]=>by constructor <;>intros <;>simp_all[eY,Lib.compareBytes]
 |[],b::y,c::z=>by
  have e1:eY [] (b::y)=-1:=rfl;have e2:eY [] (c::z)=-1:=rfl;rw[e1,e2]
  constructor <;>intros <;>omega
 |_::_,[],[]=>by constructor <;>intros <;>simp_all[eY,Lib.compareBytes]
 |a::x,[],c::z=>by
  have e1:eY (a::x) []=1:=rfl;have e2:eY [] (c::z)=-1:=rfl;rw[e1,e2]
  constructor <;>intros <;>omega
 |a::x,b::y,[]=>by
  have e1:eY (a::x) []=1:=rfl;have e2:eY (b::y) []=1:=rfl;rw[e1,e2]
  constructor <;>intros <;>omega
 |a::x,b::y,c::z=>by
  rw[iT,iT,iT];exact(qv _ _ _).lex (λ_ _=>BI x y z)
theorem BJ:∀a b:List UInt8,eY b a=- eY a b
 |[],[]=>rfl
 |[],_::_=>rfl
 |_::_,[]=>rfl
 |a::x,b::y=>by rw[iT,iT,BJ x y,qw a.toNat b.toNat,rc]
theorem zr:∀{a b:List UInt8},eY a b=0->a=b
 |[],[],_=>rfl
 |[],_::_,h=>by cases h
 |_::_,[],h=>by cases h
 |a::x,b::y,h=>by
  rw[iT]at h;obtain⟨h1,h2⟩:=j9 h;have:=jj h1;rw[zr h2,UInt8.toNat_inj.1 (by omega:a.toNat=b.toNat)]
def CW(s s':ByteArray):Int:=eY s.toList s'.toList
theorem BK:∀a b:List UInt8,eY a b=-1\/eY a b=0\/eY a b=1
 |[],[]=>.inr (.inl rfl)
 |[],_::_=>.inl rfl
 |_::_,[]=>.inr (.inr rfl)
 |a::x,b::y=>by
  rw[iT];have h1:=O9 a.toNat b.toNat;have h2:=BK x y;unfold mr
  split <;>omega
theorem xe{a b:ByteArray}(h:a.toList=b.toList):a=b:=by
 rw[ByteArray.toList_eq,ByteArray.toList_eq]at h
 cases a;cases b
 simp at h;subst h
 rfl
theorem ms(k s o l k' s' o' l'):aT (.mk k s o l) (.mk k' s' o' l')=mr (fw (size (.mk k s o l)) (size (.mk k' s' o' l'))) (mr (fw k k') (mr (CW s s') (mr (fw o o') (mr (fw l.length l'.length) (mC l l'))))):=by
 rw[aT];obtain⟨b1,b2⟩:=O7 s.toList s'.toList;have b3:=BK s.toList s'.toList;rw[b1,b2];unfold mr CW
 split
 ·rfl
 ·split
  ·rfl
  ·rcases b3 with b3 |b3 |b3
   ·rw[if_pos (by simp[b3])];simp[b3]
   ·rw[if_neg (by simp[b3]),if_neg (by simp[b3])];simp[b3]
   ·rw[if_neg (by simp[b3]),if_pos (by simp[b3])];simp[b3]
theorem mv(t t' l l'):mC (t::l) (t'::l')=mr (aT t t') (mC l l'):=by rw[mC];rfl
theorem Fi:∀{l l':List Tm},l.length=l'.length->(∀t∈l,∀t',aT t' t=- aT t t')->mC l' l=- mC l l'
 |[],[],_,_=>by simp[mC]
 |t::l,t'::l',hl,h=>by
  rw[mv,mv,h t (by simp) t',Fi (by simpa using hl) (λu hu=>h u (by simp[hu])),rc]
theorem eC(t:Tm):∀t',aT t' t=- aT t t':=by
 induction t using Tm.ind with
 |h k s o l ih=>
  rintro⟨k',s',o',l'⟩;rw[ms,ms,qw (size (.mk k s o l)),qw k,show CW s' s=- CW s s' from BJ _ _,qw o,qw (l.length:Int)];rw[<-rc,<-rc,<-rc,<-rc]
  congr 4
  unfold mr
  split
  ·rw[if_pos (by omega)]
  ·rename_i h
   rw[if_neg (by omega)];refine Fi ?_ ih;have h':fw (l.length:Int) l'.length=0:=by omega
   have:=jj h';omega
theorem BL:∀{l l':List Tm},l.length=l'.length->(∀t∈l,∀t',aT t t'=0->t=t')->mC l l'=0->l=l'
 |[],[],_,_,_=>rfl
 |t::l,t'::l',hl,h,e=>by
  rw[mv]at e;obtain⟨e1,e2⟩:=j9 e;rw[h t (by simp) t' e1,BL (by simpa using hl) (λu hu=>h u (by simp[hu])) e2]
theorem cP{t:Tm}:∀{t':Tm},aT t t'=0->t=t':=by
 induction t using Tm.ind with
 |h k s o l ih=>
  rintro⟨k',s',o',l'⟩ h;rw[ms]at h;obtain⟨_,h⟩:=j9 h;obtain⟨h1,h⟩:=j9 h;obtain⟨h2,h⟩:=j9 h;obtain⟨h3,h⟩:=j9 h;obtain⟨h4,h⟩:=j9 h;have h4':=jj h4;rw[jj h1,xe (zr h2),jj h3,BL (by omega) (λt ht t' e=>ih t ht e) h]
theorem cq(t:Tm):aT t t=0:=by have:=eC t t;omega
theorem Fj:∀{l l' l'':List Tm},l.length=l'.length->l'.length=l''.length->(∀t∈l,∀t' Wm,Sk (aT t t') (aT t' Wm) (aT t Wm))->Sk (mC l l') (mC l' l'') (mC l l'')
 |[],[],[],_,_,_=>by simp[mC];constructor <;>omega
 |t::l,t'::l',Wm::l'',h1,h2,h=>by
  rw[mv,mv,mv];exact(h t (by simp) t' Wm).lex (λ_ _=>Fj (by simpa using h1) (by simpa using h2) (λu hu=>h u (by simp[hu])))
theorem O'(t:Tm):∀t' Wm,Sk (aT t t') (aT t' Wm) (aT t Wm):=by
 induction t using Tm.ind with
 |h k s o l ih=>
  rintro⟨k',s',o',l'⟩ ⟨k2,s2,o2,l2⟩;rw[ms,ms,ms];refine(qv _ _ _).lex λ_ _=>(qv _ _ _).lex λ_ _=>(BI _ _ _).lex λ_ _=>(qv _ _ _).lex λ_ _=>(qv _ _ _).lex λh1 h2=>?_;have P9:=jj h1;have h2':=jj h2;exact Fj (by omega) (by omega) ih
theorem eU{a b c:Tm}(h1:aT a b<0)(h2:aT b c<0):aT a c<0:=(O' a b c).lt h1 h2
abbrev Pw:=Tm×Int
def xv:Pw->PV
 |(.mk k s o l,n)=>.agg [.int .i64 k,.str s,.int .i64 o,.aa false (ae l),.int .i64 n]
def br(l:List Pw):List PV:=l.map xv
def Hv(t:Tm)(n:Int):Bool->List Pw->List Pw
 |d,[]=>if d then[]else[(t,n)]
 |d,p::l=>(if d=false/\aT t p.1<0 then[(t,n)]else[])++((if(if aT t p.1=0 then p.2+n else p.2)≠0 then[(p.1,if aT t p.1=0 then p.2+n else p.2)]else[])++Hv t n (d ||decide (aT t p.1<=0)) l)
def jI(t:Tm)(n:Int):List Pw->List Pw
 |[]=>[(t,n)]
 |p::l=>if aT p.1 t<0 then p::jI t n l else if aT p.1 t=0 then(if p.2+n=0 then l else(p.1,p.2+n)::l)else(t,n)::p::l
def FU(l:List Pw):Prop:=l.Pairwise λp q=>aT p.1 q.1<0
def Nz(l:List Pw):Prop:=∀p∈l,p.2≠0
theorem uR(t:Tm)(n:Int):∀(l:List Pw),Nz l->(∀p∈l,aT t p.1<0)->Hv t n true l=l
 |[],_,_=>rfl
 |p::l,h1,h2=>by
  have e:=h2 p (by simp);have z:=h1 p (by simp);have ih:=uR t n l (λq hq=>h1 q (by simp[hq])) (λq hq=>h2 q (by simp[hq]));simp only[Hv,ab2,false_and,if_false,abT,ady,ih];rw[if_neg (show¬aT t p.1=0 by omega),if_pos z]
  rfl
theorem EZ(t:Tm)(n:Int):∀(l:List Pw),FU l->Nz l->Hv t n false l=jI t n l
 |[],_,_=>by simp[Hv,jI]
 |p::l,h1,h2=>by
  have z:=h2 p (by simp);obtain⟨s1,s2⟩:=abG.1 h1;have nz:Nz l:=λq hq=>h2 q (by simp[hq])
  have ng:=eC p.1 t;rw[Hv,jI]
  by_cases c1:aT p.1 t<0
  ·rw[if_pos c1,if_neg (by omega),if_neg (show¬aT t p.1=0 by omega),if_pos z,show(false ||decide (aT t p.1<=0))=false by simp;omega,EZ t n l s2 nz]
   rfl
  ·by_cases c2:aT p.1 t=0
   ·have e:=cP c2;have hd:=uR t n l nz (λq hq=>by rw[<-e];exact s1 q hq);rw[if_neg c1,if_pos c2,if_neg (by omega),if_pos (show aT t p.1=0 by omega),show(false ||decide (aT t p.1<=0))=true by simp;omega,hd]
    by_cases c3:p.2+n=0
    ·rw[if_pos c3,if_neg (by omega)];rfl
    ·rw[if_neg c3,if_pos c3];rfl
   ·have hd:=uR t n l nz (λq hq=>eU (show aT t p.1<0 by omega) (s1 q hq));rw[if_neg c1,if_neg c2,if_pos ⟨rfl,by omega⟩,if_neg (show¬aT t p.1=0 by omega),if_pos z,show(false ||decide (aT t p.1<=0))=true by simp;omega,hd]
    rfl
theorem xw{t:Tm}{n:Int}:∀{l:List Pw} {p:Pw},p∈jI t n l->p.1=t\/∃q∈l,q.1=p.1
 |[],p,h=>by simp[jI]at h;exact .inl (by rw[h])
 |q::l,p,h=>by
  rw[jI]at h
  split at h
  ·rcases abu.1 h with rfl |h
   ·exact .inr ⟨p,by simp,rfl⟩
   ·rcases xw h with h |⟨r,h,e⟩
    ·exact .inl h
    ·exact .inr ⟨r,by simp[h],e⟩
  ·split at h
   ·split at h
    ·exact .inr ⟨p,by simp[h],rfl⟩
    ·rcases abu.1 h with rfl |h
     ·exact .inr ⟨q,by simp,rfl⟩
     ·exact .inr ⟨p,by simp[h],rfl⟩
   ·rcases abu.1 h with rfl |h
    ·exact .inl rfl
    ·exact .inr ⟨p,h,rfl⟩
theorem Jd{t:Tm}{n:Int}(hn:n≠0):∀{l:List Pw},Nz l->Nz (jI t n l)
 |[],_=>by intro p hp;simp[jI]at hp;subst hp;exact hn
 |q::l,h=>by
  have h1:Nz l:=λr hr=>h r (by simp[hr])
  rw[jI]
  split
  ·intro p hp
   rcases abu.1 hp with rfl |hp
   ·exact h p (by simp)
   ·exact Jd hn h1 p hp
  ·split
   ·split
    ·exact h1
    ·intro p hp
     rcases abu.1 hp with rfl |hp
     ·assumption
     ·exact h1 p hp
   ·intro p hp
    rcases abu.1 hp with rfl |hp
    ·exact hn
    ·exact h p hp
theorem E0{t:Tm}{n:Int}:∀{l:List Pw},FU l->FU (jI t n l)
 |[],_=>by simp[jI,FU]
 |q::l,h=>by
  obtain⟨s1,s2⟩:=abG.1 h;rw[jI];have ng:=eC q.1 t
  split
  ·rename_i c
   refine abG.2 ⟨λp hp=>?_,E0 s2⟩;rcases xw hp with e |⟨r,hr,e⟩
   ·rw[e];exact c
   ·rw[<-e];exact s1 r hr
  ·split
   ·split
    ·exact s2
    ·exact abG.2 ⟨s1,s2⟩
   ·refine abG.2 ⟨λp hp=>?_,h⟩;have c:aT t q.1<0:=by omega
    rcases abu.1 hp with rfl |hp
    ·exact c
    ·exact eU c (s1 p hp)
theorem E1{t:Tm}{n:Int}:∀(l:List Pw),(jI t n l).length<=l.length+1
 |[]=>by simp[jI]
 |q::l=>by
  have:=E1 (t:=t) (n:=n) l;rw[jI]
  (repeat' split) <;>simp <;>omega
def vf:List UInt8:=[109,117,108]
def mH:List UInt8:=[105,110,118]
def vg:List UInt8:=[111,110,101]
def dT:Tm->Bool
 | .mk k s o l=>decide (k=3)&& (decide (s.toList=vf)||decide (s.toList=mH)||decide (s.toList=vg))
mutual
def arity:Tm->Bool
 | .mk k s o l=>if dT (.mk k s o l)=false then true else
  if(s.toList=vf/\l.length<2)\/(s.toList=mH/\l.length≠1)\/(s.toList=vg/\l.length≠0)then false else mN l
def mN:List Tm->Bool
 |[]=>true
 |t::l=>if arity t=false then false else mN l
end
mutual
def gB(a:List Pw):Tm->Int->List Pw
 | .mk k s o l,n=>if dT (.mk k s o l)=false then jI (.mk k s o l) n a else iv a l (if s.toList=mH then -n else n)
def iv(a:List Pw):List Tm->Int->List Pw
 |[],_=>a
 |t::l,n=>iv (gB a t n) l n
end
mutual
def OM(a:List Pw):Tm->Int->List Pw
 | .mk k s o l,n=>if dT (.mk k s o l)=false then Hv (.mk k s o l) n false a else zf a l (if s.toList=mH then -n else n)
def zf(a:List Pw):List Tm->Int->List Pw
 |[],_=>a
 |t::l,n=>zf (OM a t n) l n
end
mutual
theorem Je:∀(t:Tm) (a:List Pw) (n:Int),FU a->Nz a->n≠0->FU (gB a t n)/\Nz (gB a t n)/\OM a t n=gB a t n
 | .mk k s o l,a,n,h1,h2,h3=>by
  rw[gB,OM]
  split
  ·exact⟨E0 h1,Jd h3 h2,EZ _ _ _ h1 h2⟩
  ·exact E2 l a _ h1 h2 (by split <;>omega)
theorem E2:∀(l:List Tm) (a:List Pw) (n:Int),FU a->Nz a->n≠0->FU (iv a l n)/\Nz (iv a l n)/\zf a l n=iv a l n
 |[],a,n,h1,h2,_=>by rw[iv,zf];exact⟨h1,h2,rfl⟩
 |t::l,a,n,h1,h2,h3=>by
  obtain⟨g1,g2,g3⟩:=Je t a n h1 h2 h3;rw[iv,zf,g3];exact E2 l _ n g1 g2 h3
end
mutual
theorem yU:∀(t:Tm) (a:List Pw) (n:Int),((gB a t n).length:Int)<=a.length+size t
 | .mk k s o l,a,n=>by
  rw[gB];have:=de l
  split
  ·have:=E1 (t:=.mk k s o l) (n:=n) a;simp only[size];omega
  ·have:=BF l a (if s.toList=mH then -n else n);simp only[size];omega
theorem BF:∀(l:List Tm) (a:List Pw) (n:Int),((iv a l n).length:Int)<=a.length+dU l
 |[],a,n=>by simp[iv,dU]
 |t::l,a,n=>by
  have h1:=yU t a n;have h2:=BF l (gB a t n) n;rw[iv,dU];omega
end
def Bd(B:Int)(l:List Pw):Prop:=∀p∈l,-B<=p.2/\p.2<=B
theorem Jf{B:Int}{t:Tm}{n:Int}(h1: -1<=n)(h2:n<=1)(hB:0<=B):∀{l:List Pw},Bd B l->Bd (B+1) (jI t n l)
 |[],_=>by intro p hp;simp[jI]at hp;subst hp;simp only;omega
 |q::l,h=>by
  have hl:Bd B l:=λr hr=>h r (by simp[hr])
  have wQ:Bd (B+1) l:=λr hr=>by have:=hl r hr;omega
  have hq:=h q (by simp);rw[jI]
  split
  ·intro p hp
   rcases abu.1 hp with rfl |hp
   ·omega
   ·exact Jf h1 h2 hB hl p hp
  ·split
   ·split
    ·exact wQ
    ·intro p hp
     rcases abu.1 hp with rfl |hp
     ·simp only;omega
     ·exact wQ p hp
   ·intro p hp
    rcases abu.1 hp with rfl |hp
    ·simp only;omega
    ·have:=h p hp;omega
mutual
theorem Jg:∀(t:Tm) (a:List Pw) (n B:Int),-1<=n->n<=1->0<=B->Bd B a->Bd (B+size t) (gB a t n)
 | .mk k s o l,a,n,B,h1,h2,h3,h4=>by
  rw[gB];have:=de l
  split
  ·intro p hp
   have:=Jf h1 h2 h3 h4 p hp;simp only[size];omega
  ·intro p hp
   have:=E3 l a (if s.toList=mH then -n else n) B (by split <;>omega) (by split <;>omega) h3 h4 p hp;simp only[size];omega
theorem E3:∀(l:List Tm) (a:List Pw) (n B:Int),-1<=n->n<=1->0<=B->Bd B a->Bd (B+dU l) (iv a l n)
 |[],a,n,B,h1,h2,h3,h4=>by rw[iv,dU];intro p hp;have:=h4 p hp;omega
 |t::l,a,n,B,h1,h2,h3,h4=>by
  have hs:=gP t;have g:=Jg t a n B h1 h2 h3 h4;have g2:=E3 l (gB a t n) n (B+size t) h1 h2 (by omega) g;rw[iv,dU]
  intro p hp
  have:=g2 p hp;omega
end
def kq(c:Int):Bool:=decide ((97<=c/\c<=122)\/(65<=c/\c<=90))
def qb(c:Int):Bool:=decide (48<=c/\c<=57)
def nX(c:Int):Bool:=kq c ||qb c ||decide (c=95)||decide (c=35)
def gT:List UInt8->Bool
 |[]=>true
 |c::l=>nX c.toNat&&gT l
def wV:List UInt8->Bool
 |[]=>false
 |c::l=>decide (l.length<24)&&kq c.toNat&&gT (c::l)
def dR(s:ByteArray):Bool:=wV s.toList
theorem bsize(s:ByteArray):s.toList.length=s.size:=by rw[ByteArray.toList_eq];exact acL
theorem Kr{s:ByteArray}{i:Nat}{c:UInt8}(h:s.toList[i]?=some c):s[i]?=some c:=by
 have cG:=ag h;rw[ByteArray.toList_eq,abQ]at h;have Zt:i<s.size:=by rw[<-bsize];exact cG
 rw[getElem?_pos s i Zt];rw[acz Zt]at h;exact h
def node:Tm->Int
 | .mk k s o l=>if(k≠1/\k≠2/\k≠3)\/o<0\/5<o\/(k=3/\o≠0)\/(k≠3/\0<l.length)then 1 else if dR s=false then 2 else if 8<l.length then 3 else 0
mutual
def nodes:Tm->Int
 | .mk k s o l=>if node (.mk k s o l)≠0 then node (.mk k s o l)else ia l
def ia:List Tm->Int
 |[]=>0
 |t::l=>if nodes t≠0 then nodes t else ia l
end
mutual
def depth:Tm->Int
 | .mk _ _ _ l=>ic l+1
def ic:List Tm->Int
 |[]=>0
 |t::l=>max (depth t) (ic l)
end
def valid(t:Tm):Int:=if nodes t≠0 then nodes t else if 400<size t\/40<depth t then 3 else 0
mutual
theorem oO:∀t,0<depth t/\depth t<=size t
 | .mk k s o l=>by have:=jx l;simp only[depth,size];omega
theorem jx:∀l,0<=ic l/\ic l<=dU l
 |[]=>by simp[ic,dU]
 |t::l=>by
  have h1:=oO t;have h2:=jx l;simp only[ic,dU];omega
end
def ZE:ByteArray:=⟨#[109,117,108]⟩
def ZF:ByteArray:=⟨#[105,110,118]⟩
def ZG:ByteArray:=⟨#[111,110,101]⟩
theorem Mi:ZE.toList=vf:=by rw[ByteArray.toList_eq];rfl
theorem Mj:ZF.toList=mH:=by rw[ByteArray.toList_eq];rfl
theorem Mk:ZG.toList=vg:=by rw[ByteArray.toList_eq];rfl
theorem FR{t:Tm}(h:dT t=false)(a:List Pw)(n:Int):gB a t n=jI t n a:=by
 obtain⟨k,s,o,l⟩:=t;rw[gB,if_pos h]
mutual
theorem Dc{Q:Tm->Prop}{P:Tm->Prop}(hP:∀k s o l,Q (.mk k s o l)->dT (.mk k s o l)=false->P (.mk k s o l))(hQ:∀k s o l,Q (.mk k s o l)->∀t∈l,Q t):
  ∀(t:Tm) (a:List Pw) (n:Int),Q t->(∀p∈a,P p.1)->∀p∈gB a t n,P p.1
 | .mk k s o l,a,n,h1,h2=>by
  rw[gB]
  split
  ·rename_i hs
   intro p hp
   rcases xw hp with e |⟨q,hq,e⟩
   ·rw[e];exact hP k s o l h1 hs
   ·rw[<-e];exact h2 q hq
  ·exact AI hP hQ l a _ (hQ k s o l h1) h2
theorem AI{Q:Tm->Prop}{P:Tm->Prop}(hP:∀k s o l,Q (.mk k s o l)->dT (.mk k s o l)=false->P (.mk k s o l))(hQ:∀k s o l,Q (.mk k s o l)->∀t∈l,Q t):
  ∀(l:List Tm) (a:List Pw) (n:Int),(∀t∈l,Q t)->(∀p∈a,P p.1)->∀p∈iv a l n,P p.1
 |[],a,n,h1,h2=>by rw[iv];exact h2
 |t::l,a,n,h1,h2=>by
  rw[iv];exact AI hP hQ l _ n (λu hu=>h1 u (by simp[hu])) (Dc hP hQ t a n (h1 t (by simp)) h2)
end
theorem oG:∀{l:List Tm},ia l=0->∀t∈l,nodes t=0
 |[],_,t,h=>by cases h
 |u::l,e,t,h=>by
  rw[ia]at e
  split at e
  ·rename_i hu;exact absurd e hu
  ·rename_i hu
   rcases abu.1 h with rfl |h
   ·omega
   ·exact oG e t h
theorem AJ:∀{l:List Tm},∀t∈l,size t<=dU l
 |[],t,h=>by cases h
 |u::l,t,h=>by
  have h1:=gP u;have h2:=de l;rw[dU];rcases abu.1 h with rfl |h
  ·omega
  ·have:=AJ t h;omega
theorem rQ:∀{l:List Tm},∀t∈l,depth t<=ic l
 |[],t,h=>by cases h
 |u::l,t,h=>by
  rw[ic];rcases abu.1 h with rfl |h
  ·omega
  ·have:=rQ t h;omega
def VQ(S D:Int)(t:Tm):Prop:=nodes t=0/\size t<=S/\depth t<=D
theorem VQ.kids{S D k s o l}(h:VQ S D (.mk k s o l)):∀t∈l,VQ S D t:=by
 obtain⟨h1,h2,h3⟩:=h;rw[nodes]at h1
 split at h1
 ·rename_i hn;exact absurd h1 hn
 ·intro t ht
  have:=AJ t ht;have:=rQ t ht;have:=de l;simp only[size]at h2;simp only[depth]at h3;exact⟨oG h1 t ht,by omega,by omega⟩
theorem fq{t:Tm}:valid t=0↔VQ 400 40 t:=by
 unfold valid VQ
 constructor
 ·intro h
  split at h
  ·rename_i hn;exact absurd h hn
  ·rename_i hn
   split at h
   ·cases h
   ·exact⟨by omega,by omega,by omega⟩
 ·rintro⟨h1,h2,h3⟩;rw[if_neg (by omega),if_neg (by omega)]
theorem Dd{t:Tm}(h:dT t=false):arity t=true:=by
 obtain⟨k,s,o,l⟩:=t;rw[arity,if_pos h]
end Go.Pm
