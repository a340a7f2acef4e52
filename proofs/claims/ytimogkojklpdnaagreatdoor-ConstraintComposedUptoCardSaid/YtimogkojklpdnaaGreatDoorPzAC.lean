/-
  A part of the library Pm (joined by program). Conditions: none.
-/
import Derived.Test.YtimogkojklpdnaaGreatDoorPzAA
import Derived.Test.YtimogkojklpdnaaGreatDoorPzAB
import Derived.Test.YtimogkojklpdnaaGreatDoorProg
import Derived.KernelRfl
import Derived.Lib.Bytealg
set_option linter.unusedVariables false
set_option linter.unusedSimpArgs false
set_option linter.unnecessarySimpa false
namespace Go.Pm
variable{P:Program}{w:World}{F:Nat->Prop}{β:List (Nat×Nat)}{h:ab}
def gM(w:World)(A:Nat->Prop)(β:List (Nat×Nat))(h:ab)(a:Act)(ρ:Nat->PV):Prop:=∀t,aD w A β h (a.tmps.getD t Go.undef) (ρ t)
theorem gM.ev{A:Nat->Prop}{a:Act}{ρ:Nat->PV}(r:gM w A β h a ρ)(x:Operand):aD w A β h (a.eval x) (Pm.ev ρ x):=by
 cases x with
 |tmp t=>exact r t
 |const v=>exact EO w A β h v
 |global g=>exact .any _
 |func f=>exact .fn f [] [] rfl (by simp)
theorem gM.Jm{A:Nat->Prop}{a:Act}{ρ:Nat->PV}(r:gM w A β h a ρ)(xs:List Operand):L2 (aD w A β h) (xs.map a.eval) (xs.map (Pm.ev ρ)):=by
 refine⟨by simp,λj hj=>?_⟩;simp at hj;have e1:(xs.map a.eval).getD j undef=a.eval xs[j]:=by simp[List.getD,hj]
 have e2:(xs.map (Pm.ev ρ)).getD j .any=Pm.ev ρ xs[j]:=by simp[List.getD,hj]
 rw[e1,e2];exact r.ev _
theorem gM.parts{A:Nat->Prop}{a:Act}{ρ:Nat->PV}(r:gM w A β h a ρ)(xs:Array (Nat×Operand)):mb w A β h (xs.map λ(i,x)=>(i,a.eval x)).toList (xs.toList.map λ(i,x)=>(i,Pm.ev ρ x)):=by
 refine⟨by simp,λk x hx=>?_⟩;simp only[ZP,aai]at hx;obtain⟨y,h1,rfl⟩:=hx;exact⟨a.eval y.2,by simp only[Array.toList_map,ZP,h1];rfl,r.ev y.2⟩
theorem gM.W4{A:Nat->Prop}{a:Act}{ρ:Nat->PV}(r:gM w A β h a ρ)(x:Option Operand):uL w A β h (x.map a.eval) (x.map (Pm.ev ρ)):=by
 cases x with
 |none=>trivial
 |some x=>exact r.ev x
def ud(P:Program)(lv:Nat)(w:World)(F:Nat->Prop)(β:List (Nat×Nat))(h:ab)(s:Sem Next)(p:PV)(h':ab):Prop:=
 ∃v w' β',(s.run P w=.ok (.value v) w'\/(s.run P w=.ok .skip w'/\v=undef))/\aD w' (Av F h' β') β' h' v p/\aZ w' F β' h'/\dN w h β w' h' β'/\(lv<=1->dz w w')
theorem Aa.o{lv:Nat}{s:Sem Value}{p:PV}{h':ab}(x:Aa P lv w F β h s p h'):ud P lv w F β h (do pure (.value (<-s))) p h':=by
 obtain⟨v,w',β',h1,h2,h3,h4⟩:=x;exact⟨v,w',β',.inl (by simp only[Sem.run_bind,h1,Result.andThen_ok,Sem.run_pure]),h2,h3,h4⟩
theorem fj{lv:Nat}(H:aZ w F β h){s:Sem Value}{p:PV}(x:∃u,s.run P w=.ok u w/\aD w (Av F h β) β h u p):ud P lv w F β h (do pure (.value (<-s))) p h:=by
 obtain⟨u,h1,h2⟩:=x;exact(Aa.still H h1 h2).o
theorem dA{α:Type}{x:Option α}{h:ab}{p:α}{h':ab}(e:x.map (·,h)=some (p,h')):x=some p/\h'=h:=by
 cases x with
 |none=>cases e
 |some y=>simp at e;exact⟨by rw[e.1],e.2.symm⟩
theorem DJ(H:aZ w F β h){a:Act}{ρ:Nat->PV}(R:gM w (Av F h β) β h a ρ){lv:Nat}{o:Oper}{p:PV}{h':ab}(hc:∀c,o.op≠.call c)(e:az P lv o.op ρ h=some (p,h')):
  ud P lv w F β h (execOp a.eval o) p h':=by
 obtain⟨dst,op,type,pos,after,guard⟩:=o;simp only at e hc ⊢
 cases op <;>simp only[az]at e <;>simp only[execOp]
 case move x=>
  obtain⟨rfl,rfl⟩:=ZG (Zu e);exact⟨_,w,β,.inl rfl,R.ev x,H,dN.refl w h β,λ_=>dz.refl w⟩
 case assign x=>
  obtain⟨rfl,rfl⟩:=ZG (Zu e);exact⟨_,w,β,.inl rfl,R.ev x,H,dN.refl w h β,λ_=>dz.refl w⟩
 case pick c x y=>
  split at e
  ·rename_i t ht
   obtain⟨rfl,rfl⟩:=ZG (Zu e);have hb:=R.ev c;rw[ht]at hb;have:=hb.ga;refine⟨if t then a.eval x else a.eval y,w,β,.inl ?_,?_,H,dN.refl w h β,λ_=>dz.refl w⟩
   ·simp only[this,asBool,Sem.run_bind,Sem.run_pure,Result.andThen_ok]
   ·cases t
    ·exact R.ev y
    ·exact R.ev x
  ·cases e
 case alloc t=>
  split at e
  ·rename_i z hz
   split at e
   ·rename_i Df
    obtain⟨rfl,rfl⟩:=ZG (Zu e);exact(Ic H t hz Df.2.1 Df.2.2).o
   ·cases e
  ·cases e
 case box t x=>
  split at e
  ·rename_i Df
   obtain⟨rfl,rfl⟩:=ZG (Zu e);exact(Gh H t (R.ev x) Df.2.1 Df.2.2).o
  ·cases e
 case build t ps=>
  obtain⟨e1,rfl⟩:=dA e;exact fj H (Ik (R.parts ps) e1)
 case buildSlice t n ps=>exact(wZ H (R.parts ps) e).o
 case load t x=>
  obtain⟨e1,rfl⟩:=dA e;exact fj H (CJ H (R.ev x) e1)
 case store t x y=>
  split at e
  ·rename_i Dk
   cases hs:gC P h t (Pm.ev ρ x) (Pm.ev ρ y)with
   |none=>rw[hs]at e;simp at e
   |some h2=>
    rw[hs]at e;simp at e;obtain⟨rfl,rfl⟩:=e;obtain⟨w',β',r1,r2,r3⟩:=Ib H (R.ev x) (R.ev y) hs;exact⟨undef,w',β',.inr ⟨by simp only[Sem.run_bind,r1,Result.andThen_ok,Sem.run_pure],rfl⟩,.undef,r2,r3,λhh=>by omega⟩
  ·cases e
 case nilCheck x=>
  have hx:=R.ev x;generalize a.eval x=v at hx ⊢
  split at e
  ·rename_i id ep i oo hp
   obtain⟨rfl,rfl⟩:=ZG (Zu e);rw[hp]at hx
   cases hx with
   |val hs=>cases hs
   |ptr _ _ _ _ _ oo bc h0 h1 h2 h3 h4 h5=>
    obtain⟨ad,rfl⟩:=h0;exact⟨_,w,β,.inl rfl,.ptr _ _ _ _ _ oo bc ⟨_,rfl⟩ h1 h2 h3 h4 h5,H,dN.refl w h β,λ_=>dz.refl w⟩
  ·rename_i cs hp
   obtain⟨rfl,rfl⟩:=ZG (Zu e);rw[hp]at hx;have hs:=hx.rO
   cases hs with
   |eC=>exact⟨_,w,β,.inl rfl,hx,H,dN.refl w h β,λ_=>dz.refl w⟩
  ·rename_i f cs hp
   obtain⟨rfl,rfl⟩:=ZG (Zu e);rw[hp]at hx;obtain⟨vs,rfl,_⟩:=hx.DI;exact⟨_,w,β,.inl rfl,hx,H,dN.refl w h β,λ_=>dz.refl w⟩
  ·cases e
 case binOp op t x y yt=>
  obtain⟨e1,rfl⟩:=dA e;exact fj H (OK (R.ev x) (R.ev y) e1)
 case unOp op t x=>
  obtain⟨e1,rfl⟩:=dA e;exact fj H (S9 (R.ev x) e1)
 case convert s d x=>
  obtain⟨e1,rfl⟩:=dA e;exact fj H (LC (R.ev x) e1)
 case makeFunc fn first da=>
  cases fn <;>simp only at e <;>try(cases e;done)
  rename_i f
  split at e
  ·rename_i hf
   obtain⟨rfl,rfl⟩:=ZG (Zu e);obtain rfl:first= #[]:=by simpa using hf
   obtain⟨l1,l2⟩:=R.Jm da.toList;refine(Aa.still H (v:=.func (.func f) #[] (da.toList.map a.eval).toArray) ?_ (.fn f _ _ l1 l2)).o;have:da.map a.eval=(da.toList.map a.eval).toArray:=by apply aaR;simp
   simp[Instr.makeFunc,this]
  ·obtain⟨rfl,rfl⟩:=ZG (Zu e);obtain⟨l1,l2⟩:=R.Jm (first.toList++da.toList);refine(Aa.still H (v:=.func (.func f) (((first.toList++da.toList).map a.eval).take first.size).toArray (((first.toList++da.toList).map a.eval).drop first.size).toArray) ?_ (.mR f first.size _ _ l1 l2)).o;have e1:first.map a.eval=(((first.toList++da.toList).map a.eval).take first.size).toArray:=by apply aaR;simp
   have e2:da.map a.eval=(((first.toList++da.toList).map a.eval).drop first.size).toArray:=by apply aaR;simp
   simp only[Instr.makeFunc,e1,e2];rfl
 case makeSlice t l c=>exact(Lz H (R.ev l) (R.ev c) e).o
 case slice t x lo hi mx=>
  obtain⟨e1,rfl⟩:=dA e;exact fj H (Ih H (R.ev x) (R.W4 lo) (R.W4 hi) (R.W4 mx) e1)
 case fieldAddr s x f=>
  obtain⟨e1,rfl⟩:=dA e;exact fj H (ye H (R.ev x) e1)
 case field s x f=>
  obtain⟨e1,rfl⟩:=dA e;exact fj H (H9 (R.ev x) e1)
 case indexAddr t x ix=>
  obtain⟨e1,rfl⟩:=dA e;exact fj H (yf H (R.ev x) (R.ev ix) e1)
 case index t x ix=>
  obtain⟨e1,rfl⟩:=dA e;exact fj H (Ia (R.ev x) (R.ev ix) e1)
 case makeMap t r=>exact(Cx H (R.W4 r) e).o
 case lookup t x k ok=>
  obtain⟨e1,rfl⟩:=dA e;exact fj H (EJ H (R.ev x) (R.ev k) e1)
 case mapUpdate t m k x=>
  split at e
  ·rename_i Dk
   cases hs:mU P h t (Pm.ev ρ m) (Pm.ev ρ k) (Pm.ev ρ x)with
   |none=>rw[hs]at e;simp at e
   |some h2=>
    rw[hs]at e;simp at e;obtain⟨rfl,rfl⟩:=e;obtain⟨w',β',r1,r2,r3⟩:=wK H (R.ev m) (R.ev k) (R.ev x) hs;exact⟨undef,w',β',.inr ⟨by simp only[Sem.run_bind,r1,Result.andThen_ok,Sem.run_pure],rfl⟩,.undef,r2,r3,λhh=>by omega⟩
  ·cases e
 case insert t m k x=>
  split at e
  ·rename_i Dk
   cases hs:mU P h t (Pm.ev ρ m) (Pm.ev ρ k) (Pm.ev ρ x)with
   |none=>rw[hs]at e;simp at e
   |some h2=>
    rw[hs]at e;simp at e;obtain⟨rfl,rfl⟩:=e;obtain⟨w',β',r1,r2,r3⟩:=wK H (R.ev m) (R.ev k) (R.ev x) hs;exact⟨undef,w',β',.inr ⟨by simp only[Sem.run_bind,r1,Result.andThen_ok,Sem.run_pure],rfl⟩,.undef,r2,r3,λhh=>by omega⟩
  ·cases e
 case extract x i=>
  split at e
  ·rename_i vs hv
   split at e
   ·rename_i v hi
    obtain⟨rfl,rfl⟩:=ZG (Zu e);have hx:=R.ev x;rw[hv]at hx;obtain⟨us,hu,hl,hr⟩:=hx.uw;have hj:=ag hi;have:=hr i hj;have e2:vs.getD i .any=v:=by simp[List.getD,hi]
    rw[e2]at this;refine fj H ⟨us.getD i Go.undef,?_,this⟩;rw[hu];have:i<us.length:=by omega
    simp[Instr.extract,this,List.getD]
   ·cases e
  ·cases e
 case call c=>exact absurd rfl (hc c)
 all_goals cases e
theorem Bn(H:aZ w F β h){a:Act}{ρ:Nat->PV}(R:gM w (Av F h β) β h a ρ){lv:Nat}{b:Builtin}{ts:Array TypeId}{ty:TypeId}{cb:Array Bool}{xs:Array Operand}{p:PV}{h':ab}
  (e:bo P lv h b ts.toList (xs.toList.map (Pm.ev ρ))=some (p,h')):ud P lv w F β h (builtin b ts ty cb (xs.map a.eval)) p h':=by
 have V8:∀{t:TypeId} {r:List TypeId},ts.toList=t::r->ts[0]?=some t:=λhh=>by rw[<-Z1,hh];rfl
 have ts1:∀{t t':TypeId} {r:List TypeId},ts.toList=t::t'::r->ts[1]?=some t':=λhh=>by rw[<-Z1,hh];rfl
 have V9:∀{p:PV} {r:List PV},xs.toList.map (Pm.ev ρ)=p::r->∃v,(xs.map a.eval)[0]?=some v/\aD w (Av F h β) β h v p:=λ{p r} hh=>by
  cases hx:xs.toList with
  |nil=>rw[hx]at hh;simp at hh
  |cons y ys=>
   rw[hx]at hh;simp at hh;refine⟨a.eval y,?_,by rw[<-hh.1];exact R.ev y⟩;rw[<-Z1,Array.toList_map,hx];rfl
 have xs1:∀{p q:PV} {r:List PV},xs.toList.map (Pm.ev ρ)=p::q::r->∃v,(xs.map a.eval)[1]?=some v/\aD w (Av F h β) β h v q:=λ{p q r} hh=>by
  cases hx:xs.toList with
  |nil=>rw[hx]at hh;simp at hh
  |cons y ys=>
   cases hy:ys with
   |nil=>rw[hx,hy]at hh;simp at hh
   |cons z zs=>
    rw[hx,hy]at hh;simp at hh;refine⟨a.eval z,?_,by rw[<-hh.2.1];exact R.ev z⟩;rw[<-Z1,Array.toList_map,hx,hy];rfl
 have earr:xs.map a.eval=(xs.toList.map a.eval).toArray:=by apply aaR;simp
 unfold bo at e
 split at e
 ·rename_i t r x r' h1 h2
  obtain⟨e1,rfl⟩:=dA e;obtain⟨v,v1,v2⟩:=V9 h2;refine fj H ?_
  cases hx:xs.toList with
  |nil=>rw[hx]at h2;simp at h2
  |cons y ys=>
   rw[earr,hx,ZN];rw[hx]at h2;simp at h2;have:=R.ev y;rw[h2.1]at this;exact OG H (V8 h1) this e1
 ·rename_i st xt r s x r' h1 h2
  obtain⟨v,v1,v2⟩:=V9 h2;obtain⟨u,u1,u2⟩:=xs1 h2;exact(EP H (V8 h1) (ts1 h1) v1 u1 v2 u2 e).o
 ·rename_i dt r d x r' h1 h2
  obtain⟨v,v1,v2⟩:=V9 h2;obtain⟨u,u1,u2⟩:=xs1 h2;exact(Ly H (V8 h1) v1 u1 v2 u2 e).o
 ·rename_i t r x r' h1 h2
  obtain⟨v,v1,v2⟩:=V9 h2;exact(Ie H (V8 h1) v1 v2 e).o
 ·rename_i t r x r' h1 h2
  obtain⟨e1,rfl⟩:=dA e;obtain⟨v,v1,v2⟩:=V9 h2;refine fj H ?_;unfold Qg at e1
  split at e1
  ·rename_i el es hu
   obtain rfl:=Zu e1;obtain⟨ad,cap,rfl,_,hf⟩:=v2.fp.jN;obtain rfl:=hf rfl;exact⟨_,by simp[Builtin.cap_,V8 h1,v1,bH hu,goInt],.val (.int _ _)⟩
  ·cases e1
 ·rename_i tt xx
  obtain⟨e1,rfl⟩:=dA e;rw[earr];exact fj H (OI (R.Jm xs.toList) e1)
 ·rename_i tt xx
  obtain⟨e1,rfl⟩:=dA e;rw[earr];exact fj H (OJ (R.Jm xs.toList) e1)
 ·cases e
theorem cE(cs:List PV):aU cs=cs.map b9:=by
 induction cs with
 |nil=>rfl
 |cons c r ih=>simp[aU,ih]
theorem bt(cs:List PV):ar cs=cs.all aW:=by
 induction cs with
 |nil=>rfl
 |cons c r ih=>simp[ar,ih]
theorem A5(cs:List PV):nT cs=cs.all dP:=by
 induction cs with
 |nil=>rfl
 |cons c r ih=>simp[nT,ih]
theorem fE(cs:List PV)(j:Nat):(aU cs).getD j .any=b9 (cs.getD j .any):=by
 rw[cE];simp only[List.getD,ZP]
 cases cs[j]? <;>simp[b9]
theorem yp(e:PV):Pm.cells (b9 e)=aU (Pm.cells e):=by
 cases e <;>simp[b9,Pm.cells,aU]
theorem bY.b9{A:Nat->Prop}{v:Value}{p:PV}(r:bY w A v p):bY w A v (Pm.b9 p):=by
 induction r with
 |int k n=>exact .int k n
 |bool b=>exact .bool b
 |str s=>exact .str s
 |dW=>exact .dW
 |aG=>exact .aG
 |gf=>exact .gf
 |agg vs cs hl _ ih=>exact .agg vs _ (by simp[cE,hl]) (λj hj=>by rw[fE];exact ih j (by simpa[cE]using hj))
 |cm vs cs hl _ ih=>exact .cm vs _ (by simp[cE,hl]) (λj hj=>by rw[fE];exact ih j (by simpa[cE]using hj))
 |fn f vs cs hl _ ih=>exact .fn f vs _ (by simp[cE,hl]) (λj hj=>by rw[fE];exact ih j (by simpa[cE]using hj))
 |mR f k vs cs hl _ ih=>exact .mR f k vs _ (by simp[cE,hl]) (λj hj=>by rw[fE];exact ih j (by simpa[cE]using hj))
 |gA a cap full hf=>exact .gA a cap false (λhh=>by cases hh)
 |aa b off cap sz full es oh h1 h2 h3 h4 h5 h6 h7 _ ih=>
  have hl:(aU es).length=es.length:=by simp[cE]
  have:=bY.aa (w:=w) (A:=A) b off cap sz false (aU es) oh (by intro hn;rw[hn]at hl;exact h1 (ZL hl.symm)) (by omega) (λhh=>by cases hh) h4 h5
   (λi hi=>by rw[fE,yp,cE,aaB];exact h6 i (by omega)) (λi j hi hj=>h7 i j (by omega) hj)
   (λi j hi hj=>by rw[fE,yp,fE];exact ih i j (by omega) hj)
  rw[hl]at this;exact this
 |eC b off cs oh h1 h2 h3 _ ih=>
  have hl:(aU cs).length=cs.length:=by simp[cE]
  exact .eC b off (aU cs) oh (by intro hn;rw[hn]at hl;exact h1 (ZL hl.symm)) h2 (λj hj=>h3 j (by omega)) (λj hj=>by rw[fE];exact ih j (by omega))
theorem fk{f:PV->Bool}{cs:List PV}(h:cs.all f=true){j:Nat}(hj:j<cs.length):f (cs.getD j .any)=true:=by
 have:cs.getD j .any=cs[j]:=by simp[List.getD,hj]
 rw[this];exact Zw.1 h _ (Z2 hj)
theorem bY.dP{A A':Nat->Prop}{w':World}{v:Value}{p:PV}(r:bY w A v p)(hs:Pm.dP p=true):bY w' A' v p:=by
 induction r with
 |int k n=>exact .int k n
 |bool b=>exact .bool b
 |str s=>exact .str s
 |dW=>exact .dW
 |aG=>exact .aG
 |gf=>exact .gf
 |agg vs cs hl _ ih=>simp[Pm.dP,A5]at hs;exact .agg vs _ hl (λj hj=>ih j hj (fk (by simpa using hs) hj))
 |cm vs cs hl _ ih=>simp[Pm.dP,A5]at hs;exact .cm vs _ hl (λj hj=>ih j hj (fk (by simpa using hs) hj))
 |fn f vs cs hl _ ih=>simp[Pm.dP]at hs
 |mR f k vs cs hl _ ih=>simp[Pm.dP]at hs
 |gA a cap full hf=>simp[Pm.dP]at hs
 |aa=>simp[Pm.dP]at hs
 |eC=>simp[Pm.dP]at hs
theorem Fl(H:aZ w F β h){A':Nat->Prop}(hA:∀b,b<w.heap.size->¬Av F h β b->¬A' b){v:Value}{p p':PV}(hv:aD w (Av F h β) β h v p)(e:qi h p=some p')
  (hM:∀(id:Nat) (o:au) (bc:Nat×Nat),id∈xQ p->h[id]?=some o->β[id]?=some bc->(o.mu=.m\/o.mu=.f)->¬A' bc.1):bY w A' v p':=by
 unfold qi at e
 split at e
 ·rename_i id ep off len
  split at e
  ·rename_i o ho
   split at e
   ·rename_i hc
    obtain⟨hle,GG,jf⟩:=hc;obtain rfl:=Zu e;obtain⟨e1,e2,e3⟩:=getM_some ho;obtain⟨bc,hb⟩:=dg H.len e1;obtain⟨h1,h2,h3⟩:=hv.dG;obtain⟨cap,rfl,c2⟩:=h3 o bc e1 hb e3 e2 hle;obtain⟨T,rY,k1,k2,k3,k4,k5⟩:=(H.obj id o bc e1 hb e3).c (h2 o e1).2;have hlen:((o.es.drop off).take len).length=len:=by simp;omega
    by_cases Fm:len=0
    ·subst Fm;simp;exact .gA _ _ _ (λhh=>by cases hh)
    ·have at_i:∀i,i<len->∃e,((o.es.drop off).take len).getD i .any=e/\o.es[off+i]?=some e/\aW e=true:=λi hi=>by
      have g1:((o.es.drop off).take len)[i]?=some (o.es[off+i]'(by omega)):=by
       rw[ZO,if_pos hi,Z7];exact Zy (by omega)
      refine⟨o.es[off+i]'(by omega),by rw[ZR,g1];rfl,Zy (by omega),?_⟩;rw[bt]at jf;exact Zw.1 jf _ (ZK g1)
     have GH:∀(e:PV),aW e=true->∀q∈Pm.cells e,aW q=true:=by
      intro e he q hq
      cases e <;>first
       |(simp only[Pm.cells,ZY]at hq;subst hq;exact he)
       |(simp only[aW,bt]at he;exact Zw.1 he q hq)
     have j0:∀i j,i<len->j<o.bB->∃u,w.cell? ⟨bc.1,off * o.bB+(i * o.bB+j),none⟩=some u/\bY w A' u ((Pm.cells (((o.es.drop off).take len).getD i .any)).getD j .any):=by
      intro i j hi hj
      obtain⟨el,g1,g2,g3⟩:=at_i i hi;obtain⟨n1,n2⟩:=k5 _ el g2;have hq:=Zy (show j<(Pm.cells el).length by omega);obtain⟨u,m1,m2⟩:=n2 j _ hq;refine⟨u,?_,?_⟩
      ·rw[cell_of_row w bc.1 _ rY T (0,0) k1,<-aaV,<-aag];exact m1
      ·rw[g1];have e2:(Pm.cells el).getD j .any=(Pm.cells el)[j]'(by omega):=by simp[List.getD,hq]
       rw[e2];exact(m2.GI (GH el g3 _ (Z2 _))).mono (λ_ _ _=>rfl) hA
     have:=bY.aa (w:=w) (A:=A') bc.1 (off * o.bB) cap o.bB false ((o.es.drop off).take len) (λi j=>(w.cell? ⟨bc.1,off * o.bB+(i * o.bB+j),none⟩).getD Go.undef)
      (by intro hn;rw[hn]at hlen;simp at hlen;omega) (by rw[hlen];omega) (λhh=>by cases hh) (hM id o bc (by simp[xQ]) e1 hb GG) k4
      (λi hi=>by rw[hlen]at hi;obtain⟨el,g1,g2,g3⟩:=at_i i hi;rw[g1];exact(k5 _ el g2).1)
      (λi j hi hj=>by rw[hlen]at hi;obtain⟨u,m1,m2⟩:=j0 i j hi hj;rw[m1];rfl)
      (λi j hi hj=>by rw[hlen]at hi;obtain⟨u,m1,m2⟩:=j0 i j hi hj;rw[m1];exact m2)
     rw[hlen]at this;exact this
   ·cases e
  ·cases e
 ·split at e
  ·rename_i A6
   obtain rfl:=Zu e;exact(hv.GI A6).mono (λ_ _ _=>rfl) hA
  ·cases e
def Qo(p:PV):List Nat:=(Pm.cells p).flatMap xQ
theorem Jh{cs r:List PV}(e:nW h cs=some r):r.length=cs.length/\∀j,j<cs.length->qi h (cs.getD j .any)=some (r.getD j .any):=by
 induction cs generalizing r with
 |nil=>simp[nW]at e;subst e;exact⟨rfl,λj hj=>by simp at hj⟩
 |cons c cs ih=>
  simp only[nW]at e
  split at e
  ·rename_i c' r' h1 h2
   obtain rfl:=Zu e;obtain⟨l1,l2⟩:=ih h2;refine⟨by simp[l1],λj hj=>?_⟩
   cases j with
   |zero=>simpa using h1
   |succ j=>simpa using l2 j (by simpa using hj)
  ·cases e
theorem A7{cs r:List PV}(e:iK h cs=some r):r.length=cs.length/\∀j,j<cs.length->ly h (cs.getD j .any)=some (r.getD j .any):=by
 induction cs generalizing r with
 |nil=>simp[iK]at e;subst e;exact⟨rfl,λj hj=>by simp at hj⟩
 |cons c cs ih=>
  simp only[iK]at e
  split at e
  ·rename_i c' r' h1 h2
   obtain rfl:=Zu e;obtain⟨l1,l2⟩:=ih h2;refine⟨by simp[l1],λj hj=>?_⟩
   cases j with
   |zero=>simpa using h1
   |succ j=>simpa using l2 j (by simpa using hj)
  ·cases e
theorem Ji{cs:List PV}{j:Nat}(hj:j<cs.length){f:PV->List Nat}{id:Nat}(hm:id∈f (cs.getD j .any)):id∈cs.flatMap f:=by
 have:cs.getD j .any=cs[j]:=by simp[List.getD,hj]
 rw[this]at hm;exact aaz.2 ⟨_,Z2 hj,hm⟩
theorem uv(H:aZ w F β h){A':Nat->Prop}(hA:∀b,b<w.heap.size->¬Av F h β b->¬A' b){v:Value}{p p':PV}(hv:aD w (Av F h β) β h v p)(e:ly h p=some p')
  (hM:∀(id:Nat) (o:au) (bc:Nat×Nat),id∈Qo p->h[id]?=some o->β[id]?=some bc->(o.mu=.m\/o.mu=.f)->¬A' bc.1):bY w A' v p':=by
 unfold ly at e
 split at e
 ·rename_i cs
  cases hr:nW h cs with
  |none=>rw[hr]at e;simp at e
  |some r=>
   rw[hr]at e;simp at e;subst e;obtain⟨l1,l2⟩:=Jh hr;obtain⟨vs,rfl,hl,hh⟩:=hv.q8;exact .agg vs r (by omega) (λj hj=>Fl H hA (hh j (by omega)) (l2 j (by omega)) (λid o bc hm=>hM id o bc (Ji (cs:=cs) (by omega) hm)))
 ·rename_i MW
  have hc:Pm.cells p=[p]:=by cases p <;>first |rfl |exact absurd rfl (MW _)
  exact Fl H hA hv e (λid o bc hm=>hM id o bc (by simp[Qo,hc,hm]))
theorem Qp(H:aZ w F β h){A':Nat->Prop}(hA:∀b,b<w.heap.size->¬Av F h β b->¬A' b){v:Value}{p p':PV}(hv:aD w (Av F h β) β h v p)(e:rb h p=some p')
  (hM:∀(id:Nat) (o:au) (bc:Nat×Nat),h[id]?=some o->β[id]?=some bc->(o.mu=.m\/o.mu=.f)->¬A' bc.1):bY w A' v p':=by
 unfold rb at e
 split at e
 ·rename_i cs
  cases hr:iK h cs with
  |none=>rw[hr]at e;simp at e
  |some r=>
   rw[hr]at e;simp at e;subst e;obtain⟨l1,l2⟩:=A7 hr;obtain⟨vs,rfl,hl,hh⟩:=hv.uw;exact .cm vs r (by omega) (λj hj=>uv H hA (hh j (by omega)) (l2 j (by omega)) (λid o bc _=>hM id o bc))
 ·exact uv H hA hv e (λid o bc _=>hM id o bc)
theorem kc{f:PV->Option PV}:∀{cs r:List PV},fT f cs=some r->r.length=cs.length/\∀j,j<cs.length->f (cs.getD j .any)=some (r.getD j .any)
 |[],r,e=>by simp[fT]at e;subst e;exact⟨rfl,λj hj=>by simp at hj⟩
 |c::cs,r,e=>by
  simp only[fT]at e
  split at e
  ·rename_i c' r' h1 h2
   obtain rfl:=Zu e;obtain⟨l1,l2⟩:=kc h2;refine⟨by simp[l1],λj hj=>?_⟩
   cases j with
   |zero=>simpa using h1
   |succ j=>simpa using l2 j (by simpa using hj)
  ·cases e
theorem MX{n:Nat}{e e':PV}(MW:∀cs,e≠.agg cs)(he:pz n h e=some e'):Pm.cells e=[e]/\Pm.cells e'=[e']:=by
 have hc:Pm.cells e=[e]:=by cases e <;>first |rfl |exact absurd rfl (MW _)
 refine⟨hc,?_⟩
 cases n with
 |zero=>
  simp only[pz]at he
  split at he
  ·obtain rfl:=Zu he;exact hc
  ·cases he
 |succ n=>
  unfold pz at he
  split at he
  ·split at he
   ·split at he
    ·obtain⟨r,hr,rfl⟩:=aai.1 he;rfl
    ·cases he
   ·cases he
  ·exact absurd rfl (MW _)
  ·obtain⟨r,hr,rfl⟩:=aai.1 he;rfl
  ·split at he
   ·obtain rfl:=Zu he;exact hc
   ·cases he
theorem GJ{n:Nat}{e e':PV}(he:pz n h e=some e'):(Pm.cells e').length=(Pm.cells e).length/\∀j,j<(Pm.cells e).length->∃m,m<=n/\pz m h ((Pm.cells e).getD j .any)=some ((Pm.cells e').getD j .any):=by
 by_cases MW:∀cs,e≠.agg cs
 ·obtain⟨c1,c2⟩:=MX MW he;rw[c1,c2];refine⟨rfl,λj hj=>?_⟩;obtain rfl:j=0:=by simp at hj;omega
  exact⟨n,Zz _,by simpa using he⟩
 ·obtain⟨cs,rfl⟩:∃cs,e=.agg cs:=abr λhh=>MW λcs hc=>hh ⟨cs,hc⟩
  cases n with
  |zero=>
   simp only[pz]at he
   split at he
   ·rename_i hv
    obtain rfl:=Zu he;refine⟨rfl,λj hj=>⟨0,Zz _,?_⟩⟩;have A6:cs.all aW=true:=by rw[<-bt];simpa[aW]using hv
    have hh:aW ((Pm.cells (.agg cs)).getD j .any)=true:=fk A6 hj;simp only[pz];rw[if_pos hh]
   ·cases he
  |succ n=>
   simp only[pz]at he;obtain⟨r,hr,rfl⟩:=aai.1 he;obtain⟨l1,l2⟩:=kc hr;exact⟨l1,λj hj=>⟨n,by omega,l2 j hj⟩⟩
theorem Fo(H:aZ w F β h){A':Nat->Prop}(hA:∀b,b<w.heap.size->¬Av F h β b->¬A' b)
  (hM:∀(id:Nat) (o:au) (bc:Nat×Nat),h[id]?=some o->β[id]?=some bc->(o.mu=.m\/o.mu=.f)->¬A' bc.1):∀(n:Nat) {v:Value} {p p':PV},aD w (Av F h β) β h v p->pz n h p=some p'->bY w A' v p':=by
 intro n
 induction n using Nat.strongRecOn with
 |ind n ih=>
  intro v p p' hv e
  have vl:aW p=true->bY w A' v p:=λhp=>(hv.GI hp).mono (λ_ _ _=>rfl) hA
  cases n with
  |zero=>
   simp only[pz]at e
   split at e
   ·rename_i hp;obtain rfl:=Zu e;exact vl hp
   ·cases e
  |succ n=>
   unfold pz at e
   split at e
   ·rename_i id ep off len
    split at e
    ·rename_i o ho
     split at e
     ·rename_i hc
      obtain⟨hle,GG⟩:=hc;obtain⟨es,iP,rfl⟩:=aai.1 e;obtain⟨e1,e2,e3⟩:=getM_some ho;obtain⟨bc,hb⟩:=dg H.len e1;obtain⟨h1,h2,h3⟩:=hv.dG;obtain⟨cap,rfl,c2⟩:=h3 o bc e1 hb e3 e2 hle;obtain⟨T,rY,k1,k2,k3,k4,k5⟩:=(H.obj id o bc e1 hb e3).c (h2 o e1).2;obtain⟨l1,l2⟩:=kc iP;have Pk:((o.es.drop off).take len).length=len:=by simp;omega
      have hlen:es.length=len:=by omega
      by_cases Fm:len=0
      ·subst Fm;obtain rfl:=List.length_eq_zero_iff.1 hlen;exact .gA _ _ _ (λhh=>by cases hh)
      ·have at_i:∀i,i<len->∃el,o.es[off+i]?=some el/\pz n h el=some (es.getD i .any):=λi hi=>by
        have g1:((o.es.drop off).take len)[i]?=some (o.es[off+i]'(by omega)):=by
         rw[ZO,if_pos hi,Z7];exact Zy (by omega)
        have g2:=l2 i (by omega);rw[ZR,g1]at g2;exact⟨_,Zy (by omega),g2⟩
       have j0:∀i j,i<len->j<o.bB->(Pm.cells (es.getD i .any)).length=o.bB/\∃u,w.cell? ⟨bc.1,off * o.bB+(i * o.bB+j),none⟩=some u/\bY w A' u ((Pm.cells (es.getD i .any)).getD j .any):=by
        intro i j hi hj
        obtain⟨el,g1,g2⟩:=at_i i hi;obtain⟨n1,n2⟩:=k5 _ el g1;obtain⟨m1,m2⟩:=GJ g2;have hq:=Zy (show j<(Pm.cells el).length by omega);obtain⟨u,q1,q2⟩:=n2 j _ hq;obtain⟨m,hm,q3⟩:=m2 j (by omega);rw[ZR,hq]at q3;refine⟨by omega,u,?_,ih m (by omega) q2 q3⟩;rw[cell_of_row w bc.1 _ rY T (0,0) k1,<-aaV,<-aag];exact q1
       have:=bY.aa (w:=w) (A:=A') bc.1 (off * o.bB) cap o.bB false es (λi j=>(w.cell? ⟨bc.1,off * o.bB+(i * o.bB+j),none⟩).getD Go.undef)
        (by intro hn;rw[hn]at hlen;simp at hlen;omega) (by rw[hlen];omega) (λhh=>by cases hh) (hM id o bc e1 hb GG) k4
        (λi hi=>(j0 i 0 (by omega) k4).1)
        (λi j hi hj=>by obtain⟨_,u,m1,m2⟩:=j0 i j (by omega) hj;rw[m1];rfl)
        (λi j hi hj=>by obtain⟨_,u,m1,m2⟩:=j0 i j (by omega) hj;rw[m1];exact m2)
       rw[hlen]at this;exact this
     ·cases e
    ·cases e
   ·rename_i cs
    obtain⟨r,hr,rfl⟩:=aai.1 e;obtain⟨l1,l2⟩:=kc hr;obtain⟨vs,rfl,hl,hh⟩:=hv.q8;exact .agg vs r (by omega) (λj hj=>ih n (by omega) (hh j (by omega)) (l2 j (by omega)))
   ·rename_i cs
    obtain⟨r,hr,rfl⟩:=aai.1 e;obtain⟨l1,l2⟩:=kc hr;obtain⟨vs,rfl,hl,hh⟩:=hv.uw;exact .cm vs r (by omega) (λj hj=>ih n (by omega) (hh j (by omega)) (l2 j (by omega)))
   ·split at e
    ·rename_i hp;obtain rfl:=Zu e;exact vl hp
    ·cases e
theorem Fq(H:aZ w F β h){A':Nat->Prop}(hA:∀b,b<w.heap.size->¬Av F h β b->¬A' b){v:Value}{p p':PV}(hv:aD w (Av F h β) β h v p)(e:yl h p=some p')
  (hM:∀(id:Nat) (o:au) (bc:Nat×Nat),h[id]?=some o->β[id]?=some bc->(o.mu=.m\/o.mu=.f)->¬A' bc.1):bY w A' v p':=by
 unfold yl at e
 split at e
 ·rename_i r hr
  obtain rfl:=Zu e;exact Qp H hA hv hr hM
 ·exact Fo H hA hM 8 hv e
theorem aZ.empty(w:World)(F:Nat->Prop)(hF:∀b,F b->b<w.heap.size):aZ w F [] [] where
 len:=rfl
 fin:=hF
 obj id o bc e:=by simp at e
 hC id dS o o' bc c8 _ e:=by simp at e
 out id o bc e:=by simp at e
theorem u7(b:Nat):¬Mb [] [] b:=by rintro⟨id,o,bc,e,_⟩;simp at e
def lW(P:Program)(lv:Nat)(w:World)(F:Nat->Prop)(β:List (Nat×Nat))(h:ab)(f:FuncId)(vs:List Value)(r:PV)(h':ab):Prop:=
 Calls P f vs.toArray w λe w'=>∃v β',e=.returned v/\aD w' (Av F h' β') β' h' v r/\aZ w' F β' h'/\dN w h β w' h' β'/\(lv<=1->dz w w')
def fm(P:Program)(f:FuncId)(g:List PV->ab->Option (PV×ab)):Prop:=
 ∀args h r h',g args h=some (r,h')->∀w F β vs,aZ w F β h->L2 (aD w (Av F h β) β h) vs args->lW P 2 w F β h f vs r h'
theorem aZ.j4(H:aZ w F β h){id:Nat}{h2:ab}(e:j4 h id=some h2):
  aZ w F β h2/\dN w h β w h2 β/\(∃o:au,h2[id]?=some o/\o.mu=.f)/\(∀(k:Nat) (o:au),h[k]?=some o->o.mu=.f->h2[k]?=some o):=by
 unfold Pm.j4 at e
 split at e
 ·rename_i o ho
  split at e
  ·rename_i hc
   obtain⟨hv,GG⟩:=hc;obtain rfl:=Zu e;have bT:=ag ho;have mj:(h.set id {o with mu:=.f})[id]?=some {o with mu:=.f}:=by simp[bT]
   have jL:∀k,k≠id->(h.set id {o with mu:=.f})[k]?=h[k]?:=λk hk=>ZC (aak hk)
   have hx:o.mu≠.x:=by rcases GG with h |h <;>rw[h] <;>simp
   have hs:dN w h β w (h.set id {o with mu:=.f}) β:=by
    refine⟨Zz _,by simp,λ_ _ _=>rfl,?_,?_,?_,rfl,rfl,rfl,Zz _⟩
    ·rintro b hb ⟨k,o',c',e1,e2,e3,rfl⟩
     by_cases hk:k=id
     ·subst hk;rw[mj]at e1;obtain rfl:=Zu e1;simp at e3
     ·rw[jL k hk]at e1;exact⟨k,o',c',e1,e2,e3,rfl⟩
    ·intro k o' c' e1 e2 e3
     by_cases hk:k=id
     ·subst hk;rw[ho]at e1;obtain rfl:=Zu e1;exact⟨_,c',mj,e2,by simp,⟨Zz _,λh=>h⟩,λ_=>⟨rfl,λ_=>rfl,rfl⟩⟩
     ·exact⟨o',c',by rw[jL k hk];exact e1,e2,e3,⟨Zz _,λh=>h⟩,λ_=>⟨rfl,λ_=>rfl,rfl⟩⟩
    ·intro k o' e1 e2
     refine⟨?_,rfl⟩
     by_cases hk:k=id
     ·subst hk;rw[ho]at e1;obtain rfl:=Zu e1;rw[mj];rcases GG with hm |hm
      ·exact absurd hm e2
      ·congr 1;cases o;simp at hm;subst hm;rfl
     ·rw[jL k hk];exact e1
   refine⟨⟨by simp[H.len],H.fin,?_,?_,?_⟩,hs,⟨_,mj,rfl⟩,?_⟩
   ·intro k o' c' e1 e2 e3
    by_cases hk:k=id
    ·subst hk;rw[mj]at e1;obtain rfl:=Zu e1;exact jU.mono hs rfl (H.obj k o c' ho e2 hx)
    ·rw[jL k hk]at e1;exact jU.mono hs rfl (H.obj k o' c' e1 e2 e3)
   ·intro k k' o1 o2 c1 c2 bI e1 e2 e3 e4 m1 m2
    have hk:k≠id:=by rintro rfl;rw[mj]at e1;obtain rfl:=Zu e1;simp at m1
    rw[jL k hk]at e1
    by_cases fR:k'=id
    ·subst fR;exact H.hC k k' o1 o c1 c2 bI e1 ho e3 e4 m1 hx
    ·rw[jL k' fR]at e2;exact H.hC k k' o1 o2 c1 c2 bI e1 e2 e3 e4 m1 m2
   ·intro k o' c' e1 e2 e3
    by_cases hk:k=id
    ·subst hk;exact H.out k o c' ho e2 GG
    ·rw[jL k hk]at e1;exact H.out k o' c' e1 e2 e3
   ·intro k o' e1 e2
    by_cases hk:k=id
    ·subst hk;rw[ho]at e1;obtain rfl:=Zu e1;rw[mj];congr 1;cases o;simp at e2;subst e2;rfl
    ·rw[jL k hk];exact e1
  ·cases e
 ·cases e
theorem aZ.fh:∀(ids:List Nat) {h h2:ab},aZ w F β h->fh h ids=some h2->
  aZ w F β h2/\dN w h β w h2 β/\(∀id∈ids,∃o:au,h2[id]?=some o/\o.mu=.f)/\(∀(k:Nat) (o:au),h[k]?=some o->o.mu=.f->h2[k]?=some o)
 |[],h,h2,H,e=>by
  simp[Pm.fh]at e;subst e;exact⟨H,dN.refl w h β,(λ_ hm=>by cases hm),(λ_ _ h1 _=>h1)⟩
 |id::r,h,h2,H,e=>by
  simp only[Pm.fh]at e
  split at e
  ·rename_i h1 he
   obtain⟨H1,S1,⟨o,o1,o2⟩,K1⟩:=H.j4 he;obtain⟨H2,S2,A2,K2⟩:=aZ.fh r H1 e;refine⟨H2,S1.trans S2,λk hk=>?_,λk o h3 h4=>K2 k o (K1 k o h3 h4) h4⟩;rcases ZF.1 hk with rfl |hk
   ·exact⟨o,K2 _ o o1 o2,o2⟩
   ·exact A2 k hk
  ·cases e
theorem GK{args:List PV}{j:Nat}(hj:j<args.length){id:Nat}(hm:id∈Qo (args.getD j .any)):id∈jJ args:=by
 have:args.getD j .any=args[j]:=by simp[List.getD,hj]
 rw[this]at hm;exact aaz.2 ⟨_,Z2 hj,hm⟩
theorem u9(H:aZ w F β h){id:Nat}{o:au}{bc:Nat×Nat}(e1:h[id]?=some o)(e2:β[id]?=some bc)(e3:o.mu=.f):¬Av F h β bc.1:=by
 rintro(hf |⟨k,o',c',f1,f2,f3,f4⟩)
 ·exact H.out id o bc e1 e2 (.inr e3) hf
 ·have bI:k≠id:=by
   rintro rfl;rw[e1]at f1;obtain rfl:=Zu f1;rw[e3]at f3;cases f3
  exact H.hC k id o' o c' bc bI f1 e1 f2 e2 f3 (by rw[e3];simp) f4
theorem tc{w':World}{h':ab}{β':List (Nat×Nat)}(s:dN w [] [] w' h' β'):dz w w':=
 ⟨s.size,λb hb=>s.aQ b hb (u7 b),s.os,s.tape,s.output,s.drawn⟩
theorem ml{f:FuncId}{run:List PV->ab->Option (PV×ab)}(S:fm P f run){A:Nat->Prop}(hA:∀b,A b->b<w.heap.size){args:List PV}{vs:List Value}(ha:L2 (bY w A) vs args)
  {r r':PV} {hc:ab} (e1:run (aU args) []=some (r,hc)) (e2:yl hc r=some r'):
  Calls P f vs.toArray w λe w'=>∃v,e=.returned v/\bY w' A v (b9 r')/\dz w w':=by
 have hl:(aU args).length=args.length:=by simp[cE]
 have Xi:∀b,Av A [] [] b↔A b:=λb=>⟨λh=>h.elim id (λh=>absurd h (u7 b)),.inl⟩
 have kG:L2 (aD w (Av A [] []) [] []) vs (aU args):=⟨by rw[hl];exact ha.1,λj hj=>by
  rw[fE];exact .val (((ha.2 j (by omega)).b9).ub (λb hb=>(Xi b).1 hb))⟩
 refine(S (aU args) [] r hc e1 w A [] vs (aZ.empty w A hA) kG).mono ?_;rintro e w' ⟨v,β',rfl,q1,q2,q3,_⟩;refine⟨v,rfl,?_,tc q3⟩;refine(Fq q2 (λb _ hb ha=>hb (.inl ha)) q1 e2 (λid o bc m1 m2 m3=>?_)).b9;rcases m3 with m3 |m3
 ·exact q2.out id o bc m1 m2 (.inl m3)
 ·exact q2.out id o bc m1 m2 (.inr m3)
mutual
theorem va:∀p:PV,dP p=true->dP (b9 p)=true
 | .agg cs,h=>by simp only[dP,b9]at h ⊢;exact qp cs h
 | .cm cs,h=>by simp only[dP,b9]at h ⊢;exact qp cs h
 | .int _ _,_=>rfl
 | .bool _,_=>rfl
 | .str _,_=>rfl
 | .dW,_=>rfl
 | .aG,_=>rfl
 | .gf,_=>rfl
 | .aa _ _,h=>by simp[dP]at h
 | .aj _ _ _ _,h=>by simp[dP]at h
 | .ptr _ _ _ _,h=>by simp[dP]at h
 | .cB _,h=>by simp[dP]at h
 | .eC _,h=>by simp[dP]at h
 | .fn _ _,h=>by simp[dP]at h
 | .mR _ _ _,h=>by simp[dP]at h
 | .undef,h=>by simp[dP]at h
 | .any,h=>by simp[dP]at h
theorem qp:∀cs:List PV,nT cs=true->nT (aU cs)=true
 |[],_=>rfl
 |c::r,h=>by
  simp only[nT,aU,ZD]at h ⊢;exact⟨va c h.1,qp r h.2⟩
end
theorem zM{run:gU}{f:FuncId}(S:fm P f (run f)){lv:Nat}{args:List PV}{r:PV}{h':ab}(e:dx run lv f args h=some (r,h'))(H:aZ w F β h){vs:List Value}
  (ha:L2 (aD w (Av F h β) β h) vs args):lW P lv w F β h f vs r h':=by
 unfold dx at e
 have done:∀{h2:ab} (H2:aZ w F β h2) (S2:dN w h β w h2 β) (p:PV),(Calls P f vs.toArray w λe w'=>∃v,e=.returned v/\bY w' (Av F h2 β) v p/\dz w w')->lW P lv w F β h f vs p h2:=by
  intro h2 H2 S2 p hc
  refine hc.mono ?_;rintro e w' ⟨v,rfl,q1,q2⟩;exact⟨v,β,rfl,.val q1,H2.Jj q2,S2.trans (q2.Pl h2 β),λ_=>q2⟩
 split at e
 ·rename_i hv
  split at e
  ·rename_i r0 hc h1
   split at e
   ·rename_i r1 h2
    obtain⟨rfl,rfl⟩:=ZG (Zu e);refine done H (dN.refl w h β) _ (ml (A:=Av F h β) S (λb hb=>Av.lt H hb) (args:=args) ⟨ha.1,λj hj=>?_⟩ h1 h2);rw[bt]at hv;exact(ha.2 j hj).GI (fk hv hj)
   ·cases e
  ·cases e
 ·split at e
  ·rename_i args' hr
   obtain⟨l1,l2⟩:=A7 hr
   split at e
   ·rename_i r0 hc h1
    split at e
    ·rename_i r1 h2
     have frozen:∀{h2:ab} (H2:aZ w F β h2) (S2:dN w h β w h2 β) (hf:∀id∈jJ args,∃o:au,h2[id]?=some o/\o.mu=.f),L2 (bY w (Av F h2 β)) vs args':=by
      intro h2 H2 S2 hf
      refine⟨by rw[ha.1,l1],λj hj=>?_⟩;refine uv H (λb hb hn=>Av.mono S2 b hb hn) (ha.2 j (by omega)) (l2 j (by omega)) (λid o bc hm m1 m2 m3=>?_);obtain⟨o2,g1,g2⟩:=hf id (GK (by omega) hm);exact u9 H2 g1 m2 g2
     split at e
     ·rename_i yq
      obtain⟨rfl,rfl⟩:=ZG (Zu e);simp only[ZU]at yq;rcases yq with yq |yq
      ·refine done H (dN.refl w h β) _ ?_;have:=ml (P:=P) (w:=w) (A:=λ_=>False) S (λb hb=>hb.elim) (args:=args') (vs:=vs) ⟨by rw[ha.1,l1],λj hj=>uv H (λ_ _ _ hh=>hh) (ha.2 j (by omega)) (l2 j (by omega)) (λ_ _ _ _ _ _ _ hh=>hh)⟩ h1 h2;refine this.mono ?_;rintro e w' ⟨v,rfl,q1,q2⟩;have rZ:dP (b9 r1)=true:=va r1 yq;exact⟨v,rfl,q1.dP rZ,q2⟩
      ·refine done H (dN.refl w h β) _ (ml (A:=Av F h β) S (λb hb=>Av.lt H hb) (frozen H (dN.refl w h β) (λid bT=>?_)) h1 h2);have:=Zw.1 yq id bT
       split at this
       ·rename_i o ho
        simp only[ZD,decide_eq_true_eq]at this;exact⟨o,ho,this.1⟩
       ·cases this
     ·split at e
      ·cases Tv:fh h (jJ args)with
       |none=>rw[Tv]at e;simp at e
       |some h3=>
        rw[Tv]at e;simp at e;obtain⟨rfl,rfl⟩:=e;obtain⟨H2,S2,A2,_⟩:=aZ.fh (jJ args) H Tv;exact done H2 S2 _ (ml (A:=Av F h3 β) S (λb hb=>Av.lt H2 hb) (frozen H2 S2 A2) h1 h2)
      ·cases e
    ·cases e
   ·cases e
  ·split at e
   ·rename_i args' hr
    obtain⟨l1,l2⟩:=kc hr
    split at e
    ·rename_i r0 hc h1
     split at e
     ·rename_i r1 h2
      split at e
      ·rename_i yq
       obtain⟨rfl,rfl⟩:=ZG (Zu e);refine done H (dN.refl w h β) _ ?_;have:=ml (P:=P) (w:=w) (A:=λ_=>False) S (λb hb=>hb.elim) (args:=args') (vs:=vs) ⟨by rw[ha.1,l1],λj hj=>Fo H (λ_ _ _ hh=>hh) (λ_ _ _ _ _ _ hh=>hh) 8 (ha.2 j (by omega)) (l2 j (by omega))⟩ h1 h2;refine this.mono ?_;rintro e w' ⟨v,rfl,q1,q2⟩;exact⟨v,rfl,q1.dP (va r1 yq),q2⟩
      ·cases e
     ·cases e
    ·cases e
   ·cases e
end Go.Pm
namespace Go.Pm
variable{C:cK}(T:lz C.P)
variable{ops:Array Oper}{d:Nat}{ty:TypeId}{pos:String}{af:Array Edge}{r:List Oper}{ρ:Nat->PV}{L:List (Nat×PV)}{h:ab}{Q:St->Prop}
theorem R.jb{t:TypeId}{x ix:Operand}{s:ByteArray}{k:IntKind}{i:Nat}{b:UInt8}(hx:cG L x=some (.str s))(hi:cG L ix=some (.int k (i:Int)))(hk:T.kd t=some .str)(hv:s[i]?=some b)
  (kk:ah C ops r ⟨al ((d,.int .u8 b.toNat)::L) ρ,h⟩ Q):ah C ops (⟨some d,.index t x ix,ty,pos,af,none⟩::r) ⟨al L ρ,h⟩ Q:=
 ah.eK (λrun=>by simp[ao,az,ak hx,ak hi,uX,pd (T.cP _ _ hk),hv]) kk
theorem R.max{ts:Array TypeId}{x y:Operand}{k:IntKind}{a b:Int}(hx:cG L x=some (.int k a))(hy:cG L y=some (.int k b))(kk:ah C ops r ⟨al ((d,.int k (max a b))::L) ρ,h⟩ Q):
  ah C ops (⟨some d,.call ⟨.builtin .max,#[x,y],ts⟩,ty,pos,af,none⟩::r) ⟨al L ρ,h⟩ Q:=by
 refine ah.eK (v:=.int k (Max.max a b)) (λrun=>?_) kk;have:(if b>a then b else a)=Max.max a b:=by split <;>omega
 simp[ao,ak hx,ak hy,bo,Ja,this]
theorem R.neg{t:TypeId}{x:Operand}{k:IntKind}{a c:Int}(hx:cG L x=some (.int k a))(hw:k.wrap (0 - a)=c)(kk:ah C ops r ⟨al ((d,.int k c)::L) ρ,h⟩ Q):
  ah C ops (⟨some d,.unOp .neg t x,ty,pos,af,none⟩::r) ⟨al L ρ,h⟩ Q:=
 ah.eK (λrun=>by simp only[ao,az,ak hx,Pf,hw,ZH]) kk
theorem R.LK{t yt:TypeId}{x y:Operand}{a b:ByteArray}(hx:cG L x=some (.str a))(hy:cG L y=some (.str b))(hh:a.toList=b.toList)(k1:ah C ops r ⟨al ((d,(.bool true))::L) ρ,h⟩ Q):
  ah C ops (⟨some d,.binOp .eql t x y yt,ty,pos,af,none⟩::r) ⟨al L ρ,h⟩ Q:=ah.eK (λrun=>by simp[ao,az,ak hx,ak hy,fe,lF,hh]) k1
theorem R.LL{t yt:TypeId}{x y:Operand}{a b:ByteArray}(hx:cG L x=some (.str a))(hy:cG L y=some (.str b))(hh:¬a.toList=b.toList)(k1:ah C ops r ⟨al ((d,(.bool false))::L) ρ,h⟩ Q):
  ah C ops (⟨some d,.binOp .eql t x y yt,ty,pos,af,none⟩::r) ⟨al L ρ,h⟩ Q:=ah.eK (λrun=>by simp[ao,az,ak hx,ak hy,fe,lF,hh]) k1
def jY(L:List (Nat×PV)):List (Nat×Operand)->Option (List (Nat×PV))
 |[]=>some []
 |(i,x)::xs=>match cG L x,jY L xs with
  |some v,some vs=>some ((i,v)::vs)
  |_,_=>none
theorem iG{L:List (Nat×PV)}{ρ:Nat->PV}:∀{xs:List (Nat×Operand)} {vs:List (Nat×PV)},jY L xs=some vs->xs.map (λ(i,x)=>(i,ev (al L ρ) x))=vs
 |[],vs,e=>by simp[jY]at e;subst e;rfl
 |(i,x)::xs,vs,e=>by
  simp only[jY]at e
  split at e
  ·rename_i v ET h1 h2
   obtain rfl:=Zu e;simp only[ZN,ak h1,iG h2]
  ·cases e
def pN(ts:Nat->Option Nat)(os:List (Nat×TypeId))(i:Nat):Option (Nat×Nat):=
 match os[i]? with
 |some (off,ty)=>(ts ty).map λs=>(off,s)
 |none=>none
theorem xg{p q:Nat->Option (Nat×Nat)}(hpq:∀i x,p i=some x->q i=some x):∀{parts:List (Nat×PV)} {cs r:List PV},jI p cs parts=some r->jI q cs parts=some r
 |[],cs,r,e=>e
 |(i,v)::parts,cs,r,e=>by
  simp only[jI]at e ⊢
  split at e
  ·cases e
  ·rename_i off size hp
   rw[hpq _ _ hp];simp only
   split at e
   ·rename_i hc
    rw[if_pos hc];exact xg hpq e
   ·cases e
theorem sQ{t:TypeId}{z:PV}{os:List (Nat×TypeId)}{parts:List (Nat×PV)}{cs:List PV}(hz:T.tz t=some z)(hk:T.kd t=some (.st os))(ha:(os.all λo=>(T.ts o.2).isSome)=true)(h1:(cells z).all bG=true)
  (hf:jI (pN T.ts os) (cells z) parts=some cs):uU C.P t parts=some (.agg cs):=by
 obtain⟨fs,e1,e2⟩:=LI (T.cP _ _ hk)
 have eA:(fs.toList.all λf=>(cg C.P f.type).isSome)=true:=by
  rw[<-e2,List.all_map]at ha;rw[Zw]at ha ⊢
  intro f hf
  have:=ha f hf;simp only[Function.comp]at this
  cases hh:T.ts f.type with
  |none=>rw[hh]at this;cases this
  |some n=>rw[T.dO _ _ hh];rfl
 have hp:jI (ir C.P fs) (cells z) parts=some cs:=by
  refine xg (λi x hx=>?_) hf;unfold pN at hx;rw[<-e2,ZP]at hx;unfold ir;have Ve:fs[i]?=fs.toList[i]?:=by simp
  rw[Ve]
  cases hh:fs.toList[i]? with
  |none=>rw[hh]at hx;cases hx
  |some f=>
   rw[hh]at hx;simp only[ZH]at hx ⊢
   cases yw:T.ts f.type with
   |none=>rw[yw]at hx;cases hx
   |some n=>rw[yw]at hx;rw[T.dO _ _ yw];exact hx
 unfold uU;rw[T.mO _ _ hz,e1];simp only[eA,h1,and_self,if_true,hp,ZH]
theorem R.build{t:TypeId}{parts:Array (Nat×Operand)}{ps:List (Nat×PV)}{z:PV}{os:List (Nat×TypeId)}{cs:List PV}(hp:jY L parts.toList=some ps)(hz:T.tz t=some z)(hk:T.kd t=some (.st os))(ha:(os.all λo=>(T.ts o.2).isSome)=true)(h1:(cells z).all bG=true)
  (hf:jI (pN T.ts os) (cells z) ps=some cs) (kk:ah C ops r ⟨al ((d,.agg cs)::L) ρ,h⟩ Q):ah C ops (⟨some d,.build t parts,ty,pos,af,none⟩::r) ⟨al L ρ,h⟩ Q:=
 ah.eK (λrun=>by simp only[ao,az,iG hp,sQ T hz hk ha h1 hf,ZH]) kk
theorem D.build{i L0:Nat}{own:List Nat}{t:TypeId}{parts:Array (Nat×Operand)}{ps:List (Nat×PV)}{z:PV}{os:List (Nat×TypeId)}{cs:List PV}(hp:jY L parts.toList=some ps)(hz:T.tz t=some z)(hk:T.kd t=some (.st os))(ha:(os.all λo=>(T.ts o.2).isSome)=true)(h1:(cells z).all bG=true)
  (hf:jI (pN T.ts os) (cells z) ps=some cs) (kk:aV C ops (i+1) r ⟨⟨al ((d,.agg cs)::L) ρ,h⟩,L0,own⟩ Q):aV C ops i (⟨some d,.build t parts,ty,pos,af,none⟩::r) ⟨⟨al L ρ,h⟩,L0,own⟩ Q:=
 aV.plain (h':=h) rfl (λrun=>by simp only[ao,az,iG hp,sQ T hz hk ha h1 hf,ZH]) kk
theorem D.nE{i L0:Nat}{own:List Nat}{s:TypeId}{x:Operand}{f off:Nat}{ft:TypeId}{os:List (Nat×TypeId)}{sz:Nat}{cs jd:List PV}{c:PV}(hx:cG L x=some (.eC cs))(hk:T.kd s=some (.st os))(hf:os[f]?=some (off,ft))(hs:T.ts ft=some (sz+1))
  (hc:cs.drop off=c::jd) (k:aV C ops (i+1) r ⟨⟨al ((d,.eC (c::jd))::L) ρ,h⟩,L0,own⟩ Q):aV C ops i (⟨some d,.fieldAddr s x f,ty,pos,af,none⟩::r) ⟨⟨al L ρ,h⟩,L0,own⟩ Q:=by
 have hl:off<cs.length:=by
  rcases Z8 off cs.length with h |h
  ·exact h
  ·rw[Z5 h]at hc;cases hc
 exact aV.plain (h':=h) rfl (λrun=>by simp[ao,az,ak hx,fS,lS T hk hf hs,hl,hc]) k
def xh(sz n:Nat)(p:Nat×PV):Bool:=decide ((cells p.2).length=sz)&& (cells p.2).all bG&&decide (p.1<n)
theorem pf{lv:Nat}{t el:TypeId}{n sz:Nat}{z:PV}{ps:List (Nat×PV)}{es:List PV}(hk:T.kd t=some (.sl el))(hs:T.ts el=some (sz+1))(hz:T.tz el=some z)(hn:n * (sz+1)<=16777216)(hl:(cells z).length=sz+1)(h1:(cells z).all bG=true)
  (hp:ps.all (xh (sz+1) n)=true) (he:xO z n ps=es) (hv:ar es=true):dp C.P lv h t n ps=some (.aa true es,h):=by
 unfold dp;rw[bp (T.cP _ _ hk)];simp only[T.dO _ _ hs,T.mO _ _ hz];have hp':(ps.all λp=>decide ((cells p.2).length=sz+1)&& (cells p.2).all bG&&decide (p.1<n))=true:=hp;rw[if_pos ⟨by omega,hn,hl,h1,hp'⟩,he,if_pos hv]
theorem R.buildSlice{t el:TypeId}{n sz:Nat}{z:PV}{parts:Array (Nat×Operand)}{ps:List (Nat×PV)}{es:List PV}(SU:jY L parts.toList=some ps)(hk:T.kd t=some (.sl el))(hs:T.ts el=some (sz+1))(hz:T.tz el=some z)(hn:n * (sz+1)<=16777216)(hl:(cells z).length=sz+1)(h1:(cells z).all bG=true)
  (hp:ps.all (xh (sz+1) n)=true) (he:xO z n ps=es) (hv:ar es=true) (kk:ah C ops r ⟨al ((d,.aa true es)::L) ρ,h⟩ Q):
  ah C ops (⟨some d,.buildSlice t n parts,ty,pos,af,none⟩::r) ⟨al L ρ,h⟩ Q:=
 ah.eK (λrun=>by simp only[ao,az,iG SU,pf T hk hs hz hn hl h1 hp he hv]) kk
theorem D.buildSlice{i:Nat}{t el:TypeId}{n sz:Nat}{z:PV}{parts:Array (Nat×Operand)}{ps:List (Nat×PV)}{es:List PV}(di:aR h=true)(SU:jY L parts.toList=some ps)(ia:(ps.all λp=>br (aL h) p.2)=true)(hk:T.kd t=some (.sl el))(hs:T.ts el=some (sz+1))(hz:T.tz el=some z)(hn:n * (sz+1)<=16777216)(hl:(cells z).length=sz+1)(h1:(cells z).all bG=true)
  (hp:ps.all (xh (sz+1) n)=true) (he:xO z n ps=es) (hv:ar es=true) (kk:aV C ops (i+1) r ⟨⟨al ((d,.aa true es)::L) ρ,h⟩,h.length,[]⟩ Q):
  aV C ops i (⟨some d,.buildSlice t n parts,ty,pos,af,none⟩::r) ⟨⟨al L ρ,h⟩,h.length,[]⟩ Q:=by
 refine aV.read rfl di ?_ ⟨0,λn lv _ _=>by simp only[ao,az,iG SU,pf T hk hs hz hn hl h1 hp he hv]⟩ kk;rw[Zw]
 intro y hy
 have hm:y∈parts.toList.map (·.2):=by simpa[Op.operands]using hy
 obtain⟨x,hx,rfl⟩:=Z0.1 hm;have:=iG (ρ:=ρ) SU;rw[<-this,List.all_map,Zw]at ia;exact ia x hx
theorem iS{n b:Nat}(h1:n<1000000000)(h2:b<=1000):roomy n b=true:=by
 have:n * b<=1000000000 * 1000:=abC (by omega) h2;simp[roomy];omega
def du(sz:Nat)(ys:List PV):Prop:=ys.all (λv=>decide ((cells v).length=sz)&& (cells v).all bG)=true
theorem fZ{lv:Nat}{st xt el pU:TypeId}{sz fX:Nat}{z:PV}{full:Bool}{ys:List PV}(h1:1<=lv)(hk:T.kd st=some (.sl el))(fR:T.kd xt=some (.sl pU))(hs:T.ts el=some (sz+1))(hb:T.tb el=some fX)(hz:T.tz el=some z)(jc:fX<=1000)(hl:(cells z).length=sz+1)(ho:(cells z).all bG=true)
  (hy:du (sz+1) ys) (bI:ys.isEmpty=false) (hn:ys.length<1000000000):bL C.P lv h st xt (.aa true []) (.aa full ys)=some (.aj h.length 0 0 ys.length,h++[⟨.m,0,sz+1,ys⟩]):=by
 unfold bL;rw[bp (T.cP _ _ hk)];simp only[T.dO _ _ hs,T.rV _ _ hb,T.mO _ _ hz,cy,bp (T.cP _ _ fR),ch];unfold du at hy;rw[if_pos ⟨by omega,by omega,⟨hl,ho⟩,hy⟩];simp only[bI,ZJ,if_false,Z',ZS,aaW,aad,newObj];rw[if_pos ⟨trivial,h1,iS hn jc,trivial⟩]
theorem kg{st xt el pU:TypeId}{sz fX id ep len:Nat}{z:PV}{full:Bool}{ys:List PV}{o:au}(hk:T.kd st=some (.sl el))(fR:T.kd xt=some (.sl pU))(hs:T.ts el=some (sz+1))(hb:T.tb el=some fX)(hz:T.tz el=some z)(jc:fX<=1000)(hl:(cells z).length=sz+1)(ho:(cells z).all bG=true)
  (hy:du (sz+1) ys) (bI:ys.isEmpty=false) (hn:len+ys.length<1000000000) (hg:getM h id ep=some o) (hm:o.mu=.m) (GO:o.bB=sz+1) (hle:len<=o.es.length):
  bL C.P 2 h st xt (.aj id ep 0 len) (.aa full ys)=some (.aj id (ep+1) 0 (len+ys.length),h.set id {o with ep:=ep+1,es:=o.es.take len++ys}):=by
 unfold bL;rw[bp (T.cP _ _ hk)];simp only[T.dO _ _ hs,T.rV _ _ hb,T.mO _ _ hz,cy,bp (T.cP _ _ fR),ch];unfold du at hy;rw[if_pos ⟨by omega,by omega,⟨hl,ho⟩,hy⟩];simp only[hg];rw[if_pos ⟨by omega,GO.symm⟩];simp only[bI,ZJ,if_false];rw[if_neg (by simp[jD]),if_pos ⟨trivial,by omega,hm,iS hn jc⟩]
def Out(sz:Nat)(h:ab)(v:PV)(es:List PV):Prop:=(v=.aa true []/\es=[])\/∃id ep,v=.aj id ep 0 es.length/\h[id]?=some ⟨.m,ep,sz,es⟩
theorem Out.nil(sz:Nat)(h:ab):Out sz h (.aa true []) []:=.inl ⟨rfl,rfl⟩
theorem Out.ct{sz:Nat}{h:ab}{v:PV}{es:List PV}(o:Out sz h v es)(J:ab):Out sz (h++J) v es:=by
 rcases o with o |⟨id,ep,e1,e2⟩
 ·exact .inl o
 ·refine .inr ⟨id,ep,e1,?_⟩
  have:id<h.length:=by
   rcases Z8 id h.length with hh |hh
   ·exact hh
   ·rw[ZM hh]at e2;cases e2
  rw[Zv this];exact e2
def V3(sz:Nat)(A J:ab)(v:PV)(es:List PV):Prop:=(v=.aa true []/\es=[])\/∃id ep,v=.aj (A.length+id) ep 0 es.length/\J[id]?=some ⟨.m,ep,sz,es⟩
def HV(h:ab):Prop:=∀o∈h,o.mu≠.x/\ar o.es=true
mutual
theorem uD(f:Nat->Bool):∀p,aW p=true->br f p=true
 | .int ..,_ | .bool _,_ | .str _,_ | .dW,_ | .aG,_ | .gf,_ | .aa ..,_ | .eC _,_=>rfl
 | .agg cs,h=>by simp only[br];exact bq f cs (by simpa[aW]using h)
 | .cm cs,h=>by simp only[br];exact bq f cs (by simpa[aW]using h)
 | .fn _ cs,h=>by simp only[br];exact bq f cs (by simpa[aW]using h)
 | .mR _ _ cs,h=>by simp only[br];exact bq f cs (by simpa[aW]using h)
 | .aj ..,h | .ptr ..,h | .undef,h | .any,h=>by simp[aW]at h
theorem bq(f:Nat->Bool):∀cs,ar cs=true->bw f cs=true
 |[],_=>rfl
 |c::r,h=>by
  simp only[ar,ZD]at h;simp only[bw,uD f c h.1,bq f r h.2,abF]
end
theorem HV.closed{h:ab}(H:HV h):aR h=true:=by
 unfold aR;rw[Zw]
 intro o ho
 rw[bq _ _ (H o ho).2];simp
theorem HV.PL{h:ab}(H:HV h){id:Nat}(bT:id<h.length):aL h id=true:=by
 unfold aL;rw[Zy bT];simpa using(H _ (Z2 bT)).1
theorem HV.nil:HV []:=λo ho=>by cases ho
theorem HV.ct{h k:ab}(H:HV h)(K:HV k):HV (h++k):=λo ho=>(ZE.1 ho).elim (H o) (K o)
theorem HV.one{ep n:Nat}{es:List PV}(h:ar es=true):HV [⟨.m,ep,n,es⟩]:=λo ho=>by simp at ho;subst ho;exact⟨by simp,h⟩
theorem HV.set{h:ab}(H:HV h)(id:Nat){o:au}(h1:o.mu≠.x)(h2:ar o.es=true):HV (h.set id o):=λo' M'=>by
 rcases aaQ M' with M'|rfl
 ·exact H o' M'
 ·exact⟨h1,h2⟩
theorem bg{h:ab}{id ep:Nat}{o:au}(e:h[id]?=some o)(h1:o.ep=ep)(h2:o.mu≠.x):getM h id ep=some o:=by simp[getM,e,h1,h2]
theorem LM{h:ab}{b n off:Nat}{e:PV}(hb:h[b]?=some ⟨.m,0,n,[e]⟩):cC h (.ptr b 0 0 off)=some ((cells e).drop off):=by simp[cC,getM,hb]
theorem R.ov{t:TypeId}{x:Operand}{c e:PV}{cs:List PV}{sz b n off:Nat}(hx:cG L x=some (.ptr b 0 0 off))(hs:T.ts t=some sz)(ht:T.ta t=some false)(hb:h[b]?=some ⟨.m,0,n,[e]⟩)(hc:(cells e).drop off=c::cs)(k:ah C ops r ⟨al ((d,c)::L) ρ,h⟩ Q):
  ah C ops (⟨some d,.load t x,ty,pos,af,none⟩::r) ⟨al L ρ,h⟩ Q:=R.fF T hx hs ht ((LM hb).trans (by rw[hc])) k
theorem R.xi{t:TypeId}{x:Operand}{e:PV}{jd:List PV}{sz b n off:Nat}(hx:cG L x=some (.ptr b 0 0 off))(hs:T.ts t=some (sz+1))(ht:T.ta t=some true)(hb:h[b]?=some ⟨.m,0,n,[e]⟩)(hc:pe (sz+1) ((cells e).drop off) jd)(k:ah C ops r ⟨al ((d,.agg jd)::L) ρ,h⟩ Q):
  ah C ops (⟨some d,.load t x,ty,pos,af,none⟩::r) ⟨al L ρ,h⟩ Q:=R.kN T hx hs ht (LM hb) hc k
theorem R.hZ{t:TypeId}{a x:Operand}{b n off ep i sz:Nat}{o:au}{e v:PV}(ha:cG L a=some (.ptr b ep i off))(hx:cG L x=some v)(hs:T.ts t=some sz)(hg:getM h b ep=some o)(hm:o.mu=.m)(hi:o.es[i]?=some e)(hl:(cells v).length=sz)(h1:(cells v).all bG=true)(hle:off+sz<=(cells e).length)
  (k:ah C ops r ⟨al L ρ,h.set b {o with es:=o.es.set i (eD off sz e v)}⟩ Q):ah C ops (⟨none,.store t a x,ty,pos,af,none⟩::r) ⟨al L ρ,h⟩ Q:=by
 have k':ah C ops r ⟨bV (al L ρ) none .undef,h.set b {o with es:=o.es.set i (eD off sz e v)}⟩ Q:=k;refine ah.val (v:=.undef) (h':=h.set b {o with es:=o.es.set i (eD off sz e v)}) rfl (λrun=>?_) k';simp only[ao,az,ak ha,ak hx,gC,T.dO _ _ hs,hg,hi,Zz,if_true];rw[if_pos ⟨hm,hl,h1,hle⟩]
 rfl
theorem zr(n:Nat){p:PV}(h:aW p=true):dY n p=true:=by
 unfold dY
 split <;>first |(simp[aW]at h;done)|exact h
theorem EX(n:Nat){p:PV}(h:aW p=true):cD n p=true:=by
 unfold cD
 split
 ·rename_i cs
  rw[Zw]
  intro c hc
  have:ar cs=true:=by simpa[aW]using h
  rw[bt]at this;exact zr n (Zw.1 this c hc)
 ·exact zr n h
theorem HV.cD{h:ab}(H:HV h)(n:Nat):(h.all λo=>o.es.all (cD n))=true:=by
 rw[Zw]
 intro o ho
 have:=(H o ho).2;rw[bt]at this;rw[Zw]
 intro e he
 exact EX n (Zw.1 this e he)
mutual
theorem jv:∀p:PV,dP (b9 p)=dP p
 | .int .. | .bool _ | .str _ | .dW | .aG | .gf | .cB _ | .aa .. | .eC _ | .fn .. | .mR .. | .aj .. | .ptr .. | .undef | .any=>rfl
 | .agg cs=>by simp only[b9,dP];exact pg cs
 | .cm cs=>by simp only[b9,dP];exact pg cs
theorem pg:∀cs:List PV,nT (aU cs)=nT cs
 |[]=>rfl
 |c::r=>by simp only[aU,nT,jv c,pg r]
end
theorem ai.V4{lv:Nat}{f:FuncId}{args args':List PV}{rv:PV}{Q:PV->ab->Prop}(hm:C.mode f=.pure)(hv:ar args=false)(hr:iK h args=some args')(a:aO C f (aU args') rv)(hs:dP rv=true)(q:Q rv h):ai C lv f args h Q:=by
 obtain⟨n0,hn⟩:=a;refine⟨rv,h,q,n0,λn h1=>?_⟩;obtain⟨r0,hc,r1,e1,e2,e3⟩:=hn n h1;unfold c9;rw[hm]
 have yq:dP r1=true:=by
  have:=jv r1;rw[e3]at this;rw[<-this];exact hs
 simp only[dx,hv,ZJ,if_false,hr,e1,e2,e3,yq,abw,if_true]
theorem R.uM{t:TypeId}{x:Operand}{e c:PV}{cs:List PV}{n sz off:Nat}(hx:cG L x=some (.ptr h.length 0 0 off))(hs:T.ts t=some sz)(ht:T.ta t=some false)(hc:(cells e).drop off=c::cs)
  (k:ah C ops r ⟨al ((d,c)::L) ρ,h++[⟨.m,0,n,[e]⟩]⟩ Q):ah C ops (⟨some d,.load t x,ty,pos,af,none⟩::r) ⟨al L ρ,h++[⟨.m,0,n,[e]⟩]⟩ Q:=
 R.fF T hx hs ht (YY.trans (by rw[hc])) k
theorem D.uz{i:Nat}{x:uu}{op:Op}{j d':Nat}{want b:Bool}(hd:(ops.toList[j]?).bind (·.dst)=some d')(hx:x.s.ρ=al L ρ)(hb:lk L d'=some (.bool b))(he:(b==want)=true)(k:aV C ops i (⟨some d,op,ty,pos,af,none⟩::r) x Q):
  aV C ops i (⟨some d,op,ty,pos,af,some (j,want)⟩::r) x Q:=by
 obtain⟨y,q,n0,hn⟩:=k;refine⟨y,q,n0,λn h1=>?_⟩;rw[<-hn n h1];simp only[dy,cf,bm,hd,hx,dq hb,he]
theorem aV.off{i L0:Nat}{own:List Nat}{op:Op}{g:Option (Nat×Bool)}(hw:bm ops ⟨some d,op,ty,pos,af,g⟩ (al L ρ)=some false)(k:aV C ops (i+1) r ⟨⟨al ((d,.undef)::L) ρ,h⟩,L0,own⟩ Q):
  aV C ops i (⟨some d,op,ty,pos,af,g⟩::r) ⟨⟨al L ρ,h⟩,L0,own⟩ Q:=by
 refine aV.step ⟨0,λn _=>?_⟩ k;simp only[cf,hw,bZ]
theorem D.mr{i L0:Nat}{own:List Nat}{op:Op}{j d':Nat}{want b:Bool}(hd:(ops.toList[j]?).bind (·.dst)=some d')(hb:lk L d'=some (.bool b))(he:(b==want)=false)(k:aV C ops (i+1) r ⟨⟨al ((d,.undef)::L) ρ,h⟩,L0,own⟩ Q):
  aV C ops i (⟨some d,op,ty,pos,af,some (j,want)⟩::r) ⟨⟨al L ρ,h⟩,L0,own⟩ Q:=aV.off (by simp only[bm,hd,dq hb,he]) k
theorem D.iy{i L0:Nat}{own:List Nat}{c x y:Operand}{v:PV}(hc:cG L c=some (.bool true))(hx:cG L x=some v)(k:aV C ops (i+1) r ⟨⟨al ((d,v)::L) ρ,h⟩,L0,own⟩ Q):aV C ops i (⟨some d,.pick c x y,ty,pos,af,none⟩::r) ⟨⟨al L ρ,h⟩,L0,own⟩ Q:=
 aV.plain (h':=h) rfl (λrun=>by simp only[ao,az,ak hc,ak hx,if_true]) k
theorem D.gO{i L0:Nat}{own:List Nat}{c x y:Operand}{v:PV}(hc:cG L c=some (.bool false))(hx:cG L y=some v)(k:aV C ops (i+1) r ⟨⟨al ((d,v)::L) ρ,h⟩,L0,own⟩ Q):aV C ops i (⟨some d,.pick c x y,ty,pos,af,none⟩::r) ⟨⟨al L ρ,h⟩,L0,own⟩ Q:=
 aV.plain (h':=h) rfl (λrun=>by simp only[ao,az,ak hc,ak hx,ZJ,if_false]) k
theorem D.arith{i L0:Nat}{own:List Nat}{tu:BinOp}{t yt:TypeId}{x y:Operand}{k:IntKind}{a b c c':Int}(hx:cG L x=some (.int k a))(hy:cG L y=some (.int k b))(hp:Pm.arith tu a b=some c)(hw:k.wrap c=c')(kk:aV C ops (i+1) r ⟨⟨al ((d,(.int k c'))::L) ρ,h⟩,L0,own⟩ Q):
  aV C ops i (⟨some d,.binOp tu t x y yt,ty,pos,af,none⟩::r) ⟨⟨al L ρ,h⟩,L0,own⟩ Q:=by
 refine aV.plain (h':=h) rfl (λrun=>?_) kk;simp only[ao,az,ak hx,ak hy]
 cases tu <;>simp only[Pm.arith,Z4,reduceCtorEq]at hp <;>subst hp <;>simp[fe,gy,hw]
theorem D.cmp{i L0:Nat}{own:List Nat}{tu:BinOp}{t yt:TypeId}{x y:Operand}{k:IntKind}{a b:Int}{p:Prop}(hx:cG L x=some (.int k a))(hy:cG L y=some (.int k b))(hp:D4 tu a b=some p)
  (k1:p->aV C ops (i+1) r ⟨⟨al ((d,(.bool true))::L) ρ,h⟩,L0,own⟩ Q) (k2:¬p->aV C ops (i+1) r ⟨⟨al ((d,(.bool false))::L) ρ,h⟩,L0,own⟩ Q):aV C ops i (⟨some d,.binOp tu t x y yt,ty,pos,af,none⟩::r) ⟨⟨al L ρ,h⟩,L0,own⟩ Q:=by
 by_cases JZ:p
 ·refine aV.plain (h':=h) rfl (λrun=>?_) (k1 JZ);simp only[ao,az,ak hx,ak hy]
  cases tu <;>simp only[D4,Z4,reduceCtorEq]at hp <;>subst hp <;>simp[fe,gy,JZ]
 ·refine aV.plain (h':=h) rfl (λrun=>?_) (k2 JZ);simp only[ao,az,ak hx,ak hy]
  cases tu <;>simp only[D4,Z4,reduceCtorEq]at hp <;>subst hp <;>simp[fe,gy,JZ] <;>omega
theorem V3.rb{sz:Nat}{A J:ab}{v:PV}{es:List PV}(o:V3 sz A J v es)(hv:ar es=true):∃r1,rb (A++J) v=some r1/\b9 r1=.aa false (aU es):=by
 rcases o with⟨rfl,rfl⟩|⟨id,ep,rfl,e2⟩
 ·exact⟨_,rfl,rfl⟩
 ·refine⟨.aa false es,?_,by simp[b9]⟩;have:(A++J)[A.length+id]?=some ⟨.m,ep,sz,es⟩:=by rw[ZI (by omega),show A.length+id - A.length=id by omega];exact e2
  simp[Pm.rb,ly,qi,getM,this,hv]
end Go.Pm
namespace Go.Pm
variable{C:cK}(T:lz C.P)
variable{ops:Array Oper}{d:Nat}{ty:TypeId}{pos:String}{af:Array Edge}{r:List Oper}{ρ:Nat->PV}{L:List (Nat×PV)}{h h':ab}{Q:St->Prop}
theorem ah.heap{ρ:Nat->PV}(e:h=h')(k:ah C ops r ⟨ρ,h'⟩ Q):ah C ops r ⟨ρ,h⟩ Q:=by subst e;exact k
theorem aV.heap{i:Nat}{ρ:Nat->PV}(e:h=h')(k:aV C ops i r ⟨⟨ρ,h'⟩,h'.length,[]⟩ Q):aV C ops i r ⟨⟨ρ,h⟩,h.length,[]⟩ Q:=by subst e;exact k
theorem ay.heap{f:FuncId}{args args':List PV}{Q:PV->ab->Prop}(e:h=h')(ea:args=args')(k:ay C f args' h' Q):ay C f args h Q:=by subst e;subst ea;exact k
theorem HV.take{h:ab}(H:HV h)(n:Nat):HV (h.take n):=λo ho=>H o (aae ho)
theorem ai.ra{f:FuncId}{args args':List PV}{N:Nat}{P Q:PV->ab->Prop}(hm:C.mode f=.opened)(eh:h=h')(ea:args=args')(hN:h'.length=N)(a:ay C f args' h' P)
  (q:∀r k,P r k->HV k/\(dZ N r=true->Q r (k.take N))/\(dZ N r=false->Q r k)):ai C 2 f args h Q:=by
 subst eh;subst ea;subst hN;refine ai.opened hm (a.mono ?_)
 intro r k hp
 obtain⟨h1,h2,h3⟩:=q r k hp
 cases hb:dZ h.length r
 ·rw[if_neg (by simp)];exact h3 hb
 ·rw[if_pos (by rw[(h1.take h.length).cD];rfl)];exact h2 hb
end Go.Pm
namespace Go.Pm
variable{C:cK}(T:lz C.P)
variable{ops:Array Oper}{d:Nat}{ty:TypeId}{pos:String}{af:Array Edge}{r:List Oper}{ρ:Nat->PV}{L:List (Nat×PV)}{h:ab}{Q:St->Prop}
theorem ai.cu{f:FuncId}{g:List PV->ab->Option (PV×ab)}{args:List PV}{h':ab}{rv:PV}{Q:PV->ab->Prop}(hm:C.mode f=.cu g)(a:g args h=some (rv,h'))(q:Q rv h'):ai C 2 f args h Q:=by
 refine⟨rv,h',q,0,λn h1=>?_⟩;unfold c9;rw[hm];simp only[dQ,Zz,if_true,a]
def loadT(h:ab)(t:TypeId)(p:PV):Option PV:=
 match T.ts t,T.ta t,cC h p with
 |some (sz+1),some true,some cs=>if Nat.ble (sz+1) cs.length then some (.agg (cs.take (sz+1)))else none
 |some _,some false,some (c::_)=>some c
 |_,_,_=>none
theorem rc{t:TypeId}{p v:PV}(e:loadT T h t p=some v):iq C.P h t p=some v:=by
 unfold loadT at e;unfold iq
 split at e
 ·rename_i sz cs h1 h2 h3
  rw[T.dO _ _ h1,T.LG _ _ h2,h3]
  split at e
  ·rename_i hle
   simp only;rw[if_pos ⟨by omega,aax hle⟩];exact e
  ·cases e
 ·rename_i h1 h2 h3
  rw[T.dO _ _ h1,T.LG _ _ h2,h3];exact e
 ·cases e
def xj(L:List (Nat×PV))(h:ab):List ResultVar->Option (List PV)
 |[]=>some []
 | .tmp t::r=>match lk L t,xj L h r with
  |some v,some vs=>some (v::vs)
  |_,_=>none
 | .cell a t::r=>match lk L a with
  |some p=>match loadT T h t p,xj L h r with
   |some v,some vs=>some (v::vs)
   |_,_=>none
  |none=>none
theorem uN{ρ:Nat->PV}:∀{l:List ResultVar} {vs:List PV},xj T L h l=some vs->db C.P h (al L ρ) l=some vs
 |[],vs,e=>by simp[xj]at e;subst e;rfl
 | .tmp t::r,vs,e=>by
  simp only[xj]at e
  split at e
  ·rename_i v ET h1 h2
   obtain rfl:=Zu e;simp[db,dq h1,uN h2]
  ·cases e
 | .cell a t::r,vs,e=>by
  simp only[xj]at e
  split at e
  ·rename_i p hp
   split at e
   ·rename_i v ET h1 h2
    obtain rfl:=Zu e;simp[db,dq hp,rc T h1,uN h2]
   ·cases e
  ·cases e
theorem aJ.YZ{fn:Func}{Q:PV->ab->Prop}{vs:List PV}(hr:xj T L h fn.results.toList=some vs)(q:Q (aY vs) h):aJ C fn Q .ret ⟨al L ρ,h⟩:=⟨.inr rfl,vs,uN T hr,q⟩
theorem DG{A J:ab}(h1:(A.all λo=>decide (o.mu=.x)||bw (aL (A++J)) o.es)=true)(hJ:HV J):aR (A++J)=true:=by
 unfold aR;rw[aaI,h1,aaE,Zw]
 intro o ho
 rw[bq _ _ (hJ o ho).2];simp
theorem D.qu{i:Nat}{t el:TypeId}{x ix:Operand}{id ep off len:Nat}{k:IntKind}{j:Nat}{o:au}(di:aR h=true)(hx:cG L x=some (.aj id ep off len))(hi:cG L ix=some (.int k (j:Int)))(hk:T.kd t=some (.sl el))(ho:getM h id ep=some o)(hs:T.ts el=some o.bB)(cz:j<len)(hle:off+len<=o.es.length)
  (kk:aV C ops (i+1) r ⟨⟨al ((d,.ptr id ep (off+j) 0)::L) ρ,h⟩,h.length,[]⟩ Q):aV C ops i (⟨some d,.indexAddr t x ix,ty,pos,af,none⟩::r) ⟨⟨al L ρ,h⟩,h.length,[]⟩ Q:=by
 have ia:aL h id=true:=by
  unfold getM at ho
  split at ho
  ·rename_i o' M'
   split at ho
   ·rename_i hc
    unfold aL;rw[M'];simpa using hc.2
   ·cases ho
  ·cases ho
 exact aV.read rfl di (by simp[Op.operands,ak hx,ak hi,br,ia]) ⟨0,λn lv _ _=>by simp[ao,az,ak hx,ak hi,cq,bp (T.cP _ _ hk),T.dO _ _ hs,ho,cz,hle]⟩ kk
theorem D.hZ{i L0:Nat}{own:List Nat}{t:TypeId}{a x:Operand}{b off ep j sz:Nat}{o:au}{e v:PV}(cH:level ops (before ops) i=2)(ha:cG L a=some (.ptr b ep j off))(hx:cG L x=some v)(hs:T.ts t=some sz)(hg:getM h b ep=some o)(hm:o.mu=.m)(hi:o.es[j]?=some e)(hl:(cells v).length=sz)(h1:(cells v).all bG=true)(hle:off+sz<=(cells e).length)
  (k:aV C ops (i+1) r ⟨⟨al L ρ,h.set b {o with es:=o.es.set j (eD off sz e v)}⟩,(h.set b {o with es:=o.es.set j (eD off sz e v)}).length,[]⟩ Q):aV C ops i (⟨none,.store t a x,ty,pos,af,none⟩::r) ⟨⟨al L ρ,h⟩,L0,own⟩ Q:=by
 refine aV.step ⟨0,λn _=>?_⟩ k;simp only[cf,bm,cR,aab,if_false,cH,if_true,ao,az,ak ha,ak hx,gC,T.dO _ _ hs,hg,hi,Zz,hm,hl,h1,hle,and_self,ZH,bV]
theorem D.sO{i:Nat}{t:TypeId}{x:Operand}{e:PV}{jd:List PV}{n sz:Nat}(di:aR (h++[⟨.m,0,n,[e]⟩])=true)(hx:cG L x=some (.ptr h.length 0 0 0))(hs:T.ts t=some (sz+1))(ht:T.ta t=some true)(hc:pe (sz+1) (cells e) jd)
  (k:aV C ops (i+1) r ⟨⟨al ((d,(.agg jd))::L) ρ,h++[⟨.m,0,n,[e]⟩]⟩,(h++[⟨.m,0,n,[e]⟩]:ab).length,[]⟩ Q):aV C ops i (⟨some d,.load t x,ty,pos,af,none⟩::r) ⟨⟨al L ρ,h++[⟨.m,0,n,[e]⟩]⟩,(h++[⟨.m,0,n,[e]⟩]:ab).length,[]⟩ Q:=
 D.kN T di hx (by simp[br,aL]) hs ht pcN hc k
end Go.Pm
namespace Go.Pm
open Go.Proofs
def jT(sz:Nat)(e:PV):Bool:=aW e&&decide ((cells e).length=sz)&& (cells e).all bG
def jn(args:List PV)(h:ab):Option (PV×ab):=
 match args with
 |[.aa true [],.int .i64 i,.aa _ [e]]=>if i=0/\jT 5 e=true then some (.aj h.length 0 0 1,newObj h 5 [e])else none
 |[.aj id ep 0 len,.int .i64 i,.aa _ [e]]=>match getM h id ep with
  |some o=>if o.mu=.m/\o.bB=5/\len<=o.es.length/\0<=i/\i<=len/\len<100000000/\jT 5 e=true/\(o.es.take len).all (jT 5)=true/\aR h=true then
    some (.aj id (ep+1) 0 (len+1),h.set id {o with ep:=ep+1,es:=(o.es.take len).take i.toNat++[e]++(o.es.take len).drop i.toNat})else none
  |none=>none
 |_=>none
def iv(args:List PV)(h:ab):Option (PV×ab):=
 match args with
 |[.aa true [],.int .i64 i,.aa _ [e]]=>if i=0/\jT 4 e=true then some (.aj h.length 0 0 1,newObj h 4 [e])else none
 |[.aj id ep 0 len,.int .i64 i,.aa _ [e]]=>match getM h id ep with
  |some o=>if o.mu=.m/\o.bB=4/\len<=o.es.length/\0<=i/\i<=len/\len<100000000/\jT 4 e=true/\(o.es.take len).all (jT 4)=true/\aR h=true then
    some (.aj id (ep+1) 0 (len+1),h.set id {o with ep:=ep+1,es:=(o.es.take len).take i.toNat++[e]++(o.es.take len).drop i.toNat})else none
  |none=>none
 |_=>none
def kF(args:List PV)(h:ab):Option (PV×ab):=
 match args with
 |[.aj id ep 0 len,.int .i64 i,.int .i64 j]=>match getM h id ep with
  |some o=>if o.mu=.m/\o.bB=5/\len<=o.es.length/\0<=i/\j=i+1/\i<len/\len<100000000/\(o.es.take len).all (jT 5)=true/\aR h=true then
    some (.aj id (ep+1) 0 (len - 1),h.set id {o with ep:=ep+1,es:=(o.es.take len).take i.toNat++(o.es.take len).drop (i.toNat+1)})else none
  |none=>none
 |_=>none
def bu(bB:Nat)(args:List PV)(h:ab):Option (PV×ab):=
 match args with
 |[.aa _ es]=>if es.isEmpty then some (.aa true [],h)
   else if es.all (λv=>decide ((cells v).length=bB)&& (cells v).all bG)=true/\es.length<1000000000 then some (.aj h.length 0 0 es.length,newObj h bB es)else none
 |_=>none
def jo(f:FuncId):Mode:=
 if[0,1,347,305,183,240,281,379,161,215,216,370,15,16].contains f then .no
 else if f=194 then .ext λ|[.str a,.str b]=>some (.int .i64 (Lib.compareBytes a.data.toList b.data.toList))|_=>none
 else if f=351 then .cu jn
 else if f=352 then .cu kF
 else if f=45 then .cu (bu 4)
 else if f=397 then .cu (bu 1)
 else if[65,226,229,152,310,250,311,398,372,387,388,403,402,390,391,378,399,400,207,258,162,45,397,158,203,128,154,129,130,200,87,89,143,86,142,72,104,271,320,272,270,278,371,322,323,324,368,366,367,326,325,369,381,49,51,50,100,360,361,382,359].contains f then .opened
 else if f<410 then .pure
 else .no
noncomputable def C:cK:=⟨Tryz.prog,jo⟩
end Go.Pm
namespace Go.Pm
variable{C:cK}(T:lz C.P)
variable{ops:Array Oper}{i:Nat}{d:Nat}{ty:TypeId}{pos:String}{af:Array Edge}{r:List Oper}{ρ:Nat->PV}{L:List (Nat×PV)}{h:ab}{Q:St->Prop}
theorem D.ov{t:TypeId}{x:Operand}{c e:PV}{cs:List PV}{sz b n off:Nat}(hV:HV h)(hx:cG L x=some (.ptr b 0 0 off))(hs:T.ts t=some sz)(ht:T.ta t=some false)(hb:h[b]?=some ⟨.m,0,n,[e]⟩)(hc:(cells e).drop off=c::cs)
  (k:aV C ops (i+1) r ⟨⟨al ((d,c)::L) ρ,h⟩,h.length,[]⟩ Q):aV C ops i (⟨some d,.load t x,ty,pos,af,none⟩::r) ⟨⟨al L ρ,h⟩,h.length,[]⟩ Q:=
 D.fF T hV.closed hx (by simp only[br];exact hV.PL (ag hb)) hs ht ((LM hb).trans (by rw[hc])) k
theorem D.xi{t:TypeId}{x:Operand}{e:PV}{jd:List PV}{sz b n off:Nat}(hV:HV h)(hx:cG L x=some (.ptr b 0 0 off))(hs:T.ts t=some (sz+1))(ht:T.ta t=some true)(hb:h[b]?=some ⟨.m,0,n,[e]⟩)(hc:pe (sz+1) ((cells e).drop off) jd)
  (k:aV C ops (i+1) r ⟨⟨al ((d,.agg jd)::L) ρ,h⟩,h.length,[]⟩ Q):aV C ops i (⟨some d,.load t x,ty,pos,af,none⟩::r) ⟨⟨al L ρ,h⟩,h.length,[]⟩ Q:=
 D.kN T hV.closed hx (by simp only[br];exact hV.PL (ag hb)) hs ht (LM hb) hc k
theorem D.call{L0:Nat}{own:List Nat}{x:Operand}{xs:List Operand}{yU:Array TypeId}{f:FuncId}{da args:List PV}(cH:level ops (before ops) i=2)(hf:cG L x=some (.fn f da))(ha:xf L xs=some args)
  (hc:ai C 2 f (args++da) h (λv h'=>aV C ops (i+1) r ⟨⟨al ((d,v)::L) ρ,h'⟩,h'.length,[]⟩ Q)):aV C ops i (⟨some d,.call ⟨.value x,xs.toArray,yU⟩,ty,pos,af,none⟩::r) ⟨⟨al L ρ,h⟩,L0,own⟩ Q:=by
 obtain⟨v,h',q,n0,hn⟩:=hc;refine aV.two rfl cH ⟨n0,λn h1=>?_⟩ q;simp only[ao,fO,ak hf];have he:=gw (ρ:=ρ) ha;simp only[he];exact hn n h1
theorem ai.out{f:FuncId}{sz:Nat}{v:PV}{es rest:List PV}{rv:PV}{Q:PV->ab->Prop}(hm:C.mode f=.pure)(o:Out sz h v es)(hv:ar es=true)(hr:ar rest=true)(a:aO C f (.aa false (aU es)::aU rest) rv)(hs:dP rv=true)(q:Q rv h):ai C 2 f (v::rest) h Q:=by
 rcases o with⟨rfl,rfl⟩|⟨id,ep,rfl,e2⟩
 ·exact ai.pure hm (by simp[ar,aW,hr]) (by simpa[aU,b9]using a) q
 ·refine ai.V4 (args':=.aa false es::rest) hm (by simp[ar,aW]) ?_ (by simpa[aU,b9]using a) hs q;have h1:ly h (.aj id ep 0 es.length)=some (.aa false es):=by simp[ly,qi,getM,e2,hv]
  have h2:∀l:List PV,ar l=true->iK h l=some l:=by
   intro l
   induction l with
   |nil=>intro _;rfl
   |cons c l ih=>
    intro hl
    simp only[ar,ZD]at hl;simp only[iK,ih hl.2]
    have:ly h c=some c:=by
     unfold ly
     split
     ·rename_i cs
      have hcs:ar cs=true:=by simpa[aW]using hl.1
      have key:∀cs:List PV,ar cs=true->nW h cs=some cs:=by
       intro cs
       induction cs with
       |nil=>intro _;rfl
       |cons c cs ih=>
        intro hh
        simp only[ar,ZD]at hh
        have:qi h c=some c:=by
         unfold qi
         split
         ·simp[aW]at hh
         ·rw[if_pos hh.1]
        simp only[nW,this,ih hh.2]
      rw[key cs hcs];rfl
     ·unfold qi
      split
      ·simp[aW]at hl
      ·rw[if_pos hl.1]
    rw[this]
  simp only[iK,h1,h2 rest hr]
structure LP(H:ab)(v:PV)(sz:Nat)(fq:List PV)(r:PV)(h':ab):Prop where
 out:Out sz h' r fq
 hv:HV h'
 len:H.length<=h'.length
 fr:∀j,j<H.length->(∀ep n,v≠.aj j ep 0 n)->h'[j]?=H[j]?
 ref:∀j ep n,r=.aj j ep 0 n->(∃gV n',v=.aj j gV 0 n')\/H.length<=j
theorem kW{sz:Nat}:∀{es:List PV},es.all (jT sz)=true->ar es=true
 |[],_=>rfl
 |e::es,h=>by
  rw[aaq,ZD]at h;obtain⟨h1,h2⟩:=h;unfold jT at h1;simp only[ZD]at h1;simp only[ar,h1.1.1,kW h2,abF]
theorem wi{v e:PV}{es:List PV}{full:Bool}{j:Nat}(o:Out 5 h v es)(hV:HV h)(hj:j<=es.length)(hn:es.length<100000000)(iP:es.all (jT 5)=true)(NZ:jT 5 e=true):
  ∃rv h',jn [v,.int .i64 (j:Int),.aa full [e]] h=some (rv,h')/\LP h v 5 (es.take j++[e]++es.drop j) rv h':=by
 have he:ar (es.take j++[e]++es.drop j)=true:=by
  refine kW (sz:=5) ?_;rw[Zw]at iP ⊢
  intro x hx
  simp only[ZZ,ZE,ZY]at hx;rcases hx with hx |hx |hx
  ·exact iP x (aae hx)
  ·rw[hx];exact NZ
  ·exact iP x (aac hx)
 rcases o with⟨rfl,rfl⟩|⟨id,ep,rfl,e2⟩
 ·obtain rfl:j=0:=by simpa using hj
  refine⟨.aj h.length 0 0 1,h++[⟨.m,0,5,[e]⟩],?_,.inr ⟨h.length,0,rfl,by simp⟩,hV.ct (HV.one (by simpa using he)),by simp,λj hj _=>Zv hj,λj ep n hh=>?_⟩
  ·simp[jn,newObj,NZ]
  ·cases hh;exact .inr (Zz _)
 ·have cz:=ag e2;have hl:(es.take j++[e]++es.drop j).length=es.length+1:=by simp;omega
  refine⟨.aj id (ep+1) 0 (es.length+1),h.set id ⟨.m,ep+1,5,es.take j++[e]++es.drop j⟩,?_,.inr ⟨id,ep+1,by rw[hl],ZB cz⟩,hV.set id (by simp) he,by simp,λk hk bI=>?_,λk gV n hh=>?_⟩
  ·have hg:getM h id ep=some ⟨.m,ep,5,es⟩:=by simp[getM,e2]
   simp only[jn,hg,aap,aaH];rw[if_pos ⟨trivial,trivial,Zz _,by omega,by omega,hn,NZ,iP,hV.closed⟩]
  ·exact ZC (λhh=>bI ep es.length (by rw[hh]))
  ·cases hh;exact .inl ⟨ep,es.length,rfl⟩
theorem wj{id ep j:Nat}{es:List PV}(e2:h[id]?=some ⟨.m,ep,5,es⟩)(hV:HV h)(hj:j+1<=es.length)(hn:es.length<100000000)(iP:es.all (jT 5)=true):
  ∃rv h',kF [.aj id ep 0 es.length,.int .i64 (j:Int),.int .i64 ((j:Int)+1)] h=some (rv,h')/\LP h (.aj id ep 0 es.length) 5 (es.take j++es.drop (j+1)) rv h':=by
 have cz:=ag e2
 have he:ar (es.take j++es.drop (j+1))=true:=by
  refine kW (sz:=5) ?_;rw[Zw]at iP ⊢
  intro x hx
  rcases ZE.1 hx with hx |hx
  ·exact iP x (aae hx)
  ·exact iP x (aac hx)
 have hl:(es.take j++es.drop (j+1)).length=es.length - 1:=by simp;omega
 refine⟨.aj id (ep+1) 0 (es.length - 1),h.set id ⟨.m,ep+1,5,es.take j++es.drop (j+1)⟩,?_,.inr ⟨id,ep+1,by rw[hl],ZB cz⟩,hV.set id (by simp) he,by simp,λk hk bI=>?_,λk gV n hh=>?_⟩
 ·have hg:getM h id ep=some ⟨.m,ep,5,es⟩:=by simp[getM,e2]
  simp only[kF,hg,aap,aaH];rw[if_pos ⟨trivial,trivial,Zz _,by omega,trivial,by omega,hn,iP,hV.closed⟩]
 ·exact ZC (λhh=>bI ep es.length (by rw[hh]))
 ·cases hh;exact .inl ⟨ep,es.length,rfl⟩
end Go.Pm
namespace Go.Pm
set_option maxRecDepth 20000
def tsL:List (Option Nat):=[some (1),some (1),some (1),some (1),some (1),some (1),some (1),some (4),some (4),some (1),some (1),some (1),some (1),some (2),some (2),some (1),some (1),some (1),some (1),some (1),some (1),some (1),some (1),some (1),some (1),some (1),some (1),some (1),some (1),some (1),some (1),some (1),some (4),some (4),some (5),some (5),some (1),some (8),some (8),some (1),some (1),some (1),some (1),some (1),some (1),some (1),some (1),some (1),some (1),some (1),some (1),some (1),some (1),some (1),some (1),some (1),some (1),some (1),some (1),some (1),some (2),some (2),some (1),some (1),some (1),some (1),some (1),some (1),some (1),some (1),some (1),some (1),some (1),some (1),some (1),some (1),some (1),some (1),some (1),some (1),some (1),some (1),some (1),some (1),some (1),some (1),some (1),some (1),some (1),some (1),some (1),some (1),some (1),some (1),some (1),some (1),some (1),some (1),some (1),some (1),some (1),some (1),some (2),some (2),some (1),some (1),some (1),some (1),some (1),some (1),some (1),some (1),some (1),some (1),some (1),some (1),some (1),some (1),some (1),some (1),some (1),some (1),some (1),some (1),some (1),some (1),some (1),some (1),some (4),some (4),some (1),some (1),some (1),some (1),some (1),some (1),some (1),some (1),some (1),some (1),some (1),some (1),some (1),some (1),some (1),some (1),some (1),some (1),some (1),some (1),some (1),some (1),some (1),some (1),some (1),some (1),some (1),some (1),some (1),some (1),some (1),some (1),some (1),some (1),some (1),some (1),some (1),some (1),some (1),some (1),some (1),some (1),some (1),some (1),some (1),some (1),some (1),some (1),some (1),some (1),some (1),some (1),some (1),some (1),some (1),some (1),some (5),some (5),some (1),some (1),some (1),some (1),some (1),some (1),some (1),some (1),some (1),some (1),some (2),some (2),some (1),some (24),some (1),some (1),some (1),some (1),some (1),some (1),some (1),some (1),some (1),some (1),some (1),some (1),some (1),some (1),some (1),some (1),some (1),some (1),some (1),some (1),some (1),some (1),some (1),some (1),some (1),some (1),some (1),some (1),some (1),some (1),some (1),some (1),some (1),some (1),some (1),some (1),some (1),some (20),some (65),some (1),some (1),some (1),some (1),some (1),some (1),some (1),some (1),some (1),some (1),some (1),some (1),some (1),some (1),some (1),some (1),some (1),some (1),some (1),some (1),some (5),some (5),some (1),some (1),some (1),some (1),some (1),some (1),some (1),some (1),some (2),some (2),some (1),some (1),some (1),some (1),some (1),some (1),some (1),some (1),some (1),some (1),some (1),some (1),some (1),some (1),some (1),some (1),some (256),some (256),some (1),some (1),some (1),some (1),some (1),some (1),some (1),some (1),some (1),some (1),some (1),some (1),some (3),some (3),some (1),some (1),some (1),some (1),some (3),some (3),some (1),some (1),some (32),some (64),some (1),some (1),some (1),some (1),some (1),some (1),some (1),some (1),some (1),some (1),some (4),some (4),some (1),some (1),some (1),some (1),some (1),some (1),some (1),some (1),some (1),some (1),some (1),some (1),some (1),some (1),some (1),some (256),some (2),some (2),some (32),some (1),some (2),some (1),some (4),some (4),some (0),some (0),some (0),some (1),some (1),some (1),some (1),some (1),some (1),some (11),some (11)]
def tbL:List (Option Nat):=[some (0),some (8),some (8),some (8),some (1),some (1),some (1),some (24),some (24),some (16),some (16),some (16),some (8),some (24),some (24),some (8),some (8),some (8),some (8),some (8),some (16),some (4),some (24),some (24),some (8),some (8),some (8),some (8),some (0),some (8),some (8),some (24),some (56),some (56),some (80),some (80),some (8),some (112),some (112),some (8),some (24),some (24),some (8),some (8),some (8),some (8),some (8),some (24),some (8),some (8),some (0),some (8),some (8),some (8),some (0),some (8),some (8),some (8),some (8),some (24),some (48),some (48),some (8),some (8),some (8),some (0),some (8),some (8),some (8),some (8),some (8),some (8),some (8),some (8),some (8),some (8),some (8),some (8),some (8),some (0),some (8),some (0),some (8),some (8),some (8),some (0),some (8),some (8),some (8),some (0),some (8),some (8),some (8),some (8),some (8),some (8),some (8),some (8),some (8),some (8),some (8),some (8),some (32),some (32),some (16),some (16),some (0),some (8),some (8),some (8),some (8),some (8),some (8),some (8),some (8),some (8),some (8),some (8),some (8),some (8),some (8),some (8),some (8),some (8),some (8),some (8),some (8),some (8),some (40),some (40),some (8),some (8),some (24),some (0),some (8),some (8),some (8),some (8),some (8),some (8),some (8),some (8),some (8),some (8),some (8),some (8),some (8),some (8),some (8),some (8),some (8),some (8),some (8),some (8),some (8),some (24),some (8),some (8),some (8),some (8),some (8),some (8),some (8),some (8),some (0),some (8),some (8),some (8),some (8),some (8),some (8),some (8),some (8),some (8),some (8),some (24),some (0),some (8),some (8),some (8),some (8),some (0),some (8),some (24),some (8),some (8),some (64),some (64),some (8),some (8),some (8),some (8),some (8),some (8),some (24),some (8),some (24),some (8),some (32),some (32),some (8),some (24),some (8),some (8),some (8),some (0),some (8),some (8),some (8),some (0),some (8),some (8),some (8),some (8),some (8),some (8),some (8),some (0),some (8),some (8),some (8),some (8),some (8),some (4),some (0),some (8),some (8),some (8),some (0),some (8),some (0),some (8),some (8),some (8),some (8),some (8),some (8),some (8),some (8),some (160),some (65),some (8),some (8),some (8),some (8),some (8),some (8),some (8),some (8),some (8),some (8),some (8),some (8),some (8),some (8),some (24),some (24),some (0),some (8),some (8),some (8),some (72),some (72),some (24),some (8),some (8),some (8),some (8),some (24),some (0),some (8),some (48),some (48),some (8),some (8),some (8),some (0),some (8),some (8),some (8),some (8),some (8),some (8),some (8),some (8),some (8),some (0),some (8),some (8),some (256),some (256),some (0),some (8),some (8),some (8),some (8),some (0),some (8),some (8),some (8),some (8),some (0),some (8),some (56),some (56),some (8),some (8),some (8),some (24),some (72),some (72),some (0),some (8),some (32),some (64),some (8),some (8),some (8),some (0),some (8),some (8),some (8),some (0),some (8),some (24),some (80),some (80),some (8),some (8),some (0),some (8),some (0),some (8),some (8),some (8),some (8),some (8),some (8),some (8),some (0),some (8),some (8),some (256),some (2),some (2),some (32),some (8),some (48),some (24),some (40),some (40),some (0),some (0),some (0),some (8),some (1),some (1),some (8),some (4),some (4),some (48),some (48)]
def taL:List (Option Bool):=[some (false),some (false),some (false),some (false),some (false),some (false),some (false),some (true),some (true),some (false),some (false),some (false),some (false),some (true),some (true),some (false),some (false),some (false),some (true),some (true),some (false),some (false),some (false),some (false),some (false),some (false),some (false),some (false),some (false),some (false),some (false),some (false),some (true),some (true),some (true),some (true),some (false),some (true),some (true),some (false),some (false),some (false),some (false),some (false),some (false),some (false),some (false),some (false),some (false),some (false),some (false),some (false),some (false),some (false),some (false),some (false),some (false),some (false),some (false),some (false),some (true),some (true),some (false),some (false),some (false),some (false),some (false),some (false),some (false),some (false),some (false),some (false),some (false),some (false),some (false),some (false),some (false),some (false),some (false),some (false),some (false),some (false),some (false),some (false),some (false),some (false),some (false),some (false),some (false),some (false),some (false),some (false),some (false),some (false),some (false),some (false),some (false),some (false),some (false),some (false),some (false),some (false),some (true),some (true),some (false),some (false),some (false),some (false),some (false),some (false),some (false),some (false),some (false),some (false),some (false),some (false),some (false),some (false),some (false),some (false),some (false),some (false),some (false),some (false),some (false),some (false),some (false),some (false),some (true),some (true),some (false),some (false),some (false),some (false),some (false),some (false),some (false),some (false),some (false),some (false),some (false),some (false),some (false),some (false),some (false),some (false),some (false),some (false),some (false),some (false),some (false),some (false),some (false),some (false),some (false),some (false),some (false),some (false),some (false),some (false),some (false),some (false),some (false),some (false),some (false),some (false),some (false),some (false),some (false),some (false),some (false),some (false),some (false),some (false),some (false),some (false),some (false),some (false),some (false),some (false),some (false),some (false),some (false),some (false),some (false),some (false),some (true),some (true),some (false),some (false),some (false),some (false),some (false),some (false),some (false),some (false),some (false),some (false),some (true),some (true),some (false),some (true),some (false),some (false),some (false),some (false),some (false),some (false),some (false),some (false),some (false),some (false),some (false),some (false),some (false),some (false),some (false),some (false),some (false),some (false),some (false),some (false),some (false),some (false),some (false),some (false),some (false),some (false),some (false),some (false),some (false),some (false),some (false),some (false),some (false),some (false),some (false),some (false),some (false),some (true),some (true),some (false),some (false),some (false),some (false),some (false),some (false),some (false),some (false),some (false),some (false),some (false),some (false),some (false),some (false),some (false),some (false),some (false),some (false),some (false),some (false),some (true),some (true),some (false),some (false),some (false),some (false),some (false),some (false),some (false),some (false),some (true),some (true),some (false),some (false),some (false),some (false),some (false),some (false),some (false),some (false),some (false),some (false),some (false),some (false),some (false),some (false),some (false),some (false),some (true),some (true),some (false),some (false),some (false),some (false),some (false),some (false),some (false),some (false),some (false),some (false),some (false),some (false),some (true),some (true),some (false),some (false),some (false),some (false),some (true),some (true),some (false),some (false),some (true),some (true),some (false),some (false),some (false),some (false),some (false),some (false),some (false),some (false),some (false),some (false),some (true),some (true),some (false),some (false),some (false),some (false),some (false),some (false),some (false),some (false),some (false),some (false),some (false),some (false),some (false),some (false),some (false),some (true),some (true),some (true),some (true),some (false),some (true),some (false),some (true),some (true),some (true),some (true),some (true),some (false),some (false),some (false),some (false),some (false),some (false),some (true),some (true)]
def kdL:List (Option Kd):=[some (.other),some (.other),some (.int .i64),some (.int .i64),some (.bool),some (.int .u8),some (.int .u8),some (.st [(0,2),(1,3),(2,4),(3,6)]),some (.st [(0,2),(1,3),(2,4),(3,6)]),some (.str),some (.str),some (.str),some (.int .u64),some (.st [(0,9),(1,12)]),some (.st [(0,9),(1,12)]),some (.other),some (.other),some (.other),some (.st [(0,17)]),some (.st [(0,17)]),some (.other),some (.int .i32),some (.sl 35),some (.sl 38),some (.other),some (.other),some (.other),some (.int .i64),some (.other),some (.other),some (.other),some (.sl 33),some (.st [(0,3),(1,9),(2,3),(3,31)]),some (.st [(0,3),(1,9),(2,3),(3,31)]),some (.st [(0,31),(1,33)]),some (.st [(0,31),(1,33)]),some (.other),some (.st [(0,33),(4,33)]),some (.st [(0,33),(4,33)]),some (.other),some (.sl 41),some (.sl 5),some (.other),some (.other),some (.other),some (.other),some (.other),some (.sl 3),some (.other),some (.other),some (.other),some (.other),some (.other),some (.other),some (.other),some (.other),some (.other),some (.other),some (.other),some (.sl 9),some (.st [(0,59),(1,59)]),some (.st [(0,59),(1,59)]),some (.other),some (.other),some (.other),some (.other),some (.other),some (.other),some (.other),some (.other),some (.other),some (.other),some (.other),some (.other),some (.other),some (.other),some (.other),some (.other),some (.other),some (.other),some (.other),some (.other),some (.other),some (.other),some (.other),some (.other),some (.other),some (.other),some (.other),some (.other),some (.other),some (.other),some (.other),some (.other),some (.other),some (.mp 9 4),some (.other),some (.other),some (.other),some (.other),some (.other),some (.other),some (.st [(0,101),(1,41)]),some (.st [(0,101),(1,41)]),some (.other),some (.other),some (.other),some (.other),some (.other),some (.other),some (.other),some (.other),some (.other),some (.other),some (.other),some (.other),some (.other),some (.mp 3 3),some (.other),some (.other),some (.other),some (.other),some (.other),some (.other),some (.other),some (.other),some (.other),some (.other),some (.st [(0,9),(1,3),(2,3),(3,3)]),some (.st [(0,9),(1,3),(2,3),(3,3)]),some (.other),some (.other),some (.sl 33),some (.other),some (.other),some (.other),some (.other),some (.other),some (.other),some (.other),some (.other),some (.other),some (.other),some (.other),some (.other),some (.other),some (.other),some (.other),some (.other),some (.other),some (.other),some (.other),some (.other),some (.other),some (.other),some (.sl 129),some (.other),some (.other),some (.other),some (.other),some (.other),some (.other),some (.other),some (.other),some (.other),some (.other),some (.other),some (.other),some (.other),some (.other),some (.other),some (.other),some (.other),some (.other),some (.other),some (.sl 187),some (.other),some (.other),some (.other),some (.other),some (.other),some (.other),some (.other),some (.sl 31),some (.other),some (.other),some (.st [(0,33),(4,3)]),some (.st [(0,33),(4,3)]),some (.other),some (.other),some (.int .u64),some (.other),some (.other),some (.mp 9 3),some (.sl 199),some (.other),some (.sl 4),some (.other),some (.st [(0,47),(1,3)]),some (.st [(0,47),(1,3)]),some (.other),some (.arr 24 5),some (.int .u64),some (.other),some (.other),some (.other),some (.other),some (.other),some (.other),some (.other),some (.other),some (.other),some (.other),some (.other),some (.other),some (.other),some (.int .i64),some (.other),some (.other),some (.other),some (.other),some (.other),some (.other),some (.int .u32),some (.other),some (.other),some (.other),some (.other),some (.other),some (.other),some (.other),some (.other),some (.other),some (.other),some (.other),some (.other),some (.other),some (.other),some (.other),some (.arr 20 202),some (.arr 65 5),some (.other),some (.other),some (.other),some (.other),some (.other),some (.int .u64),some (.other),some (.other),some (.other),some (.other),some (.other),some (.other),some (.other),some (.other),some (.sl 202),some (.sl 202),some (.other),some (.other),some (.other),some (.mp 3 256),some (.st [(0,31),(1,3),(2,260),(3,260),(4,47)]),some (.st [(0,31),(1,3),(2,260),(3,260),(4,47)]),some (.sl 175),some (.other),some (.other),some (.other),some (.other),some (.sl 272),some (.other),some (.other),some (.st [(0,31),(1,47)]),some (.st [(0,31),(1,47)]),some (.other),some (.other),some (.other),some (.other),some (.other),some (.other),some (.other),some (.other),some (.other),some (.other),some (.other),some (.other),some (.other),some (.other),some (.other),some (.other),some (.arr 256 4),some (.arr 256 4),some (.other),some (.other),some (.other),some (.other),some (.other),some (.other),some (.other),some (.other),some (.other),some (.other),some (.other),some (.other),some (.st [(0,47),(1,47),(2,4)]),some (.st [(0,47),(1,47),(2,4)]),some (.other),some (.other),some (.other),some (.sl 47),some (.st [(0,31),(1,308),(2,47)]),some (.st [(0,31),(1,308),(2,47)]),some (.other),some (.other),some (.arr 32 5),some (.arr 64 5),some (.other),some (.other),some (.other),some (.other),some (.other),some (.other),some (.other),some (.other),some (.other),some (.sl 300),some (.st [(0,31),(1,324),(2,47),(3,4)]),some (.st [(0,31),(1,324),(2,47),(3,4)]),some (.other),some (.other),some (.other),some (.other),some (.other),some (.other),some (.other),some (.other),some (.other),some (.other),some (.other),some (.other),some (.other),some (.other),some (.other),some (.arr 256 5),some (.st [(0,5),(1,5)]),some (.st [(0,5),(1,5)]),some (.arr 16 344),some (.other),some (.arr 2 47),some (.sl 347),some (.st [(0,17),(1,17),(2,17),(3,9)]),some (.st [(0,17),(1,17),(2,17),(3,9)]),some (.arr 0 16),some (.st [(0,351)]),some (.st [(0,351)]),some (.other),some (.int .u8),some (.int .u8),some (.other),some (.int .i32),some (.int .i32),some (.st [(0,12),(1,12),(2,223),(3,355),(4,5),(5,5),(6,356),(7,357),(8,147),(9,358),(10,359)]),some (.st [(0,12),(1,12),(2,223),(3,355),(4,5),(5,5),(6,356),(7,357),(8,147),(9,358),(10,359)])]
def tzL:List (Option PV):=[none,some (.aG),some (.int .i64 (0)),some (.int .i64 (0)),some (.bool false),some (.int .u8 (0)),some (.int .u8 (0)),some (.agg [.int .i64 (0),.int .i64 (0),.bool false,.int .u8 (0)]),some (.agg [.int .i64 (0),.int .i64 (0),.bool false,.int .u8 (0)]),some (.str ByteArray.empty),some (.str ByteArray.empty),some (.str ByteArray.empty),some (.int .u64 (0)),some (.agg [.str ByteArray.empty,.int .u64 (0)]),some (.agg [.str ByteArray.empty,.int .u64 (0)]),some (.dW),some (.dW),some (.dW),some (.agg [.dW]),some (.agg [.dW]),none,some (.int .i32 (0)),some (.aa true []),some (.aa true []),some (.aG),some (.aG),some (.aG),some (.int .i64 (0)),none,some (.aG),some (.aG),some (.aa true []),some (.agg [.int .i64 (0),.str ByteArray.empty,.int .i64 (0),.aa true []]),some (.agg [.int .i64 (0),.str ByteArray.empty,.int .i64 (0),.aa true []]),some (.agg [.aa true [],.int .i64 (0),.str ByteArray.empty,.int .i64 (0),.aa true []]),some (.agg [.aa true [],.int .i64 (0),.str ByteArray.empty,.int .i64 (0),.aa true []]),some (.aG),some (.agg [.int .i64 (0),.str ByteArray.empty,.int .i64 (0),.aa true [],.int .i64 (0),.str ByteArray.empty,.int .i64 (0),.aa true []]),some (.agg [.int .i64 (0),.str ByteArray.empty,.int .i64 (0),.aa true [],.int .i64 (0),.str ByteArray.empty,.int .i64 (0),.aa true []]),some (.aG),some (.aa true []),some (.aa true []),some (.aG),some (.aG),some (.aG),some (.aG),some (.aG),some (.aa true []),some (.aG),some (.aG),none,some (.aG),some (.aG),some (.aG),none,some (.aG),some (.aG),some (.aG),some (.aG),some (.aa true []),some (.agg [.aa true [],.aa true []]),some (.agg [.aa true [],.aa true []]),some (.aG),some (.aG),some (.aG),none,some (.aG),some (.aG),some (.aG),some (.aG),some (.aG),some (.aG),some (.aG),some (.aG),some (.aG),some (.aG),some (.aG),some (.aG),some (.aG),none,some (.aG),none,some (.aG),some (.aG),some (.aG),none,some (.aG),some (.aG),some (.aG),none,some (.aG),some (.aG),some (.aG),some (.aG),some (.aG),some (.gf),some (.aG),some (.aG),some (.aG),some (.aG),some (.aG),some (.dW),some (.agg [.dW,.aa true []]),some (.agg [.dW,.aa true []]),none,none,none,some (.aG),some (.aG),some (.aG),some (.aG),some (.aG),some (.aG),some (.aG),some (.aG),some (.aG),some (.aG),some (.gf),some (.aG),some (.aG),some (.aG),some (.aG),some (.aG),some (.aG),some (.aG),some (.aG),some (.aG),some (.aG),some (.agg [.str ByteArray.empty,.int .i64 (0),.int .i64 (0),.int .i64 (0)]),some (.agg [.str ByteArray.empty,.int .i64 (0),.int .i64 (0),.int .i64 (0)]),some (.aG),some (.aG),some (.aa true []),none,some (.aG),some (.aG),some (.aG),some (.aG),some (.aG),some (.aG),some (.aG),some (.aG),some (.aG),some (.aG),some (.aG),some (.aG),some (.aG),some (.dW),some (.aG),some (.aG),some (.aG),some (.aG),some (.aG),some (.aG),some (.dW),some (.aa true []),some (.aG),some (.aG),some (.aG),some (.aG),some (.aG),some (.aG),some (.aG),some (.aG),none,some (.aG),some (.aG),some (.aG),some (.aG),some (.aG),some (.aG),some (.dW),some (.aG),some (.aG),some (.aG),some (.aa true []),none,some (.aG),some (.aG),some (.aG),some (.aG),none,some (.aG),some (.aa true []),some (.aG),some (.aG),some (.agg [.int .i64 (0),.str ByteArray.empty,.int .i64 (0),.aa true [],.int .i64 (0)]),some (.agg [.int .i64 (0),.str ByteArray.empty,.int .i64 (0),.aa true [],.int .i64 (0)]),some (.aG),some (.aG),some (.int .u64 (0)),some (.aG),some (.aG),some (.gf),some (.aa true []),some (.aG),some (.aa true []),some (.aG),some (.agg [.aa true [],.int .i64 (0)]),some (.agg [.aa true [],.int .i64 (0)]),some (.aG),none,some (.int .u64 (0)),some (.aG),some (.aG),none,some (.aG),some (.aG),some (.aG),none,some (.aG),some (.aG),some (.aG),some (.aG),some (.aG),some (.aG),some (.int .i64 (0)),none,some (.aG),some (.aG),some (.aG),some (.aG),some (.aG),some (.int .u32 (0)),none,some (.aG),some (.aG),some (.aG),none,some (.aG),none,some (.aG),some (.aG),some (.aG),some (.aG),some (.aG),some (.aG),some (.aG),some (.aG),none,none,some (.aG),some (.aG),some (.aG),some (.aG),some (.aG),some (.int .u64 (0)),some (.aG),some (.aG),some (.aG),some (.aG),some (.aG),some (.aG),some (.dW),some (.aG),some (.aa true []),some (.aa true []),none,some (.aG),some (.aG),some (.gf),some (.agg [.aa true [],.int .i64 (0),.gf,.gf,.aa true []]),some (.agg [.aa true [],.int .i64 (0),.gf,.gf,.aa true []]),some (.aa true []),some (.aG),some (.aG),some (.aG),some (.aG),some (.aa true []),none,some (.aG),some (.agg [.aa true [],.aa true []]),some (.agg [.aa true [],.aa true []]),some (.aG),some (.aG),some (.aG),none,some (.aG),some (.dW),some (.aG),some (.aG),some (.aG),some (.aG),some (.aG),some (.aG),some (.dW),none,some (.aG),some (.aG),none,none,none,some (.aG),some (.aG),some (.dW),some (.aG),none,some (.aG),some (.aG),some (.dW),some (.dW),none,some (.aG),some (.agg [.aa true [],.aa true [],.bool false]),some (.agg [.aa true [],.aa true [],.bool false]),some (.aG),some (.aG),some (.aG),some (.aa true []),some (.agg [.aa true [],.aa true [],.aa true []]),some (.agg [.aa true [],.aa true [],.aa true []]),none,some (.aG),none,none,some (.aG),some (.aG),some (.aG),none,some (.aG),some (.aG),some (.aG),none,some (.aG),some (.aa true []),some (.agg [.aa true [],.aa true [],.aa true [],.bool false]),some (.agg [.aa true [],.aa true [],.aa true [],.bool false]),some (.aG),some (.aG),none,some (.aG),none,some (.aG),some (.aG),some (.aG),some (.aG),some (.aG),some (.aG),some (.aG),none,some (.aG),some (.aG),none,some (.agg [.int .u8 (0),.int .u8 (0)]),some (.agg [.int .u8 (0),.int .u8 (0)]),none,some (.aG),some (.agg [.aa true [],.aa true []]),some (.aa true []),some (.agg [.dW,.dW,.dW,.str ByteArray.empty]),some (.agg [.dW,.dW,.dW,.str ByteArray.empty]),some (.agg []),some (.agg []),some (.agg []),some (.aG),some (.int .u8 (0)),some (.int .u8 (0)),some (.aG),some (.int .i32 (0)),some (.int .i32 (0)),some (.agg [.int .u64 (0),.int .u64 (0),.int .u32 (0),.int .u8 (0),.int .u8 (0),.int .u8 (0),.int .u8 (0),.aG,.dW,.int .i32 (0),.int .i32 (0)]),some (.agg [.int .u64 (0),.int .u64 (0),.int .u32 (0),.int .u8 (0),.int .u8 (0),.int .u8 (0),.int .u8 (0),.aG,.dW,.int .i32 (0),.int .i32 (0)])]
def tN:Nat:=362
theorem Y3:(List.range tN).map (cg C.P)=tsL:=by kernel_rfl
theorem Y4:(List.range tN).map (GA C.P)=taL:=by kernel_rfl
theorem Y5:(List.range tN).map (lT C.P)=tbL:=by kernel_rfl
theorem Y6:(List.range tN).map (λt=>(C.P.underlying t).map nQ)=kdL:=by kernel_rfl
theorem Y7:(List.range tN).map (λt=>if(tzL.getD t none).isSome then iL C.P t else none)=tzL:=by kernel_rfl
theorem xm{α:Type}{f:Nat->Option α}{l:List (Option α)}(h:(List.range tN).map f=l)(t:Nat)(n:α)(e:(l[t]?).bind id=some n):f t=some n:=by
 subst h;rw[ZP]at e
 cases hr:(List.range tN)[t]? with
 |none=>rw[hr]at e;simp at e
 |some k=>
  rw[hr]at e
  have hk:k=t:=by
   have:=List.getElem?_eq_some_iff.1 hr;obtain⟨h1,h2⟩:=this;simp at h2;exact h2.symm
  subst hk;simpa using e
def T6:lz C.P where
 ts t:=(tsL[t]?).bind id
 ta t:=(taL[t]?).bind id
 tb t:=(tbL[t]?).bind id
 kd t:=(kdL[t]?).bind id
 tz t:=(tzL[t]?).bind id
 dO:=xm Y3
 LG:=xm Y4
 rV:=xm Y5
 cP:=xm Y6
 mO t n e:=by
  have:=xm Y7 t n e
  split at this
  ·exact this
  ·cases this
inductive Tm where
 |mk (kind:Int) (name:ByteArray) (sort:Int) (kids:List Tm)
def Tm.kids:Tm->List Tm | .mk _ _ _ k=>k
mutual
def enc:Tm->PV
 | .mk k s o l=>.agg [.int .i64 k,.str s,.int .i64 o,.aa false (ae l)]
def ae:List Tm->List PV
 |[]=>[]
 |t::l=>enc t::ae l
end
mutual
theorem pO:∀t,aW (enc t)=true
 | .mk k s o l=>by simp[enc,aW,ar]
end
theorem eR(l:List Tm):ar (ae l)=true:=by
 induction l with
 |nil=>rfl
 |cons t l ih=>simp[ae,ar,pO,ih]
mutual
theorem uO:∀t,b9 (enc t)=enc t
 | .mk k s o l=>by simp[enc,b9,aU,ba l]
theorem ba:∀l,aU (ae l)=ae l
 |[]=>rfl
 |t::l=>by simp[ae,aU,uO t,ba l]
end
theorem an(l:List Tm):(ae l).length=l.length:=by
 induction l with
 |nil=>rfl
 |cons t l ih=>simp[ae,ih]
theorem cU(l:List Tm):ae l=l.map enc:=by
 induction l with
 |nil=>rfl
 |cons t l ih=>simp[ae,ih]
theorem OS(t:Tm):∃a b c d,enc t=.agg [a,b,c,d]:=by cases t;exact⟨_,_,_,_,by rw[enc]⟩
mutual
def ax:Tm->Nat
 | .mk k s o l=>1+s.size+bz l
def bz:List Tm->Nat
 |[]=>0
 |t::l=>ax t+bz l
end
theorem vJ(t:Tm):0<ax t:=by cases t;simp[ax];omega
theorem bD(l:List Tm):l.length<=bz l:=by
 induction l with
 |nil=>simp
 |cons t l ih=>have:=vJ t;simp[bz];omega
theorem bN{l:List Tm}{t:Tm}(h:t∈l):ax t<=bz l:=by
 induction l with
 |nil=>cases h
 |cons u l ih=>
  simp only[bz];rcases ZF.1 h with rfl |h
  ·omega
  ·have:=ih h;omega
theorem Tm.ind{P:Tm->Prop}(h:∀k s o l,(∀t∈l,P t)->P (.mk k s o l)):∀t,P t:=by
 intro t
 have key:∀n t,ax t<=n->P t:=by
  intro n
  induction n with
  |zero=>intro t ht;have:=vJ t;omega
  |succ n ih=>
   intro t ht
   obtain⟨k,s,o,l⟩:=t;refine h k s o l (λu hu=>ih u ?_);have:=bN hu;simp[ax]at ht;omega
 exact key (ax t) t (Zz _)
theorem OT{l:List Tm}{i:Nat}(hc:(i:Int)<((ae l).length:Int)):∃t a1 a2 a3 a4,t∈l/\enc t=.agg [a1,a2,a3,a4]/\(ae l)[i]?=some (.agg [a1,a2,a3,a4])/\l.drop i=t::l.drop (i+1)/\i<l.length/\l[i]?=some t:=by
 have mX:i<l.length:=by have:=an l;omega
 obtain⟨a1,a2,a3,a4,ha⟩:=OS l[i];refine⟨l[i],a1,a2,a3,a4,Z2 mX,ha,?_,aa2 mX,mX,Zy mX⟩;rw[cU,ZP,Zy mX,<-ha]
 rfl
theorem jM{l:List Tm}{i:Nat}(hc:¬(i:Int)<((ae l).length:Int)):l.drop i=[]:=Z5 (by have:=an l;omega)
theorem bj(k:Int)(s:ByteArray)(o:Int)(l:List Tm):enc (.mk k s o l)=.agg [.int .i64 k,.str s,.int .i64 o,.aa false (ae l)]:=by rw[enc]
theorem fY{l:List Tm}{i:Nat}(hc:(i:Int)<((ae l).length:Int)):∃k s o l',.mk k s o l'∈l/\(ae l)[i]?=some (.agg [.int .i64 k,.str s,.int .i64 o,.aa false (ae l')])/\l.drop i=.mk k s o l'::l.drop (i+1)/\i<l.length/\l[i]?=some (.mk k s o l'):=by
 obtain⟨t,a1,a2,a3,a4,h1,h2,h3,h4,h5,h6⟩:=OT hc;obtain⟨k,s,o,l'⟩:=t;rw[bj]at h2;exact⟨k,s,o,l',h1,by rw[h3,<-h2],h4,h5,h6⟩
mutual
def size:Tm->Int
 | .mk _ _ _ l=>1+dJ l
def dJ:List Tm->Int
 |[]=>0
 |t::l=>size t+dJ l
end
mutual
theorem gj:∀t,0<size t/\size t<=(ax t:Int)
 | .mk k s o l=>by
  have:=cW l;simp only[size,ax];omega
theorem cW:∀l,0<=dJ l/\dJ l<=(bz l:Int)
 |[]=>by simp[dJ,bz]
 |t::l=>by
  have h1:=gj t;have h2:=cW l;simp only[dJ,bz];omega
end
def eX(a b:Int):Int:=if a<b then -1 else if b<a then 1 else 0
mutual
def aT:Tm->Tm->Int
 | .mk k s o l,.mk k' s' o' l'=>
  if eX (size (.mk k s o l)) (size (.mk k' s' o' l'))≠0 then eX (size (.mk k s o l)) (size (.mk k' s' o' l'))else
  if eX k k'≠0 then eX k k' else
  if Op.bytesLess s.toList s'.toList=true then -1 else
  if(!(Op.bytesLess s.toList s'.toList ||s.toList==s'.toList))=true then 1 else
  if eX o o'≠0 then eX o o' else
  if eX l.length l'.length≠0 then eX l.length l'.length else lB l l'
def lB:List Tm->List Tm->Int
 |[],_=>0
 |_::_,[]=>0
 |t::l,t'::l'=>if aT t t'≠0 then aT t t' else lB l l'
end
def ll(x y:Int):Int:=if x≠0 then x else y
def eI:List UInt8->List UInt8->Int:=Lib.compareBytes
theorem LU:∀a b:List UInt8,Op.bytesLess a b=decide (eI a b<0)/\((a==b)=decide (eI a b=0))
 |[],[]=>by simp[Op.bytesLess,eI,Lib.compareBytes]
 |[],_::_=>by simp[Op.bytesLess,eI,Lib.compareBytes]
 |_::_,[]=>by simp[Op.bytesLess,eI,Lib.compareBytes]
 |a::x,b::y=>by
  obtain⟨h1,h2⟩:=LU x y;have hc:eI (a::x) (b::y)=if a<b then -1 else if b<a then 1 else eI x y:=rfl
  have key:a<b\/b<a\/a=b:=by
   rcases aaT a.toNat b.toNat with h |h |h
   ·exact .inl (aay.2 h)
   ·exact .inr (.inr (UInt8.toNat_inj.1 h))
   ·exact .inr (.inl (aay.2 h))
  have asym:∀p q:UInt8,p<q->¬q<p:=λp q h1 h2=>by
   have:=aay.1 h1;have:=aay.1 h2;omega
  have irr:∀p:UInt8,¬p<p:=λp h1=>asym p p h1 h1
  rcases key with h |h |h
  ·have bI:a≠b:=λe=>irr b (e▸h)
   rw[hc,if_pos h];simp[Op.bytesLess,h,bI]
  ·have bI:a≠b:=λe=>irr b (e▸h)
   have hn:=asym _ _ h;rw[hc,if_neg hn,if_pos h];simp[Op.bytesLess,hn,bI]
  ·subst h;rw[hc,if_neg (irr a),if_neg (irr a)];simp only[Op.bytesLess,h1,irr,decide_false,aa0,BEq.rfl,aaE,true_and];rw[<-h2];simp[List.cons_beq_cons]
structure OQ(x y z:Int):Prop where
 e1:x=0->z=y
 e2:y=0->z=x
 lt:x<0->y<0->z<0
theorem OQ.lex{x y z x' y' z':Int}(a:OQ x y z)(b:x=0->y=0->OQ x' y' z'):OQ (ll x x') (ll y y') (ll z z'):=by
 obtain⟨e1,e2,lt⟩:=a;unfold ll
 by_cases hx:x=0 <;>by_cases hy:y=0
 ·have hz:z=0:=by rw[e1 hx,hy]
  rw[if_neg (by simp[hx]),if_neg (by simp[hy]),if_neg (by simp[hz])];exact b hx hy
 ·have hz:z=y:=e1 hx;rw[if_neg (by simp[hx]),if_pos hy,hz,if_pos hy];exact⟨λ_=>rfl,λh=>absurd h hy,λ_ h=>h⟩
 ·have hz:z=x:=e2 hy;rw[if_neg (by simp[hy]:¬y≠0),if_pos hx,hz,if_pos hx];exact⟨λh=>absurd h hx,λ_=>rfl,λh _=>h⟩
 ·rw[if_pos hx,if_pos hy];refine⟨λh=>absurd h hx,λh=>absurd h hy,λh1 h2=>?_⟩;have:=lt h1 h2;rw[if_pos (by omega)];exact this
theorem pP(x y:Int):ll (-x) (-y)=- ll x y:=by unfold ll;split <;>split <;>omega
theorem LV{x y:Int}:ll x y=0↔x=0/\y=0:=by unfold ll;split <;>omega
theorem jB{x y:Int}(h:ll x y=0):x=0/\y=0:=LV.1 h
theorem pn(a b c:Int):OQ (eX a b) (eX b c) (eX a c):=by
 unfold eX
 constructor <;>(repeat' split) <;>omega
theorem pp(a b:Int):eX b a=- eX a b:=by unfold eX;(repeat' split) <;>omega
theorem iH{a b:Int}(h:eX a b=0):a=b:=by unfold eX at h;(repeat' split at h) <;>omega
theorem LW(a b:Int):eX a b=-1\/eX a b=0\/eX a b=1:=by unfold eX;(repeat' split) <;>omega
theorem il(a b:UInt8)(x y:List UInt8):eI (a::x) (b::y)=ll (eX a.toNat b.toNat) (eI x y):=by
 have hc:eI (a::x) (b::y)=if a<b then -1 else if b<a then 1 else eI x y:=rfl;rw[hc]
 by_cases h1:a<b
 ·have:=aay.1 h1;have e:eX a.toNat b.toNat=-1:=by unfold eX;rw[if_pos (by omega)]
  rw[if_pos h1,e];rfl
 ·by_cases h2:b<a
  ·have:=aay.1 h2;have e:eX a.toNat b.toNat=1:=by unfold eX;rw[if_neg (by omega),if_pos (by omega)]
   rw[if_neg h1,if_pos h2,e];rfl
  ·have MS:¬a.toNat<b.toNat:=λh=>h1 (aay.2 h)
   have h2':¬b.toNat<a.toNat:=λh=>h2 (aay.2 h)
   have e:eX a.toNat b.toNat=0:=by unfold eX;rw[if_neg (by omega),if_neg (by omega)]
   rw[if_neg h1,if_neg h2,e];rfl
theorem zt:∀a b c:List UInt8,OQ (eI a b) (eI b c) (eI a c)
 |[],[],[]=>by constructor <;>decide
 |[],[],_::_=>by constructor <;>intros <;>simp_all[eI,Lib.compareBytes]
 |[],_::_,[]=>by constructor <;>intros <;>simp_all[eI,Lib.compareBytes]
 |[],b::y,c::z=>by
  have e1:eI [] (b::y)=-1:=rfl;have e2:eI [] (c::z)=-1:=rfl;rw[e1,e2]
  constructor <;>intros <;>omega
 |_::_,[],[]=>by constructor <;>intros <;>simp_all[eI,Lib.compareBytes]
 |a::x,[],c::z=>by
  have e1:eI (a::x) []=1:=rfl;have e2:eI [] (c::z)=-1:=rfl;rw[e1,e2]
  constructor <;>intros <;>omega
 |a::x,b::y,[]=>by
  have e1:eI (a::x) []=1:=rfl;have e2:eI (b::y) []=1:=rfl;rw[e1,e2]
  constructor <;>intros <;>omega
 |a::x,b::y,c::z=>by
  rw[il,il,il];exact(pn _ _ _).lex (λ_ _=>zt x y z)
theorem zu:∀a b:List UInt8,eI b a=- eI a b
 |[],[]=>rfl
 |[],_::_=>rfl
 |_::_,[]=>rfl
 |a::x,b::y=>by rw[il,il,zu x y,pp a.toNat b.toNat,pP]
theorem xl:∀{a b:List UInt8},eI a b=0->a=b
 |[],[],_=>rfl
 |[],_::_,h=>by cases h
 |_::_,[],h=>by cases h
 |a::x,b::y,h=>by
  rw[il]at h;obtain⟨h1,h2⟩:=jB h;have:=iH h1;rw[xl h2,UInt8.toNat_inj.1 (by omega:a.toNat=b.toNat)]
def AN(s s':ByteArray):Int:=eI s.toList s'.toList
theorem zw:∀a b:List UInt8,eI a b=-1\/eI a b=0\/eI a b=1
 |[],[]=>.inr (.inl rfl)
 |[],_::_=>.inl rfl
 |_::_,[]=>.inr (.inr rfl)
 |a::x,b::y=>by
  rw[il];have h1:=LW a.toNat b.toNat;have h2:=zw x y;unfold ll
  split <;>omega
theorem F6{a b:ByteArray}(h:a.toList=b.toList):a=b:=by
 rw[ByteArray.toList_eq,ByteArray.toList_eq]at h
 cases a;cases b
 simp at h;subst h
 rfl
theorem lm(k s o l k' s' o' l'):aT (.mk k s o l) (.mk k' s' o' l')=ll (eX (size (.mk k s o l)) (size (.mk k' s' o' l'))) (ll (eX k k') (ll (AN s s') (ll (eX o o') (ll (eX l.length l'.length) (lB l l'))))):=by
 rw[aT];obtain⟨b1,b2⟩:=LU s.toList s'.toList;have b3:=zw s.toList s'.toList;rw[b1,b2];unfold ll AN
 split
 ·rfl
 ·split
  ·rfl
  ·rcases b3 with b3 |b3 |b3
   ·rw[if_pos (by simp[b3])];simp[b3]
   ·rw[if_neg (by simp[b3]),if_neg (by simp[b3])];simp[b3]
   ·rw[if_neg (by simp[b3]),if_pos (by simp[b3])];simp[b3]
theorem lq(t t' l l'):lB (t::l) (t'::l')=ll (aT t t') (lB l l'):=by rw[lB];rfl
theorem CZ:∀{l l':List Tm},l.length=l'.length->(∀t∈l,∀t',aT t' t=- aT t t')->lB l' l=- lB l l'
 |[],[],_,_=>by simp[lB]
 |t::l,t'::l',hl,h=>by
  rw[lq,lq,h t (by simp) t',CZ (by simpa using hl) (λu hu=>h u (by simp[hu])),pP]
theorem dU(t:Tm):∀t',aT t' t=- aT t t':=by
 induction t using Tm.ind with
 |h k s o l ih=>
  rintro⟨k',s',o',l'⟩;rw[lm,lm,pp (size (.mk k s o l)),pp k,show AN s' s=- AN s s' from zu _ _,pp o,pp (l.length:Int)];rw[<-pP,<-pP,<-pP,<-pP]
  congr 4
  unfold ll
  split
  ·rw[if_pos (by omega)]
  ·rename_i h
   rw[if_neg (by omega)];refine CZ ?_ ih;have h':eX (l.length:Int) l'.length=0:=by omega
   have:=iH h';omega
theorem zx:∀{l l':List Tm},l.length=l'.length->(∀t∈l,∀t',aT t t'=0->t=t')->lB l l'=0->l=l'
 |[],[],_,_,_=>rfl
 |t::l,t'::l',hl,h,e=>by
  rw[lq]at e;obtain⟨e1,e2⟩:=jB e;rw[h t (by simp) t' e1,zx (by simpa using hl) (λu hu=>h u (by simp[hu])) e2]
theorem dn{t:Tm}:∀{t':Tm},aT t t'=0->t=t':=by
 induction t using Tm.ind with
 |h k s o l ih=>
  rintro⟨k',s',o',l'⟩ h;rw[lm]at h;obtain⟨_,h⟩:=jB h;obtain⟨h1,h⟩:=jB h;obtain⟨h2,h⟩:=jB h;obtain⟨h3,h⟩:=jB h;obtain⟨h4,h⟩:=jB h;have h4':=iH h4;rw[iH h1,F6 (xl h2),iH h3,zx (by omega) (λt ht t' e=>ih t ht e) h]
theorem cX(t:Tm):aT t t=0:=by have:=dU t t;omega
theorem C1:∀{l l' W3:List Tm},l.length=l'.length->l'.length=W3.length->(∀t∈l,∀t' Te,OQ (aT t t') (aT t' Te) (aT t Te))->OQ (lB l l') (lB l' W3) (lB l W3)
 |[],[],[],_,_,_=>by simp[lB];constructor <;>omega
 |t::l,t'::l',Te::W3,h1,h2,h=>by
  rw[lq,lq,lq];exact(h t (by simp) t' Te).lex (λ_ _=>C1 (by simpa using h1) (by simpa using h2) (λu hu=>h u (by simp[hu])))
theorem LX(t:Tm):∀t' Te,OQ (aT t t') (aT t' Te) (aT t Te):=by
 induction t using Tm.ind with
 |h k s o l ih=>
  rintro⟨k',s',o',l'⟩ ⟨k2,s2,o2,l2⟩;rw[lm,lm,lm];refine(pn _ _ _).lex λ_ _=>(pn _ _ _).lex λ_ _=>(zt _ _ _).lex λ_ _=>(pn _ _ _).lex λ_ _=>(pn _ _ _).lex λh1 h2=>?_;have MS:=iH h1;have h2':=iH h2;exact C1 (by omega) (by omega) ih
theorem dM{a b c:Tm}(h1:aT a b<0)(h2:aT b c<0):aT a c<0:=(LX a b c).lt h1 h2
abbrev Pw:=Tm×Int
def uY:Pw->PV
 |(.mk k s o l,n)=>.agg [.int .i64 k,.str s,.int .i64 o,.aa false (ae l),.int .i64 n]
def bh(l:List Pw):List PV:=l.map uY
def EU(t:Tm)(n:Int):Bool->List Pw->List Pw
 |d,[]=>if d then[]else[(t,n)]
 |d,p::l=>(if d=false/\aT t p.1<0 then[(t,n)]else[])++((if(if aT t p.1=0 then p.2+n else p.2)≠0 then[(p.1,if aT t p.1=0 then p.2+n else p.2)]else[])++EU t n (d ||decide (aT t p.1<=0)) l)
def je(t:Tm)(n:Int):List Pw->List Pw
 |[]=>[(t,n)]
 |p::l=>if aT p.1 t<0 then p::je t n l else if aT p.1 t=0 then(if p.2+n=0 then l else(p.1,p.2+n)::l)else(t,n)::p::l
def zJ(l:List Pw):Prop:=l.Pairwise λp q=>aT p.1 q.1<0
def Nz(l:List Pw):Prop:=∀p∈l,p.2≠0
theorem sN(t:Tm)(n:Int):∀(l:List Pw),Nz l->(∀p∈l,aT t p.1<0)->EU t n true l=l
 |[],_,_=>rfl
 |p::l,h1,h2=>by
  have e:=h2 p (by simp);have z:=h1 p (by simp);have ih:=sN t n l (λq hq=>h1 q (by simp[hq])) (λq hq=>h2 q (by simp[hq]));simp only[EU,aab,false_and,if_false,aad,abw,ih];rw[if_neg (show¬aT t p.1=0 by omega),if_pos z]
  rfl
theorem CO(t:Tm)(n:Int):∀(l:List Pw),zJ l->Nz l->EU t n false l=je t n l
 |[],_,_=>by simp[EU,je]
 |p::l,h1,h2=>by
  have z:=h2 p (by simp);obtain⟨s1,s2⟩:=ZQ.1 h1;have nz:Nz l:=λq hq=>h2 q (by simp[hq])
  have ng:=dU p.1 t;rw[EU,je]
  by_cases c1:aT p.1 t<0
  ·rw[if_pos c1,if_neg (by omega),if_neg (show¬aT t p.1=0 by omega),if_pos z,show(false ||decide (aT t p.1<=0))=false by simp;omega,CO t n l s2 nz]
   rfl
  ·by_cases c2:aT p.1 t=0
   ·have e:=dn c2;have hd:=sN t n l nz (λq hq=>by rw[<-e];exact s1 q hq);rw[if_neg c1,if_pos c2,if_neg (by omega),if_pos (show aT t p.1=0 by omega),show(false ||decide (aT t p.1<=0))=true by simp;omega,hd]
    by_cases c3:p.2+n=0
    ·rw[if_pos c3,if_neg (by omega)];rfl
    ·rw[if_neg c3,if_pos c3];rfl
   ·have hd:=sN t n l nz (λq hq=>dM (show aT t p.1<0 by omega) (s1 q hq));rw[if_neg c1,if_neg c2,if_pos ⟨rfl,by omega⟩,if_neg (show¬aT t p.1=0 by omega),if_pos z,show(false ||decide (aT t p.1<=0))=true by simp;omega,hd]
    rfl
theorem uZ{t:Tm}{n:Int}:∀{l:List Pw} {p:Pw},p∈je t n l->p.1=t\/∃q∈l,q.1=p.1
 |[],p,h=>by simp[je]at h;exact .inl (by rw[h])
 |q::l,p,h=>by
  rw[je]at h
  split at h
  ·rcases ZF.1 h with rfl |h
   ·exact .inr ⟨p,by simp,rfl⟩
   ·rcases uZ h with h |⟨r,h,e⟩
    ·exact .inl h
    ·exact .inr ⟨r,by simp[h],e⟩
  ·split at h
   ·split at h
    ·exact .inr ⟨p,by simp[h],rfl⟩
    ·rcases ZF.1 h with rfl |h
     ·exact .inr ⟨q,by simp,rfl⟩
     ·exact .inr ⟨p,by simp[h],rfl⟩
   ·rcases ZF.1 h with rfl |h
    ·exact .inl rfl
    ·exact .inr ⟨p,h,rfl⟩
theorem Gk{t:Tm}{n:Int}(hn:n≠0):∀{l:List Pw},Nz l->Nz (je t n l)
 |[],_=>by intro p hp;simp[je]at hp;subst hp;exact hn
 |q::l,h=>by
  have h1:Nz l:=λr hr=>h r (by simp[hr])
  rw[je]
  split
  ·intro p hp
   rcases ZF.1 hp with rfl |hp
   ·exact h p (by simp)
   ·exact Gk hn h1 p hp
  ·split
   ·split
    ·exact h1
    ·intro p hp
     rcases ZF.1 hp with rfl |hp
     ·assumption
     ·exact h1 p hp
   ·intro p hp
    rcases ZF.1 hp with rfl |hp
    ·exact hn
    ·exact h p hp
theorem CP{t:Tm}{n:Int}:∀{l:List Pw},zJ l->zJ (je t n l)
 |[],_=>by simp[je,zJ]
 |q::l,h=>by
  obtain⟨s1,s2⟩:=ZQ.1 h;rw[je];have ng:=dU q.1 t
  split
  ·rename_i c
   refine ZQ.2 ⟨λp hp=>?_,CP s2⟩;rcases uZ hp with e |⟨r,hr,e⟩
   ·rw[e];exact c
   ·rw[<-e];exact s1 r hr
  ·split
   ·split
    ·exact s2
    ·exact ZQ.2 ⟨s1,s2⟩
   ·refine ZQ.2 ⟨λp hp=>?_,h⟩;have c:aT t q.1<0:=by omega
    rcases ZF.1 hp with rfl |hp
    ·exact c
    ·exact dM c (s1 p hp)
theorem CQ{t:Tm}{n:Int}:∀(l:List Pw),(je t n l).length<=l.length+1
 |[]=>by simp[je]
 |q::l=>by
  have:=CQ (t:=t) (n:=n) l;rw[je]
  (repeat' split) <;>simp <;>omega
def sY:List UInt8:=[109,117,108]
def lI:List UInt8:=[105,110,118]
def sZ:List UInt8:=[111,110,101]
def de:Tm->Bool
 | .mk k s o l=>decide (k=3)&& (decide (s.toList=sY)||decide (s.toList=lI)||decide (s.toList=sZ))
mutual
def arity:Tm->Bool
 | .mk k s o l=>if de (.mk k s o l)=false then true else
  if(s.toList=sY/\l.length<2)\/(s.toList=lI/\l.length≠1)\/(s.toList=sZ/\l.length≠0)then false else lK l
def lK:List Tm->Bool
 |[]=>true
 |t::l=>if arity t=false then false else lK l
end
mutual
def fU(a:List Pw):Tm->Int->List Pw
 | .mk k s o l,n=>if de (.mk k s o l)=false then je (.mk k s o l) n a else gL a l (if s.toList=lI then -n else n)
def gL(a:List Pw):List Tm->Int->List Pw
 |[],_=>a
 |t::l,n=>gL (fU a t n) l n
end
mutual
def LD(a:List Pw):Tm->Int->List Pw
 | .mk k s o l,n=>if de (.mk k s o l)=false then EU (.mk k s o l) n false a else w9 a l (if s.toList=lI then -n else n)
def w9(a:List Pw):List Tm->Int->List Pw
 |[],_=>a
 |t::l,n=>w9 (LD a t n) l n
end
mutual
theorem Gl:∀(t:Tm) (a:List Pw) (n:Int),zJ a->Nz a->n≠0->zJ (fU a t n)/\Nz (fU a t n)/\LD a t n=fU a t n
 | .mk k s o l,a,n,h1,h2,h3=>by
  rw[fU,LD]
  split
  ·exact⟨CP h1,Gk h3 h2,CO _ _ _ h1 h2⟩
  ·exact CR l a _ h1 h2 (by split <;>omega)
theorem CR:∀(l:List Tm) (a:List Pw) (n:Int),zJ a->Nz a->n≠0->zJ (gL a l n)/\Nz (gL a l n)/\w9 a l n=gL a l n
 |[],a,n,h1,h2,_=>by rw[gL,w9];exact⟨h1,h2,rfl⟩
 |t::l,a,n,h1,h2,h3=>by
  obtain⟨g1,g2,g3⟩:=Gl t a n h1 h2 h3;rw[gL,w9,g3];exact CR l _ n g1 g2 h3
end
mutual
theorem wP:∀(t:Tm) (a:List Pw) (n:Int),((fU a t n).length:Int)<=a.length+size t
 | .mk k s o l,a,n=>by
  rw[fU];have:=cW l
  split
  ·have:=CQ (t:=.mk k s o l) (n:=n) a;simp only[size];omega
  ·have:=zq l a (if s.toList=lI then -n else n);simp only[size];omega
theorem zq:∀(l:List Tm) (a:List Pw) (n:Int),((gL a l n).length:Int)<=a.length+dJ l
 |[],a,n=>by simp[gL,dJ]
 |t::l,a,n=>by
  have h1:=wP t a n;have h2:=zq l (fU a t n) n;rw[gL,dJ];omega
end
def Bd(B:Int)(l:List Pw):Prop:=∀p∈l,-B<=p.2/\p.2<=B
theorem Gm{B:Int}{t:Tm}{n:Int}(h1: -1<=n)(h2:n<=1)(hB:0<=B):∀{l:List Pw},Bd B l->Bd (B+1) (je t n l)
 |[],_=>by intro p hp;simp[je]at hp;subst hp;simp only;omega
 |q::l,h=>by
  have hl:Bd B l:=λr hr=>h r (by simp[hr])
  have xD:Bd (B+1) l:=λr hr=>by have:=hl r hr;omega
  have hq:=h q (by simp);rw[je]
  split
  ·intro p hp
   rcases ZF.1 hp with rfl |hp
   ·omega
   ·exact Gm h1 h2 hB hl p hp
  ·split
   ·split
    ·exact xD
    ·intro p hp
     rcases ZF.1 hp with rfl |hp
     ·simp only;omega
     ·exact xD p hp
   ·intro p hp
    rcases ZF.1 hp with rfl |hp
    ·simp only;omega
    ·have:=h p hp;omega
mutual
theorem Gn:∀(t:Tm) (a:List Pw) (n B:Int),-1<=n->n<=1->0<=B->Bd B a->Bd (B+size t) (fU a t n)
 | .mk k s o l,a,n,B,h1,h2,h3,h4=>by
  rw[fU];have:=cW l
  split
  ·intro p hp
   have:=Gm h1 h2 h3 h4 p hp;simp only[size];omega
  ·intro p hp
   have:=CS l a (if s.toList=lI then -n else n) B (by split <;>omega) (by split <;>omega) h3 h4 p hp;simp only[size];omega
theorem CS:∀(l:List Tm) (a:List Pw) (n B:Int),-1<=n->n<=1->0<=B->Bd B a->Bd (B+dJ l) (gL a l n)
 |[],a,n,B,h1,h2,h3,h4=>by rw[gL,dJ];intro p hp;have:=h4 p hp;omega
 |t::l,a,n,B,h1,h2,h3,h4=>by
  have hs:=gj t;have g:=Gn t a n B h1 h2 h3 h4;have g2:=CS l (fU a t n) n (B+size t) h1 h2 (by omega) g;rw[gL,dJ]
  intro p hp
  have:=g2 p hp;omega
end
def jG(c:Int):Bool:=decide ((97<=c/\c<=122)\/(65<=c/\c<=90))
def oR(c:Int):Bool:=decide (48<=c/\c<=57)
def nL(c:Int):Bool:=jG c ||oR c ||decide (c=95)||decide (c=35)
def ja:List UInt8->Bool
 |[]=>true
 |c::l=>nL c.toNat&&ja l
def zT:List UInt8->Bool
 |[]=>false
 |c::l=>decide (l.length<24)&&jG c.toNat&&ja (c::l)
def eF(s:ByteArray):Bool:=zT s.toList
theorem bsize(s:ByteArray):s.toList.length=s.size:=by rw[ByteArray.toList_eq];exact aaK
theorem KH{s:ByteArray}{i:Nat}{c:UInt8}(h:s.toList[i]?=some c):s[i]?=some c:=by
 have cz:=ag h;rw[ByteArray.toList_eq,Z1]at h;have Wa:i<s.size:=by rw[<-bsize];exact cz
 rw[getElem?_pos s i Wa];rw[aaC Wa]at h;exact h
def node:Tm->Int
 | .mk k s o l=>if(k≠1/\k≠2/\k≠3)\/o<0\/5<o\/(k=3/\o≠0)\/(k≠3/\0<l.length)then 1 else if eF s=false then 2 else if 8<l.length then 3 else 0
mutual
def nodes:Tm->Int
 | .mk k s o l=>if node (.mk k s o l)≠0 then node (.mk k s o l)else iO l
def iO:List Tm->Int
 |[]=>0
 |t::l=>if nodes t≠0 then nodes t else iO l
end
mutual
def depth:Tm->Int
 | .mk _ _ _ l=>gD l+1
def gD:List Tm->Int
 |[]=>0
 |t::l=>max (depth t) (gD l)
end
def valid(t:Tm):Int:=if nodes t≠0 then nodes t else if 400<size t\/40<depth t then 3 else 0
mutual
theorem ni:∀t,0<depth t/\depth t<=size t
 | .mk k s o l=>by have:=iT l;simp only[depth,size];omega
theorem iT:∀l,0<=gD l/\gD l<=dJ l
 |[]=>by simp[gD,dJ]
 |t::l=>by
  have h1:=ni t;have h2:=iT l;simp only[gD,dJ];omega
end
def Xc:ByteArray:=⟨#[109,117,108]⟩
def Xd:ByteArray:=⟨#[105,110,118]⟩
def Xe:ByteArray:=⟨#[111,110,101]⟩
theorem Jc:Xc.toList=sY:=by rw[ByteArray.toList_eq];rfl
theorem Jd:Xd.toList=lI:=by rw[ByteArray.toList_eq];rfl
theorem Je:Xe.toList=sZ:=by rw[ByteArray.toList_eq];rfl
theorem Dr{t:Tm}(h:de t=false)(a:List Pw)(n:Int):fU a t n=je t n a:=by
 obtain⟨k,s,o,l⟩:=t;rw[fU,if_pos h]
mutual
theorem AZ{Q:Tm->Prop}{P:Tm->Prop}(hP:∀k s o l,Q (.mk k s o l)->de (.mk k s o l)=false->P (.mk k s o l))(hQ:∀k s o l,Q (.mk k s o l)->∀t∈l,Q t):
  ∀(t:Tm) (a:List Pw) (n:Int),Q t->(∀p∈a,P p.1)->∀p∈fU a t n,P p.1
 | .mk k s o l,a,n,h1,h2=>by
  rw[fU]
  split
  ·rename_i hs
   intro p hp
   rcases uZ hp with e |⟨q,hq,e⟩
   ·rw[e];exact hP k s o l h1 hs
   ·rw[<-e];exact h2 q hq
  ·exact yn hP hQ l a _ (hQ k s o l h1) h2
theorem yn{Q:Tm->Prop}{P:Tm->Prop}(hP:∀k s o l,Q (.mk k s o l)->de (.mk k s o l)=false->P (.mk k s o l))(hQ:∀k s o l,Q (.mk k s o l)->∀t∈l,Q t):
  ∀(l:List Tm) (a:List Pw) (n:Int),(∀t∈l,Q t)->(∀p∈a,P p.1)->∀p∈gL a l n,P p.1
 |[],a,n,h1,h2=>by rw[gL];exact h2
 |t::l,a,n,h1,h2=>by
  rw[gL];exact yn hP hQ l _ n (λu hu=>h1 u (by simp[hu])) (AZ hP hQ t a n (h1 t (by simp)) h2)
end
theorem mZ:∀{l:List Tm},iO l=0->∀t∈l,nodes t=0
 |[],_,t,h=>by cases h
 |u::l,e,t,h=>by
  rw[iO]at e
  split at e
  ·rename_i hu;exact absurd e hu
  ·rename_i hu
   rcases ZF.1 h with rfl |h
   ·omega
   ·exact mZ e t h
theorem yo:∀{l:List Tm},∀t∈l,size t<=dJ l
 |[],t,h=>by cases h
 |u::l,t,h=>by
  have h1:=gj u;have h2:=cW l;rw[dJ];rcases ZF.1 h with rfl |h
  ·omega
  ·have:=yo t h;omega
theorem qn:∀{l:List Tm},∀t∈l,depth t<=gD l
 |[],t,h=>by cases h
 |u::l,t,h=>by
  rw[gD];rcases ZF.1 h with rfl |h
  ·omega
  ·have:=qn t h;omega
def VQ(S D:Int)(t:Tm):Prop:=nodes t=0/\size t<=S/\depth t<=D
theorem VQ.kids{S D k s o l}(h:VQ S D (.mk k s o l)):∀t∈l,VQ S D t:=by
 obtain⟨h1,h2,h3⟩:=h;rw[nodes]at h1
 split at h1
 ·rename_i hn;exact absurd h1 hn
 ·intro t ht
  have:=yo t ht;have:=qn t ht;have:=cW l;simp only[size]at h2;simp only[depth]at h3;exact⟨mZ h1 t ht,by omega,by omega⟩
theorem fV{t:Tm}:valid t=0↔VQ 400 40 t:=by
 unfold valid VQ
 constructor
 ·intro h
  split at h
  ·rename_i hn;exact absurd h hn
  ·rename_i hn
   split at h
   ·cases h
   ·exact⟨by omega,by omega,by omega⟩
 ·rintro⟨h1,h2,h3⟩;rw[if_neg (by omega),if_neg (by omega)]
theorem A0{t:Tm}(h:de t=false):arity t=true:=by
 obtain⟨k,s,o,l⟩:=t;rw[arity,if_pos h]
end Go.Pm
