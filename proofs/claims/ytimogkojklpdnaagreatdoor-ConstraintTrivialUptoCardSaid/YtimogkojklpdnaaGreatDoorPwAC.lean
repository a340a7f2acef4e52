/-
  Pm, a part. Conditions: none.
-/
import Derived.Test.YtimogkojklpdnaaGreatDoorPwAB
import Derived.Test.YtimogkojklpdnaaGreatDoorProg
import Derived.KernelRfl
import Derived.Lib.Bytealg
set_option linter.unusedVariables false
set_option linter.unusedSimpArgs false
set_option linter.unnecessarySimpa false
namespace Go.Pm
variable{P:Program}{w:World}{F:Nat->Prop}{X:List (Nat×Nat)}{h:ab}
def iI(w:World)(A:Nat->Prop)(X:List (Nat×Nat))(h:ab)(a:Act)(O:Nat->PV):Prop:=∀t,aE w A X h (a.tmps.getD t Go.undef) (O t)
theorem iI.ev{A:Nat->Prop}{a:Act}{O:Nat->PV}(r:iI w A X h a O)(x:Operand):aE w A X h (a.eval x) (Pm.ev O x):=by
 cases x with
 |tmp t=>exact r t
 |const v=>exact HP w A X h v
 |global g=>exact .any _
 |func f=>exact .fn f [] [] rfl (by simp)
theorem iI.Nd{A:Nat->Prop}{a:Act}{O:Nat->PV}(r:iI w A X h a O)(xs:List Operand):L2 (aE w A X h) (xs.map a.eval) (xs.map (Pm.ev O)):=by
 refine⟨by simp,λj hj=>?_⟩;simp at hj;have e1:(xs.map a.eval).getD j undef=a.eval xs[j]:=by simp[List.getD,hj]
 have e2:(xs.map (Pm.ev O)).getD j .any=Pm.ev O xs[j]:=by simp[List.getD,hj]
 rw[e1,e2];exact r.ev _
theorem iI.parts{A:Nat->Prop}{a:Act}{O:Nat->PV}(r:iI w A X h a O)(xs:Array (Nat×Operand)):nr w A X h (xs.map λ(i,x)=>(i,a.eval x)).toList (xs.toList.map λ(i,x)=>(i,Pm.ev O x)):=by
 refine⟨by simp,λk x hx=>?_⟩;simp only[ace,acQ]at hx;obtain⟨y,h1,rfl⟩:=hx;exact⟨a.eval y.2,by simp only[Array.toList_map,ace,h1];rfl,r.ev y.2⟩
theorem iI.opt{A:Nat->Prop}{a:Act}{O:Nat->PV}(r:iI w A X h a O)(x:Option Operand):tM w A X h (x.map a.eval) (x.map (Pm.ev O)):=by
 cases x with
 |none=>trivial
 |some x=>exact r.ev x
def wO(P:Program)(lv:Nat)(w:World)(F:Nat->Prop)(X:List (Nat×Nat))(h:ab)(s:Sem Next)(p:PV)(h':ab):Prop:=
 ∃v w' X',(s.run P w=.ok (.value v) w'\/(s.run P w=.ok .skip w'/\v=undef))/\aE w' (Av F h' X') X' h' v p/\bo w' F X' h'/\eD w h X w' h' X'/\(lv<=1->dN w w')
theorem Cx.o{lv:Nat}{s:Sem Value}{p:PV}{h':ab}(x:Cx P lv w F X h s p h'):wO P lv w F X h (do pure (.value (<-s))) p h':=by
 obtain⟨v,w',X',h1,h2,h3,h4⟩:=x;exact⟨v,w',X',.inl (by simp only[Sem.run_bind,h1,Result.andThen_ok,Sem.run_pure]),h2,h3,h4⟩
theorem fP{lv:Nat}(H:bo w F X h){s:Sem Value}{p:PV}(x:∃u,s.run P w=.ok u w/\aE w (Av F h X) X h u p):wO P lv w F X h (do pure (.value (<-s))) p h:=by
 obtain⟨u,h1,h2⟩:=x;exact(Cx.still H h1 h2).o
theorem dO{α:Type}{x:Option α}{h:ab}{p:α}{h':ab}(e:x.map (·,h)=some (p,h')):x=some p/\h'=h:=by
 cases x with
 |none=>cases e
 |some y=>simp at e;exact⟨by rw[e.1],e.2.symm⟩
theorem Gv(H:bo w F X h){a:Act}{O:Nat->PV}(R:iI w (Av F h X) X h a O){lv:Nat}{o:Oper}{p:PV}{h':ab}(hc:∀c,o.op≠.call c)(e:aC P lv o.op O h=some (p,h')):
  wO P lv w F X h (execOp a.eval o) p h':=by
 obtain⟨dst,op,type,pos,after,guard⟩:=o;simp only at e hc ⊢
 cases op <;>simp only[aC]at e <;>simp only[execOp]
 case move x=>
  obtain⟨rfl,rfl⟩:=ab7 (abV e);exact⟨_,w,X,.inl rfl,R.ev x,H,eD.refl w h X,λ_=>dN.refl w⟩
 case assign x=>
  obtain⟨rfl,rfl⟩:=ab7 (abV e);exact⟨_,w,X,.inl rfl,R.ev x,H,eD.refl w h X,λ_=>dN.refl w⟩
 case pick c x y=>
  split at e
  ·rename_i t ht
   obtain⟨rfl,rfl⟩:=ab7 (abV e);have hb:=R.ev c;rw[ht]at hb;have:=hb.gK;refine⟨if t then a.eval x else a.eval y,w,X,.inl ?_,?_,H,eD.refl w h X,λ_=>dN.refl w⟩;simp only[this,asBool,Sem.run_bind,Sem.run_pure,Result.andThen_ok]
   ·cases t
    exact R.ev y;exact R.ev x
  cases e
 case alloc t=>
  split at e
  ·rename_i z hz
   split at e
   ·rename_i F0
    obtain⟨rfl,rfl⟩:=ab7 (abV e);exact(LC H t hz F0.2.1 F0.2.2).o
   cases e
  cases e
 case box t x=>
  split at e
  ·rename_i F0
   obtain⟨rfl,rfl⟩:=ab7 (abV e);exact(JD H t (R.ev x) F0.2.1 F0.2.2).o
  cases e
 case build t ps=>
  obtain⟨e1,rfl⟩:=dO e;exact fP H (LJ (R.parts ps) e1)
 case buildSlice t n ps=>exact(zn H (R.parts ps) e).o
 case load t x=>
  obtain⟨e1,rfl⟩:=dO e;exact fP H (Ff H (R.ev x) e1)
 case store t x y=>
  split at e
  ·rename_i zZ
   cases hs:im P h t (Pm.ev O x) (Pm.ev O y)with
   |none=>rw[hs]at e;simp at e
   |some h2=>
    rw[hs]at e;simp at e;obtain⟨rfl,rfl⟩:=e;obtain⟨w',X',r1,r2,r3⟩:=LA H (R.ev x) (R.ev y) hs;exact⟨undef,w',X',.inr ⟨by simp only[Sem.run_bind,r1,Result.andThen_ok,Sem.run_pure],rfl⟩,.undef,r2,r3,λhh=>by omega⟩
  cases e
 case nilCheck x=>
  have hx:=R.ev x;generalize a.eval x=v at hx ⊢
  split at e
  ·rename_i id ep i oo hp
   obtain⟨rfl,rfl⟩:=ab7 (abV e);rw[hp]at hx
   cases hx with
   |val hs=>cases hs
   |ptr _ _ _ _ _ oo bc h0 h1 h2 h3 h4 h5=>
    obtain⟨ad,rfl⟩:=h0;exact⟨_,w,X,.inl rfl,.ptr _ _ _ _ _ oo bc ⟨_,rfl⟩ h1 h2 h3 h4 h5,H,eD.refl w h X,λ_=>dN.refl w⟩
  ·rename_i cs hp
   obtain⟨rfl,rfl⟩:=ab7 (abV e);rw[hp]at hx;have hs:=hx.tX
   cases hs with
   |eW=>exact⟨_,w,X,.inl rfl,hx,H,eD.refl w h X,λ_=>dN.refl w⟩
  ·rename_i f cs hp
   obtain⟨rfl,rfl⟩:=ab7 (abV e);rw[hp]at hx;obtain⟨vs,rfl,_⟩:=hx.Gu;exact⟨_,w,X,.inl rfl,hx,H,eD.refl w h X,λ_=>dN.refl w⟩
  cases e
 case binOp op t x y yt=>
  obtain⟨e1,rfl⟩:=dO e;exact fP H (SQ (R.ev x) (R.ev y) e1)
 case unOp op t x=>
  obtain⟨e1,rfl⟩:=dO e;exact fP H (W3 (R.ev x) e1)
 case convert s d x=>
  obtain⟨e1,rfl⟩:=dO e;exact fP H (Pt (R.ev x) e1)
 case makeFunc fn first dw=>
  cases fn <;>simp only at e <;>try(cases e;done)
  rename_i f
  split at e
  ·rename_i hf
   obtain⟨rfl,rfl⟩:=ab7 (abV e);obtain rfl:first= #[]:=by simpa using hf
   obtain⟨l1,l2⟩:=R.Nd dw.toList;refine(Cx.still H (v:=.func (.func f) #[] (dw.toList.map a.eval).toArray) ?_ (.fn f _ _ l1 l2)).o;have:dw.map a.eval=(dw.toList.map a.eval).toArray:=by apply adD;simp
   simp[Instr.makeFunc,this]
  ·obtain⟨rfl,rfl⟩:=ab7 (abV e);obtain⟨l1,l2⟩:=R.Nd (first.toList++dw.toList);refine(Cx.still H (v:=.func (.func f) (((first.toList++dw.toList).map a.eval).take first.size).toArray (((first.toList++dw.toList).map a.eval).drop first.size).toArray) ?_ (.oE f first.size _ _ l1 l2)).o;have e1:first.map a.eval=(((first.toList++dw.toList).map a.eval).take first.size).toArray:=by apply adD;simp
   have e2:dw.map a.eval=(((first.toList++dw.toList).map a.eval).drop first.size).toArray:=by apply adD;simp
   simp only[Instr.makeFunc,e1,e2];rfl
 case makeSlice t l c=>exact(Pr H (R.ev l) (R.ev c) e).o
 case slice t x lo hi mx=>
  obtain⟨e1,rfl⟩:=dO e;exact fP H (LG H (R.ev x) (R.opt lo) (R.opt hi) (R.opt mx) e1)
 case fieldAddr s x f=>
  obtain⟨e1,rfl⟩:=dO e;exact fP H (AA H (R.ev x) e1)
 case field s x f=>
  obtain⟨e1,rfl⟩:=dO e;exact fP H (Ly (R.ev x) e1)
 case indexAddr t x ix=>
  obtain⟨e1,rfl⟩:=dO e;exact fP H (AB H (R.ev x) (R.ev ix) e1)
 case index t x ix=>
  obtain⟨e1,rfl⟩:=dO e;exact fP H (Lz (R.ev x) (R.ev ix) e1)
 case makeMap t r=>exact(E3 H (R.opt r) e).o
 case lookup t x k ok=>
  obtain⟨e1,rfl⟩:=dO e;exact fP H (HI H (R.ev x) (R.ev k) e1)
 case mapUpdate t m k x=>
  split at e
  ·rename_i zZ
   cases hs:oI P h t (Pm.ev O m) (Pm.ev O k) (Pm.ev O x)with
   |none=>rw[hs]at e;simp at e
   |some h2=>
    rw[hs]at e;simp at e;obtain⟨rfl,rfl⟩:=e;obtain⟨w',X',r1,r2,r3⟩:=yW H (R.ev m) (R.ev k) (R.ev x) hs;exact⟨undef,w',X',.inr ⟨by simp only[Sem.run_bind,r1,Result.andThen_ok,Sem.run_pure],rfl⟩,.undef,r2,r3,λhh=>by omega⟩
  cases e
 case insert t m k x=>
  split at e
  ·rename_i zZ
   cases hs:oI P h t (Pm.ev O m) (Pm.ev O k) (Pm.ev O x)with
   |none=>rw[hs]at e;simp at e
   |some h2=>
    rw[hs]at e;simp at e;obtain⟨rfl,rfl⟩:=e;obtain⟨w',X',r1,r2,r3⟩:=yW H (R.ev m) (R.ev k) (R.ev x) hs;exact⟨undef,w',X',.inr ⟨by simp only[Sem.run_bind,r1,Result.andThen_ok,Sem.run_pure],rfl⟩,.undef,r2,r3,λhh=>by omega⟩
  cases e
 case extract x i=>
  split at e
  ·rename_i vs hv
   split at e
   ·rename_i v hi
    obtain⟨rfl,rfl⟩:=ab7 (abV e);have hx:=R.ev x;rw[hv]at hx;obtain⟨us,hu,hl,hr⟩:=hx.xg;have hj:=ag hi;have:=hr i hj;have e2:vs.getD i .any=v:=by simp[List.getD,hi]
    rw[e2]at this;refine fP H ⟨us.getD i Go.undef,?_,this⟩;rw[hu];have:i<us.length:=by omega
    simp[Instr.extract,this,List.getD]
   cases e
  cases e
 case call c=>exact absurd rfl (hc c)
 all_goals cases e
theorem DS(H:bo w F X h){a:Act}{O:Nat->PV}(R:iI w (Av F h X) X h a O){lv:Nat}{b:Builtin}{ts:Array TypeId}{ty:TypeId}{cb:Array Bool}{xs:Array Operand}{p:PV}{h':ab}
  (e:bt P lv h b ts.toList (xs.toList.map (Pm.ev O))=some (p,h')):wO P lv w F X h (builtin b ts ty cb (xs.map a.eval)) p h':=by
 have ts0:∀{t:TypeId} {r:List TypeId},ts.toList=t::r->ts[0]?=some t:=λhh=>by rw[<-acw,hh];rfl
 have ts1:∀{t t':TypeId} {r:List TypeId},ts.toList=t::t'::r->ts[1]?=some t':=λhh=>by rw[<-acw,hh];rfl
 have xs0:∀{p:PV} {r:List PV},xs.toList.map (Pm.ev O)=p::r->∃v,(xs.map a.eval)[0]?=some v/\aE w (Av F h X) X h v p:=λ{p r} hh=>by
  cases hx:xs.toList with
  |nil=>rw[hx]at hh;simp at hh
  |cons y ys=>
   rw[hx]at hh;simp at hh;refine⟨a.eval y,?_,by rw[<-hh.1];exact R.ev y⟩;rw[<-acw,Array.toList_map,hx];rfl
 have xs1:∀{p q:PV} {r:List PV},xs.toList.map (Pm.ev O)=p::q::r->∃v,(xs.map a.eval)[1]?=some v/\aE w (Av F h X) X h v q:=λ{p q r} hh=>by
  cases hx:xs.toList with
  |nil=>rw[hx]at hh;simp at hh
  |cons y ys=>
   cases hy:ys with
   |nil=>rw[hx,hy]at hh;simp at hh
   |cons z zs=>
    rw[hx,hy]at hh;simp at hh;refine⟨a.eval z,?_,by rw[<-hh.2.1];exact R.ev z⟩;rw[<-acw,Array.toList_map,hx,hy];rfl
 have earr:xs.map a.eval=(xs.toList.map a.eval).toArray:=by apply adD;simp
 unfold bt at e
 split at e
 ·rename_i t r x r' h1 h2
  obtain⟨e1,rfl⟩:=dO e;obtain⟨v,v1,v2⟩:=xs0 h2;refine fP H ?_
  cases hx:xs.toList with
  |nil=>rw[hx]at h2;simp at h2
  |cons y ys=>
   rw[earr,hx,acg];rw[hx]at h2;simp at h2;have:=R.ev y;rw[h2.1]at this;exact SL H (ts0 h1) this e1
 ·rename_i st xt r s x r' h1 h2
  obtain⟨v,v1,v2⟩:=xs0 h2;obtain⟨u,u1,u2⟩:=xs1 h2;exact(HQ H (ts0 h1) (ts1 h1) v1 u1 v2 u2 e).o
 ·rename_i dt r d x r' h1 h2
  obtain⟨v,v1,v2⟩:=xs0 h2;obtain⟨u,u1,u2⟩:=xs1 h2;exact(Pq H (ts0 h1) v1 u1 v2 u2 e).o
 ·rename_i t r x r' h1 h2
  obtain⟨v,v1,v2⟩:=xs0 h2;exact(LD H (ts0 h1) v1 v2 e).o
 ·rename_i t r x r' h1 h2
  obtain⟨e1,rfl⟩:=dO e;obtain⟨v,v1,v2⟩:=xs0 h2;refine fP H ?_;unfold UI at e1
  split at e1
  ·rename_i el es hu
   obtain rfl:=abV e1;obtain⟨ad,cap,rfl,_,hf⟩:=v2.fV.kK;obtain rfl:=hf rfl;exact⟨_,by simp[Builtin.cap_,ts0 h1,v1,bU hu,goInt],.val (.int _ _)⟩
  cases e1
 ·rename_i tt xx
  obtain⟨e1,rfl⟩:=dO e;rw[earr];exact fP H (SO (R.Nd xs.toList) e1)
 ·rename_i tt xx
  obtain⟨e1,rfl⟩:=dO e;rw[earr];exact fP H (SP (R.Nd xs.toList) e1)
 cases e
theorem cL(cs:List PV):aQ cs=cs.map cj:=by
 induction cs with
 |nil=>rfl
 |cons c r ih=>simp[aQ,ih]
theorem bw(cs:List PV):ao cs=cs.all aU:=by
 induction cs with
 |nil=>rfl
 |cons c r ih=>simp[ao,ih]
theorem Dz(cs:List PV):pL cs=cs.all dT:=by
 induction cs with
 |nil=>rfl
 |cons c r ih=>simp[pL,ih]
theorem gm(cs:List PV)(j:Nat):(aQ cs).getD j .any=cj (cs.getD j .any):=by
 rw[cL];simp only[List.getD,ace]
 cases cs[j]? <;>simp[cj]
theorem AO(e:PV):Pm.cells (cj e)=aQ (Pm.cells e):=by
 cases e <;>simp[cj,Pm.cells,aQ]
theorem cu.cj{A:Nat->Prop}{v:Value}{p:PV}(r:cu w A v p):cu w A v (Pm.cj p):=by
 induction r with
 |int k n=>exact .int k n
 |bool b=>exact .bool b
 |str s=>exact .str s
 |eK=>exact .eK
 |aG=>exact .aG
 |gS=>exact .gS
 |agg vs cs hl _ ih=>exact .agg vs _ (by simp[cL,hl]) (λj hj=>by rw[gm];exact ih j (by simpa[cL]using hj))
 |cA vs cs hl _ ih=>exact .cA vs _ (by simp[cL,hl]) (λj hj=>by rw[gm];exact ih j (by simpa[cL]using hj))
 |fn f vs cs hl _ ih=>exact .fn f vs _ (by simp[cL,hl]) (λj hj=>by rw[gm];exact ih j (by simpa[cL]using hj))
 |oE f k vs cs hl _ ih=>exact .oE f k vs _ (by simp[cL,hl]) (λj hj=>by rw[gm];exact ih j (by simpa[cL]using hj))
 |ig a cap full hf=>exact .ig a cap false (λhh=>by cases hh)
 |aa b off cap sz full es pW h1 h2 h3 h4 h5 h6 h7 _ ih=>
  have hl:(aQ es).length=es.length:=by simp[cL]
  have:=cu.aa (w:=w) (A:=A) b off cap sz false (aQ es) pW (by intro hn;rw[hn]at hl;exact h1 (acd hl.symm)) (by omega) (λhh=>by cases hh) h4 h5
   (λi hi=>by rw[gm,AO,cL,acW];exact h6 i (by omega)) (λi j hi hj=>h7 i j (by omega) hj)
   (λi j hi hj=>by rw[gm,AO,gm];exact ih i j (by omega) hj)
  rw[hl]at this;exact this
 |eW b off cs pW h1 h2 h3 _ ih=>
  have hl:(aQ cs).length=cs.length:=by simp[cL]
  exact .eW b off (aQ cs) pW (by intro hn;rw[hn]at hl;exact h1 (acd hl.symm)) h2 (λj hj=>h3 j (by omega)) (λj hj=>by rw[gm];exact ih j (by omega))
theorem fS{f:PV->Bool}{cs:List PV}(h:cs.all f=true){j:Nat}(hj:j<cs.length):f (cs.getD j .any)=true:=by
 have:cs.getD j .any=cs[j]:=by simp[List.getD,hj]
 rw[this];exact abX.1 h _ (acB hj)
theorem cu.dT{A A':Nat->Prop}{w':World}{v:Value}{p:PV}(r:cu w A v p)(hs:Pm.dT p=true):cu w' A' v p:=by
 induction r with
 |int k n=>exact .int k n
 |bool b=>exact .bool b
 |str s=>exact .str s
 |eK=>exact .eK
 |aG=>exact .aG
 |gS=>exact .gS
 |agg vs cs hl _ ih=>simp[Pm.dT,Dz]at hs;exact .agg vs _ hl (λj hj=>ih j hj (fS (by simpa using hs) hj))
 |cA vs cs hl _ ih=>simp[Pm.dT,Dz]at hs;exact .cA vs _ hl (λj hj=>ih j hj (fS (by simpa using hs) hj))
 |fn f vs cs hl _ ih=>simp[Pm.dT]at hs
 |oE f k vs cs hl _ ih=>simp[Pm.dT]at hs
 |ig a cap full hf=>simp[Pm.dT]at hs
 |aa=>simp[Pm.dT]at hs
 |eW=>simp[Pm.dT]at hs
theorem IK(H:bo w F X h){A':Nat->Prop}(hA:∀b,b<w.heap.size->¬Av F h X b->¬A' b){v:Value}{p p':PV}(hv:aE w (Av F h X) X h v p)(e:pD h p=some p')
  (hM:∀(id:Nat) (o:aw) (bc:Nat×Nat),id∈wv p->h[id]?=some o->X[id]?=some bc->(o.mu=.m\/o.mu=.f)->¬A' bc.1):cu w A' v p':=by
 unfold pD at e
 split at e
 ·rename_i id ep off len
  split at e
  ·rename_i o ho
   split at e
   ·rename_i hc
    obtain⟨hle,J4,jW⟩:=hc;obtain rfl:=abV e;obtain⟨e1,e2,e3⟩:=getM_some ho;obtain⟨bc,hb⟩:=dB H.len e1;obtain⟨h1,h2,h3⟩:=hv.dW;obtain⟨cap,rfl,c2⟩:=h3 o bc e1 hb e3 e2 hle;obtain⟨T,uv,k1,k2,k3,k4,k5⟩:=(H.obj id o bc e1 hb e3).c (h2 o e1).2;have hlen:((o.es.drop off).take len).length=len:=by simp;omega
    by_cases Mz:len=0
    ·subst Mz;simp;exact .ig _ _ _ (λhh=>by cases hh)
    ·have at_i:∀i,i<len->∃e,((o.es.drop off).take len).getD i .any=e/\o.es[off+i]?=some e/\aU e=true:=λi hi=>by
      have g1:((o.es.drop off).take len)[i]?=some (o.es[off+i]'(by omega)):=by
       rw[acj,if_pos hi,acy];exact ab1 (by omega)
      refine⟨o.es[off+i]'(by omega),by rw[acn,g1];rfl,ab1 (by omega),?_⟩;rw[bw]at jW;exact abX.1 jW _ (acb g1)
     have J5:∀(e:PV),aU e=true->∀q∈Pm.cells e,aU q=true:=by
      intro e he q hq
      cases e <;>first
       |(simp only[Pm.cells,acv]at hq;subst hq;exact he)
       |(simp only[aU,bw]at he;exact abX.1 he q hq)
     have ll:∀i j,i<len->j<o.bQ->∃u,w.cell? ⟨bc.1,off * o.bQ+(i * o.bQ+j),none⟩=some u/\cu w A' u ((Pm.cells (((o.es.drop off).take len).getD i .any)).getD j .any):=by
      intro i j hi hj
      obtain⟨el,g1,g2,g3⟩:=at_i i hi;obtain⟨n1,n2⟩:=k5 _ el g2;have hq:=ab1 (show j<(Pm.cells el).length by omega);obtain⟨u,m1,m2⟩:=n2 j _ hq;refine⟨u,?_,?_⟩
      ·rw[cell_of_row w bc.1 _ uv T (0,0) k1,<-adG,<-acU];exact m1
      ·rw[g1];have e2:(Pm.cells el).getD j .any=(Pm.cells el)[j]'(by omega):=by simp[List.getD,hq]
       rw[e2];exact(m2.J6 (J5 el g3 _ (acB _))).mono (λ_ _ _=>rfl) hA
     have:=cu.aa (w:=w) (A:=A') bc.1 (off * o.bQ) cap o.bQ false ((o.es.drop off).take len) (λi j=>(w.cell? ⟨bc.1,off * o.bQ+(i * o.bQ+j),none⟩).getD Go.undef)
      (by intro hn;rw[hn]at hlen;simp at hlen;omega) (by rw[hlen];omega) (λhh=>by cases hh) (hM id o bc (by simp[wv]) e1 hb J4) k4
      (λi hi=>by rw[hlen]at hi;obtain⟨el,g1,g2,g3⟩:=at_i i hi;rw[g1];exact(k5 _ el g2).1)
      (λi j hi hj=>by rw[hlen]at hi;obtain⟨u,m1,m2⟩:=ll i j hi hj;rw[m1];rfl)
      (λi j hi hj=>by rw[hlen]at hi;obtain⟨u,m1,m2⟩:=ll i j hi hj;rw[m1];exact m2)
     rw[hlen]at this;exact this
   cases e
  cases e
 ·split at e
  ·rename_i zR
   obtain rfl:=abV e;exact(hv.J6 zR).mono (λ_ _ _=>rfl) hA
  cases e
def UQ(p:PV):List Nat:=(Pm.cells p).flatMap wv
theorem M9{cs r:List PV}(e:oJ h cs=some r):r.length=cs.length/\∀j,j<cs.length->pD h (cs.getD j .any)=some (r.getD j .any):=by
 induction cs generalizing r with
 |nil=>simp[oJ]at e;subst e;exact⟨rfl,λj hj=>by simp at hj⟩
 |cons c cs ih=>
  simp only[oJ]at e
  split at e
  ·rename_i c' r' h1 h2
   obtain rfl:=abV e;obtain⟨l1,l2⟩:=ih h2;refine⟨by simp[l1],λj hj=>?_⟩
   cases j with
   |zero=>simpa using h1
   |succ j=>simpa using l2 j (by simpa using hj)
  cases e
theorem DA{cs r:List PV}(e:gC h cs=some r):r.length=cs.length/\∀j,j<cs.length->jP h (cs.getD j .any)=some (r.getD j .any):=by
 induction cs generalizing r with
 |nil=>simp[gC]at e;subst e;exact⟨rfl,λj hj=>by simp at hj⟩
 |cons c cs ih=>
  simp only[gC]at e
  split at e
  ·rename_i c' r' h1 h2
   obtain rfl:=abV e;obtain⟨l1,l2⟩:=ih h2;refine⟨by simp[l1],λj hj=>?_⟩
   cases j with
   |zero=>simpa using h1
   |succ j=>simpa using l2 j (by simpa using hj)
  cases e
theorem M'{cs:List PV}{j:Nat}(hj:j<cs.length){f:PV->List Nat}{id:Nat}(hm:id∈f (cs.getD j .any)):id∈cs.flatMap f:=by
 have:cs.getD j .any=cs[j]:=by simp[List.getD,hj]
 rw[this]at hm;exact acL.2 ⟨_,acB hj,hm⟩
theorem xf(H:bo w F X h){A':Nat->Prop}(hA:∀b,b<w.heap.size->¬Av F h X b->¬A' b){v:Value}{p p':PV}(hv:aE w (Av F h X) X h v p)(e:jP h p=some p')
  (hM:∀(id:Nat) (o:aw) (bc:Nat×Nat),id∈UQ p->h[id]?=some o->X[id]?=some bc->(o.mu=.m\/o.mu=.f)->¬A' bc.1):cu w A' v p':=by
 unfold jP at e
 split at e
 ·rename_i cs
  cases hr:oJ h cs with
  |none=>rw[hr]at e;simp at e
  |some r=>
   rw[hr]at e;simp at e;subst e;obtain⟨l1,l2⟩:=M9 hr;obtain⟨vs,rfl,hl,hh⟩:=hv.sQ;exact .agg vs r (by omega) (λj hj=>IK H hA (hh j (by omega)) (l2 j (by omega)) (λid o bc hm=>hM id o bc (M' (cs:=cs) (by omega) hm)))
 ·rename_i QO
  have hc:Pm.cells p=[p]:=by cases p <;>first |rfl |exact absurd rfl (QO _)
  exact IK H hA hv e (λid o bc hm=>hM id o bc (by simp[UQ,hc,hm]))
theorem UR(H:bo w F X h){A':Nat->Prop}(hA:∀b,b<w.heap.size->¬Av F h X b->¬A' b){v:Value}{p p':PV}(hv:aE w (Av F h X) X h v p)(e:rb h p=some p')
  (hM:∀(id:Nat) (o:aw) (bc:Nat×Nat),h[id]?=some o->X[id]?=some bc->(o.mu=.m\/o.mu=.f)->¬A' bc.1):cu w A' v p':=by
 unfold rb at e
 split at e
 ·rename_i cs
  cases hr:gC h cs with
  |none=>rw[hr]at e;simp at e
  |some r=>
   rw[hr]at e;simp at e;subst e;obtain⟨l1,l2⟩:=DA hr;obtain⟨vs,rfl,hl,hh⟩:=hv.xg;exact .cA vs r (by omega) (λj hj=>xf H hA (hh j (by omega)) (l2 j (by omega)) (λid o bc _=>hM id o bc))
 exact xf H hA hv e (λid o bc _=>hM id o bc)
theorem lC{f:PV->Option PV}:∀{cs r:List PV},gE f cs=some r->r.length=cs.length/\∀j,j<cs.length->f (cs.getD j .any)=some (r.getD j .any)
 |[],r,e=>by simp[gE]at e;subst e;exact⟨rfl,λj hj=>by simp at hj⟩
 |c::cs,r,e=>by
  simp only[gE]at e
  split at e
  ·rename_i c' r' h1 h2
   obtain rfl:=abV e;obtain⟨l1,l2⟩:=lC h2;refine⟨by simp[l1],λj hj=>?_⟩
   cases j with
   |zero=>simpa using h1
   |succ j=>simpa using l2 j (by simpa using hj)
  cases e
theorem QP{n:Nat}{e e':PV}(QO:∀cs,e≠.agg cs)(he:qK n h e=some e'):Pm.cells e=[e]/\Pm.cells e'=[e']:=by
 have hc:Pm.cells e=[e]:=by cases e <;>first |rfl |exact absurd rfl (QO _)
 refine⟨hc,?_⟩
 cases n with
 |zero=>
  simp only[qK]at he
  split at he
  obtain rfl:=abV he;exact hc
  cases he
 |succ n=>
  unfold qK at he
  split at he
  ·split at he
   ·split at he
    obtain⟨r,hr,rfl⟩:=acQ.1 he;rfl
    cases he
   cases he
  exact absurd rfl (QO _);obtain⟨r,hr,rfl⟩:=acQ.1 he;rfl
  ·split at he
   obtain rfl:=abV he;exact hc
   cases he
theorem J7{n:Nat}{e e':PV}(he:qK n h e=some e'):(Pm.cells e').length=(Pm.cells e).length/\∀j,j<(Pm.cells e).length->∃m,m<=n/\qK m h ((Pm.cells e).getD j .any)=some ((Pm.cells e').getD j .any):=by
 by_cases QO:∀cs,e≠.agg cs
 ·obtain⟨c1,c2⟩:=QP QO he;rw[c1,c2];refine⟨rfl,λj hj=>?_⟩;obtain rfl:j=0:=by simp at hj;omega
  exact⟨n,abZ _,by simpa using he⟩
 ·obtain⟨cs,rfl⟩:∃cs,e=.agg cs:=ad9 λhh=>QO λcs hc=>hh ⟨cs,hc⟩
  cases n with
  |zero=>
   simp only[qK]at he
   split at he
   ·rename_i hv
    obtain rfl:=abV he;refine⟨rfl,λj hj=>⟨0,abZ _,?_⟩⟩;have zR:cs.all aU=true:=by rw[<-bw];simpa[aU]using hv
    have hh:aU ((Pm.cells (.agg cs)).getD j .any)=true:=fS zR hj;simp only[qK];rw[if_pos hh]
   cases he
  |succ n=>
   simp only[qK]at he;obtain⟨r,hr,rfl⟩:=acQ.1 he;obtain⟨l1,l2⟩:=lC hr;exact⟨l1,λj hj=>⟨n,by omega,l2 j hj⟩⟩
theorem IL(H:bo w F X h){A':Nat->Prop}(hA:∀b,b<w.heap.size->¬Av F h X b->¬A' b)
  (hM:∀(id:Nat) (o:aw) (bc:Nat×Nat),h[id]?=some o->X[id]?=some bc->(o.mu=.m\/o.mu=.f)->¬A' bc.1):∀(n:Nat) {v:Value} {p p':PV},aE w (Av F h X) X h v p->qK n h p=some p'->cu w A' v p':=by
 intro n
 induction n using Nat.strongRecOn with
 |ind n ih=>
  intro v p p' hv e
  have vl:aU p=true->cu w A' v p:=λhp=>(hv.J6 hp).mono (λ_ _ _=>rfl) hA
  cases n with
  |zero=>
   simp only[qK]at e
   split at e
   ·rename_i hp;obtain rfl:=abV e;exact vl hp
   cases e
  |succ n=>
   unfold qK at e
   split at e
   ·rename_i id ep off len
    split at e
    ·rename_i o ho
     split at e
     ·rename_i hc
      obtain⟨hle,J4⟩:=hc;obtain⟨es,jt,rfl⟩:=acQ.1 e;obtain⟨e1,e2,e3⟩:=getM_some ho;obtain⟨bc,hb⟩:=dB H.len e1;obtain⟨h1,h2,h3⟩:=hv.dW;obtain⟨cap,rfl,c2⟩:=h3 o bc e1 hb e3 e2 hle;obtain⟨T,uv,k1,k2,k3,k4,k5⟩:=(H.obj id o bc e1 hb e3).c (h2 o e1).2;obtain⟨l1,l2⟩:=lC jt;have TO:((o.es.drop off).take len).length=len:=by simp;omega
      have hlen:es.length=len:=by omega
      by_cases Mz:len=0
      ·subst Mz;obtain rfl:=List.length_eq_zero_iff.1 hlen;exact .ig _ _ _ (λhh=>by cases hh)
      ·have at_i:∀i,i<len->∃el,o.es[off+i]?=some el/\qK n h el=some (es.getD i .any):=λi hi=>by
        have g1:((o.es.drop off).take len)[i]?=some (o.es[off+i]'(by omega)):=by
         rw[acj,if_pos hi,acy];exact ab1 (by omega)
        have g2:=l2 i (by omega);rw[acn,g1]at g2;exact⟨_,ab1 (by omega),g2⟩
       have ll:∀i j,i<len->j<o.bQ->(Pm.cells (es.getD i .any)).length=o.bQ/\∃u,w.cell? ⟨bc.1,off * o.bQ+(i * o.bQ+j),none⟩=some u/\cu w A' u ((Pm.cells (es.getD i .any)).getD j .any):=by
        intro i j hi hj
        obtain⟨el,g1,g2⟩:=at_i i hi;obtain⟨n1,n2⟩:=k5 _ el g1;obtain⟨m1,m2⟩:=J7 g2;have hq:=ab1 (show j<(Pm.cells el).length by omega);obtain⟨u,q1,q2⟩:=n2 j _ hq;obtain⟨m,hm,q3⟩:=m2 j (by omega);rw[acn,hq]at q3;refine⟨by omega,u,?_,ih m (by omega) q2 q3⟩;rw[cell_of_row w bc.1 _ uv T (0,0) k1,<-adG,<-acU];exact q1
       have:=cu.aa (w:=w) (A:=A') bc.1 (off * o.bQ) cap o.bQ false es (λi j=>(w.cell? ⟨bc.1,off * o.bQ+(i * o.bQ+j),none⟩).getD Go.undef)
        (by intro hn;rw[hn]at hlen;simp at hlen;omega) (by rw[hlen];omega) (λhh=>by cases hh) (hM id o bc e1 hb J4) k4
        (λi hi=>(ll i 0 (by omega) k4).1)
        (λi j hi hj=>by obtain⟨_,u,m1,m2⟩:=ll i j (by omega) hj;rw[m1];rfl)
        (λi j hi hj=>by obtain⟨_,u,m1,m2⟩:=ll i j (by omega) hj;rw[m1];exact m2)
       rw[hlen]at this;exact this
     cases e
    cases e
   ·rename_i cs
    obtain⟨r,hr,rfl⟩:=acQ.1 e;obtain⟨l1,l2⟩:=lC hr;obtain⟨vs,rfl,hl,hh⟩:=hv.sQ;exact .agg vs r (by omega) (λj hj=>ih n (by omega) (hh j (by omega)) (l2 j (by omega)))
   ·rename_i cs
    obtain⟨r,hr,rfl⟩:=acQ.1 e;obtain⟨l1,l2⟩:=lC hr;obtain⟨vs,rfl,hl,hh⟩:=hv.xg;exact .cA vs r (by omega) (λj hj=>ih n (by omega) (hh j (by omega)) (l2 j (by omega)))
   ·split at e
    ·rename_i hp;obtain rfl:=abV e;exact vl hp
    cases e
theorem IM(H:bo w F X h){A':Nat->Prop}(hA:∀b,b<w.heap.size->¬Av F h X b->¬A' b){v:Value}{p p':PV}(hv:aE w (Av F h X) X h v p)(e:AK h p=some p')
  (hM:∀(id:Nat) (o:aw) (bc:Nat×Nat),h[id]?=some o->X[id]?=some bc->(o.mu=.m\/o.mu=.f)->¬A' bc.1):cu w A' v p':=by
 unfold AK at e
 split at e
 ·rename_i r hr
  obtain rfl:=abV e;exact UR H hA hv hr hM
 exact IL H hA hM 8 hv e
theorem bo.empty(w:World)(F:Nat->Prop)(hF:∀b,F b->b<w.heap.size):bo w F [] [] where
 len:=rfl
 fin:=hF
 obj id o bc e:=by simp at e
 iT id eH o o' bc dq _ e:=by simp at e
 out id o bc e:=by simp at e
theorem xM(b:Nat):¬Mb [] [] b:=by rintro⟨id,o,bc,e,_⟩;simp at e
def na(P:Program)(lv:Nat)(w:World)(F:Nat->Prop)(X:List (Nat×Nat))(h:ab)(f:FuncId)(vs:List Value)(r:PV)(h':ab):Prop:=
 Calls P f vs.toArray w λe w'=>∃v X',e=.returned v/\aE w' (Av F h' X') X' h' v r/\bo w' F X' h'/\eD w h X w' h' X'/\(lv<=1->dN w w')
def fT(P:Program)(f:FuncId)(g:List PV->ab->Option (PV×ab)):Prop:=
 ∀args h r h',g args h=some (r,h')->∀w F X vs,bo w F X h->L2 (aE w (Av F h X) X h) vs args->na P 2 w F X h f vs r h'
theorem bo.ku(H:bo w F X h){id:Nat}{h2:ab}(e:ku h id=some h2):
  bo w F X h2/\eD w h X w h2 X/\(∃o:aw,h2[id]?=some o/\o.mu=.f)/\(∀(k:Nat) (o:aw),h[k]?=some o->o.mu=.f->h2[k]?=some o):=by
 unfold Pm.ku at e
 split at e
 ·rename_i o ho
  split at e
  ·rename_i hc
   obtain⟨hv,J4⟩:=hc;obtain rfl:=abV e;have bZ:=ag ho;have nB:(h.set id {o with mu:=.f})[id]?=some {o with mu:=.f}:=by simp[bZ]
   have kH:∀k,k≠id->(h.set id {o with mu:=.f})[k]?=h[k]?:=λk hk=>ab0 (acS hk)
   have hx:o.mu≠.x:=by rcases J4 with h |h <;>rw[h] <;>simp
   have hs:eD w h X w (h.set id {o with mu:=.f}) X:=by
    refine⟨abZ _,by simp,λ_ _ _=>rfl,?_,?_,?_,rfl,rfl,rfl,abZ _⟩
    ·rintro b hb ⟨k,o',c',e1,e2,e3,rfl⟩
     by_cases hk:k=id
     subst hk;rw[nB]at e1;obtain rfl:=abV e1;simp at e3;rw[kH k hk]at e1;exact⟨k,o',c',e1,e2,e3,rfl⟩
    ·intro k o' c' e1 e2 e3
     by_cases hk:k=id
     ·subst hk;rw[ho]at e1;obtain rfl:=abV e1;exact⟨_,c',nB,e2,by simp,⟨abZ _,λh=>h⟩,λ_=>⟨rfl,λ_=>rfl,rfl⟩⟩
     exact⟨o',c',by rw[kH k hk];exact e1,e2,e3,⟨abZ _,λh=>h⟩,λ_=>⟨rfl,λ_=>rfl,rfl⟩⟩
    ·intro k o' e1 e2
     refine⟨?_,rfl⟩
     by_cases hk:k=id
     ·subst hk;rw[ho]at e1;obtain rfl:=abV e1;rw[nB];rcases J4 with hm |hm;exact absurd hm e2
      ·congr 1;cases o;simp at hm;subst hm;rfl
     rw[kH k hk];exact e1
   refine⟨⟨by simp[H.len],H.fin,?_,?_,?_⟩,hs,⟨_,nB,rfl⟩,?_⟩
   ·intro k o' c' e1 e2 e3
    by_cases hk:k=id
    ·subst hk;rw[nB]at e1;obtain rfl:=abV e1;exact kZ.mono hs rfl (H.obj k o c' ho e2 hx)
    rw[kH k hk]at e1;exact kZ.mono hs rfl (H.obj k o' c' e1 e2 e3)
   ·intro k k' o1 o2 c1 c2 bO e1 e2 e3 e4 m1 m2
    have hk:k≠id:=by rintro rfl;rw[nB]at e1;obtain rfl:=abV e1;simp at m1
    rw[kH k hk]at e1
    by_cases fZ:k'=id
    subst fZ;exact H.iT k k' o1 o c1 c2 bO e1 ho e3 e4 m1 hx;rw[kH k' fZ]at e2;exact H.iT k k' o1 o2 c1 c2 bO e1 e2 e3 e4 m1 m2
   ·intro k o' c' e1 e2 e3
    by_cases hk:k=id
    subst hk;exact H.out k o c' ho e2 J4;rw[kH k hk]at e1;exact H.out k o' c' e1 e2 e3
   ·intro k o' e1 e2
    by_cases hk:k=id
    ·subst hk;rw[ho]at e1;obtain rfl:=abV e1;rw[nB];congr 1;cases o;simp at e2;subst e2;rfl
    rw[kH k hk];exact e1
  cases e
 cases e
theorem bo.fm:∀(ids:List Nat) {h h2:ab},bo w F X h->fm h ids=some h2->
  bo w F X h2/\eD w h X w h2 X/\(∀id∈ids,∃o:aw,h2[id]?=some o/\o.mu=.f)/\(∀(k:Nat) (o:aw),h[k]?=some o->o.mu=.f->h2[k]?=some o)
 |[],h,h2,H,e=>by
  simp[Pm.fm]at e;subst e;exact⟨H,eD.refl w h X,(λ_ hm=>by cases hm),(λ_ _ h1 _=>h1)⟩
 |id::r,h,h2,H,e=>by
  simp only[Pm.fm]at e
  split at e
  ·rename_i h1 he
   obtain⟨H1,S1,⟨o,o1,o2⟩,K1⟩:=H.ku he;obtain⟨H2,S2,A2,K2⟩:=bo.fm r H1 e;refine⟨H2,S1.trans S2,λk hk=>?_,λk o h3 h4=>K2 k o (K1 k o h3 h4) h4⟩;rcases ab5.1 hk with rfl |hk;exact⟨o,K2 _ o o1 o2,o2⟩;exact A2 k hk
  cases e
theorem J8{args:List PV}{j:Nat}(hj:j<args.length){id:Nat}(hm:id∈UQ (args.getD j .any)):id∈jd args:=by
 have:args.getD j .any=args[j]:=by simp[List.getD,hj]
 rw[this]at hm;exact acL.2 ⟨_,acB hj,hm⟩
theorem xN(H:bo w F X h){id:Nat}{o:aw}{bc:Nat×Nat}(e1:h[id]?=some o)(e2:X[id]?=some bc)(e3:o.mu=.f):¬Av F h X bc.1:=by
 rintro(hf |⟨k,o',c',f1,f2,f3,f4⟩);exact H.out id o bc e1 e2 (.inr e3) hf
 ·have bO:k≠id:=by
   rintro rfl;rw[e1]at f1;obtain rfl:=abV f1;rw[e3]at f3;cases f3
  exact H.iT k id o' o c' bc bO f1 e1 f2 e2 f3 (by rw[e3];simp) f4
theorem vF{w':World}{h':ab}{X':List (Nat×Nat)}(s:eD w [] [] w' h' X'):dN w w':=
 ⟨s.size,λb hb=>s.aT b hb (xM b),s.os,s.tape,s.output,s.drawn⟩
theorem nC{f:FuncId}{run:List PV->ab->Option (PV×ab)}(S:fT P f run){A:Nat->Prop}(hA:∀b,A b->b<w.heap.size){args:List PV}{vs:List Value}(ha:L2 (cu w A) vs args)
  {r r':PV} {hc:ab} (e1:run (aQ args) []=some (r,hc)) (e2:AK hc r=some r'):
  Calls P f vs.toArray w λe w'=>∃v,e=.returned v/\cu w' A v (cj r')/\dN w w':=by
 have hl:(aQ args).length=args.length:=by simp[cL]
 have hAv:∀b,Av A [] [] b↔A b:=λb=>⟨λh=>h.elim id (λh=>absurd h (xM b)),.inl⟩
 have iB:L2 (aE w (Av A [] []) [] []) vs (aQ args):=⟨by rw[hl];exact ha.1,λj hj=>by
  rw[gm];exact .val (((ha.2 j (by omega)).cj).wz (λb hb=>(hAv b).1 hb))⟩
 refine(S (aQ args) [] r hc e1 w A [] vs (bo.empty w A hA) iB).mono ?_;rintro e w' ⟨v,X',rfl,q1,q2,q3,_⟩;refine⟨v,rfl,?_,vF q3⟩;refine(IM q2 (λb _ hb ha=>hb (.inl ha)) q1 e2 (λid o bc m1 m2 m3=>?_)).cj;rcases m3 with m3 |m3;exact q2.out id o bc m1 m2 (.inl m3);exact q2.out id o bc m1 m2 (.inr m3)
mutual
theorem xO:∀p:PV,dT p=true->dT (cj p)=true
 | .agg cs,h=>by simp only[dT,cj]at h ⊢;exact rV cs h
 | .cA cs,h=>by simp only[dT,cj]at h ⊢;exact rV cs h
 | .int _ _,_=>rfl
 | .bool _,_=>rfl
 | .str _,_=>rfl
 | .eK,_=>rfl
 | .aG,_=>rfl
 | .gS,_=>rfl
 | .aa _ _,h=>by simp[dT]at h
 | .ak _ _ _ _,h=>by simp[dT]at h
 | .ptr _ _ _ _,h=>by simp[dT]at h
 | .cG _,h=>by simp[dT]at h
 | .eW _,h=>by simp[dT]at h
 | .fn _ _,h=>by simp[dT]at h
 | .oE _ _ _,h=>by simp[dT]at h
 | .undef,h=>by simp[dT]at h
 | .any,h=>by simp[dT]at h
theorem rV:∀cs:List PV,pL cs=true->pL (aQ cs)=true
 |[],_=>rfl
 |c::r,h=>by
  simp only[pL,aQ,ab4]at h ⊢;exact⟨xO c h.1,rV r h.2⟩
end
theorem Cb{run:iR}{f:FuncId}(S:fT P f (run f)){lv:Nat}{args:List PV}{r:PV}{h':ab}(e:dx run lv f args h=some (r,h'))(H:bo w F X h){vs:List Value}
  (ha:L2 (aE w (Av F h X) X h) vs args):na P lv w F X h f vs r h':=by
 unfold dx at e
 have done:∀{h2:ab} (H2:bo w F X h2) (S2:eD w h X w h2 X) (p:PV),(Calls P f vs.toArray w λe w'=>∃v,e=.returned v/\cu w' (Av F h2 X) v p/\dN w w')->na P lv w F X h f vs p h2:=by
  intro h2 H2 S2 p hc
  refine hc.mono ?_;rintro e w' ⟨v,rfl,q1,q2⟩;exact⟨v,X,rfl,.val q1,H2.Na q2,S2.trans (q2.TP h2 X),λ_=>q2⟩
 split at e
 ·rename_i hv
  split at e
  ·rename_i r0 hc h1
   split at e
   ·rename_i r1 h2
    obtain⟨rfl,rfl⟩:=ab7 (abV e);refine done H (eD.refl w h X) _ (nC (A:=Av F h X) S (λb hb=>Av.lt H hb) (args:=args) ⟨ha.1,λj hj=>?_⟩ h1 h2);rw[bw]at hv;exact(ha.2 j hj).J6 (fS hv hj)
   cases e
  cases e
 ·split at e
  ·rename_i args' hr
   obtain⟨l1,l2⟩:=DA hr
   split at e
   ·rename_i r0 hc h1
    split at e
    ·rename_i r1 h2
     have frozen:∀{h2:ab} (H2:bo w F X h2) (S2:eD w h X w h2 X) (hf:∀id∈jd args,∃o:aw,h2[id]?=some o/\o.mu=.f),L2 (cu w (Av F h2 X)) vs args':=by
      intro h2 H2 S2 hf
      refine⟨by rw[ha.1,l1],λj hj=>?_⟩;refine xf H (λb hb hn=>Av.mono S2 b hb hn) (ha.2 j (by omega)) (l2 j (by omega)) (λid o bc hm m1 m2 m3=>?_);obtain⟨o2,g1,g2⟩:=hf id (J8 (by omega) hm);exact xN H2 g1 m2 g2
     split at e
     ·rename_i zS
      obtain⟨rfl,rfl⟩:=ab7 (abV e);simp only[acs]at zS;rcases zS with zS |zS
      ·refine done H (eD.refl w h X) _ ?_;have:=nC (P:=P) (w:=w) (A:=λ_=>False) S (λb hb=>hb.elim) (args:=args') (vs:=vs) ⟨by rw[ha.1,l1],λj hj=>xf H (λ_ _ _ hh=>hh) (ha.2 j (by omega)) (l2 j (by omega)) (λ_ _ _ _ _ _ _ hh=>hh)⟩ h1 h2;refine this.mono ?_;rintro e w' ⟨v,rfl,q1,q2⟩;have lE:dT (cj r1)=true:=xO r1 zS;exact⟨v,rfl,q1.dT lE,q2⟩
      ·refine done H (eD.refl w h X) _ (nC (A:=Av F h X) S (λb hb=>Av.lt H hb) (frozen H (eD.refl w h X) (λid bZ=>?_)) h1 h2);have:=abX.1 zS id bZ
       split at this
       ·rename_i o ho
        simp only[ab4,decide_eq_true_eq]at this;exact⟨o,ho,this.1⟩
       cases this
     ·split at e
      ·cases MA:fm h (jd args)with
       |none=>rw[MA]at e;simp at e
       |some h3=>
        rw[MA]at e;simp at e;obtain⟨rfl,rfl⟩:=e;obtain⟨H2,S2,A2,_⟩:=bo.fm (jd args) H MA;exact done H2 S2 _ (nC (A:=Av F h3 X) S (λb hb=>Av.lt H2 hb) (frozen H2 S2 A2) h1 h2)
      cases e
    cases e
   cases e
  ·split at e
   ·rename_i args' hr
    obtain⟨l1,l2⟩:=lC hr
    split at e
    ·rename_i r0 hc h1
     split at e
     ·rename_i r1 h2
      split at e
      ·rename_i zS
       obtain⟨rfl,rfl⟩:=ab7 (abV e);refine done H (eD.refl w h X) _ ?_;have:=nC (P:=P) (w:=w) (A:=λ_=>False) S (λb hb=>hb.elim) (args:=args') (vs:=vs) ⟨by rw[ha.1,l1],λj hj=>IL H (λ_ _ _ hh=>hh) (λ_ _ _ _ _ _ hh=>hh) 8 (ha.2 j (by omega)) (l2 j (by omega))⟩ h1 h2;refine this.mono ?_;rintro e w' ⟨v,rfl,q1,q2⟩;exact⟨v,rfl,q1.dT (xO r1 zS),q2⟩
      cases e
     cases e
    cases e
   cases e
end Go.Pm
namespace Go.Pm
variable{C:cW}(T:mD C.P)
variable{ops:Array Oper}{d:Nat}{ty:TypeId}{pos:String}{af:Array Edge}{r:List Oper}{O:Nat->PV}{L:List (Nat×PV)}{h:ab}{Q:St->Prop}
theorem R.jM{t:TypeId}{x ix:Operand}{s:ByteArray}{k:IntKind}{i:Nat}{b:UInt8}(hx:cS L x=some (.str s))(hi:cS L ix=some (.int k (i:Int)))(hk:T.kd t=some .str)(hv:s[i]?=some b)
  (kk:ah C ops r ⟨al ((d,.int .u8 b.toNat)::L) O,h⟩ Q):ah C ops (⟨some d,.index t x ix,ty,pos,af,none⟩::r) ⟨al L O,h⟩ Q:=
 ah.fo (λrun=>by simp[au,aC,an hx,an hi,xG,qy (T.cY _ _ hk),hv]) kk
theorem R.max{ts:Array TypeId}{x y:Operand}{k:IntKind}{a b:Int}(hx:cS L x=some (.int k a))(hy:cS L y=some (.int k b))(kk:ah C ops r ⟨al ((d,.int k (max a b))::L) O,h⟩ Q):
  ah C ops (⟨some d,.call ⟨.builtin .max,#[x,y],ts⟩,ty,pos,af,none⟩::r) ⟨al L O,h⟩ Q:=by
 refine ah.fo (v:=.int k (Max.max a b)) (λrun=>?_) kk;have:(if b>a then b else a)=Max.max a b:=by split <;>omega
 simp[au,an hx,an hy,bt,MT,this]
theorem R.neg{t:TypeId}{x:Operand}{k:IntKind}{a c:Int}(hx:cS L x=some (.int k a))(hw:k.wrap (0 - a)=c)(kk:ah C ops r ⟨al ((d,.int k c)::L) O,h⟩ Q):
  ah C ops (⟨some d,.unOp .neg t x,ty,pos,af,none⟩::r) ⟨al L O,h⟩ Q:=
 ah.fo (λrun=>by simp only[au,aC,an hx,TK,hw,ab8]) kk
theorem R.PK{t yt:TypeId}{x y:Operand}{a b:ByteArray}(hx:cS L x=some (.str a))(hy:cS L y=some (.str b))(hh:a.toList=b.toList)(k1:ah C ops r ⟨al ((d,(.bool true))::L) O,h⟩ Q):
  ah C ops (⟨some d,.binOp .eql t x y yt,ty,pos,af,none⟩::r) ⟨al L O,h⟩ Q:=ah.fo (λrun=>by simp[au,aC,an hx,an hy,fL,mG,hh]) k1
theorem R.PL{t yt:TypeId}{x y:Operand}{a b:ByteArray}(hx:cS L x=some (.str a))(hy:cS L y=some (.str b))(hh:¬a.toList=b.toList)(k1:ah C ops r ⟨al ((d,(.bool false))::L) O,h⟩ Q):
  ah C ops (⟨some d,.binOp .eql t x y yt,ty,pos,af,none⟩::r) ⟨al L O,h⟩ Q:=ah.fo (λrun=>by simp[au,aC,an hx,an hy,fL,mG,hh]) k1
def li(L:List (Nat×PV)):List (Nat×Operand)->Option (List (Nat×PV))
 |[]=>some []
 |(i,x)::xs=>match cS L x,li L xs with
  |some v,some vs=>some ((i,v)::vs)
  |_,_=>none
theorem jn{L:List (Nat×PV)}{O:Nat->PV}:∀{xs:List (Nat×Operand)} {vs:List (Nat×PV)},li L xs=some vs->xs.map (λ(i,x)=>(i,ev (al L O) x))=vs
 |[],vs,e=>by simp[li]at e;subst e;rfl
 |(i,x)::xs,vs,e=>by
  simp only[li]at e
  split at e
  ·rename_i v HU h1 h2
   obtain rfl:=abV e;simp only[acg,an h1,jn h2]
  cases e
def rj(ts:Nat->Option Nat)(os:List (Nat×TypeId))(i:Nat):Option (Nat×Nat):=
 match os[i]? with
 |some (off,ty)=>(ts ty).map λs=>(off,s)
 |none=>none
theorem zx{p q:Nat->Option (Nat×Nat)}(hpq:∀i x,p i=some x->q i=some x):∀{parts:List (Nat×PV)} {cs r:List PV},kG p cs parts=some r->kG q cs parts=some r
 |[],cs,r,e=>e
 |(i,v)::parts,cs,r,e=>by
  simp only[kG]at e ⊢
  split at e
  cases e
  ·rename_i off size hp
   rw[hpq _ _ hp];simp only
   split at e
   ·rename_i hc
    rw[if_pos hc];exact zx hpq e
   cases e
theorem vt{t:TypeId}{z:PV}{os:List (Nat×TypeId)}{parts:List (Nat×PV)}{cs:List PV}(hz:T.tz t=some z)(hk:T.kd t=some (.st os))(ha:(os.all λo=>(T.ts o.2).isSome)=true)(h1:(cells z).all bM=true)
  (hf:kG (rj T.ts os) (cells z) parts=some cs):xD C.P t parts=some (.agg cs):=by
 obtain⟨fs,e1,e2⟩:=PG (T.cY _ _ hk)
 have eR:(fs.toList.all λf=>(cF C.P f.type).isSome)=true:=by
  rw[<-e2,List.all_map]at ha;rw[abX]at ha ⊢
  intro f hf
  have:=ha f hf;simp only[Function.comp]at this
  cases hh:T.ts f.type with
  |none=>rw[hh]at this;cases this
  |some n=>rw[T.ez _ _ hh];rfl
 have hp:kG (jc C.P fs) (cells z) parts=some cs:=by
  refine zx (λi x hx=>?_) hf;unfold rj at hx;rw[<-e2,ace]at hx;unfold jc;have hfe:fs[i]?=fs.toList[i]?:=by simp
  rw[hfe]
  cases hh:fs.toList[i]? with
  |none=>rw[hh]at hx;cases hx
  |some f=>
   rw[hh]at hx;simp only[ab8]at hx ⊢
   cases AS:T.ts f.type with
   |none=>rw[AS]at hx;cases hx
   |some n=>rw[AS]at hx;rw[T.ez _ _ AS];exact hx
 unfold xD;rw[T.nH _ _ hz,e1];simp only[eR,h1,and_self,if_true,hp,ab8]
theorem R.build{t:TypeId}{parts:Array (Nat×Operand)}{ps:List (Nat×PV)}{z:PV}{os:List (Nat×TypeId)}{cs:List PV}(hp:li L parts.toList=some ps)(hz:T.tz t=some z)(hk:T.kd t=some (.st os))(ha:(os.all λo=>(T.ts o.2).isSome)=true)(h1:(cells z).all bM=true)
  (hf:kG (rj T.ts os) (cells z) ps=some cs) (kk:ah C ops r ⟨al ((d,.agg cs)::L) O,h⟩ Q):ah C ops (⟨some d,.build t parts,ty,pos,af,none⟩::r) ⟨al L O,h⟩ Q:=
 ah.fo (λrun=>by simp only[au,aC,jn hp,vt T hz hk ha h1 hf,ab8]) kk
theorem D.build{i L0:Nat}{own:List Nat}{t:TypeId}{parts:Array (Nat×Operand)}{ps:List (Nat×PV)}{z:PV}{os:List (Nat×TypeId)}{cs:List PV}(hp:li L parts.toList=some ps)(hz:T.tz t=some z)(hk:T.kd t=some (.st os))(ha:(os.all λo=>(T.ts o.2).isSome)=true)(h1:(cells z).all bM=true)
  (hf:kG (rj T.ts os) (cells z) ps=some cs) (kk:bg C ops (i+1) r ⟨⟨al ((d,.agg cs)::L) O,h⟩,L0,own⟩ Q):bg C ops i (⟨some d,.build t parts,ty,pos,af,none⟩::r) ⟨⟨al L O,h⟩,L0,own⟩ Q:=
 bg.plain (h':=h) rfl (λrun=>by simp only[au,aC,jn hp,vt T hz hk ha h1 hf,ab8]) kk
theorem D.zy{i L0:Nat}{own:List Nat}{s:TypeId}{x:Operand}{f off:Nat}{ft:TypeId}{os:List (Nat×TypeId)}{sz:Nat}{cs jN:List PV}{c:PV}(hx:cS L x=some (.eW cs))(hk:T.kd s=some (.st os))(hf:os[f]?=some (off,ft))(hs:T.ts ft=some (sz+1))
  (hc:cs.drop off=c::jN) (k:bg C ops (i+1) r ⟨⟨al ((d,.eW (c::jN))::L) O,h⟩,L0,own⟩ Q):bg C ops i (⟨some d,.fieldAddr s x f,ty,pos,af,none⟩::r) ⟨⟨al L O,h⟩,L0,own⟩ Q:=by
 have hl:off<cs.length:=by
  rcases acE off cs.length with h |h;exact h;rw[acx h]at hc;cases hc
 exact bg.plain (h':=h) rfl (λrun=>by simp[au,aC,an hx,gD,mX T hk hf hs,hl,hc]) k
def zz(sz n:Nat)(p:Nat×PV):Bool:=decide ((cells p.2).length=sz)&& (cells p.2).all bM&&decide (p.1<n)
theorem qA{lv:Nat}{t el:TypeId}{n sz:Nat}{z:PV}{ps:List (Nat×PV)}{es:List PV}(hk:T.kd t=some (.sl el))(hs:T.ts el=some (sz+1))(hz:T.tz el=some z)(hn:n * (sz+1)<=16777216)(hl:(cells z).length=sz+1)(h1:(cells z).all bM=true)
  (hp:ps.all (zz (sz+1) n)=true) (he:Ab z n ps=es) (hv:ao es=true):dI C.P lv h t n ps=some (.aa true es,h):=by
 unfold dI;rw[bB (T.cY _ _ hk)];simp only[T.ez _ _ hs,T.nH _ _ hz];have Wf:(ps.all λp=>decide ((cells p.2).length=sz+1)&& (cells p.2).all bM&&decide (p.1<n))=true:=hp;rw[if_pos ⟨by omega,hn,hl,h1,Wf⟩,he,if_pos hv]
theorem R.buildSlice{t el:TypeId}{n sz:Nat}{z:PV}{parts:Array (Nat×Operand)}{ps:List (Nat×PV)}{es:List PV}(WY:li L parts.toList=some ps)(hk:T.kd t=some (.sl el))(hs:T.ts el=some (sz+1))(hz:T.tz el=some z)(hn:n * (sz+1)<=16777216)(hl:(cells z).length=sz+1)(h1:(cells z).all bM=true)
  (hp:ps.all (zz (sz+1) n)=true) (he:Ab z n ps=es) (hv:ao es=true) (kk:ah C ops r ⟨al ((d,.aa true es)::L) O,h⟩ Q):
  ah C ops (⟨some d,.buildSlice t n parts,ty,pos,af,none⟩::r) ⟨al L O,h⟩ Q:=
 ah.fo (λrun=>by simp only[au,aC,jn WY,qA T hk hs hz hn hl h1 hp he hv]) kk
theorem D.buildSlice{i:Nat}{t el:TypeId}{n sz:Nat}{z:PV}{parts:Array (Nat×Operand)}{ps:List (Nat×PV)}{es:List PV}(ee:aV h=true)(WY:li L parts.toList=some ps)(iv:(ps.all λp=>bu (aO h) p.2)=true)(hk:T.kd t=some (.sl el))(hs:T.ts el=some (sz+1))(hz:T.tz el=some z)(hn:n * (sz+1)<=16777216)(hl:(cells z).length=sz+1)(h1:(cells z).all bM=true)
  (hp:ps.all (zz (sz+1) n)=true) (he:Ab z n ps=es) (hv:ao es=true) (kk:bg C ops (i+1) r ⟨⟨al ((d,.aa true es)::L) O,h⟩,h.length,[]⟩ Q):
  bg C ops i (⟨some d,.buildSlice t n parts,ty,pos,af,none⟩::r) ⟨⟨al L O,h⟩,h.length,[]⟩ Q:=by
 refine bg.read rfl ee ?_ ⟨0,λn lv _ _=>by simp only[au,aC,jn WY,qA T hk hs hz hn hl h1 hp he hv]⟩ kk;rw[abX]
 intro y hy
 have hm:y∈parts.toList.map (·.2):=by simpa[Op.operands]using hy
 obtain⟨x,hx,rfl⟩:=aci.1 hm;have:=jn (O:=O) WY;rw[<-this,List.all_map,abX]at iv;exact iv x hx
theorem jB{n b:Nat}(h1:n<1000000000)(h2:b<=1000):roomy n b=true:=by
 have:n * b<=1000000000 * 1000:=adZ (by omega) h2;simp[roomy];omega
def dC(sz:Nat)(ys:List PV):Prop:=ys.all (λv=>decide ((cells v).length=sz)&& (cells v).all bM)=true
theorem gJ{lv:Nat}{st xt el ru:TypeId}{sz gu:Nat}{z:PV}{full:Bool}{ys:List PV}(h1:1<=lv)(hk:T.kd st=some (.sl el))(fZ:T.kd xt=some (.sl ru))(hs:T.ts el=some (sz+1))(hb:T.tb el=some gu)(hz:T.tz el=some z)(ju:gu<=1000)(hl:(cells z).length=sz+1)(ho:(cells z).all bM=true)
  (hy:dC (sz+1) ys) (bO:ys.isEmpty=false) (hn:ys.length<1000000000):bT C.P lv h st xt (.aa true []) (.aa full ys)=some (.ak h.length 0 0 ys.length,h++[⟨.m,0,sz+1,ys⟩]):=by
 unfold bT;rw[bB (T.cY _ _ hk)];simp only[T.ez _ _ hs,T.rE _ _ hb,T.nH _ _ hz,cH,bB (T.cY _ _ fZ),cB];unfold dC at hy;rw[if_pos ⟨by omega,by omega,⟨hl,ho⟩,hy⟩];simp only[bO,aca,if_false,acz,acf,adC,acD,newObj];rw[if_pos ⟨trivial,h1,jB hn ju,trivial⟩]
theorem lH{st xt el ru:TypeId}{sz gu id ep len:Nat}{z:PV}{full:Bool}{ys:List PV}{o:aw}(hk:T.kd st=some (.sl el))(fZ:T.kd xt=some (.sl ru))(hs:T.ts el=some (sz+1))(hb:T.tb el=some gu)(hz:T.tz el=some z)(ju:gu<=1000)(hl:(cells z).length=sz+1)(ho:(cells z).all bM=true)
  (hy:dC (sz+1) ys) (bO:ys.isEmpty=false) (hn:len+ys.length<1000000000) (hg:getM h id ep=some o) (hm:o.mu=.m) (ux:o.bQ=sz+1) (hle:len<=o.es.length):
  bT C.P 2 h st xt (.ak id ep 0 len) (.aa full ys)=some (.ak id (ep+1) 0 (len+ys.length),h.set id {o with ep:=ep+1,es:=o.es.take len++ys}):=by
 unfold bT;rw[bB (T.cY _ _ hk)];simp only[T.ez _ _ hs,T.rE _ _ hb,T.nH _ _ hz,cH,bB (T.cY _ _ fZ),cB];unfold dC at hy;rw[if_pos ⟨by omega,by omega,⟨hl,ho⟩,hy⟩];simp only[hg];rw[if_pos ⟨by omega,ux.symm⟩];simp only[bO,aca,if_false];rw[if_neg (by simp[iP]),if_pos ⟨trivial,by omega,hm,jB hn ju⟩]
def Out(sz:Nat)(h:ab)(v:PV)(es:List PV):Prop:=(v=.aa true []/\es=[])\/∃id ep,v=.ak id ep 0 es.length/\h[id]?=some ⟨.m,ep,sz,es⟩
theorem Out.nil(sz:Nat)(h:ab):Out sz h (.aa true []) []:=.inl ⟨rfl,rfl⟩
theorem Out.db{sz:Nat}{h:ab}{v:PV}{es:List PV}(o:Out sz h v es)(J:ab):Out sz (h++J) v es:=by
 rcases o with o |⟨id,ep,e1,e2⟩;exact .inl o
 ·refine .inr ⟨id,ep,e1,?_⟩
  have:id<h.length:=by
   rcases acE id h.length with hh |hh;exact hh;rw[ach hh]at e2;cases e2
  rw[abW this];exact e2
def Z4(sz:Nat)(A J:ab)(v:PV)(es:List PV):Prop:=(v=.aa true []/\es=[])\/∃id ep,v=.ak (A.length+id) ep 0 es.length/\J[id]?=some ⟨.m,ep,sz,es⟩
def HV(h:ab):Prop:=∀o∈h,o.mu≠.x/\ao o.es=true
mutual
theorem xl(f:Nat->Bool):∀p,aU p=true->bu f p=true
 | .int ..,_ | .bool _,_ | .str _,_ | .eK,_ | .aG,_ | .gS,_ | .aa ..,_ | .eW _,_=>rfl
 | .agg cs,h=>by simp only[bu];exact bm f cs (by simpa[aU]using h)
 | .cA cs,h=>by simp only[bu];exact bm f cs (by simpa[aU]using h)
 | .fn _ cs,h=>by simp only[bu];exact bm f cs (by simpa[aU]using h)
 | .oE _ _ cs,h=>by simp only[bu];exact bm f cs (by simpa[aU]using h)
 | .ak ..,h | .ptr ..,h | .undef,h | .any,h=>by simp[aU]at h
theorem bm(f:Nat->Bool):∀cs,ao cs=true->bG f cs=true
 |[],_=>rfl
 |c::r,h=>by
  simp only[ao,ab4]at h;simp only[bG,xl f c h.1,bm f r h.2,aek]
end
theorem HV.closed{h:ab}(H:HV h):aV h=true:=by
 unfold aV;rw[abX]
 intro o ho
 rw[bm _ _ (H o ho).2];simp
theorem HV.Uf{h:ab}(H:HV h){id:Nat}(bZ:id<h.length):aO h id=true:=by
 unfold aO;rw[ab1 bZ];simpa using(H _ (acB bZ)).1
theorem HV.nil:HV []:=λo ho=>by cases ho
theorem HV.db{h k:ab}(H:HV h)(K:HV k):HV (h++k):=λo ho=>(ab2.1 ho).elim (H o) (K o)
theorem HV.one{ep n:Nat}{es:List PV}(h:ao es=true):HV [⟨.m,ep,n,es⟩]:=λo ho=>by simp at ho;subst ho;exact⟨by simp,h⟩
theorem HV.set{h:ab}(H:HV h)(id:Nat){o:aw}(h1:o.mu≠.x)(h2:ao o.es=true):HV (h.set id o):=λo' Qo=>by
 rcases adl Qo with Qo|rfl;exact H o' Qo;exact⟨h1,h2⟩
theorem bp{h:ab}{id ep:Nat}{o:aw}(e:h[id]?=some o)(h1:o.ep=ep)(h2:o.mu≠.x):getM h id ep=some o:=by simp[getM,e,h1,h2]
theorem PM{h:ab}{b n off:Nat}{e:PV}(hb:h[b]?=some ⟨.m,0,n,[e]⟩):cT h (.ptr b 0 0 off)=some ((cells e).drop off):=by simp[cT,getM,hb]
theorem R.rZ{t:TypeId}{x:Operand}{c e:PV}{cs:List PV}{sz b n off:Nat}(hx:cS L x=some (.ptr b 0 0 off))(hs:T.ts t=some sz)(ht:T.ta t=some false)(hb:h[b]?=some ⟨.m,0,n,[e]⟩)(hc:(cells e).drop off=c::cs)(k:ah C ops r ⟨al ((d,c)::L) O,h⟩ Q):
  ah C ops (⟨some d,.load t x,ty,pos,af,none⟩::r) ⟨al L O,h⟩ Q:=R.gH T hx hs ht ((PM hb).trans (by rw[hc])) k
theorem R.C8{t:TypeId}{x:Operand}{e:PV}{jN:List PV}{sz b n off:Nat}(hx:cS L x=some (.ptr b 0 0 off))(hs:T.ts t=some (sz+1))(ht:T.ta t=some true)(hb:h[b]?=some ⟨.m,0,n,[e]⟩)(hc:qz (sz+1) ((cells e).drop off) jN)(k:ah C ops r ⟨al ((d,.agg jN)::L) O,h⟩ Q):
  ah C ops (⟨some d,.load t x,ty,pos,af,none⟩::r) ⟨al L O,h⟩ Q:=R.pz T hx hs ht (PM hb) hc k
theorem R.jX{t:TypeId}{a x:Operand}{b n off ep i sz:Nat}{o:aw}{e v:PV}(ha:cS L a=some (.ptr b ep i off))(hx:cS L x=some v)(hs:T.ts t=some sz)(hg:getM h b ep=some o)(hm:o.mu=.m)(hi:o.es[i]?=some e)(hl:(cells v).length=sz)(h1:(cells v).all bM=true)(hle:off+sz<=(cells e).length)
  (k:ah C ops r ⟨al L O,h.set b {o with es:=o.es.set i (fE off sz e v)}⟩ Q):ah C ops (⟨none,.store t a x,ty,pos,af,none⟩::r) ⟨al L O,h⟩ Q:=by
 have k':ah C ops r ⟨cm (al L O) none .undef,h.set b {o with es:=o.es.set i (fE off sz e v)}⟩ Q:=k;refine ah.val (v:=.undef) (h':=h.set b {o with es:=o.es.set i (fE off sz e v)}) rfl (λrun=>?_) k';simp only[au,aC,an ha,an hx,im,T.ez _ _ hs,hg,hi,abZ,if_true];rw[if_pos ⟨hm,hl,h1,hle⟩]
 rfl
theorem BM(n:Nat){p:PV}(h:aU p=true):dU n p=true:=by
 unfold dU
 split <;>first |(simp[aU]at h;done)|exact h
theorem Ih(n:Nat){p:PV}(h:aU p=true):cN n p=true:=by
 unfold cN
 split
 ·rename_i cs
  rw[abX]
  intro c hc
  have:ao cs=true:=by simpa[aU]using h
  rw[bw]at this;exact BM n (abX.1 this c hc)
 exact BM n h
theorem HV.cN{h:ab}(H:HV h)(n:Nat):(h.all λo=>o.es.all (cN n))=true:=by
 rw[abX]
 intro o ho
 have:=(H o ho).2;rw[bw]at this;rw[abX]
 intro e he
 exact Ih n (abX.1 this e he)
mutual
theorem ji:∀p:PV,dT (cj p)=dT p
 | .int .. | .bool _ | .str _ | .eK | .aG | .gS | .cG _ | .aa .. | .eW _ | .fn .. | .oE .. | .ak .. | .ptr .. | .undef | .any=>rfl
 | .agg cs=>by simp only[cj,dT];exact qB cs
 | .cA cs=>by simp only[cj,dT];exact qB cs
theorem qB:∀cs:List PV,pL (aQ cs)=pL cs
 |[]=>rfl
 |c::r=>by simp only[aQ,pL,ji c,qB r]
end
theorem aj.Z5{lv:Nat}{f:FuncId}{args args':List PV}{rv:PV}{Q:PV->ab->Prop}(hm:C.mode f=.pure)(hv:ao args=false)(hr:gC h args=some args')(a:aI C f (aQ args') rv)(hs:dT rv=true)(q:Q rv h):aj C lv f args h Q:=by
 obtain⟨n0,hn⟩:=a;refine⟨rv,h,q,n0,λn h1=>?_⟩;obtain⟨r0,hc,r1,e1,e2,e3⟩:=hn n h1;unfold dn;rw[hm]
 have zS:dT r1=true:=by
  have:=ji r1;rw[e3]at this;rw[<-this];exact hs
 simp only[dx,hv,aca,if_false,hr,e1,e2,e3,zS,aed,if_true]
theorem R.JF{t:TypeId}{x:Operand}{e c:PV}{cs:List PV}{n sz off:Nat}(hx:cS L x=some (.ptr h.length 0 0 off))(hs:T.ts t=some sz)(ht:T.ta t=some false)(hc:(cells e).drop off=c::cs)
  (k:ah C ops r ⟨al ((d,c)::L) O,h++[⟨.m,0,n,[e]⟩]⟩ Q):ah C ops (⟨some d,.load t x,ty,pos,af,none⟩::r) ⟨al L O,h++[⟨.m,0,n,[e]⟩]⟩ Q:=
 R.gH T hx hs ht (abn.trans (by rw[hc])) k
theorem D.xJ{i:Nat}{x:xc}{op:Op}{j d':Nat}{want b:Bool}(hd:(ops.toList[j]?).bind (·.dst)=some d')(hx:x.s.O=al L O)(hb:lk L d'=some (.bool b))(he:(b==want)=true)(k:bg C ops i (⟨some d,op,ty,pos,af,none⟩::r) x Q):
  bg C ops i (⟨some d,op,ty,pos,af,some (j,want)⟩::r) x Q:=by
 obtain⟨y,q,n0,hn⟩:=k;refine⟨y,q,n0,λn h1=>?_⟩;rw[<-hn n h1];simp only[dL,cD,bA,hd,hx,dJ hb,he]
theorem bg.off{i L0:Nat}{own:List Nat}{op:Op}{g:Option (Nat×Bool)}(hw:bA ops ⟨some d,op,ty,pos,af,g⟩ (al L O)=some false)(k:bg C ops (i+1) r ⟨⟨al ((d,.undef)::L) O,h⟩,L0,own⟩ Q):
  bg C ops i (⟨some d,op,ty,pos,af,g⟩::r) ⟨⟨al L O,h⟩,L0,own⟩ Q:=by
 refine bg.step ⟨0,λn _=>?_⟩ k;simp only[cD,hw,cw]
theorem D.oQ{i L0:Nat}{own:List Nat}{op:Op}{j d':Nat}{want b:Bool}(hd:(ops.toList[j]?).bind (·.dst)=some d')(hb:lk L d'=some (.bool b))(he:(b==want)=false)(k:bg C ops (i+1) r ⟨⟨al ((d,.undef)::L) O,h⟩,L0,own⟩ Q):
  bg C ops i (⟨some d,op,ty,pos,af,some (j,want)⟩::r) ⟨⟨al L O,h⟩,L0,own⟩ Q:=bg.off (by simp only[bA,hd,dJ hb,he]) k
theorem D.jg{i L0:Nat}{own:List Nat}{c x y:Operand}{v:PV}(hc:cS L c=some (.bool true))(hx:cS L x=some v)(k:bg C ops (i+1) r ⟨⟨al ((d,v)::L) O,h⟩,L0,own⟩ Q):bg C ops i (⟨some d,.pick c x y,ty,pos,af,none⟩::r) ⟨⟨al L O,h⟩,L0,own⟩ Q:=
 bg.plain (h':=h) rfl (λrun=>by simp only[au,aC,an hc,an hx,if_true]) k
theorem D.je{i L0:Nat}{own:List Nat}{c x y:Operand}{v:PV}(hc:cS L c=some (.bool false))(hx:cS L y=some v)(k:bg C ops (i+1) r ⟨⟨al ((d,v)::L) O,h⟩,L0,own⟩ Q):bg C ops i (⟨some d,.pick c x y,ty,pos,af,none⟩::r) ⟨⟨al L O,h⟩,L0,own⟩ Q:=
 bg.plain (h':=h) rfl (λrun=>by simp only[au,aC,an hc,an hx,aca,if_false]) k
theorem D.arith{i L0:Nat}{own:List Nat}{vN:BinOp}{t yt:TypeId}{x y:Operand}{k:IntKind}{a b c c':Int}(hx:cS L x=some (.int k a))(hy:cS L y=some (.int k b))(hp:Pm.arith vN a b=some c)(hw:k.wrap c=c')(kk:bg C ops (i+1) r ⟨⟨al ((d,(.int k c'))::L) O,h⟩,L0,own⟩ Q):
  bg C ops i (⟨some d,.binOp vN t x y yt,ty,pos,af,none⟩::r) ⟨⟨al L O,h⟩,L0,own⟩ Q:=by
 refine bg.plain (h':=h) rfl (λrun=>?_) kk;simp only[au,aC,an hx,an hy]
 cases vN <;>simp only[Pm.arith,acA,reduceCtorEq]at hp <;>subst hp <;>simp[fL,ic,hw]
theorem D.cmp{i L0:Nat}{own:List Nat}{vN:BinOp}{t yt:TypeId}{x y:Operand}{k:IntKind}{a b:Int}{p:Prop}(hx:cS L x=some (.int k a))(hy:cS L y=some (.int k b))(hp:GN vN a b=some p)
  (k1:p->bg C ops (i+1) r ⟨⟨al ((d,(.bool true))::L) O,h⟩,L0,own⟩ Q) (k2:¬p->bg C ops (i+1) r ⟨⟨al ((d,(.bool false))::L) O,h⟩,L0,own⟩ Q):bg C ops i (⟨some d,.binOp vN t x y yt,ty,pos,af,none⟩::r) ⟨⟨al L O,h⟩,L0,own⟩ Q:=by
 by_cases ME:p
 ·refine bg.plain (h':=h) rfl (λrun=>?_) (k1 ME);simp only[au,aC,an hx,an hy]
  cases vN <;>simp only[GN,acA,reduceCtorEq]at hp <;>subst hp <;>simp[fL,ic,ME]
 ·refine bg.plain (h':=h) rfl (λrun=>?_) (k2 ME);simp only[au,aC,an hx,an hy]
  cases vN <;>simp only[GN,acA,reduceCtorEq]at hp <;>subst hp <;>simp[fL,ic,ME] <;>omega
theorem Z4.rb{sz:Nat}{A J:ab}{v:PV}{es:List PV}(o:Z4 sz A J v es)(hv:ao es=true):∃r1,rb (A++J) v=some r1/\cj r1=.aa false (aQ es):=by
 rcases o with⟨rfl,rfl⟩|⟨id,ep,rfl,e2⟩;exact⟨_,rfl,rfl⟩
 ·refine⟨.aa false es,?_,by simp[cj]⟩;have:(A++J)[A.length+id]?=some ⟨.m,ep,sz,es⟩:=by rw[ab6 (by omega),show A.length+id - A.length=id by omega];exact e2
  simp[Pm.rb,jP,pD,getM,this,hv]
end Go.Pm
namespace Go.Pm
variable{C:cW}(T:mD C.P)
variable{ops:Array Oper}{d:Nat}{ty:TypeId}{pos:String}{af:Array Edge}{r:List Oper}{O:Nat->PV}{L:List (Nat×PV)}{h h':ab}{Q:St->Prop}
theorem ah.heap{O:Nat->PV}(e:h=h')(k:ah C ops r ⟨O,h'⟩ Q):ah C ops r ⟨O,h⟩ Q:=by subst e;exact k
theorem bg.heap{i:Nat}{O:Nat->PV}(e:h=h')(k:bg C ops i r ⟨⟨O,h'⟩,h'.length,[]⟩ Q):bg C ops i r ⟨⟨O,h⟩,h.length,[]⟩ Q:=by subst e;exact k
theorem ay.heap{f:FuncId}{args args':List PV}{Q:PV->ab->Prop}(e:h=h')(ea:args=args')(k:ay C f args' h' Q):ay C f args h Q:=by subst e;subst ea;exact k
theorem HV.take{h:ab}(H:HV h)(n:Nat):HV (h.take n):=λo ho=>H o (acI ho)
theorem aj.sT{f:FuncId}{args args':List PV}{N:Nat}{P Q:PV->ab->Prop}(hm:C.mode f=.opened)(eh:h=h')(ea:args=args')(hN:h'.length=N)(a:ay C f args' h' P)
  (q:∀r k,P r k->HV k/\(dV N r=true->Q r (k.take N))/\(dV N r=false->Q r k)):aj C 2 f args h Q:=by
 subst eh;subst ea;subst hN;refine aj.opened hm (a.mono ?_)
 intro r k hp
 obtain⟨h1,h2,h3⟩:=q r k hp
 cases hb:dV h.length r
 rw[if_neg (by simp)];exact h3 hb;rw[if_pos (by rw[(h1.take h.length).cN];rfl)];exact h2 hb
end Go.Pm
namespace Go.Pm
variable{C:cW}(T:mD C.P)
variable{ops:Array Oper}{d:Nat}{ty:TypeId}{pos:String}{af:Array Edge}{r:List Oper}{O:Nat->PV}{L:List (Nat×PV)}{h:ab}{Q:St->Prop}
theorem aj.cV{f:FuncId}{g:List PV->ab->Option (PV×ab)}{args:List PV}{h':ab}{rv:PV}{Q:PV->ab->Prop}(hm:C.mode f=.cV g)(a:g args h=some (rv,h'))(q:Q rv h'):aj C 2 f args h Q:=by
 refine⟨rv,h',q,0,λn h1=>?_⟩;unfold dn;rw[hm];simp only[eF,abZ,if_true,a]
def loadT(h:ab)(t:TypeId)(p:PV):Option PV:=
 match T.ts t,T.ta t,cT h p with
 |some (sz+1),some true,some cs=>if Nat.ble (sz+1) cs.length then some (.agg (cs.take (sz+1)))else none
 |some _,some false,some (c::_)=>some c
 |_,_,_=>none
theorem sU{t:TypeId}{p v:PV}(e:loadT T h t p=some v):ja C.P h t p=some v:=by
 unfold loadT at e;unfold ja
 split at e
 ·rename_i sz cs h1 h2 h3
  rw[T.ez _ _ h1,T.PE _ _ h2,h3]
  split at e
  ·rename_i hle
   simp only;rw[if_pos ⟨by omega,adb hle⟩];exact e
  cases e
 ·rename_i h1 h2 h3
  rw[T.ez _ _ h1,T.PE _ _ h2,h3];exact e
 cases e
def zA(L:List (Nat×PV))(h:ab):List ResultVar->Option (List PV)
 |[]=>some []
 | .tmp t::r=>match lk L t,zA L h r with
  |some v,some vs=>some (v::vs)
  |_,_=>none
 | .cell a t::r=>match lk L a with
  |some p=>match loadT T h t p,zA L h r with
   |some v,some vs=>some (v::vs)
   |_,_=>none
  |none=>none
theorem xw{O:Nat->PV}:∀{l:List ResultVar} {vs:List PV},zA T L h l=some vs->dy C.P h (al L O) l=some vs
 |[],vs,e=>by simp[zA]at e;subst e;rfl
 | .tmp t::r,vs,e=>by
  simp only[zA]at e
  split at e
  ·rename_i v HU h1 h2
   obtain rfl:=abV e;simp[dy,dJ h1,xw h2]
  cases e
 | .cell a t::r,vs,e=>by
  simp only[zA]at e
  split at e
  ·rename_i p hp
   split at e
   ·rename_i v HU h1 h2
    obtain rfl:=abV e;simp[dy,dJ hp,sU T h1,xw h2]
   cases e
  cases e
theorem aJ.abo{fn:Func}{Q:PV->ab->Prop}{vs:List PV}(hr:zA T L h fn.results.toList=some vs)(q:Q (aR vs) h):aJ C fn Q .ret ⟨al L O,h⟩:=⟨.inr rfl,vs,xw T hr,q⟩
theorem Gs{A J:ab}(h1:(A.all λo=>decide (o.mu=.x)||bG (aO (A++J)) o.es)=true)(hJ:HV J):aV (A++J)=true:=by
 unfold aV;rw[ac1,h1,ada,abX]
 intro o ho
 rw[bm _ _ (hJ o ho).2];simp
theorem D.rY{i:Nat}{t el:TypeId}{x ix:Operand}{id ep off len:Nat}{k:IntKind}{j:Nat}{o:aw}(ee:aV h=true)(hx:cS L x=some (.ak id ep off len))(hi:cS L ix=some (.int k (j:Int)))(hk:T.kd t=some (.sl el))(ho:getM h id ep=some o)(hs:T.ts el=some o.bQ)(cM:j<len)(hle:off+len<=o.es.length)
  (kk:bg C ops (i+1) r ⟨⟨al ((d,.ptr id ep (off+j) 0)::L) O,h⟩,h.length,[]⟩ Q):bg C ops i (⟨some d,.indexAddr t x ix,ty,pos,af,none⟩::r) ⟨⟨al L O,h⟩,h.length,[]⟩ Q:=by
 have iv:aO h id=true:=by
  unfold getM at ho
  split at ho
  ·rename_i o' Qo
   split at ho
   ·rename_i hc
    unfold aO;rw[Qo];simpa using hc.2
   cases ho
  cases ho
 exact bg.read rfl ee (by simp[Op.operands,an hx,an hi,bu,iv]) ⟨0,λn lv _ _=>by simp[au,aC,an hx,an hi,cJ,bB (T.cY _ _ hk),T.ez _ _ hs,ho,cM,hle]⟩ kk
theorem D.jX{i L0:Nat}{own:List Nat}{t:TypeId}{a x:Operand}{b off ep j sz:Nat}{o:aw}{e v:PV}(dp:level ops (before ops) i=2)(ha:cS L a=some (.ptr b ep j off))(hx:cS L x=some v)(hs:T.ts t=some sz)(hg:getM h b ep=some o)(hm:o.mu=.m)(hi:o.es[j]?=some e)(hl:(cells v).length=sz)(h1:(cells v).all bM=true)(hle:off+sz<=(cells e).length)
  (k:bg C ops (i+1) r ⟨⟨al L O,h.set b {o with es:=o.es.set j (fE off sz e v)}⟩,(h.set b {o with es:=o.es.set j (fE off sz e v)}).length,[]⟩ Q):bg C ops i (⟨none,.store t a x,ty,pos,af,none⟩::r) ⟨⟨al L O,h⟩,L0,own⟩ Q:=by
 refine bg.step ⟨0,λn _=>?_⟩ k;simp only[cD,bA,di,acH,if_false,dp,if_true,au,aC,an ha,an hx,im,T.ez _ _ hs,hg,hi,abZ,hm,hl,h1,hle,and_self,ab8,cm]
theorem D.C7{i:Nat}{t:TypeId}{x:Operand}{e:PV}{jN:List PV}{n sz:Nat}(ee:aV (h++[⟨.m,0,n,[e]⟩])=true)(hx:cS L x=some (.ptr h.length 0 0 0))(hs:T.ts t=some (sz+1))(ht:T.ta t=some true)(hc:qz (sz+1) (cells e) jN)
  (k:bg C ops (i+1) r ⟨⟨al ((d,(.agg jN))::L) O,h++[⟨.m,0,n,[e]⟩]⟩,(h++[⟨.m,0,n,[e]⟩]:ab).length,[]⟩ Q):bg C ops i (⟨some d,.load t x,ty,pos,af,none⟩::r) ⟨⟨al L O,h++[⟨.m,0,n,[e]⟩]⟩,(h++[⟨.m,0,n,[e]⟩]:ab).length,[]⟩ Q:=
 D.pz T ee hx (by simp[bu,aO]) hs ht pcN hc k
end Go.Pm
namespace Go.Pm
open Go.Proofs
def kY(sz:Nat)(e:PV):Bool:=aU e&&decide ((cells e).length=sz)&& (cells e).all bM
def jU(args:List PV)(h:ab):Option (PV×ab):=
 match args with
 |[.aa true [],.int .i64 i,.aa _ [e]]=>if i=0/\kY 5 e=true then some (.ak h.length 0 0 1,newObj h 5 [e])else none
 |[.ak id ep 0 len,.int .i64 i,.aa _ [e]]=>match getM h id ep with
  |some o=>if o.mu=.m/\o.bQ=5/\len<=o.es.length/\0<=i/\i<=len/\len<100000000/\kY 5 e=true/\(o.es.take len).all (kY 5)=true/\aV h=true then
    some (.ak id (ep+1) 0 (len+1),h.set id {o with ep:=ep+1,es:=(o.es.take len).take i.toNat++[e]++(o.es.take len).drop i.toNat})else none
  |none=>none
 |_=>none
def jf(args:List PV)(h:ab):Option (PV×ab):=
 match args with
 |[.aa true [],.int .i64 i,.aa _ [e]]=>if i=0/\kY 4 e=true then some (.ak h.length 0 0 1,newObj h 4 [e])else none
 |[.ak id ep 0 len,.int .i64 i,.aa _ [e]]=>match getM h id ep with
  |some o=>if o.mu=.m/\o.bQ=4/\len<=o.es.length/\0<=i/\i<=len/\len<100000000/\kY 4 e=true/\(o.es.take len).all (kY 4)=true/\aV h=true then
    some (.ak id (ep+1) 0 (len+1),h.set id {o with ep:=ep+1,es:=(o.es.take len).take i.toNat++[e]++(o.es.take len).drop i.toNat})else none
  |none=>none
 |_=>none
def lU(args:List PV)(h:ab):Option (PV×ab):=
 match args with
 |[.ak id ep 0 len,.int .i64 i,.int .i64 j]=>match getM h id ep with
  |some o=>if o.mu=.m/\o.bQ=5/\len<=o.es.length/\0<=i/\j=i+1/\i<len/\len<100000000/\(o.es.take len).all (kY 5)=true/\aV h=true then
    some (.ak id (ep+1) 0 (len - 1),h.set id {o with ep:=ep+1,es:=(o.es.take len).take i.toNat++(o.es.take len).drop (i.toNat+1)})else none
  |none=>none
 |_=>none
def bE(bQ:Nat)(args:List PV)(h:ab):Option (PV×ab):=
 match args with
 |[.aa _ es]=>if es.isEmpty then some (.aa true [],h)
   else if es.all (λv=>decide ((cells v).length=bQ)&& (cells v).all bM)=true/\es.length<1000000000 then some (.ak h.length 0 0 es.length,newObj h bQ es)else none
 |_=>none
def jV(f:FuncId):Mode:=
 if[0,1,347,305,183,240,281,379,161,215,216,370,15,16].contains f then .no
 else if f=194 then .ext λ|[.str a,.str b]=>some (.int .i64 (Lib.compareBytes a.data.toList b.data.toList))|_=>none
 else if f=351 then .cV jU
 else if f=352 then .cV lU
 else if f=45 then .cV (bE 4)
 else if f=397 then .cV (bE 1)
 else if[65,226,229,152,310,250,311,398,372,387,388,403,402,390,391,378,399,400,207,258,162,45,397,158,203,128,154,129,130,200,87,89,143,86,142,72,104,271,320,272,270,278,371,322,323,324,368,366,367,326,325,369,381,49,51,50,100,360,361,382,359].contains f then .opened
 else if f<410 then .pure
 else .no
noncomputable def C:cW:=⟨Tryz.prog,jV⟩
end Go.Pm
namespace Go.Pm
variable{C:cW}(T:mD C.P)
variable{ops:Array Oper}{i:Nat}{d:Nat}{ty:TypeId}{pos:String}{af:Array Edge}{r:List Oper}{O:Nat->PV}{L:List (Nat×PV)}{h:ab}{Q:St->Prop}
theorem D.rZ{t:TypeId}{x:Operand}{c e:PV}{cs:List PV}{sz b n off:Nat}(hV:HV h)(hx:cS L x=some (.ptr b 0 0 off))(hs:T.ts t=some sz)(ht:T.ta t=some false)(hb:h[b]?=some ⟨.m,0,n,[e]⟩)(hc:(cells e).drop off=c::cs)
  (k:bg C ops (i+1) r ⟨⟨al ((d,c)::L) O,h⟩,h.length,[]⟩ Q):bg C ops i (⟨some d,.load t x,ty,pos,af,none⟩::r) ⟨⟨al L O,h⟩,h.length,[]⟩ Q:=
 D.gH T hV.closed hx (by simp only[bu];exact hV.Uf (ag hb)) hs ht ((PM hb).trans (by rw[hc])) k
theorem D.C8{t:TypeId}{x:Operand}{e:PV}{jN:List PV}{sz b n off:Nat}(hV:HV h)(hx:cS L x=some (.ptr b 0 0 off))(hs:T.ts t=some (sz+1))(ht:T.ta t=some true)(hb:h[b]?=some ⟨.m,0,n,[e]⟩)(hc:qz (sz+1) ((cells e).drop off) jN)
  (k:bg C ops (i+1) r ⟨⟨al ((d,.agg jN)::L) O,h⟩,h.length,[]⟩ Q):bg C ops i (⟨some d,.load t x,ty,pos,af,none⟩::r) ⟨⟨al L O,h⟩,h.length,[]⟩ Q:=
 D.pz T hV.closed hx (by simp only[bu];exact hV.Uf (ag hb)) hs ht (PM hb) hc k
theorem D.call{L0:Nat}{own:List Nat}{x:Operand}{xs:List Operand}{Bu:Array TypeId}{f:FuncId}{dw args:List PV}(dp:level ops (before ops) i=2)(hf:cS L x=some (.fn f dw))(ha:zw L xs=some args)
  (hc:aj C 2 f (args++dw) h (λv h'=>bg C ops (i+1) r ⟨⟨al ((d,v)::L) O,h'⟩,h'.length,[]⟩ Q)):bg C ops i (⟨some d,.call ⟨.value x,xs.toArray,Bu⟩,ty,pos,af,none⟩::r) ⟨⟨al L O,h⟩,L0,own⟩ Q:=by
 obtain⟨v,h',q,n0,hn⟩:=hc;refine bg.two rfl dp ⟨n0,λn h1=>?_⟩ q;simp only[au,gA,an hf];have he:=ia (O:=O) ha;simp only[he];exact hn n h1
theorem aj.out{f:FuncId}{sz:Nat}{v:PV}{es rest:List PV}{rv:PV}{Q:PV->ab->Prop}(hm:C.mode f=.pure)(o:Out sz h v es)(hv:ao es=true)(hr:ao rest=true)(a:aI C f (.aa false (aQ es)::aQ rest) rv)(hs:dT rv=true)(q:Q rv h):aj C 2 f (v::rest) h Q:=by
 rcases o with⟨rfl,rfl⟩|⟨id,ep,rfl,e2⟩;exact aj.pure hm (by simp[ao,aU,hr]) (by simpa[aQ,cj]using a) q
 ·refine aj.Z5 (args':=.aa false es::rest) hm (by simp[ao,aU]) ?_ (by simpa[aQ,cj]using a) hs q;have h1:jP h (.ak id ep 0 es.length)=some (.aa false es):=by simp[jP,pD,getM,e2,hv]
  have h2:∀l:List PV,ao l=true->gC h l=some l:=by
   intro l
   induction l with
   |nil=>intro _;rfl
   |cons c l ih=>
    intro hl
    simp only[ao,ab4]at hl;simp only[gC,ih hl.2]
    have:jP h c=some c:=by
     unfold jP
     split
     ·rename_i cs
      have hcs:ao cs=true:=by simpa[aU]using hl.1
      have key:∀cs:List PV,ao cs=true->oJ h cs=some cs:=by
       intro cs
       induction cs with
       |nil=>intro _;rfl
       |cons c cs ih=>
        intro hh
        simp only[ao,ab4]at hh
        have:pD h c=some c:=by
         unfold pD
         split
         simp[aU]at hh;rw[if_pos hh.1]
        simp only[oJ,this,ih hh.2]
      rw[key cs hcs];rfl
     ·unfold pD
      split
      simp[aU]at hl;rw[if_pos hl.1]
    rw[this]
  simp only[gC,h1,h2 rest hr]
structure LP(H:ab)(v:PV)(sz:Nat)(eV:List PV)(r:PV)(h':ab):Prop where
 out:Out sz h' r eV
 hv:HV h'
 len:H.length<=h'.length
 fr:∀j,j<H.length->(∀ep n,v≠.ak j ep 0 n)->h'[j]?=H[j]?
 ref:∀j ep n,r=.ak j ep 0 n->(∃iC n',v=.ak j iC 0 n')\/H.length<=j
theorem mi{sz:Nat}:∀{es:List PV},es.all (kY sz)=true->ao es=true
 |[],_=>rfl
 |e::es,h=>by
  rw[acT,ab4]at h;obtain⟨h1,h2⟩:=h;unfold kY at h1;simp only[ab4]at h1;simp only[ao,h1.1.1,mi h2,aek]
theorem yG{v e:PV}{es:List PV}{full:Bool}{j:Nat}(o:Out 5 h v es)(hV:HV h)(hj:j<=es.length)(hn:es.length<100000000)(jt:es.all (kY 5)=true)(Sb:kY 5 e=true):
  ∃rv h',jU [v,.int .i64 (j:Int),.aa full [e]] h=some (rv,h')/\LP h v 5 (es.take j++[e]++es.drop j) rv h':=by
 have he:ao (es.take j++[e]++es.drop j)=true:=by
  refine mi (sz:=5) ?_;rw[abX]at jt ⊢
  intro x hx
  simp only[acp,ab2,acv]at hx;rcases hx with hx |hx |hx;exact jt x (acI hx);rw[hx];exact Sb;exact jt x (acJ hx)
 rcases o with⟨rfl,rfl⟩|⟨id,ep,rfl,e2⟩
 ·obtain rfl:j=0:=by simpa using hj
  refine⟨.ak h.length 0 0 1,h++[⟨.m,0,5,[e]⟩],?_,.inr ⟨h.length,0,rfl,by simp⟩,hV.db (HV.one (by simpa using he)),by simp,λj hj _=>abW hj,λj ep n hh=>?_⟩;simp[jU,newObj,Sb]
  cases hh;exact .inr (abZ _)
 ·have cM:=ag e2;have hl:(es.take j++[e]++es.drop j).length=es.length+1:=by simp;omega
  refine⟨.ak id (ep+1) 0 (es.length+1),h.set id ⟨.m,ep+1,5,es.take j++[e]++es.drop j⟩,?_,.inr ⟨id,ep+1,by rw[hl],abY cM⟩,hV.set id (by simp) he,by simp,λk hk bO=>?_,λk iC n hh=>?_⟩
  ·have hg:getM h id ep=some ⟨.m,ep,5,es⟩:=by simp[getM,e2]
   simp only[jU,hg,ac2,ads];rw[if_pos ⟨trivial,trivial,abZ _,by omega,by omega,hn,Sb,jt,hV.closed⟩]
  exact ab0 (λhh=>bO ep es.length (by rw[hh]))
  cases hh;exact .inl ⟨ep,es.length,rfl⟩
theorem yH{id ep j:Nat}{es:List PV}(e2:h[id]?=some ⟨.m,ep,5,es⟩)(hV:HV h)(hj:j+1<=es.length)(hn:es.length<100000000)(jt:es.all (kY 5)=true):
  ∃rv h',lU [.ak id ep 0 es.length,.int .i64 (j:Int),.int .i64 ((j:Int)+1)] h=some (rv,h')/\LP h (.ak id ep 0 es.length) 5 (es.take j++es.drop (j+1)) rv h':=by
 have cM:=ag e2
 have he:ao (es.take j++es.drop (j+1))=true:=by
  refine mi (sz:=5) ?_;rw[abX]at jt ⊢
  intro x hx
  rcases ab2.1 hx with hx |hx;exact jt x (acI hx);exact jt x (acJ hx)
 have hl:(es.take j++es.drop (j+1)).length=es.length - 1:=by simp;omega
 refine⟨.ak id (ep+1) 0 (es.length - 1),h.set id ⟨.m,ep+1,5,es.take j++es.drop (j+1)⟩,?_,.inr ⟨id,ep+1,by rw[hl],abY cM⟩,hV.set id (by simp) he,by simp,λk hk bO=>?_,λk iC n hh=>?_⟩
 ·have hg:getM h id ep=some ⟨.m,ep,5,es⟩:=by simp[getM,e2]
  simp only[lU,hg,ac2,ads];rw[if_pos ⟨trivial,trivial,abZ _,by omega,trivial,by omega,hn,jt,hV.closed⟩]
 exact ab0 (λhh=>bO ep es.length (by rw[hh]))
 cases hh;exact .inl ⟨ep,es.length,rfl⟩
end Go.Pm
namespace Go.Pm
set_option maxRecDepth 20000
def tsL:List (Option Nat):=[some (1),some (1),some (1),some (1),some (1),some (1),some (1),some (4),some (4),some (1),some (1),some (1),some (1),some (2),some (2),some (1),some (1),some (1),some (1),some (1),some (1),some (1),some (1),some (1),some (1),some (1),some (1),some (1),some (1),some (1),some (1),some (1),some (4),some (4),some (5),some (5),some (1),some (8),some (8),some (1),some (1),some (1),some (1),some (1),some (1),some (1),some (1),some (1),some (1),some (1),some (1),some (1),some (1),some (1),some (1),some (1),some (1),some (1),some (1),some (1),some (2),some (2),some (1),some (1),some (1),some (1),some (1),some (1),some (1),some (1),some (1),some (1),some (1),some (1),some (1),some (1),some (1),some (1),some (1),some (1),some (1),some (1),some (1),some (1),some (1),some (1),some (1),some (1),some (1),some (1),some (1),some (1),some (1),some (1),some (1),some (1),some (1),some (1),some (1),some (1),some (1),some (1),some (2),some (2),some (1),some (1),some (1),some (1),some (1),some (1),some (1),some (1),some (1),some (1),some (1),some (1),some (1),some (1),some (1),some (1),some (1),some (1),some (1),some (1),some (1),some (1),some (1),some (1),some (4),some (4),some (1),some (1),some (1),some (1),some (1),some (1),some (1),some (1),some (1),some (1),some (1),some (1),some (1),some (1),some (1),some (1),some (1),some (1),some (1),some (1),some (1),some (1),some (1),some (1),some (1),some (1),some (1),some (1),some (1),some (1),some (1),some (1),some (1),some (1),some (1),some (1),some (1),some (1),some (1),some (1),some (1),some (1),some (1),some (1),some (1),some (1),some (1),some (1),some (1),some (1),some (1),some (1),some (1),some (1),some (1),some (1),some (5),some (5),some (1),some (1),some (1),some (1),some (1),some (1),some (1),some (1),some (1),some (1),some (2),some (2),some (1),some (24),some (1),some (1),some (1),some (1),some (1),some (1),some (1),some (1),some (1),some (1),some (1),some (1),some (1),some (1),some (1),some (1),some (1),some (1),some (1),some (1),some (1),some (1),some (1),some (1),some (1),some (1),some (1),some (1),some (1),some (1),some (1),some (1),some (1),some (1),some (1),some (1),some (1),some (20),some (65),some (1),some (1),some (1),some (1),some (1),some (1),some (1),some (1),some (1),some (1),some (1),some (1),some (1),some (1),some (1),some (1),some (1),some (1),some (1),some (1),some (5),some (5),some (1),some (1),some (1),some (1),some (1),some (1),some (1),some (1),some (2),some (2),some (1),some (1),some (1),some (1),some (1),some (1),some (1),some (1),some (1),some (1),some (1),some (1),some (1),some (1),some (1),some (1),some (256),some (256),some (1),some (1),some (1),some (1),some (1),some (1),some (1),some (1),some (1),some (1),some (1),some (1),some (3),some (3),some (1),some (1),some (1),some (1),some (3),some (3),some (1),some (1),some (32),some (64),some (1),some (1),some (1),some (1),some (1),some (1),some (1),some (1),some (1),some (1),some (4),some (4),some (1),some (1),some (1),some (1),some (1),some (1),some (1),some (1),some (1),some (1),some (1),some (1),some (1),some (1),some (1),some (256),some (2),some (2),some (32),some (1),some (2),some (1),some (4),some (4),some (0),some (0),some (0),some (1),some (1),some (1),some (1),some (1),some (1),some (11),some (11)]
def tbL:List (Option Nat):=[some (0),some (8),some (8),some (8),some (1),some (1),some (1),some (24),some (24),some (16),some (16),some (16),some (8),some (24),some (24),some (8),some (8),some (8),some (8),some (8),some (16),some (4),some (24),some (24),some (8),some (8),some (8),some (8),some (0),some (8),some (8),some (24),some (56),some (56),some (80),some (80),some (8),some (112),some (112),some (8),some (24),some (24),some (8),some (8),some (8),some (8),some (8),some (24),some (8),some (8),some (0),some (8),some (8),some (8),some (0),some (8),some (8),some (8),some (8),some (24),some (48),some (48),some (8),some (8),some (8),some (0),some (8),some (8),some (8),some (8),some (8),some (8),some (8),some (8),some (8),some (8),some (8),some (8),some (8),some (0),some (8),some (0),some (8),some (8),some (8),some (0),some (8),some (8),some (8),some (0),some (8),some (8),some (8),some (8),some (8),some (8),some (8),some (8),some (8),some (8),some (8),some (8),some (32),some (32),some (16),some (16),some (0),some (8),some (8),some (8),some (8),some (8),some (8),some (8),some (8),some (8),some (8),some (8),some (8),some (8),some (8),some (8),some (8),some (8),some (8),some (8),some (8),some (8),some (40),some (40),some (8),some (8),some (24),some (0),some (8),some (8),some (8),some (8),some (8),some (8),some (8),some (8),some (8),some (8),some (8),some (8),some (8),some (8),some (8),some (8),some (8),some (8),some (8),some (8),some (8),some (24),some (8),some (8),some (8),some (8),some (8),some (8),some (8),some (8),some (0),some (8),some (8),some (8),some (8),some (8),some (8),some (8),some (8),some (8),some (8),some (24),some (0),some (8),some (8),some (8),some (8),some (0),some (8),some (24),some (8),some (8),some (64),some (64),some (8),some (8),some (8),some (8),some (8),some (8),some (24),some (8),some (24),some (8),some (32),some (32),some (8),some (24),some (8),some (8),some (8),some (0),some (8),some (8),some (8),some (0),some (8),some (8),some (8),some (8),some (8),some (8),some (8),some (0),some (8),some (8),some (8),some (8),some (8),some (4),some (0),some (8),some (8),some (8),some (0),some (8),some (0),some (8),some (8),some (8),some (8),some (8),some (8),some (8),some (8),some (160),some (65),some (8),some (8),some (8),some (8),some (8),some (8),some (8),some (8),some (8),some (8),some (8),some (8),some (8),some (8),some (24),some (24),some (0),some (8),some (8),some (8),some (72),some (72),some (24),some (8),some (8),some (8),some (8),some (24),some (0),some (8),some (48),some (48),some (8),some (8),some (8),some (0),some (8),some (8),some (8),some (8),some (8),some (8),some (8),some (8),some (8),some (0),some (8),some (8),some (256),some (256),some (0),some (8),some (8),some (8),some (8),some (0),some (8),some (8),some (8),some (8),some (0),some (8),some (56),some (56),some (8),some (8),some (8),some (24),some (72),some (72),some (0),some (8),some (32),some (64),some (8),some (8),some (8),some (0),some (8),some (8),some (8),some (0),some (8),some (24),some (80),some (80),some (8),some (8),some (0),some (8),some (0),some (8),some (8),some (8),some (8),some (8),some (8),some (8),some (0),some (8),some (8),some (256),some (2),some (2),some (32),some (8),some (48),some (24),some (40),some (40),some (0),some (0),some (0),some (8),some (1),some (1),some (8),some (4),some (4),some (48),some (48)]
def taL:List (Option Bool):=[some (false),some (false),some (false),some (false),some (false),some (false),some (false),some (true),some (true),some (false),some (false),some (false),some (false),some (true),some (true),some (false),some (false),some (false),some (true),some (true),some (false),some (false),some (false),some (false),some (false),some (false),some (false),some (false),some (false),some (false),some (false),some (false),some (true),some (true),some (true),some (true),some (false),some (true),some (true),some (false),some (false),some (false),some (false),some (false),some (false),some (false),some (false),some (false),some (false),some (false),some (false),some (false),some (false),some (false),some (false),some (false),some (false),some (false),some (false),some (false),some (true),some (true),some (false),some (false),some (false),some (false),some (false),some (false),some (false),some (false),some (false),some (false),some (false),some (false),some (false),some (false),some (false),some (false),some (false),some (false),some (false),some (false),some (false),some (false),some (false),some (false),some (false),some (false),some (false),some (false),some (false),some (false),some (false),some (false),some (false),some (false),some (false),some (false),some (false),some (false),some (false),some (false),some (true),some (true),some (false),some (false),some (false),some (false),some (false),some (false),some (false),some (false),some (false),some (false),some (false),some (false),some (false),some (false),some (false),some (false),some (false),some (false),some (false),some (false),some (false),some (false),some (false),some (false),some (true),some (true),some (false),some (false),some (false),some (false),some (false),some (false),some (false),some (false),some (false),some (false),some (false),some (false),some (false),some (false),some (false),some (false),some (false),some (false),some (false),some (false),some (false),some (false),some (false),some (false),some (false),some (false),some (false),some (false),some (false),some (false),some (false),some (false),some (false),some (false),some (false),some (false),some (false),some (false),some (false),some (false),some (false),some (false),some (false),some (false),some (false),some (false),some (false),some (false),some (false),some (false),some (false),some (false),some (false),some (false),some (false),some (false),some (true),some (true),some (false),some (false),some (false),some (false),some (false),some (false),some (false),some (false),some (false),some (false),some (true),some (true),some (false),some (true),some (false),some (false),some (false),some (false),some (false),some (false),some (false),some (false),some (false),some (false),some (false),some (false),some (false),some (false),some (false),some (false),some (false),some (false),some (false),some (false),some (false),some (false),some (false),some (false),some (false),some (false),some (false),some (false),some (false),some (false),some (false),some (false),some (false),some (false),some (false),some (false),some (false),some (true),some (true),some (false),some (false),some (false),some (false),some (false),some (false),some (false),some (false),some (false),some (false),some (false),some (false),some (false),some (false),some (false),some (false),some (false),some (false),some (false),some (false),some (true),some (true),some (false),some (false),some (false),some (false),some (false),some (false),some (false),some (false),some (true),some (true),some (false),some (false),some (false),some (false),some (false),some (false),some (false),some (false),some (false),some (false),some (false),some (false),some (false),some (false),some (false),some (false),some (true),some (true),some (false),some (false),some (false),some (false),some (false),some (false),some (false),some (false),some (false),some (false),some (false),some (false),some (true),some (true),some (false),some (false),some (false),some (false),some (true),some (true),some (false),some (false),some (true),some (true),some (false),some (false),some (false),some (false),some (false),some (false),some (false),some (false),some (false),some (false),some (true),some (true),some (false),some (false),some (false),some (false),some (false),some (false),some (false),some (false),some (false),some (false),some (false),some (false),some (false),some (false),some (false),some (true),some (true),some (true),some (true),some (false),some (true),some (false),some (true),some (true),some (true),some (true),some (true),some (false),some (false),some (false),some (false),some (false),some (false),some (true),some (true)]
def kdL:List (Option Kd):=[some (.other),some (.other),some (.int .i64),some (.int .i64),some (.bool),some (.int .u8),some (.int .u8),some (.st [(0,2),(1,3),(2,4),(3,6)]),some (.st [(0,2),(1,3),(2,4),(3,6)]),some (.str),some (.str),some (.str),some (.int .u64),some (.st [(0,9),(1,12)]),some (.st [(0,9),(1,12)]),some (.other),some (.other),some (.other),some (.st [(0,17)]),some (.st [(0,17)]),some (.other),some (.int .i32),some (.sl 35),some (.sl 38),some (.other),some (.other),some (.other),some (.int .i64),some (.other),some (.other),some (.other),some (.sl 33),some (.st [(0,3),(1,9),(2,3),(3,31)]),some (.st [(0,3),(1,9),(2,3),(3,31)]),some (.st [(0,31),(1,33)]),some (.st [(0,31),(1,33)]),some (.other),some (.st [(0,33),(4,33)]),some (.st [(0,33),(4,33)]),some (.other),some (.sl 41),some (.sl 5),some (.other),some (.other),some (.other),some (.other),some (.other),some (.sl 3),some (.other),some (.other),some (.other),some (.other),some (.other),some (.other),some (.other),some (.other),some (.other),some (.other),some (.other),some (.sl 9),some (.st [(0,59),(1,59)]),some (.st [(0,59),(1,59)]),some (.other),some (.other),some (.other),some (.other),some (.other),some (.other),some (.other),some (.other),some (.other),some (.other),some (.other),some (.other),some (.other),some (.other),some (.other),some (.other),some (.other),some (.other),some (.other),some (.other),some (.other),some (.other),some (.other),some (.other),some (.other),some (.other),some (.other),some (.other),some (.other),some (.other),some (.other),some (.other),some (.other),some (.mp 9 4),some (.other),some (.other),some (.other),some (.other),some (.other),some (.other),some (.st [(0,101),(1,41)]),some (.st [(0,101),(1,41)]),some (.other),some (.other),some (.other),some (.other),some (.other),some (.other),some (.other),some (.other),some (.other),some (.other),some (.other),some (.other),some (.other),some (.mp 3 3),some (.other),some (.other),some (.other),some (.other),some (.other),some (.other),some (.other),some (.other),some (.other),some (.other),some (.st [(0,9),(1,3),(2,3),(3,3)]),some (.st [(0,9),(1,3),(2,3),(3,3)]),some (.other),some (.other),some (.sl 33),some (.other),some (.other),some (.other),some (.other),some (.other),some (.other),some (.other),some (.other),some (.other),some (.other),some (.other),some (.other),some (.other),some (.other),some (.other),some (.other),some (.other),some (.other),some (.other),some (.other),some (.other),some (.other),some (.sl 129),some (.other),some (.other),some (.other),some (.other),some (.other),some (.other),some (.other),some (.other),some (.other),some (.other),some (.other),some (.other),some (.other),some (.other),some (.other),some (.other),some (.other),some (.other),some (.other),some (.sl 187),some (.other),some (.other),some (.other),some (.other),some (.other),some (.other),some (.other),some (.sl 31),some (.other),some (.other),some (.st [(0,33),(4,3)]),some (.st [(0,33),(4,3)]),some (.other),some (.other),some (.int .u64),some (.other),some (.other),some (.mp 9 3),some (.sl 199),some (.other),some (.sl 4),some (.other),some (.st [(0,47),(1,3)]),some (.st [(0,47),(1,3)]),some (.other),some (.arr 24 5),some (.int .u64),some (.other),some (.other),some (.other),some (.other),some (.other),some (.other),some (.other),some (.other),some (.other),some (.other),some (.other),some (.other),some (.other),some (.int .i64),some (.other),some (.other),some (.other),some (.other),some (.other),some (.other),some (.int .u32),some (.other),some (.other),some (.other),some (.other),some (.other),some (.other),some (.other),some (.other),some (.other),some (.other),some (.other),some (.other),some (.other),some (.other),some (.other),some (.arr 20 202),some (.arr 65 5),some (.other),some (.other),some (.other),some (.other),some (.other),some (.int .u64),some (.other),some (.other),some (.other),some (.other),some (.other),some (.other),some (.other),some (.other),some (.sl 202),some (.sl 202),some (.other),some (.other),some (.other),some (.mp 3 256),some (.st [(0,31),(1,3),(2,260),(3,260),(4,47)]),some (.st [(0,31),(1,3),(2,260),(3,260),(4,47)]),some (.sl 175),some (.other),some (.other),some (.other),some (.other),some (.sl 272),some (.other),some (.other),some (.st [(0,31),(1,47)]),some (.st [(0,31),(1,47)]),some (.other),some (.other),some (.other),some (.other),some (.other),some (.other),some (.other),some (.other),some (.other),some (.other),some (.other),some (.other),some (.other),some (.other),some (.other),some (.other),some (.arr 256 4),some (.arr 256 4),some (.other),some (.other),some (.other),some (.other),some (.other),some (.other),some (.other),some (.other),some (.other),some (.other),some (.other),some (.other),some (.st [(0,47),(1,47),(2,4)]),some (.st [(0,47),(1,47),(2,4)]),some (.other),some (.other),some (.other),some (.sl 47),some (.st [(0,31),(1,308),(2,47)]),some (.st [(0,31),(1,308),(2,47)]),some (.other),some (.other),some (.arr 32 5),some (.arr 64 5),some (.other),some (.other),some (.other),some (.other),some (.other),some (.other),some (.other),some (.other),some (.other),some (.sl 300),some (.st [(0,31),(1,324),(2,47),(3,4)]),some (.st [(0,31),(1,324),(2,47),(3,4)]),some (.other),some (.other),some (.other),some (.other),some (.other),some (.other),some (.other),some (.other),some (.other),some (.other),some (.other),some (.other),some (.other),some (.other),some (.other),some (.arr 256 5),some (.st [(0,5),(1,5)]),some (.st [(0,5),(1,5)]),some (.arr 16 344),some (.other),some (.arr 2 47),some (.sl 347),some (.st [(0,17),(1,17),(2,17),(3,9)]),some (.st [(0,17),(1,17),(2,17),(3,9)]),some (.arr 0 16),some (.st [(0,351)]),some (.st [(0,351)]),some (.other),some (.int .u8),some (.int .u8),some (.other),some (.int .i32),some (.int .i32),some (.st [(0,12),(1,12),(2,223),(3,355),(4,5),(5,5),(6,356),(7,357),(8,147),(9,358),(10,359)]),some (.st [(0,12),(1,12),(2,223),(3,355),(4,5),(5,5),(6,356),(7,357),(8,147),(9,358),(10,359)])]
def tzL:List (Option PV):=[none,some (.aG),some (.int .i64 (0)),some (.int .i64 (0)),some (.bool false),some (.int .u8 (0)),some (.int .u8 (0)),some (.agg [.int .i64 (0),.int .i64 (0),.bool false,.int .u8 (0)]),some (.agg [.int .i64 (0),.int .i64 (0),.bool false,.int .u8 (0)]),some (.str ByteArray.empty),some (.str ByteArray.empty),some (.str ByteArray.empty),some (.int .u64 (0)),some (.agg [.str ByteArray.empty,.int .u64 (0)]),some (.agg [.str ByteArray.empty,.int .u64 (0)]),some (.eK),some (.eK),some (.eK),some (.agg [.eK]),some (.agg [.eK]),none,some (.int .i32 (0)),some (.aa true []),some (.aa true []),some (.aG),some (.aG),some (.aG),some (.int .i64 (0)),none,some (.aG),some (.aG),some (.aa true []),some (.agg [.int .i64 (0),.str ByteArray.empty,.int .i64 (0),.aa true []]),some (.agg [.int .i64 (0),.str ByteArray.empty,.int .i64 (0),.aa true []]),some (.agg [.aa true [],.int .i64 (0),.str ByteArray.empty,.int .i64 (0),.aa true []]),some (.agg [.aa true [],.int .i64 (0),.str ByteArray.empty,.int .i64 (0),.aa true []]),some (.aG),some (.agg [.int .i64 (0),.str ByteArray.empty,.int .i64 (0),.aa true [],.int .i64 (0),.str ByteArray.empty,.int .i64 (0),.aa true []]),some (.agg [.int .i64 (0),.str ByteArray.empty,.int .i64 (0),.aa true [],.int .i64 (0),.str ByteArray.empty,.int .i64 (0),.aa true []]),some (.aG),some (.aa true []),some (.aa true []),some (.aG),some (.aG),some (.aG),some (.aG),some (.aG),some (.aa true []),some (.aG),some (.aG),none,some (.aG),some (.aG),some (.aG),none,some (.aG),some (.aG),some (.aG),some (.aG),some (.aa true []),some (.agg [.aa true [],.aa true []]),some (.agg [.aa true [],.aa true []]),some (.aG),some (.aG),some (.aG),none,some (.aG),some (.aG),some (.aG),some (.aG),some (.aG),some (.aG),some (.aG),some (.aG),some (.aG),some (.aG),some (.aG),some (.aG),some (.aG),none,some (.aG),none,some (.aG),some (.aG),some (.aG),none,some (.aG),some (.aG),some (.aG),none,some (.aG),some (.aG),some (.aG),some (.aG),some (.aG),some (.gS),some (.aG),some (.aG),some (.aG),some (.aG),some (.aG),some (.eK),some (.agg [.eK,.aa true []]),some (.agg [.eK,.aa true []]),none,none,none,some (.aG),some (.aG),some (.aG),some (.aG),some (.aG),some (.aG),some (.aG),some (.aG),some (.aG),some (.aG),some (.gS),some (.aG),some (.aG),some (.aG),some (.aG),some (.aG),some (.aG),some (.aG),some (.aG),some (.aG),some (.aG),some (.agg [.str ByteArray.empty,.int .i64 (0),.int .i64 (0),.int .i64 (0)]),some (.agg [.str ByteArray.empty,.int .i64 (0),.int .i64 (0),.int .i64 (0)]),some (.aG),some (.aG),some (.aa true []),none,some (.aG),some (.aG),some (.aG),some (.aG),some (.aG),some (.aG),some (.aG),some (.aG),some (.aG),some (.aG),some (.aG),some (.aG),some (.aG),some (.eK),some (.aG),some (.aG),some (.aG),some (.aG),some (.aG),some (.aG),some (.eK),some (.aa true []),some (.aG),some (.aG),some (.aG),some (.aG),some (.aG),some (.aG),some (.aG),some (.aG),none,some (.aG),some (.aG),some (.aG),some (.aG),some (.aG),some (.aG),some (.eK),some (.aG),some (.aG),some (.aG),some (.aa true []),none,some (.aG),some (.aG),some (.aG),some (.aG),none,some (.aG),some (.aa true []),some (.aG),some (.aG),some (.agg [.int .i64 (0),.str ByteArray.empty,.int .i64 (0),.aa true [],.int .i64 (0)]),some (.agg [.int .i64 (0),.str ByteArray.empty,.int .i64 (0),.aa true [],.int .i64 (0)]),some (.aG),some (.aG),some (.int .u64 (0)),some (.aG),some (.aG),some (.gS),some (.aa true []),some (.aG),some (.aa true []),some (.aG),some (.agg [.aa true [],.int .i64 (0)]),some (.agg [.aa true [],.int .i64 (0)]),some (.aG),none,some (.int .u64 (0)),some (.aG),some (.aG),none,some (.aG),some (.aG),some (.aG),none,some (.aG),some (.aG),some (.aG),some (.aG),some (.aG),some (.aG),some (.int .i64 (0)),none,some (.aG),some (.aG),some (.aG),some (.aG),some (.aG),some (.int .u32 (0)),none,some (.aG),some (.aG),some (.aG),none,some (.aG),none,some (.aG),some (.aG),some (.aG),some (.aG),some (.aG),some (.aG),some (.aG),some (.aG),none,none,some (.aG),some (.aG),some (.aG),some (.aG),some (.aG),some (.int .u64 (0)),some (.aG),some (.aG),some (.aG),some (.aG),some (.aG),some (.aG),some (.eK),some (.aG),some (.aa true []),some (.aa true []),none,some (.aG),some (.aG),some (.gS),some (.agg [.aa true [],.int .i64 (0),.gS,.gS,.aa true []]),some (.agg [.aa true [],.int .i64 (0),.gS,.gS,.aa true []]),some (.aa true []),some (.aG),some (.aG),some (.aG),some (.aG),some (.aa true []),none,some (.aG),some (.agg [.aa true [],.aa true []]),some (.agg [.aa true [],.aa true []]),some (.aG),some (.aG),some (.aG),none,some (.aG),some (.eK),some (.aG),some (.aG),some (.aG),some (.aG),some (.aG),some (.aG),some (.eK),none,some (.aG),some (.aG),none,none,none,some (.aG),some (.aG),some (.eK),some (.aG),none,some (.aG),some (.aG),some (.eK),some (.eK),none,some (.aG),some (.agg [.aa true [],.aa true [],.bool false]),some (.agg [.aa true [],.aa true [],.bool false]),some (.aG),some (.aG),some (.aG),some (.aa true []),some (.agg [.aa true [],.aa true [],.aa true []]),some (.agg [.aa true [],.aa true [],.aa true []]),none,some (.aG),none,none,some (.aG),some (.aG),some (.aG),none,some (.aG),some (.aG),some (.aG),none,some (.aG),some (.aa true []),some (.agg [.aa true [],.aa true [],.aa true [],.bool false]),some (.agg [.aa true [],.aa true [],.aa true [],.bool false]),some (.aG),some (.aG),none,some (.aG),none,some (.aG),some (.aG),some (.aG),some (.aG),some (.aG),some (.aG),some (.aG),none,some (.aG),some (.aG),none,some (.agg [.int .u8 (0),.int .u8 (0)]),some (.agg [.int .u8 (0),.int .u8 (0)]),none,some (.aG),some (.agg [.aa true [],.aa true []]),some (.aa true []),some (.agg [.eK,.eK,.eK,.str ByteArray.empty]),some (.agg [.eK,.eK,.eK,.str ByteArray.empty]),some (.agg []),some (.agg []),some (.agg []),some (.aG),some (.int .u8 (0)),some (.int .u8 (0)),some (.aG),some (.int .i32 (0)),some (.int .i32 (0)),some (.agg [.int .u64 (0),.int .u64 (0),.int .u32 (0),.int .u8 (0),.int .u8 (0),.int .u8 (0),.int .u8 (0),.aG,.eK,.int .i32 (0),.int .i32 (0)]),some (.agg [.int .u64 (0),.int .u64 (0),.int .u32 (0),.int .u8 (0),.int .u8 (0),.int .u8 (0),.int .u8 (0),.aG,.eK,.int .i32 (0),.int .i32 (0)])]
def tN:Nat:=362
theorem abt:(List.range tN).map (cF C.P)=tsL:=by kernel_rfl
theorem abu:(List.range tN).map (JX C.P)=taL:=by kernel_rfl
theorem abv:(List.range tN).map (mY C.P)=tbL:=by kernel_rfl
theorem abw:(List.range tN).map (λt=>(C.P.underlying t).map pJ)=kdL:=by kernel_rfl
theorem abx:(List.range tN).map (λt=>if(tzL.getD t none).isSome then jv C.P t else none)=tzL:=by kernel_rfl
theorem zE{α:Type}{f:Nat->Option α}{l:List (Option α)}(h:(List.range tN).map f=l)(t:Nat)(n:α)(e:(l[t]?).bind id=some n):f t=some n:=by
 subst h;rw[ace]at e
 cases hr:(List.range tN)[t]? with
 |none=>rw[hr]at e;simp at e
 |some k=>
  rw[hr]at e
  have hk:k=t:=by
   have:=ac6.1 hr;obtain⟨h1,h2⟩:=this;simp at h2;exact h2.symm
  subst hk;simpa using e
def T6:mD C.P where
 ts t:=(tsL[t]?).bind id
 ta t:=(taL[t]?).bind id
 tb t:=(tbL[t]?).bind id
 kd t:=(kdL[t]?).bind id
 tz t:=(tzL[t]?).bind id
 ez:=zE abt
 PE:=zE abu
 rE:=zE abv
 cY:=zE abw
 nH t n e:=by
  have:=zE abx t n e
  split at this
  exact this
  cases this
inductive Tm where
 |mk (kind:Int) (name:ByteArray) (sort:Int) (kids:List Tm)
def Tm.kids:Tm->List Tm | .mk _ _ _ k=>k
mutual
def enc:Tm->PV
 | .mk k s o l=>.agg [.int .i64 k,.str s,.int .i64 o,.aa false (ae l)]
def ae:List Tm->List PV
 |[]=>[]
 |t::l=>enc t::ae l
end
mutual
theorem rk:∀t,aU (enc t)=true
 | .mk k s o l=>by simp[enc,aU,ao]
end
theorem fD(l:List Tm):ao (ae l)=true:=by
 induction l with
 |nil=>rfl
 |cons t l ih=>simp[ae,ao,rk,ih]
mutual
theorem xy:∀t,cj (enc t)=enc t
 | .mk k s o l=>by simp[enc,cj,aQ,aZ l]
theorem aZ:∀l,aQ (ae l)=ae l
 |[]=>rfl
 |t::l=>by simp[ae,aQ,xy t,aZ l]
end
theorem ai(l:List Tm):(ae l).length=l.length:=by
 induction l with
 |nil=>rfl
 |cons t l ih=>simp[ae,ih]
theorem dm(l:List Tm):ae l=l.map enc:=by
 induction l with
 |nil=>rfl
 |cons t l ih=>simp[ae,ih]
theorem Tj(t:Tm):∃a b c d,enc t=.agg [a,b,c,d]:=by cases t;exact⟨_,_,_,_,by rw[enc]⟩
mutual
def ax:Tm->Nat
 | .mk k s o l=>1+s.size+br l
def br:List Tm->Nat
 |[]=>0
 |t::l=>ax t+br l
end
theorem yR(t:Tm):0<ax t:=by cases t;simp[ax];omega
theorem aY(l:List Tm):l.length<=br l:=by
 induction l with
 |nil=>simp
 |cons t l ih=>have:=yR t;simp[br];omega
theorem bD{l:List Tm}{t:Tm}(h:t∈l):ax t<=br l:=by
 induction l with
 |nil=>cases h
 |cons u l ih=>
  simp only[br];rcases ab5.1 h with rfl |h;omega;have:=ih h;omega
theorem Tm.ind{P:Tm->Prop}(h:∀k s o l,(∀t∈l,P t)->P (.mk k s o l)):∀t,P t:=by
 intro t
 have key:∀n t,ax t<=n->P t:=by
  intro n
  induction n with
  |zero=>intro t ht;have:=yR t;omega
  |succ n ih=>
   intro t ht
   obtain⟨k,s,o,l⟩:=t;refine h k s o l (λu hu=>ih u ?_);have:=bD hu;simp[ax]at ht;omega
 exact key (ax t) t (abZ _)
theorem Tl{l:List Tm}{i:Nat}(hc:(i:Int)<((ae l).length:Int)):∃t a1 a2 a3 a4,t∈l/\enc t=.agg [a1,a2,a3,a4]/\(ae l)[i]?=some (.agg [a1,a2,a3,a4])/\l.drop i=t::l.drop (i+1)/\i<l.length/\l[i]?=some t:=by
 have lu:i<l.length:=by have:=ai l;omega
 obtain⟨a1,a2,a3,a4,ha⟩:=Tj l[i];refine⟨l[i],a1,a2,a3,a4,acB lu,ha,?_,adB lu,lu,ab1 lu⟩;rw[dm,ace,ab1 lu,<-ha]
 rfl
theorem kJ{l:List Tm}{i:Nat}(hc:¬(i:Int)<((ae l).length:Int)):l.drop i=[]:=acx (by have:=ai l;omega)
theorem bh(k:Int)(s:ByteArray)(o:Int)(l:List Tm):enc (.mk k s o l)=.agg [.int .i64 k,.str s,.int .i64 o,.aa false (ae l)]:=by rw[enc]
theorem gI{l:List Tm}{i:Nat}(hc:(i:Int)<((ae l).length:Int)):∃k s o l',.mk k s o l'∈l/\(ae l)[i]?=some (.agg [.int .i64 k,.str s,.int .i64 o,.aa false (ae l')])/\l.drop i=.mk k s o l'::l.drop (i+1)/\i<l.length/\l[i]?=some (.mk k s o l'):=by
 obtain⟨t,a1,a2,a3,a4,h1,h2,h3,h4,h5,h6⟩:=Tl hc;obtain⟨k,s,o,l'⟩:=t;rw[bh]at h2;exact⟨k,s,o,l',h1,by rw[h3,<-h2],h4,h5,h6⟩
mutual
def size:Tm->Int
 | .mk _ _ _ l=>1+dA l
def dA:List Tm->Int
 |[]=>0
 |t::l=>size t+dA l
end
mutual
theorem gU:∀t,0<size t/\size t<=(ax t:Int)
 | .mk k s o l=>by
  have:=cX l;simp only[size,ax];omega
theorem cX:∀l,0<=dA l/\dA l<=(br l:Int)
 |[]=>by simp[dA,br]
 |t::l=>by
  have h1:=gU t;have h2:=cX l;simp only[dA,br];omega
end
def fH(a b:Int):Int:=if a<b then -1 else if b<a then 1 else 0
mutual
def aW:Tm->Tm->Int
 | .mk k s o l,.mk k' s' o' l'=>
  if fH (size (.mk k s o l)) (size (.mk k' s' o' l'))≠0 then fH (size (.mk k s o l)) (size (.mk k' s' o' l'))else
  if fH k k'≠0 then fH k k' else
  if Op.bytesLess s.toList s'.toList=true then -1 else
  if(!(Op.bytesLess s.toList s'.toList ||s.toList==s'.toList))=true then 1 else
  if fH o o'≠0 then fH o o' else
  if fH l.length l'.length≠0 then fH l.length l'.length else mF l l'
def mF:List Tm->List Tm->Int
 |[],_=>0
 |_::_,[]=>0
 |t::l,t'::l'=>if aW t t'≠0 then aW t t' else mF l l'
end
def mw(x y:Int):Int:=if x≠0 then x else y
def fj:List UInt8->List UInt8->Int:=Lib.compareBytes
theorem PS:∀a b:List UInt8,Op.bytesLess a b=decide (fj a b<0)/\((a==b)=decide (fj a b=0))
 |[],[]=>by simp[Op.bytesLess,fj,Lib.compareBytes]
 |[],_::_=>by simp[Op.bytesLess,fj,Lib.compareBytes]
 |_::_,[]=>by simp[Op.bytesLess,fj,Lib.compareBytes]
 |a::x,b::y=>by
  obtain⟨h1,h2⟩:=PS x y;have hc:fj (a::x) (b::y)=if a<b then -1 else if b<a then 1 else fj x y:=rfl
  have key:a<b\/b<a\/a=b:=by
   rcases adF a.toNat b.toNat with h |h |h;exact .inl (adf.2 h);exact .inr (.inr (UInt8.toNat_inj.1 h));exact .inr (.inl (adf.2 h))
  have asym:∀p q:UInt8,p<q->¬q<p:=λp q h1 h2=>by
   have:=adf.1 h1;have:=adf.1 h2;omega
  have irr:∀p:UInt8,¬p<p:=λp h1=>asym p p h1 h1
  rcases key with h |h |h
  ·have bO:a≠b:=λe=>irr b (e▸h)
   rw[hc,if_pos h];simp[Op.bytesLess,h,bO]
  ·have bO:a≠b:=λe=>irr b (e▸h)
   have hn:=asym _ _ h;rw[hc,if_neg hn,if_pos h];simp[Op.bytesLess,hn,bO]
  ·subst h;rw[hc,if_neg (irr a),if_neg (irr a)];simp only[Op.bytesLess,h1,irr,decide_false,ado,BEq.rfl,ada,true_and];rw[<-h2];simp[List.cons_beq_cons]
structure Th(x y z:Int):Prop where
 e1:x=0->z=y
 e2:y=0->z=x
 lt:x<0->y<0->z<0
theorem Th.lex{x y z x' y' z':Int}(a:Th x y z)(b:x=0->y=0->Th x' y' z'):Th (mw x x') (mw y y') (mw z z'):=by
 obtain⟨e1,e2,lt⟩:=a;unfold mw
 by_cases hx:x=0 <;>by_cases hy:y=0
 ·have hz:z=0:=by rw[e1 hx,hy]
  rw[if_neg (by simp[hx]),if_neg (by simp[hy]),if_neg (by simp[hz])];exact b hx hy
 ·have hz:z=y:=e1 hx;rw[if_neg (by simp[hx]),if_pos hy,hz,if_pos hy];exact⟨λ_=>rfl,λh=>absurd h hy,λ_ h=>h⟩
 ·have hz:z=x:=e2 hy;rw[if_neg (by simp[hy]:¬y≠0),if_pos hx,hz,if_pos hx];exact⟨λh=>absurd h hx,λ_=>rfl,λh _=>h⟩
 ·rw[if_pos hx,if_pos hy];refine⟨λh=>absurd h hx,λh=>absurd h hy,λh1 h2=>?_⟩;have:=lt h1 h2;rw[if_pos (by omega)];exact this
theorem rm(x y:Int):mw (-x) (-y)=- mw x y:=by unfold mw;split <;>split <;>omega
theorem PT{x y:Int}:mw x y=0↔x=0/\y=0:=by unfold mw;split <;>omega
theorem ko{x y:Int}(h:mw x y=0):x=0/\y=0:=PT.1 h
theorem qD(a b c:Int):Th (fH a b) (fH b c) (fH a c):=by
 unfold fH
 constructor <;>(repeat' split) <;>omega
theorem qE(a b:Int):fH b a=- fH a b:=by unfold fH;(repeat' split) <;>omega
theorem jo{a b:Int}(h:fH a b=0):a=b:=by unfold fH at h;(repeat' split at h) <;>omega
theorem PU(a b:Int):fH a b=-1\/fH a b=0\/fH a b=1:=by unfold fH;(repeat' split) <;>omega
theorem iZ(a b:UInt8)(x y:List UInt8):fj (a::x) (b::y)=mw (fH a.toNat b.toNat) (fj x y):=by
 have hc:fj (a::x) (b::y)=if a<b then -1 else if b<a then 1 else fj x y:=rfl;rw[hc]
 by_cases h1:a<b
 ·have:=adf.1 h1;have e:fH a.toNat b.toNat=-1:=by unfold fH;rw[if_pos (by omega)]
  rw[if_pos h1,e];rfl
 ·by_cases h2:b<a
  ·have:=adf.1 h2;have e:fH a.toNat b.toNat=1:=by unfold fH;rw[if_neg (by omega),if_pos (by omega)]
   rw[if_neg h1,if_pos h2,e];rfl
  ·have QK:¬a.toNat<b.toNat:=λh=>h1 (adf.2 h)
   have h2':¬b.toNat<a.toNat:=λh=>h2 (adf.2 h)
   have e:fH a.toNat b.toNat=0:=by unfold fH;rw[if_neg (by omega),if_neg (by omega)]
   rw[if_neg h1,if_neg h2,e];rfl
theorem BN:∀a b c:List UInt8,Th (fj a b) (fj b c) (fj a c)
 |[],[],[]=>by constructor <;>decide
 |[],[],_::_=>by constructor <;>intros <;>simp_all[fj,Lib.compareBytes]
 |[],_::_,[]=>by constructor <;>intros <;>simp_all[fj,Lib.compareBytes]
 |[],b::y,c::z=>by
  have e1:fj [] (b::y)=-1:=rfl;have e2:fj [] (c::z)=-1:=rfl;rw[e1,e2]
  constructor <;>intros <;>omega
 |_::_,[],[]=>by constructor <;>intros <;>simp_all[fj,Lib.compareBytes]
 |a::x,[],c::z=>by
  have e1:fj (a::x) []=1:=rfl;have e2:fj [] (c::z)=-1:=rfl;rw[e1,e2]
  constructor <;>intros <;>omega
 |a::x,b::y,[]=>by
  have e1:fj (a::x) []=1:=rfl;have e2:fj (b::y) []=1:=rfl;rw[e1,e2]
  constructor <;>intros <;>omega
 |a::x,b::y,c::z=>by
  rw[iZ,iZ,iZ];exact(qD _ _ _).lex (λ_ _=>BN x y z)
theorem BO:∀a b:List UInt8,fj b a=- fj a b
 |[],[]=>rfl
 |[],_::_=>rfl
 |_::_,[]=>rfl
 |a::x,b::y=>by rw[iZ,iZ,BO x y,qE a.toNat b.toNat,rm]
theorem zC:∀{a b:List UInt8},fj a b=0->a=b
 |[],[],_=>rfl
 |[],_::_,h=>by cases h
 |_::_,[],h=>by cases h
 |a::x,b::y,h=>by
  rw[iZ]at h;obtain⟨h1,h2⟩:=ko h;have:=jo h1;rw[zC h2,UInt8.toNat_inj.1 (by omega:a.toNat=b.toNat)]
def C'(s s':ByteArray):Int:=fj s.toList s'.toList
theorem BP:∀a b:List UInt8,fj a b=-1\/fj a b=0\/fj a b=1
 |[],[]=>.inr (.inl rfl)
 |[],_::_=>.inl rfl
 |_::_,[]=>.inr (.inr rfl)
 |a::x,b::y=>by
  rw[iZ];have h1:=PU a.toNat b.toNat;have h2:=BP x y;unfold mw
  split <;>omega
theorem xu{a b:ByteArray}(h:a.toList=b.toList):a=b:=by
 rw[ByteArray.toList_eq,ByteArray.toList_eq]at h
 cases a;cases b
 simp at h;subst h
 rfl
theorem my(k s o l k' s' o' l'):aW (.mk k s o l) (.mk k' s' o' l')=mw (fH (size (.mk k s o l)) (size (.mk k' s' o' l'))) (mw (fH k k') (mw (C' s s') (mw (fH o o') (mw (fH l.length l'.length) (mF l l'))))):=by
 rw[aW];obtain⟨b1,b2⟩:=PS s.toList s'.toList;have b3:=BP s.toList s'.toList;rw[b1,b2];unfold mw C'
 split
 rfl
 ·split
  rfl
  ·rcases b3 with b3 |b3 |b3;rw[if_pos (by simp[b3])];simp[b3];rw[if_neg (by simp[b3]),if_neg (by simp[b3])];simp[b3];rw[if_neg (by simp[b3]),if_pos (by simp[b3])];simp[b3]
theorem mz(t t' l l'):mF (t::l) (t'::l')=mw (aW t t') (mF l l'):=by rw[mF];rfl
theorem FH:∀{l l':List Tm},l.length=l'.length->(∀t∈l,∀t',aW t' t=- aW t t')->mF l' l=- mF l l'
 |[],[],_,_=>by simp[mF]
 |t::l,t'::l',hl,h=>by
  rw[mz,mz,h t (by simp) t',FH (by simpa using hl) (λu hu=>h u (by simp[hu])),rm]
theorem eI(t:Tm):∀t',aW t' t=- aW t t':=by
 induction t using Tm.ind with
 |h k s o l ih=>
  rintro⟨k',s',o',l'⟩;rw[my,my,qE (size (.mk k s o l)),qE k,show C' s' s=- C' s s' from BO _ _,qE o,qE (l.length:Int)];rw[<-rm,<-rm,<-rm,<-rm]
  congr 4
  unfold mw
  split
  rw[if_pos (by omega)]
  ·rename_i h
   rw[if_neg (by omega)];refine FH ?_ ih;have h':fH (l.length:Int) l'.length=0:=by omega
   have:=jo h';omega
theorem BQ:∀{l l':List Tm},l.length=l'.length->(∀t∈l,∀t',aW t t'=0->t=t')->mF l l'=0->l=l'
 |[],[],_,_,_=>rfl
 |t::l,t'::l',hl,h,e=>by
  rw[mz]at e;obtain⟨e1,e2⟩:=ko e;rw[h t (by simp) t' e1,BQ (by simpa using hl) (λu hu=>h u (by simp[hu])) e2]
theorem cy{t:Tm}:∀{t':Tm},aW t t'=0->t=t':=by
 induction t using Tm.ind with
 |h k s o l ih=>
  rintro⟨k',s',o',l'⟩ h;rw[my]at h;obtain⟨_,h⟩:=ko h;obtain⟨h1,h⟩:=ko h;obtain⟨h2,h⟩:=ko h;obtain⟨h3,h⟩:=ko h;obtain⟨h4,h⟩:=ko h;have h4':=jo h4;rw[jo h1,xu (zC h2),jo h3,BQ (by omega) (λt ht t' e=>ih t ht e) h]
theorem cc(t:Tm):aW t t=0:=by have:=eI t t;omega
theorem FI:∀{l l' l'':List Tm},l.length=l'.length->l'.length=l''.length->(∀t∈l,∀t' Xg,Th (aW t t') (aW t' Xg) (aW t Xg))->Th (mF l l') (mF l' l'') (mF l l'')
 |[],[],[],_,_,_=>by simp[mF];constructor <;>omega
 |t::l,t'::l',Xg::l'',h1,h2,h=>by
  rw[mz,mz,mz];exact(h t (by simp) t' Xg).lex (λ_ _=>FI (by simpa using h1) (by simpa using h2) (λu hu=>h u (by simp[hu])))
theorem PW(t:Tm):∀t' Xg,Th (aW t t') (aW t' Xg) (aW t Xg):=by
 induction t using Tm.ind with
 |h k s o l ih=>
  rintro⟨k',s',o',l'⟩ ⟨k2,s2,o2,l2⟩;rw[my,my,my];refine(qD _ _ _).lex λ_ _=>(qD _ _ _).lex λ_ _=>(BN _ _ _).lex λ_ _=>(qD _ _ _).lex λ_ _=>(qD _ _ _).lex λh1 h2=>?_;have QK:=jo h1;have h2':=jo h2;exact FI (by omega) (by omega) ih
theorem eC{a b c:Tm}(h1:aW a b<0)(h2:aW b c<0):aW a c<0:=(PW a b c).lt h1 h2
abbrev Pw:=Tm×Int
def xH:Pw->PV
 |(.mk k s o l,n)=>.agg [.int .i64 k,.str s,.int .i64 o,.aa false (ae l),.int .i64 n]
def bq(l:List Pw):List PV:=l.map xH
def HW(t:Tm)(n:Int):Bool->List Pw->List Pw
 |d,[]=>if d then[]else[(t,n)]
 |d,p::l=>(if d=false/\aW t p.1<0 then[(t,n)]else[])++((if(if aW t p.1=0 then p.2+n else p.2)≠0 then[(p.1,if aW t p.1=0 then p.2+n else p.2)]else[])++HW t n (d ||decide (aW t p.1<=0)) l)
def jO(t:Tm)(n:Int):List Pw->List Pw
 |[]=>[(t,n)]
 |p::l=>if aW p.1 t<0 then p::jO t n l else if aW p.1 t=0 then(if p.2+n=0 then l else(p.1,p.2+n)::l)else(t,n)::p::l
def B9(l:List Pw):Prop:=l.Pairwise λp q=>aW p.1 q.1<0
def Nz(l:List Pw):Prop:=∀p∈l,p.2≠0
theorem vf(t:Tm)(n:Int):∀(l:List Pw),Nz l->(∀p∈l,aW t p.1<0)->HW t n true l=l
 |[],_,_=>rfl
 |p::l,h1,h2=>by
  have e:=h2 p (by simp);have z:=h1 p (by simp);have ih:=vf t n l (λq hq=>h1 q (by simp[hq])) (λq hq=>h2 q (by simp[hq]));simp only[HW,acH,false_and,if_false,acD,aed,ih];rw[if_neg (show¬aW t p.1=0 by omega),if_pos z]
  rfl
theorem Fk(t:Tm)(n:Int):∀(l:List Pw),B9 l->Nz l->HW t n false l=jO t n l
 |[],_,_=>by simp[HW,jO]
 |p::l,h1,h2=>by
  have z:=h2 p (by simp);obtain⟨s1,s2⟩:=acm.1 h1;have nz:Nz l:=λq hq=>h2 q (by simp[hq])
  have ng:=eI p.1 t;rw[HW,jO]
  by_cases c1:aW p.1 t<0
  ·rw[if_pos c1,if_neg (by omega),if_neg (show¬aW t p.1=0 by omega),if_pos z,show(false ||decide (aW t p.1<=0))=false by simp;omega,Fk t n l s2 nz]
   rfl
  ·by_cases c2:aW p.1 t=0
   ·have e:=cy c2;have hd:=vf t n l nz (λq hq=>by rw[<-e];exact s1 q hq);rw[if_neg c1,if_pos c2,if_neg (by omega),if_pos (show aW t p.1=0 by omega),show(false ||decide (aW t p.1<=0))=true by simp;omega,hd]
    by_cases c3:p.2+n=0
    rw[if_pos c3,if_neg (by omega)];rfl;rw[if_neg c3,if_pos c3];rfl
   ·have hd:=vf t n l nz (λq hq=>eC (show aW t p.1<0 by omega) (s1 q hq));rw[if_neg c1,if_neg c2,if_pos ⟨rfl,by omega⟩,if_neg (show¬aW t p.1=0 by omega),if_pos z,show(false ||decide (aW t p.1<=0))=true by simp;omega,hd]
    rfl
theorem xI{t:Tm}{n:Int}:∀{l:List Pw} {p:Pw},p∈jO t n l->p.1=t\/∃q∈l,q.1=p.1
 |[],p,h=>by simp[jO]at h;exact .inl (by rw[h])
 |q::l,p,h=>by
  rw[jO]at h
  split at h
  ·rcases ab5.1 h with rfl |h;exact .inr ⟨p,by simp,rfl⟩
   ·rcases xI h with h |⟨r,h,e⟩;exact .inl h;exact .inr ⟨r,by simp[h],e⟩
  ·split at h
   ·split at h
    exact .inr ⟨p,by simp[h],rfl⟩
    ·rcases ab5.1 h with rfl |h;exact .inr ⟨q,by simp,rfl⟩;exact .inr ⟨p,by simp[h],rfl⟩
   ·rcases ab5.1 h with rfl |h;exact .inl rfl;exact .inr ⟨p,h,rfl⟩
theorem JG{t:Tm}{n:Int}(hn:n≠0):∀{l:List Pw},Nz l->Nz (jO t n l)
 |[],_=>by intro p hp;simp[jO]at hp;subst hp;exact hn
 |q::l,h=>by
  have h1:Nz l:=λr hr=>h r (by simp[hr])
  rw[jO]
  split
  ·intro p hp
   rcases ab5.1 hp with rfl |hp;exact h p (by simp);exact JG hn h1 p hp
  ·split
   ·split
    exact h1
    ·intro p hp
     rcases ab5.1 hp with rfl |hp
     assumption
     exact h1 p hp
   ·intro p hp
    rcases ab5.1 hp with rfl |hp;exact hn;exact h p hp
theorem Fl{t:Tm}{n:Int}:∀{l:List Pw},B9 l->B9 (jO t n l)
 |[],_=>by simp[jO,B9]
 |q::l,h=>by
  obtain⟨s1,s2⟩:=acm.1 h;rw[jO];have ng:=eI q.1 t
  split
  ·rename_i c
   refine acm.2 ⟨λp hp=>?_,Fl s2⟩;rcases xI hp with e |⟨r,hr,e⟩;rw[e];exact c;rw[<-e];exact s1 r hr
  ·split
   ·split
    exact s2;exact acm.2 ⟨s1,s2⟩
   ·refine acm.2 ⟨λp hp=>?_,h⟩;have c:aW t q.1<0:=by omega
    rcases ab5.1 hp with rfl |hp;exact c;exact eC c (s1 p hp)
theorem Fm{t:Tm}{n:Int}:∀(l:List Pw),(jO t n l).length<=l.length+1
 |[]=>by simp[jO]
 |q::l=>by
  have:=Fm (t:=t) (n:=n) l;rw[jO]
  (repeat' split) <;>simp <;>omega
def vB:List UInt8:=[109,117,108]
def mJ:List UInt8:=[105,110,118]
def vC:List UInt8:=[111,110,101]
def dz:Tm->Bool
 | .mk k s o l=>decide (k=3)&& (decide (s.toList=vB)||decide (s.toList=mJ)||decide (s.toList=vC))
mutual
def arity:Tm->Bool
 | .mk k s o l=>if dz (.mk k s o l)=false then true else
  if(s.toList=vB/\l.length<2)\/(s.toList=mJ/\l.length≠1)\/(s.toList=vC/\l.length≠0)then false else mO l
def mO:List Tm->Bool
 |[]=>true
 |t::l=>if arity t=false then false else mO l
end
mutual
def gF(a:List Pw):Tm->Int->List Pw
 | .mk k s o l,n=>if dz (.mk k s o l)=false then jO (.mk k s o l) n a else iH a l (if s.toList=mJ then -n else n)
def iH(a:List Pw):List Tm->Int->List Pw
 |[],_=>a
 |t::l,n=>iH (gF a t n) l n
end
mutual
def Pu(a:List Pw):Tm->Int->List Pw
 | .mk k s o l,n=>if dz (.mk k s o l)=false then HW (.mk k s o l) n false a else zo a l (if s.toList=mJ then -n else n)
def zo(a:List Pw):List Tm->Int->List Pw
 |[],_=>a
 |t::l,n=>zo (Pu a t n) l n
end
mutual
theorem JH:∀(t:Tm) (a:List Pw) (n:Int),B9 a->Nz a->n≠0->B9 (gF a t n)/\Nz (gF a t n)/\Pu a t n=gF a t n
 | .mk k s o l,a,n,h1,h2,h3=>by
  rw[gF,Pu]
  split
  exact⟨Fl h1,JG h3 h2,Fk _ _ _ h1 h2⟩;exact Fo l a _ h1 h2 (by split <;>omega)
theorem Fo:∀(l:List Tm) (a:List Pw) (n:Int),B9 a->Nz a->n≠0->B9 (iH a l n)/\Nz (iH a l n)/\zo a l n=iH a l n
 |[],a,n,h1,h2,_=>by rw[iH,zo];exact⟨h1,h2,rfl⟩
 |t::l,a,n,h1,h2,h3=>by
  obtain⟨g1,g2,g3⟩:=JH t a n h1 h2 h3;rw[iH,zo,g3];exact Fo l _ n g1 g2 h3
end
mutual
theorem zc:∀(t:Tm) (a:List Pw) (n:Int),((gF a t n).length:Int)<=a.length+size t
 | .mk k s o l,a,n=>by
  rw[gF];have:=cX l
  split
  ·have:=Fm (t:=.mk k s o l) (n:=n) a;simp only[size];omega
  ·have:=BK l a (if s.toList=mJ then -n else n);simp only[size];omega
theorem BK:∀(l:List Tm) (a:List Pw) (n:Int),((iH a l n).length:Int)<=a.length+dA l
 |[],a,n=>by simp[iH,dA]
 |t::l,a,n=>by
  have h1:=zc t a n;have h2:=BK l (gF a t n) n;rw[iH,dA];omega
end
def Bd(B:Int)(l:List Pw):Prop:=∀p∈l,-B<=p.2/\p.2<=B
theorem JI{B:Int}{t:Tm}{n:Int}(h1: -1<=n)(h2:n<=1)(hB:0<=B):∀{l:List Pw},Bd B l->Bd (B+1) (jO t n l)
 |[],_=>by intro p hp;simp[jO]at hp;subst hp;simp only;omega
 |q::l,h=>by
  have hl:Bd B l:=λr hr=>h r (by simp[hr])
  have xe:Bd (B+1) l:=λr hr=>by have:=hl r hr;omega
  have hq:=h q (by simp);rw[jO]
  split
  ·intro p hp
   rcases ab5.1 hp with rfl |hp;omega;exact JI h1 h2 hB hl p hp
  ·split
   ·split
    exact xe
    ·intro p hp
     rcases ab5.1 hp with rfl |hp;simp only;omega;exact xe p hp
   ·intro p hp
    rcases ab5.1 hp with rfl |hp;simp only;omega;have:=h p hp;omega
mutual
theorem JJ:∀(t:Tm) (a:List Pw) (n B:Int),-1<=n->n<=1->0<=B->Bd B a->Bd (B+size t) (gF a t n)
 | .mk k s o l,a,n,B,h1,h2,h3,h4=>by
  rw[gF];have:=cX l
  split
  ·intro p hp
   have:=JI h1 h2 h3 h4 p hp;simp only[size];omega
  ·intro p hp
   have:=Fq l a (if s.toList=mJ then -n else n) B (by split <;>omega) (by split <;>omega) h3 h4 p hp;simp only[size];omega
theorem Fq:∀(l:List Tm) (a:List Pw) (n B:Int),-1<=n->n<=1->0<=B->Bd B a->Bd (B+dA l) (iH a l n)
 |[],a,n,B,h1,h2,h3,h4=>by rw[iH,dA];intro p hp;have:=h4 p hp;omega
 |t::l,a,n,B,h1,h2,h3,h4=>by
  have hs:=gU t;have g:=JJ t a n B h1 h2 h3 h4;have g2:=Fq l (gF a t n) n (B+size t) h1 h2 (by omega) g;rw[iH,dA]
  intro p hp
  have:=g2 p hp;omega
end
def kC(c:Int):Bool:=decide ((97<=c/\c<=122)\/(65<=c/\c<=90))
def qk(c:Int):Bool:=decide (48<=c/\c<=57)
def og(c:Int):Bool:=kC c ||qk c ||decide (c=95)||decide (c=35)
def hG:List UInt8->Bool
 |[]=>true
 |c::l=>og c.toNat&&hG l
def xk:List UInt8->Bool
 |[]=>false
 |c::l=>decide (l.length<24)&&kC c.toNat&&hG (c::l)
def dZ(s:ByteArray):Bool:=xk s.toList
theorem bsize(s:ByteArray):s.toList.length=s.size:=by rw[ByteArray.toList_eq];exact adu
theorem Lc{s:ByteArray}{i:Nat}{c:UInt8}(h:s.toList[i]?=some c):s[i]?=some c:=by
 have cM:=ag h;rw[ByteArray.toList_eq,acw]at h;have Z9:i<s.size:=by rw[<-bsize];exact cM
 rw[getElem?_pos s i Z9];rw[adk Z9]at h;exact h
def node:Tm->Int
 | .mk k s o l=>if(k≠1/\k≠2/\k≠3)\/o<0\/5<o\/(k=3/\o≠0)\/(k≠3/\0<l.length)then 1 else if dZ s=false then 2 else if 8<l.length then 3 else 0
mutual
def nodes:Tm->Int
 | .mk k s o l=>if node (.mk k s o l)≠0 then node (.mk k s o l)else gy l
def gy:List Tm->Int
 |[]=>0
 |t::l=>if nodes t≠0 then nodes t else gy l
end
mutual
def depth:Tm->Int
 | .mk _ _ _ l=>fG l+1
def fG:List Tm->Int
 |[]=>0
 |t::l=>max (depth t) (fG l)
end
def valid(t:Tm):Int:=if nodes t≠0 then nodes t else if 400<size t\/40<depth t then 3 else 0
mutual
theorem oU:∀t,0<depth t/\depth t<=size t
 | .mk k s o l=>by have:=gW l;simp only[depth,size];omega
theorem gW:∀l,0<=fG l/\fG l<=dA l
 |[]=>by simp[fG,dA]
 |t::l=>by
  have h1:=oU t;have h2:=gW l;simp only[fG,dA];omega
end
def aah:ByteArray:=⟨#[109,117,108]⟩
def aai:ByteArray:=⟨#[105,110,118]⟩
def aaj:ByteArray:=⟨#[111,110,101]⟩
theorem MV:aah.toList=vB:=by rw[ByteArray.toList_eq];rfl
theorem MW:aai.toList=mJ:=by rw[ByteArray.toList_eq];rfl
theorem MX:aaj.toList=vC:=by rw[ByteArray.toList_eq];rfl
theorem Ge{t:Tm}(h:dz t=false)(a:List Pw)(n:Int):gF a t n=jO t n a:=by
 obtain⟨k,s,o,l⟩:=t;rw[gF,if_pos h]
mutual
theorem Dv{Q:Tm->Prop}{P:Tm->Prop}(hP:∀k s o l,Q (.mk k s o l)->dz (.mk k s o l)=false->P (.mk k s o l))(hQ:∀k s o l,Q (.mk k s o l)->∀t∈l,Q t):
  ∀(t:Tm) (a:List Pw) (n:Int),Q t->(∀p∈a,P p.1)->∀p∈gF a t n,P p.1
 | .mk k s o l,a,n,h1,h2=>by
  rw[gF]
  split
  ·rename_i hs
   intro p hp
   rcases xI hp with e |⟨q,hq,e⟩;rw[e];exact hP k s o l h1 hs;rw[<-e];exact h2 q hq
  exact AM hP hQ l a _ (hQ k s o l h1) h2
theorem AM{Q:Tm->Prop}{P:Tm->Prop}(hP:∀k s o l,Q (.mk k s o l)->dz (.mk k s o l)=false->P (.mk k s o l))(hQ:∀k s o l,Q (.mk k s o l)->∀t∈l,Q t):
  ∀(l:List Tm) (a:List Pw) (n:Int),(∀t∈l,Q t)->(∀p∈a,P p.1)->∀p∈iH a l n,P p.1
 |[],a,n,h1,h2=>by rw[iH];exact h2
 |t::l,a,n,h1,h2=>by
  rw[iH];exact AM hP hQ l _ n (λu hu=>h1 u (by simp[hu])) (Dv hP hQ t a n (h1 t (by simp)) h2)
end
theorem lT:∀{l:List Tm},gy l=0->∀t∈l,nodes t=0
 |[],_,t,h=>by cases h
 |u::l,e,t,h=>by
  rw[gy]at e
  split at e
  ·rename_i hu;exact absurd e hu
  ·rename_i hu
   rcases ab5.1 h with rfl |h;omega;exact lT e t h
theorem AN:∀{l:List Tm},∀t∈l,size t<=dA l
 |[],t,h=>by cases h
 |u::l,t,h=>by
  have h1:=gU u;have h2:=cX l;rw[dA];rcases ab5.1 h with rfl |h;omega;have:=AN t h;omega
theorem rT:∀{l:List Tm},∀t∈l,depth t<=fG l
 |[],t,h=>by cases h
 |u::l,t,h=>by
  rw[fG];rcases ab5.1 h with rfl |h;omega;have:=rT t h;omega
def VQ(S D:Int)(t:Tm):Prop:=nodes t=0/\size t<=S/\depth t<=D
theorem VQ.kids{S D k s o l}(h:VQ S D (.mk k s o l)):∀t∈l,VQ S D t:=by
 obtain⟨h1,h2,h3⟩:=h;rw[nodes]at h1
 split at h1
 ·rename_i hn;exact absurd h1 hn
 ·intro t ht
  have:=AN t ht;have:=rT t ht;have:=cX l;simp only[size]at h2;simp only[depth]at h3;exact⟨lT h1 t ht,by omega,by omega⟩
theorem eB{t:Tm}:valid t=0↔VQ 400 40 t:=by
 unfold valid VQ
 constructor
 ·intro h
  split at h
  ·rename_i hn;exact absurd h hn
  ·rename_i hn
   split at h
   cases h
   exact⟨by omega,by omega,by omega⟩
 ·rintro⟨h1,h2,h3⟩;rw[if_neg (by omega),if_neg (by omega)]
theorem vD:∀{l:List Tm},(∀t∈l,nodes t=0)->gy l=0
 |[],_=>rfl
 |t::l,h=>by rw[gy,if_neg (by rw[h t (by simp)];simp),vD (λu hu=>h u (by simp[hu]))]
theorem Dw{t:Tm}(h:dz t=false):arity t=true:=by
 obtain⟨k,s,o,l⟩:=t;rw[arity,if_pos h]
end Go.Pm
