/-
  A part of the library Pm (joined by program). Conditions: none.
-/
import Derived.Test.YtimogkojklpdnaaGreatDoorPyAA
import Derived.Test.YtimogkojklpdnaaGreatDoorPyAB
import Derived.Test.YtimogkojklpdnaaGreatDoorProg
import Derived.KernelRfl
import Derived.Lib.Bytealg
set_option linter.unusedVariables false
set_option linter.unusedSimpArgs false
set_option linter.unnecessarySimpa false
namespace Go.Pm
variable{P:Program}{w:World}{F:Nat->Prop}{β:List (Nat×Nat)}{h:ab}
def gR(w:World)(A:Nat->Prop)(β:List (Nat×Nat))(h:ab)(a:Act)(ρ:Nat->PV):Prop:=∀t,aD w A β h (a.tmps.getD t Go.undef) (ρ t)
theorem gR.ev{A:Nat->Prop}{a:Act}{ρ:Nat->PV}(r:gR w A β h a ρ)(x:Operand):aD w A β h (a.eval x) (Pm.ev ρ x):=by
 cases x with
 |tmp t=>exact r t
 |const v=>exact Fv w A β h v
 |global g=>exact .any _
 |func f=>exact .fn f [] [] rfl (by simp)
theorem gR.J3{A:Nat->Prop}{a:Act}{ρ:Nat->PV}(r:gR w A β h a ρ)(xs:List Operand):L2 (aD w A β h) (xs.map a.eval) (xs.map (Pm.ev ρ)):=by
 refine⟨by simp,λj hj=>?_⟩;simp at hj;have e1:(xs.map a.eval).getD j undef=a.eval xs[j]:=by simp[List.getD,hj]
 have e2:(xs.map (Pm.ev ρ)).getD j .any=Pm.ev ρ xs[j]:=by simp[List.getD,hj]
 rw[e1,e2];exact r.ev _
theorem gR.parts{A:Nat->Prop}{a:Act}{ρ:Nat->PV}(r:gR w A β h a ρ)(xs:Array (Nat×Operand)):mo w A β h (xs.map λ(i,x)=>(i,a.eval x)).toList (xs.toList.map λ(i,x)=>(i,Pm.ev ρ x)):=by
 refine⟨by simp,λk x hx=>?_⟩;simp only[aaj,aaP]at hx;obtain⟨y,h1,rfl⟩:=hx;exact⟨a.eval y.2,by simp only[Array.toList_map,aaj,h1];rfl,r.ev y.2⟩
theorem gR.Yd{A:Nat->Prop}{a:Act}{ρ:Nat->PV}(r:gR w A β h a ρ)(x:Option Operand):vw w A β h (x.map a.eval) (x.map (Pm.ev ρ)):=by
 cases x with
 |none=>trivial
 |some x=>exact r.ev x
def uN(P:Program)(lv:Nat)(w:World)(F:Nat->Prop)(β:List (Nat×Nat))(h:ab)(s:Sem Next)(p:PV)(h':ab):Prop:=
 ∃v w' β',(s.run P w=.ok (.value v) w'\/(s.run P w=.ok .skip w'/\v=undef))/\aD w' (Av F h' β') β' h' v p/\aZ w' F β' h'/\dS w h β w' h' β'/\(lv<=1->dF w w')
theorem AN.o{lv:Nat}{s:Sem Value}{p:PV}{h':ab}(x:AN P lv w F β h s p h'):uN P lv w F β h (do pure (.value (<-s))) p h':=by
 obtain⟨v,w',β',h1,h2,h3,h4⟩:=x;exact⟨v,w',β',.inl (by simp only[Sem.run_bind,h1,Result.andThen_ok,Sem.run_pure]),h2,h3,h4⟩
theorem fo{lv:Nat}(H:aZ w F β h){s:Sem Value}{p:PV}(x:∃u,s.run P w=.ok u w/\aD w (Av F h β) β h u p):uN P lv w F β h (do pure (.value (<-s))) p h:=by
 obtain⟨u,h1,h2⟩:=x;exact(AN.still H h1 h2).o
theorem dG{α:Type}{x:Option α}{h:ab}{p:α}{h':ab}(e:x.map (·,h)=some (p,h')):x=some p/\h'=h:=by
 cases x with
 |none=>cases e
 |some y=>simp at e;exact⟨by rw[e.1],e.2.symm⟩
theorem Ej(H:aZ w F β h){a:Act}{ρ:Nat->PV}(R:gR w (Av F h β) β h a ρ){lv:Nat}{o:Oper}{p:PV}{h':ab}(hc:∀c,o.op≠.call c)(e:aC P lv o.op ρ h=some (p,h')):
  uN P lv w F β h (execOp a.eval o) p h':=by
 obtain⟨dst,op,type,pos,after,guard⟩:=o;simp only at e hc ⊢
 cases op <;>simp only[aC]at e <;>simp only[execOp]
 case move x=>
  obtain⟨rfl,rfl⟩:=aaa (ZZ e);exact⟨_,w,β,.inl rfl,R.ev x,H,dS.refl w h β,λ_=>dF.refl w⟩
 case assign x=>
  obtain⟨rfl,rfl⟩:=aaa (ZZ e);exact⟨_,w,β,.inl rfl,R.ev x,H,dS.refl w h β,λ_=>dF.refl w⟩
 case pick c x y=>
  split at e
  ·rename_i t ht
   obtain⟨rfl,rfl⟩:=aaa (ZZ e);have hb:=R.ev c;rw[ht]at hb;have:=hb.gd;refine⟨if t then a.eval x else a.eval y,w,β,.inl ?_,?_,H,dS.refl w h β,λ_=>dF.refl w⟩
   ·simp only[this,asBool,Sem.run_bind,Sem.run_pure,Result.andThen_ok]
   ·cases t
    ·exact R.ev y
    ·exact R.ev x
  ·cases e
 case alloc t=>
  split at e
  ·rename_i z hz
   split at e
   ·rename_i DS
    obtain⟨rfl,rfl⟩:=aaa (ZZ e);exact(I0 H t hz DS.2.1 DS.2.2).o
   ·cases e
  ·cases e
 case box t x=>
  split at e
  ·rename_i DS
   obtain⟨rfl,rfl⟩:=aaa (ZZ e);exact(GZ H t (R.ev x) DS.2.1 DS.2.2).o
  ·cases e
 case build t ps=>
  obtain⟨e1,rfl⟩:=dG e;exact fo H (I6 (R.parts ps) e1)
 case buildSlice t n ps=>exact(xP H (R.parts ps) e).o
 case load t x=>
  obtain⟨e1,rfl⟩:=dG e;exact fo H (Dm H (R.ev x) e1)
 case store t x y=>
  split at e
  ·rename_i yJ
   cases hs:gH P h t (Pm.ev ρ x) (Pm.ev ρ y)with
   |none=>rw[hs]at e;simp at e
   |some h2=>
    rw[hs]at e;simp at e;obtain⟨rfl,rfl⟩:=e;obtain⟨w',β',r1,r2,r3⟩:=IZ H (R.ev x) (R.ev y) hs;exact⟨undef,w',β',.inr ⟨by simp only[Sem.run_bind,r1,Result.andThen_ok,Sem.run_pure],rfl⟩,.undef,r2,r3,λhh=>by omega⟩
  ·cases e
 case nilCheck x=>
  have hx:=R.ev x;generalize a.eval x=v at hx ⊢
  split at e
  ·rename_i id ep i oo hp
   obtain⟨rfl,rfl⟩:=aaa (ZZ e);rw[hp]at hx
   cases hx with
   |val hs=>cases hs
   |ptr _ _ _ _ _ oo bc h0 h1 h2 h3 h4 h5=>
    obtain⟨ad,rfl⟩:=h0;exact⟨_,w,β,.inl rfl,.ptr _ _ _ _ _ oo bc ⟨_,rfl⟩ h1 h2 h3 h4 h5,H,dS.refl w h β,λ_=>dF.refl w⟩
  ·rename_i cs hp
   obtain⟨rfl,rfl⟩:=aaa (ZZ e);rw[hp]at hx;have hs:=hx.sy
   cases hs with
   |eH=>exact⟨_,w,β,.inl rfl,hx,H,dS.refl w h β,λ_=>dF.refl w⟩
  ·rename_i f cs hp
   obtain⟨rfl,rfl⟩:=aaa (ZZ e);rw[hp]at hx;obtain⟨vs,rfl,_⟩:=hx.Ei;exact⟨_,w,β,.inl rfl,hx,H,dS.refl w h β,λ_=>dF.refl w⟩
  ·cases e
 case binOp op t x y yt=>
  obtain⟨e1,rfl⟩:=dG e;exact fo H (Pz (R.ev x) (R.ev y) e1)
 case unOp op t x=>
  obtain⟨e1,rfl⟩:=dG e;exact fo H (T1 (R.ev x) e1)
 case convert s d x=>
  obtain⟨e1,rfl⟩:=dG e;exact fo H (MB (R.ev x) e1)
 case makeFunc fn first di=>
  cases fn <;>simp only at e <;>try(cases e;done)
  rename_i f
  split at e
  ·rename_i hf
   obtain⟨rfl,rfl⟩:=aaa (ZZ e);obtain rfl:first= #[]:=by simpa using hf
   obtain⟨l1,l2⟩:=R.J3 di.toList;refine(AN.still H (v:=.func (.func f) #[] (di.toList.map a.eval).toArray) ?_ (.fn f _ _ l1 l2)).o;have:di.map a.eval=(di.toList.map a.eval).toArray:=by apply abq;simp
   simp[Instr.makeFunc,this]
  ·obtain⟨rfl,rfl⟩:=aaa (ZZ e);obtain⟨l1,l2⟩:=R.J3 (first.toList++di.toList);refine(AN.still H (v:=.func (.func f) (((first.toList++di.toList).map a.eval).take first.size).toArray (((first.toList++di.toList).map a.eval).drop first.size).toArray) ?_ (.ni f first.size _ _ l1 l2)).o;have e1:first.map a.eval=(((first.toList++di.toList).map a.eval).take first.size).toArray:=by apply abq;simp
   have e2:di.map a.eval=(((first.toList++di.toList).map a.eval).drop first.size).toArray:=by apply abq;simp
   simp only[Instr.makeFunc,e1,e2];rfl
 case makeSlice t l c=>exact(Mz H (R.ev l) (R.ev c) e).o
 case slice t x lo hi mx=>
  obtain⟨e1,rfl⟩:=dG e;exact fo H (I3 H (R.ev x) (R.Yd lo) (R.Yd hi) (R.Yd mx) e1)
 case fieldAddr s x f=>
  obtain⟨e1,rfl⟩:=dG e;exact fo H (yO H (R.ev x) e1)
 case field s x f=>
  obtain⟨e1,rfl⟩:=dG e;exact fo H (IX (R.ev x) e1)
 case indexAddr t x ix=>
  obtain⟨e1,rfl⟩:=dG e;exact fo H (yP H (R.ev x) (R.ev ix) e1)
 case index t x ix=>
  obtain⟨e1,rfl⟩:=dG e;exact fo H (IY (R.ev x) (R.ev ix) e1)
 case makeMap t r=>exact(Da H (R.Yd r) e).o
 case lookup t x k ok=>
  obtain⟨e1,rfl⟩:=dG e;exact fo H (Fo H (R.ev x) (R.ev k) e1)
 case mapUpdate t m k x=>
  split at e
  ·rename_i yJ
   cases hs:np P h t (Pm.ev ρ m) (Pm.ev ρ k) (Pm.ev ρ x)with
   |none=>rw[hs]at e;simp at e
   |some h2=>
    rw[hs]at e;simp at e;obtain⟨rfl,rfl⟩:=e;obtain⟨w',β',r1,r2,r3⟩:=xA H (R.ev m) (R.ev k) (R.ev x) hs;exact⟨undef,w',β',.inr ⟨by simp only[Sem.run_bind,r1,Result.andThen_ok,Sem.run_pure],rfl⟩,.undef,r2,r3,λhh=>by omega⟩
  ·cases e
 case insert t m k x=>
  split at e
  ·rename_i yJ
   cases hs:np P h t (Pm.ev ρ m) (Pm.ev ρ k) (Pm.ev ρ x)with
   |none=>rw[hs]at e;simp at e
   |some h2=>
    rw[hs]at e;simp at e;obtain⟨rfl,rfl⟩:=e;obtain⟨w',β',r1,r2,r3⟩:=xA H (R.ev m) (R.ev k) (R.ev x) hs;exact⟨undef,w',β',.inr ⟨by simp only[Sem.run_bind,r1,Result.andThen_ok,Sem.run_pure],rfl⟩,.undef,r2,r3,λhh=>by omega⟩
  ·cases e
 case extract x i=>
  split at e
  ·rename_i vs hv
   split at e
   ·rename_i v hi
    obtain⟨rfl,rfl⟩:=aaa (ZZ e);have hx:=R.ev x;rw[hv]at hx;obtain⟨us,hu,hl,hr⟩:=hx.u6;have hj:=ag hi;have:=hr i hj;have e2:vs.getD i .any=v:=by simp[List.getD,hi]
    rw[e2]at this;refine fo H ⟨us.getD i Go.undef,?_,this⟩;rw[hu];have:i<us.length:=by omega
    simp[Instr.extract,this,List.getD]
   ·cases e
  ·cases e
 case call c=>exact absurd rfl (hc c)
 all_goals cases e
theorem BY(H:aZ w F β h){a:Act}{ρ:Nat->PV}(R:gR w (Av F h β) β h a ρ){lv:Nat}{b:Builtin}{ts:Array TypeId}{ty:TypeId}{cb:Array Bool}{xs:Array Operand}{p:PV}{h':ab}
  (e:bo P lv h b ts.toList (xs.toList.map (Pm.ev ρ))=some (p,h')):uN P lv w F β h (builtin b ts ty cb (xs.map a.eval)) p h':=by
 have Xc:∀{t:TypeId} {r:List TypeId},ts.toList=t::r->ts[0]?=some t:=λhh=>by rw[<-aaw,hh];rfl
 have ts1:∀{t t':TypeId} {r:List TypeId},ts.toList=t::t'::r->ts[1]?=some t':=λhh=>by rw[<-aaw,hh];rfl
 have Xd:∀{p:PV} {r:List PV},xs.toList.map (Pm.ev ρ)=p::r->∃v,(xs.map a.eval)[0]?=some v/\aD w (Av F h β) β h v p:=λ{p r} hh=>by
  cases hx:xs.toList with
  |nil=>rw[hx]at hh;simp at hh
  |cons y ys=>
   rw[hx]at hh;simp at hh;refine⟨a.eval y,?_,by rw[<-hh.1];exact R.ev y⟩;rw[<-aaw,Array.toList_map,hx];rfl
 have xs1:∀{p q:PV} {r:List PV},xs.toList.map (Pm.ev ρ)=p::q::r->∃v,(xs.map a.eval)[1]?=some v/\aD w (Av F h β) β h v q:=λ{p q r} hh=>by
  cases hx:xs.toList with
  |nil=>rw[hx]at hh;simp at hh
  |cons y ys=>
   cases hy:ys with
   |nil=>rw[hx,hy]at hh;simp at hh
   |cons z zs=>
    rw[hx,hy]at hh;simp at hh;refine⟨a.eval z,?_,by rw[<-hh.2.1];exact R.ev z⟩;rw[<-aaw,Array.toList_map,hx,hy];rfl
 have earr:xs.map a.eval=(xs.toList.map a.eval).toArray:=by apply abq;simp
 unfold bo at e
 split at e
 ·rename_i t r x r' h1 h2
  obtain⟨e1,rfl⟩:=dG e;obtain⟨v,v1,v2⟩:=Xd h2;refine fo H ?_
  cases hx:xs.toList with
  |nil=>rw[hx]at h2;simp at h2
  |cons y ys=>
   rw[earr,hx,aah];rw[hx]at h2;simp at h2;have:=R.ev y;rw[h2.1]at this;exact Pu H (Xc h1) this e1
 ·rename_i st xt r s x r' h1 h2
  obtain⟨v,v1,v2⟩:=Xd h2;obtain⟨u,u1,u2⟩:=xs1 h2;exact(Fw H (Xc h1) (ts1 h1) v1 u1 v2 u2 e).o
 ·rename_i dt r d x r' h1 h2
  obtain⟨v,v1,v2⟩:=Xd h2;obtain⟨u,u1,u2⟩:=xs1 h2;exact(My H (Xc h1) v1 u1 v2 u2 e).o
 ·rename_i t r x r' h1 h2
  obtain⟨v,v1,v2⟩:=Xd h2;exact(I1 H (Xc h1) v1 v2 e).o
 ·rename_i t r x r' h1 h2
  obtain⟨e1,rfl⟩:=dG e;obtain⟨v,v1,v2⟩:=Xd h2;refine fo H ?_;unfold Q9 at e1
  split at e1
  ·rename_i el es hu
   obtain rfl:=ZZ e1;obtain⟨ad,cap,rfl,_,hf⟩:=v2.fv.jY;obtain rfl:=hf rfl;exact⟨_,by simp[Builtin.cap_,Xc h1,v1,bL hu,goInt],.val (.int _ _)⟩
  ·cases e1
 ·rename_i tt xx
  obtain⟨e1,rfl⟩:=dG e;rw[earr];exact fo H (Px (R.J3 xs.toList) e1)
 ·rename_i tt xx
  obtain⟨e1,rfl⟩:=dG e;rw[earr];exact fo H (Py (R.J3 xs.toList) e1)
 ·cases e
theorem cL(cs:List PV):aQ cs=cs.map cf:=by
 induction cs with
 |nil=>rfl
 |cons c r ih=>simp[aQ,ih]
theorem bu(cs:List PV):ao cs=cs.all aV:=by
 induction cs with
 |nil=>rfl
 |cons c r ih=>simp[ao,ih]
theorem BI(cs:List PV):ot cs=cs.all dU:=by
 induction cs with
 |nil=>rfl
 |cons c r ih=>simp[ot,ih]
theorem fI(cs:List PV)(j:Nat):(aQ cs).getD j .any=cf (cs.getD j .any):=by
 rw[cL];simp only[List.getD,aaj]
 cases cs[j]? <;>simp[cf]
theorem yY(e:PV):Pm.cells (cf e)=aQ (Pm.cells e):=by
 cases e <;>simp[cf,Pm.cells,aQ]
theorem cj.cf{A:Nat->Prop}{v:Value}{p:PV}(r:cj w A v p):cj w A v (Pm.cf p):=by
 induction r with
 |int k n=>exact .int k n
 |bool b=>exact .bool b
 |str s=>exact .str s
 |ek=>exact .ek
 |aG=>exact .aG
 |gm=>exact .gm
 |agg vs cs hl _ ih=>exact .agg vs _ (by simp[cL,hl]) (λj hj=>by rw[fI];exact ih j (by simpa[cL]using hj))
 |cx vs cs hl _ ih=>exact .cx vs _ (by simp[cL,hl]) (λj hj=>by rw[fI];exact ih j (by simpa[cL]using hj))
 |fn f vs cs hl _ ih=>exact .fn f vs _ (by simp[cL,hl]) (λj hj=>by rw[fI];exact ih j (by simpa[cL]using hj))
 |ni f k vs cs hl _ ih=>exact .ni f k vs _ (by simp[cL,hl]) (λj hj=>by rw[fI];exact ih j (by simpa[cL]using hj))
 |gF a cap full hf=>exact .gF a cap false (λhh=>by cases hh)
 |aa b off cap sz full es oI h1 h2 h3 h4 h5 h6 h7 _ ih=>
  have hl:(aQ es).length=es.length:=by simp[cL]
  have:=cj.aa (w:=w) (A:=A) b off cap sz false (aQ es) oI (by intro hn;rw[hn]at hl;exact h1 (aaf hl.symm)) (by omega) (λhh=>by cases hh) h4 h5
   (λi hi=>by rw[fI,yY,cL,aa6];exact h6 i (by omega)) (λi j hi hj=>h7 i j (by omega) hj)
   (λi j hi hj=>by rw[fI,yY,fI];exact ih i j (by omega) hj)
  rw[hl]at this;exact this
 |eH b off cs oI h1 h2 h3 _ ih=>
  have hl:(aQ cs).length=cs.length:=by simp[cL]
  exact .eH b off (aQ cs) oI (by intro hn;rw[hn]at hl;exact h1 (aaf hl.symm)) h2 (λj hj=>h3 j (by omega)) (λj hj=>by rw[fI];exact ih j (by omega))
theorem fp{f:PV->Bool}{cs:List PV}(h:cs.all f=true){j:Nat}(hj:j<cs.length):f (cs.getD j .any)=true:=by
 have:cs.getD j .any=cs[j]:=by simp[List.getD,hj]
 rw[this];exact Z1.1 h _ (aay hj)
theorem cj.dU{A A':Nat->Prop}{w':World}{v:Value}{p:PV}(r:cj w A v p)(hs:Pm.dU p=true):cj w' A' v p:=by
 induction r with
 |int k n=>exact .int k n
 |bool b=>exact .bool b
 |str s=>exact .str s
 |ek=>exact .ek
 |aG=>exact .aG
 |gm=>exact .gm
 |agg vs cs hl _ ih=>simp[Pm.dU,BI]at hs;exact .agg vs _ hl (λj hj=>ih j hj (fp (by simpa using hs) hj))
 |cx vs cs hl _ ih=>simp[Pm.dU,BI]at hs;exact .cx vs _ hl (λj hj=>ih j hj (fp (by simpa using hs) hj))
 |fn f vs cs hl _ ih=>simp[Pm.dU]at hs
 |ni f k vs cs hl _ ih=>simp[Pm.dU]at hs
 |gF a cap full hf=>simp[Pm.dU]at hs
 |aa=>simp[Pm.dU]at hs
 |eH=>simp[Pm.dU]at hs
theorem F4(H:aZ w F β h){A':Nat->Prop}(hA:∀b,b<w.heap.size->¬Av F h β b->¬A' b){v:Value}{p p':PV}(hv:aD w (Av F h β) β h v p)(e:qs h p=some p')
  (hM:∀(id:Nat) (o:au) (bc:Nat×Nat),id∈uG p->h[id]?=some o->β[id]?=some bc->(o.mu=.m\/o.mu=.f)->¬A' bc.1):cj w A' v p':=by
 unfold qs at e
 split at e
 ·rename_i id ep off len
  split at e
  ·rename_i o ho
   split at e
   ·rename_i hc
    obtain⟨hle,Hs,jC⟩:=hc;obtain rfl:=ZZ e;obtain⟨e1,e2,e3⟩:=getM_some ho;obtain⟨bc,hb⟩:=dn H.len e1;obtain⟨h1,h2,h3⟩:=hv.dL;obtain⟨cap,rfl,c2⟩:=h3 o bc e1 hb e3 e2 hle;obtain⟨T,sJ,k1,k2,k3,k4,k5⟩:=(H.obj id o bc e1 hb e3).c (h2 o e1).2;have hlen:((o.es.drop off).take len).length=len:=by simp;omega
    by_cases F5:len=0
    ·subst F5;simp;exact .gF _ _ _ (λhh=>by cases hh)
    ·have at_i:∀i,i<len->∃e,((o.es.drop off).take len).getD i .any=e/\o.es[off+i]?=some e/\aV e=true:=λi hi=>by
      have g1:((o.es.drop off).take len)[i]?=some (o.es[off+i]'(by omega)):=by
       rw[aai,if_pos hi,aaB];exact Z3 (by omega)
      refine⟨o.es[off+i]'(by omega),by rw[aam,g1];rfl,Z3 (by omega),?_⟩;rw[bu]at jC;exact Z1.1 jC _ (aae g1)
     have Ht:∀(e:PV),aV e=true->∀q∈Pm.cells e,aV q=true:=by
      intro e he q hq
      cases e <;>first
       |(simp only[Pm.cells,aav]at hq;subst hq;exact he)
       |(simp only[aV,bu]at he;exact Z1.1 he q hq)
     have kr:∀i j,i<len->j<o.bC->∃u,w.cell? ⟨bc.1,off * o.bC+(i * o.bC+j),none⟩=some u/\cj w A' u ((Pm.cells (((o.es.drop off).take len).getD i .any)).getD j .any):=by
      intro i j hi hj
      obtain⟨el,g1,g2,g3⟩:=at_i i hi;obtain⟨n1,n2⟩:=k5 _ el g2;have hq:=Z3 (show j<(Pm.cells el).length by omega);obtain⟨u,m1,m2⟩:=n2 j _ hq;refine⟨u,?_,?_⟩
      ·rw[cell_of_row w bc.1 _ sJ T (0,0) k1,<-abu,<-aaO];exact m1
      ·rw[g1];have e2:(Pm.cells el).getD j .any=(Pm.cells el)[j]'(by omega):=by simp[List.getD,hq]
       rw[e2];exact(m2.Hu (Ht el g3 _ (aay _))).mono (λ_ _ _=>rfl) hA
     have:=cj.aa (w:=w) (A:=A') bc.1 (off * o.bC) cap o.bC false ((o.es.drop off).take len) (λi j=>(w.cell? ⟨bc.1,off * o.bC+(i * o.bC+j),none⟩).getD Go.undef)
      (by intro hn;rw[hn]at hlen;simp at hlen;omega) (by rw[hlen];omega) (λhh=>by cases hh) (hM id o bc (by simp[uG]) e1 hb Hs) k4
      (λi hi=>by rw[hlen]at hi;obtain⟨el,g1,g2,g3⟩:=at_i i hi;rw[g1];exact(k5 _ el g2).1)
      (λi j hi hj=>by rw[hlen]at hi;obtain⟨u,m1,m2⟩:=kr i j hi hj;rw[m1];rfl)
      (λi j hi hj=>by rw[hlen]at hi;obtain⟨u,m1,m2⟩:=kr i j hi hj;rw[m1];exact m2)
     rw[hlen]at this;exact this
   ·cases e
  ·cases e
 ·split at e
  ·rename_i uJ
   obtain rfl:=ZZ e;exact(hv.Hu uJ).mono (λ_ _ _=>rfl) hA
  ·cases e
def Rj(p:PV):List Nat:=(Pm.cells p).flatMap uG
theorem JW{cs r:List PV}(e:oz h cs=some r):r.length=cs.length/\∀j,j<cs.length->qs h (cs.getD j .any)=some (r.getD j .any):=by
 induction cs generalizing r with
 |nil=>simp[oz]at e;subst e;exact⟨rfl,λj hj=>by simp at hj⟩
 |cons c cs ih=>
  simp only[oz]at e
  split at e
  ·rename_i c' r' h1 h2
   obtain rfl:=ZZ e;obtain⟨l1,l2⟩:=ih h2;refine⟨by simp[l1],λj hj=>?_⟩
   cases j with
   |zero=>simpa using h1
   |succ j=>simpa using l2 j (by simpa using hj)
  ·cases e
theorem BJ{cs r:List PV}(e:gI h cs=some r):r.length=cs.length/\∀j,j<cs.length->j' h (cs.getD j .any)=some (r.getD j .any):=by
 induction cs generalizing r with
 |nil=>simp[gI]at e;subst e;exact⟨rfl,λj hj=>by simp at hj⟩
 |cons c cs ih=>
  simp only[gI]at e
  split at e
  ·rename_i c' r' h1 h2
   obtain rfl:=ZZ e;obtain⟨l1,l2⟩:=ih h2;refine⟨by simp[l1],λj hj=>?_⟩
   cases j with
   |zero=>simpa using h1
   |succ j=>simpa using l2 j (by simpa using hj)
  ·cases e
theorem JX{cs:List PV}{j:Nat}(hj:j<cs.length){f:PV->List Nat}{id:Nat}(hm:id∈f (cs.getD j .any)):id∈cs.flatMap f:=by
 have:cs.getD j .any=cs[j]:=by simp[List.getD,hj]
 rw[this]at hm;exact aaU.2 ⟨_,aay hj,hm⟩
theorem u5(H:aZ w F β h){A':Nat->Prop}(hA:∀b,b<w.heap.size->¬Av F h β b->¬A' b){v:Value}{p p':PV}(hv:aD w (Av F h β) β h v p)(e:j' h p=some p')
  (hM:∀(id:Nat) (o:au) (bc:Nat×Nat),id∈Rj p->h[id]?=some o->β[id]?=some bc->(o.mu=.m\/o.mu=.f)->¬A' bc.1):cj w A' v p':=by
 unfold j' at e
 split at e
 ·rename_i cs
  cases hr:oz h cs with
  |none=>rw[hr]at e;simp at e
  |some r=>
   rw[hr]at e;simp at e;subst e;obtain⟨l1,l2⟩:=JW hr;obtain⟨vs,rfl,hl,hh⟩:=hv.rG;exact .agg vs r (by omega) (λj hj=>F4 H hA (hh j (by omega)) (l2 j (by omega)) (λid o bc hm=>hM id o bc (JX (cs:=cs) (by omega) hm)))
 ·rename_i NX
  have hc:Pm.cells p=[p]:=by cases p <;>first |rfl |exact absurd rfl (NX _)
  exact F4 H hA hv e (λid o bc hm=>hM id o bc (by simp[Rj,hc,hm]))
theorem Rk(H:aZ w F β h){A':Nat->Prop}(hA:∀b,b<w.heap.size->¬Av F h β b->¬A' b){v:Value}{p p':PV}(hv:aD w (Av F h β) β h v p)(e:rb h p=some p')
  (hM:∀(id:Nat) (o:au) (bc:Nat×Nat),h[id]?=some o->β[id]?=some bc->(o.mu=.m\/o.mu=.f)->¬A' bc.1):cj w A' v p':=by
 unfold rb at e
 split at e
 ·rename_i cs
  cases hr:gI h cs with
  |none=>rw[hr]at e;simp at e
  |some r=>
   rw[hr]at e;simp at e;subst e;obtain⟨l1,l2⟩:=BJ hr;obtain⟨vs,rfl,hl,hh⟩:=hv.u6;exact .cx vs r (by omega) (λj hj=>u5 H hA (hh j (by omega)) (l2 j (by omega)) (λid o bc _=>hM id o bc))
 ·exact u5 H hA hv e (λid o bc _=>hM id o bc)
theorem kH{f:PV->Option PV}:∀{cs r:List PV},fV f cs=some r->r.length=cs.length/\∀j,j<cs.length->f (cs.getD j .any)=some (r.getD j .any)
 |[],r,e=>by simp[fV]at e;subst e;exact⟨rfl,λj hj=>by simp at hj⟩
 |c::cs,r,e=>by
  simp only[fV]at e
  split at e
  ·rename_i c' r' h1 h2
   obtain rfl:=ZZ e;obtain⟨l1,l2⟩:=kH h2;refine⟨by simp[l1],λj hj=>?_⟩
   cases j with
   |zero=>simpa using h1
   |succ j=>simpa using l2 j (by simpa using hj)
  ·cases e
theorem NY{n:Nat}{e e':PV}(NX:∀cs,e≠.agg cs)(he:pQ n h e=some e'):Pm.cells e=[e]/\Pm.cells e'=[e']:=by
 have hc:Pm.cells e=[e]:=by cases e <;>first |rfl |exact absurd rfl (NX _)
 refine⟨hc,?_⟩
 cases n with
 |zero=>
  simp only[pQ]at he
  split at he
  ·obtain rfl:=ZZ he;exact hc
  ·cases he
 |succ n=>
  unfold pQ at he
  split at he
  ·split at he
   ·split at he
    ·obtain⟨r,hr,rfl⟩:=aaP.1 he;rfl
    ·cases he
   ·cases he
  ·exact absurd rfl (NX _)
  ·obtain⟨r,hr,rfl⟩:=aaP.1 he;rfl
  ·split at he
   ·obtain rfl:=ZZ he;exact hc
   ·cases he
theorem Hv{n:Nat}{e e':PV}(he:pQ n h e=some e'):(Pm.cells e').length=(Pm.cells e).length/\∀j,j<(Pm.cells e).length->∃m,m<=n/\pQ m h ((Pm.cells e).getD j .any)=some ((Pm.cells e').getD j .any):=by
 by_cases NX:∀cs,e≠.agg cs
 ·obtain⟨c1,c2⟩:=NY NX he;rw[c1,c2];refine⟨rfl,λj hj=>?_⟩;obtain rfl:j=0:=by simp at hj;omega
  exact⟨n,Z5 _,by simpa using he⟩
 ·obtain⟨cs,rfl⟩:∃cs,e=.agg cs:=abY λhh=>NX λcs hc=>hh ⟨cs,hc⟩
  cases n with
  |zero=>
   simp only[pQ]at he
   split at he
   ·rename_i hv
    obtain rfl:=ZZ he;refine⟨rfl,λj hj=>⟨0,Z5 _,?_⟩⟩;have uJ:cs.all aV=true:=by rw[<-bu];simpa[aV]using hv
    have hh:aV ((Pm.cells (.agg cs)).getD j .any)=true:=fp uJ hj;simp only[pQ];rw[if_pos hh]
   ·cases he
  |succ n=>
   simp only[pQ]at he;obtain⟨r,hr,rfl⟩:=aaP.1 he;obtain⟨l1,l2⟩:=kH hr;exact⟨l1,λj hj=>⟨n,by omega,l2 j hj⟩⟩
theorem F6(H:aZ w F β h){A':Nat->Prop}(hA:∀b,b<w.heap.size->¬Av F h β b->¬A' b)
  (hM:∀(id:Nat) (o:au) (bc:Nat×Nat),h[id]?=some o->β[id]?=some bc->(o.mu=.m\/o.mu=.f)->¬A' bc.1):∀(n:Nat) {v:Value} {p p':PV},aD w (Av F h β) β h v p->pQ n h p=some p'->cj w A' v p':=by
 intro n
 induction n using Nat.strongRecOn with
 |ind n ih=>
  intro v p p' hv e
  have vl:aV p=true->cj w A' v p:=λhp=>(hv.Hu hp).mono (λ_ _ _=>rfl) hA
  cases n with
  |zero=>
   simp only[pQ]at e
   split at e
   ·rename_i hp;obtain rfl:=ZZ e;exact vl hp
   ·cases e
  |succ n=>
   unfold pQ at e
   split at e
   ·rename_i id ep off len
    split at e
    ·rename_i o ho
     split at e
     ·rename_i hc
      obtain⟨hle,Hs⟩:=hc;obtain⟨es,iU,rfl⟩:=aaP.1 e;obtain⟨e1,e2,e3⟩:=getM_some ho;obtain⟨bc,hb⟩:=dn H.len e1;obtain⟨h1,h2,h3⟩:=hv.dL;obtain⟨cap,rfl,c2⟩:=h3 o bc e1 hb e3 e2 hle;obtain⟨T,sJ,k1,k2,k3,k4,k5⟩:=(H.obj id o bc e1 hb e3).c (h2 o e1).2;obtain⟨l1,l2⟩:=kH iU;have Qd:((o.es.drop off).take len).length=len:=by simp;omega
      have hlen:es.length=len:=by omega
      by_cases F5:len=0
      ·subst F5;obtain rfl:=List.length_eq_zero_iff.1 hlen;exact .gF _ _ _ (λhh=>by cases hh)
      ·have at_i:∀i,i<len->∃el,o.es[off+i]?=some el/\pQ n h el=some (es.getD i .any):=λi hi=>by
        have g1:((o.es.drop off).take len)[i]?=some (o.es[off+i]'(by omega)):=by
         rw[aai,if_pos hi,aaB];exact Z3 (by omega)
        have g2:=l2 i (by omega);rw[aam,g1]at g2;exact⟨_,Z3 (by omega),g2⟩
       have kr:∀i j,i<len->j<o.bC->(Pm.cells (es.getD i .any)).length=o.bC/\∃u,w.cell? ⟨bc.1,off * o.bC+(i * o.bC+j),none⟩=some u/\cj w A' u ((Pm.cells (es.getD i .any)).getD j .any):=by
        intro i j hi hj
        obtain⟨el,g1,g2⟩:=at_i i hi;obtain⟨n1,n2⟩:=k5 _ el g1;obtain⟨m1,m2⟩:=Hv g2;have hq:=Z3 (show j<(Pm.cells el).length by omega);obtain⟨u,q1,q2⟩:=n2 j _ hq;obtain⟨m,hm,q3⟩:=m2 j (by omega);rw[aam,hq]at q3;refine⟨by omega,u,?_,ih m (by omega) q2 q3⟩;rw[cell_of_row w bc.1 _ sJ T (0,0) k1,<-abu,<-aaO];exact q1
       have:=cj.aa (w:=w) (A:=A') bc.1 (off * o.bC) cap o.bC false es (λi j=>(w.cell? ⟨bc.1,off * o.bC+(i * o.bC+j),none⟩).getD Go.undef)
        (by intro hn;rw[hn]at hlen;simp at hlen;omega) (by rw[hlen];omega) (λhh=>by cases hh) (hM id o bc e1 hb Hs) k4
        (λi hi=>(kr i 0 (by omega) k4).1)
        (λi j hi hj=>by obtain⟨_,u,m1,m2⟩:=kr i j (by omega) hj;rw[m1];rfl)
        (λi j hi hj=>by obtain⟨_,u,m1,m2⟩:=kr i j (by omega) hj;rw[m1];exact m2)
       rw[hlen]at this;exact this
     ·cases e
    ·cases e
   ·rename_i cs
    obtain⟨r,hr,rfl⟩:=aaP.1 e;obtain⟨l1,l2⟩:=kH hr;obtain⟨vs,rfl,hl,hh⟩:=hv.rG;exact .agg vs r (by omega) (λj hj=>ih n (by omega) (hh j (by omega)) (l2 j (by omega)))
   ·rename_i cs
    obtain⟨r,hr,rfl⟩:=aaP.1 e;obtain⟨l1,l2⟩:=kH hr;obtain⟨vs,rfl,hl,hh⟩:=hv.u6;exact .cx vs r (by omega) (λj hj=>ih n (by omega) (hh j (by omega)) (l2 j (by omega)))
   ·split at e
    ·rename_i hp;obtain rfl:=ZZ e;exact vl hp
    ·cases e
theorem F7(H:aZ w F β h){A':Nat->Prop}(hA:∀b,b<w.heap.size->¬Av F h β b->¬A' b){v:Value}{p p':PV}(hv:aD w (Av F h β) β h v p)(e:yU h p=some p')
  (hM:∀(id:Nat) (o:au) (bc:Nat×Nat),h[id]?=some o->β[id]?=some bc->(o.mu=.m\/o.mu=.f)->¬A' bc.1):cj w A' v p':=by
 unfold yU at e
 split at e
 ·rename_i r hr
  obtain rfl:=ZZ e;exact Rk H hA hv hr hM
 ·exact F6 H hA hM 8 hv e
theorem aZ.empty(w:World)(F:Nat->Prop)(hF:∀b,F b->b<w.heap.size):aZ w F [] [] where
 len:=rfl
 fin:=hF
 obj id o bc e:=by simp at e
 ig id dY o o' bc de _ e:=by simp at e
 out id o bc e:=by simp at e
theorem vP(b:Nat):¬Mb [] [] b:=by rintro⟨id,o,bc,e,_⟩;simp at e
def mh(P:Program)(lv:Nat)(w:World)(F:Nat->Prop)(β:List (Nat×Nat))(h:ab)(f:FuncId)(vs:List Value)(r:PV)(h':ab):Prop:=
 Calls P f vs.toArray w λe w'=>∃v β',e=.returned v/\aD w' (Av F h' β') β' h' v r/\aZ w' F β' h'/\dS w h β w' h' β'/\(lv<=1->dF w w')
def fq(P:Program)(f:FuncId)(g:List PV->ab->Option (PV×ab)):Prop:=
 ∀args h r h',g args h=some (r,h')->∀w F β vs,aZ w F β h->L2 (aD w (Av F h β) β h) vs args->mh P 2 w F β h f vs r h'
theorem aZ.kz(H:aZ w F β h){id:Nat}{h2:ab}(e:kz h id=some h2):
  aZ w F β h2/\dS w h β w h2 β/\(∃o:au,h2[id]?=some o/\o.mu=.f)/\(∀(k:Nat) (o:au),h[k]?=some o->o.mu=.f->h2[k]?=some o):=by
 unfold Pm.kz at e
 split at e
 ·rename_i o ho
  split at e
  ·rename_i hc
   obtain⟨hv,Hs⟩:=hc;obtain rfl:=ZZ e;have bU:=ag ho;have mz:(h.set id {o with mu:=.f})[id]?=some {o with mu:=.f}:=by simp[bU]
   have jW:∀k,k≠id->(h.set id {o with mu:=.f})[k]?=h[k]?:=λk hk=>Z7 (aaR hk)
   have hx:o.mu≠.x:=by rcases Hs with h |h <;>rw[h] <;>simp
   have hs:dS w h β w (h.set id {o with mu:=.f}) β:=by
    refine⟨Z5 _,by simp,λ_ _ _=>rfl,?_,?_,?_,rfl,rfl,rfl,Z5 _⟩
    ·rintro b hb ⟨k,o',c',e1,e2,e3,rfl⟩
     by_cases hk:k=id
     ·subst hk;rw[mz]at e1;obtain rfl:=ZZ e1;simp at e3
     ·rw[jW k hk]at e1;exact⟨k,o',c',e1,e2,e3,rfl⟩
    ·intro k o' c' e1 e2 e3
     by_cases hk:k=id
     ·subst hk;rw[ho]at e1;obtain rfl:=ZZ e1;exact⟨_,c',mz,e2,by simp,⟨Z5 _,λh=>h⟩,λ_=>⟨rfl,λ_=>rfl,rfl⟩⟩
     ·exact⟨o',c',by rw[jW k hk];exact e1,e2,e3,⟨Z5 _,λh=>h⟩,λ_=>⟨rfl,λ_=>rfl,rfl⟩⟩
    ·intro k o' e1 e2
     refine⟨?_,rfl⟩
     by_cases hk:k=id
     ·subst hk;rw[ho]at e1;obtain rfl:=ZZ e1;rw[mz];rcases Hs with hm |hm
      ·exact absurd hm e2
      ·congr 1;cases o;simp at hm;subst hm;rfl
     ·rw[jW k hk];exact e1
   refine⟨⟨by simp[H.len],H.fin,?_,?_,?_⟩,hs,⟨_,mz,rfl⟩,?_⟩
   ·intro k o' c' e1 e2 e3
    by_cases hk:k=id
    ·subst hk;rw[mz]at e1;obtain rfl:=ZZ e1;exact ke.mono hs rfl (H.obj k o c' ho e2 hx)
    ·rw[jW k hk]at e1;exact ke.mono hs rfl (H.obj k o' c' e1 e2 e3)
   ·intro k k' o1 o2 c1 c2 bJ e1 e2 e3 e4 m1 m2
    have hk:k≠id:=by rintro rfl;rw[mz]at e1;obtain rfl:=ZZ e1;simp at m1
    rw[jW k hk]at e1
    by_cases fB:k'=id
    ·subst fB;exact H.ig k k' o1 o c1 c2 bJ e1 ho e3 e4 m1 hx
    ·rw[jW k' fB]at e2;exact H.ig k k' o1 o2 c1 c2 bJ e1 e2 e3 e4 m1 m2
   ·intro k o' c' e1 e2 e3
    by_cases hk:k=id
    ·subst hk;exact H.out k o c' ho e2 Hs
    ·rw[jW k hk]at e1;exact H.out k o' c' e1 e2 e3
   ·intro k o' e1 e2
    by_cases hk:k=id
    ·subst hk;rw[ho]at e1;obtain rfl:=ZZ e1;rw[mz];congr 1;cases o;simp at e2;subst e2;rfl
    ·rw[jW k hk];exact e1
  ·cases e
 ·cases e
theorem aZ.fk:∀(ids:List Nat) {h h2:ab},aZ w F β h->fk h ids=some h2->
  aZ w F β h2/\dS w h β w h2 β/\(∀id∈ids,∃o:au,h2[id]?=some o/\o.mu=.f)/\(∀(k:Nat) (o:au),h[k]?=some o->o.mu=.f->h2[k]?=some o)
 |[],h,h2,H,e=>by
  simp[Pm.fk]at e;subst e;exact⟨H,dS.refl w h β,(λ_ hm=>by cases hm),(λ_ _ h1 _=>h1)⟩
 |id::r,h,h2,H,e=>by
  simp only[Pm.fk]at e
  split at e
  ·rename_i h1 he
   obtain⟨H1,S1,⟨o,o1,o2⟩,K1⟩:=H.kz he;obtain⟨H2,S2,A2,K2⟩:=aZ.fk r H1 e;refine⟨H2,S1.trans S2,λk hk=>?_,λk o h3 h4=>K2 k o (K1 k o h3 h4) h4⟩;rcases Z'.1 hk with rfl |hk
   ·exact⟨o,K2 _ o o1 o2,o2⟩
   ·exact A2 k hk
  ·cases e
theorem Hw{args:List PV}{j:Nat}(hj:j<args.length){id:Nat}(hm:id∈Rj (args.getD j .any)):id∈iD args:=by
 have:args.getD j .any=args[j]:=by simp[List.getD,hj]
 rw[this]at hm;exact aaU.2 ⟨_,aay hj,hm⟩
theorem vQ(H:aZ w F β h){id:Nat}{o:au}{bc:Nat×Nat}(e1:h[id]?=some o)(e2:β[id]?=some bc)(e3:o.mu=.f):¬Av F h β bc.1:=by
 rintro(hf |⟨k,o',c',f1,f2,f3,f4⟩)
 ·exact H.out id o bc e1 e2 (.inr e3) hf
 ·have bJ:k≠id:=by
   rintro rfl;rw[e1]at f1;obtain rfl:=ZZ f1;rw[e3]at f3;cases f3
  exact H.ig k id o' o c' bc bJ f1 e1 f2 e2 f3 (by rw[e3];simp) f4
theorem tV{w':World}{h':ab}{β':List (Nat×Nat)}(s:dS w [] [] w' h' β'):dF w w':=
 ⟨s.size,λb hb=>s.aR b hb (vP b),s.os,s.tape,s.output,s.drawn⟩
theorem mA{f:FuncId}{run:List PV->ab->Option (PV×ab)}(S:fq P f run){A:Nat->Prop}(hA:∀b,A b->b<w.heap.size){args:List PV}{vs:List Value}(ha:L2 (cj w A) vs args)
  {r r':PV} {hc:ab} (e1:run (aQ args) []=some (r,hc)) (e2:yU hc r=some r'):
  Calls P f vs.toArray w λe w'=>∃v,e=.returned v/\cj w' A v (cf r')/\dF w w':=by
 have hl:(aQ args).length=args.length:=by simp[cL]
 have Yr:∀b,Av A [] [] b↔A b:=λb=>⟨λh=>h.elim id (λh=>absurd h (vP b)),.inl⟩
 have jr:L2 (aD w (Av A [] []) [] []) vs (aQ args):=⟨by rw[hl];exact ha.1,λj hj=>by
  rw[fI];exact .val (((ha.2 j (by omega)).cf).uK (λb hb=>(Yr b).1 hb))⟩
 refine(S (aQ args) [] r hc e1 w A [] vs (aZ.empty w A hA) jr).mono ?_;rintro e w' ⟨v,β',rfl,q1,q2,q3,_⟩;refine⟨v,rfl,?_,tV q3⟩;refine(F7 q2 (λb _ hb ha=>hb (.inl ha)) q1 e2 (λid o bc m1 m2 m3=>?_)).cf;rcases m3 with m3 |m3
 ·exact q2.out id o bc m1 m2 (.inl m3)
 ·exact q2.out id o bc m1 m2 (.inr m3)
mutual
theorem vR:∀p:PV,dU p=true->dU (cf p)=true
 | .agg cs,h=>by simp only[dU,cf]at h ⊢;exact qM cs h
 | .cx cs,h=>by simp only[dU,cf]at h ⊢;exact qM cs h
 | .int _ _,_=>rfl
 | .bool _,_=>rfl
 | .str _,_=>rfl
 | .ek,_=>rfl
 | .aG,_=>rfl
 | .gm,_=>rfl
 | .aa _ _,h=>by simp[dU]at h
 | .ak _ _ _ _,h=>by simp[dU]at h
 | .ptr _ _ _ _,h=>by simp[dU]at h
 | .cB _,h=>by simp[dU]at h
 | .eH _,h=>by simp[dU]at h
 | .fn _ _,h=>by simp[dU]at h
 | .ni _ _ _,h=>by simp[dU]at h
 | .undef,h=>by simp[dU]at h
 | .any,h=>by simp[dU]at h
theorem qM:∀cs:List PV,ot cs=true->ot (aQ cs)=true
 |[],_=>rfl
 |c::r,h=>by
  simp only[ot,aQ,Z9]at h ⊢;exact⟨vR c h.1,qM r h.2⟩
end
theorem Aw{run:hZ}{f:FuncId}(S:fq P f (run f)){lv:Nat}{args:List PV}{r:PV}{h':ab}(e:dD run lv f args h=some (r,h'))(H:aZ w F β h){vs:List Value}
  (ha:L2 (aD w (Av F h β) β h) vs args):mh P lv w F β h f vs r h':=by
 unfold dD at e
 have done:∀{h2:ab} (H2:aZ w F β h2) (S2:dS w h β w h2 β) (p:PV),(Calls P f vs.toArray w λe w'=>∃v,e=.returned v/\cj w' (Av F h2 β) v p/\dF w w')->mh P lv w F β h f vs p h2:=by
  intro h2 H2 S2 p hc
  refine hc.mono ?_;rintro e w' ⟨v,rfl,q1,q2⟩;exact⟨v,β,rfl,.val q1,H2.JY q2,S2.trans (q2.Qe h2 β),λ_=>q2⟩
 split at e
 ·rename_i hv
  split at e
  ·rename_i r0 hc h1
   split at e
   ·rename_i r1 h2
    obtain⟨rfl,rfl⟩:=aaa (ZZ e);refine done H (dS.refl w h β) _ (mA (A:=Av F h β) S (λb hb=>Av.lt H hb) (args:=args) ⟨ha.1,λj hj=>?_⟩ h1 h2);rw[bu]at hv;exact(ha.2 j hj).Hu (fp hv hj)
   ·cases e
  ·cases e
 ·split at e
  ·rename_i args' hr
   obtain⟨l1,l2⟩:=BJ hr
   split at e
   ·rename_i r0 hc h1
    split at e
    ·rename_i r1 h2
     have frozen:∀{h2:ab} (H2:aZ w F β h2) (S2:dS w h β w h2 β) (hf:∀id∈iD args,∃o:au,h2[id]?=some o/\o.mu=.f),L2 (cj w (Av F h2 β)) vs args':=by
      intro h2 H2 S2 hf
      refine⟨by rw[ha.1,l1],λj hj=>?_⟩;refine u5 H (λb hb hn=>Av.mono S2 b hb hn) (ha.2 j (by omega)) (l2 j (by omega)) (λid o bc hm m1 m2 m3=>?_);obtain⟨o2,g1,g2⟩:=hf id (Hw (by omega) hm);exact vQ H2 g1 m2 g2
     split at e
     ·rename_i yZ
      obtain⟨rfl,rfl⟩:=aaa (ZZ e);simp only[aaq]at yZ;rcases yZ with yZ |yZ
      ·refine done H (dS.refl w h β) _ ?_;have:=mA (P:=P) (w:=w) (A:=λ_=>False) S (λb hb=>hb.elim) (args:=args') (vs:=vs) ⟨by rw[ha.1,l1],λj hj=>u5 H (λ_ _ _ hh=>hh) (ha.2 j (by omega)) (l2 j (by omega)) (λ_ _ _ _ _ _ _ hh=>hh)⟩ h1 h2;refine this.mono ?_;rintro e w' ⟨v,rfl,q1,q2⟩;have oJ:dU (cf r1)=true:=vR r1 yZ;exact⟨v,rfl,q1.dU oJ,q2⟩
      ·refine done H (dS.refl w h β) _ (mA (A:=Av F h β) S (λb hb=>Av.lt H hb) (frozen H (dS.refl w h β) (λid bU=>?_)) h1 h2);have:=Z1.1 yZ id bU
       split at this
       ·rename_i o ho
        simp only[Z9,decide_eq_true_eq]at this;exact⟨o,ho,this.1⟩
       ·cases this
     ·split at e
      ·cases Ul:fk h (iD args)with
       |none=>rw[Ul]at e;simp at e
       |some h3=>
        rw[Ul]at e;simp at e;obtain⟨rfl,rfl⟩:=e;obtain⟨H2,S2,A2,_⟩:=aZ.fk (iD args) H Ul;exact done H2 S2 _ (mA (A:=Av F h3 β) S (λb hb=>Av.lt H2 hb) (frozen H2 S2 A2) h1 h2)
      ·cases e
    ·cases e
   ·cases e
  ·split at e
   ·rename_i args' hr
    obtain⟨l1,l2⟩:=kH hr
    split at e
    ·rename_i r0 hc h1
     split at e
     ·rename_i r1 h2
      split at e
      ·rename_i yZ
       obtain⟨rfl,rfl⟩:=aaa (ZZ e);refine done H (dS.refl w h β) _ ?_;have:=mA (P:=P) (w:=w) (A:=λ_=>False) S (λb hb=>hb.elim) (args:=args') (vs:=vs) ⟨by rw[ha.1,l1],λj hj=>F6 H (λ_ _ _ hh=>hh) (λ_ _ _ _ _ _ hh=>hh) 8 (ha.2 j (by omega)) (l2 j (by omega))⟩ h1 h2;refine this.mono ?_;rintro e w' ⟨v,rfl,q1,q2⟩;exact⟨v,rfl,q1.dU (vR r1 yZ),q2⟩
      ·cases e
     ·cases e
    ·cases e
   ·cases e
end Go.Pm
namespace Go.Pm
variable{C:cP}(T:lL C.P)
variable{ops:Array Oper}{d:Nat}{ty:TypeId}{pos:String}{af:Array Edge}{r:List Oper}{ρ:Nat->PV}{L:List (Nat×PV)}{h:ab}{Q:St->Prop}
theorem R.jm{t:TypeId}{x ix:Operand}{s:ByteArray}{k:IntKind}{i:Nat}{b:UInt8}(hx:cM L x=some (.str s))(hi:cM L ix=some (.int k (i:Int)))(hk:T.kd t=some .str)(hv:s[i]?=some b)
  (kk:ah C ops r ⟨al ((d,.int .u8 b.toNat)::L) ρ,h⟩ Q):ah C ops (⟨some d,.index t x ix,ty,pos,af,none⟩::r) ⟨al L ρ,h⟩ Q:=
 ah.eR (λrun=>by simp[ar,aC,an hx,an hi,vK,pF (T.cU _ _ hk),hv]) kk
theorem R.max{ts:Array TypeId}{x y:Operand}{k:IntKind}{a b:Int}(hx:cM L x=some (.int k a))(hy:cM L y=some (.int k b))(kk:ah C ops r ⟨al ((d,.int k (max a b))::L) ρ,h⟩ Q):
  ah C ops (⟨some d,.call ⟨.builtin .max,#[x,y],ts⟩,ty,pos,af,none⟩::r) ⟨al L ρ,h⟩ Q:=by
 refine ah.eR (v:=.int k (Max.max a b)) (λrun=>?_) kk;have:(if b>a then b else a)=Max.max a b:=by split <;>omega
 simp[ar,an hx,an hy,bo,JP,this]
theorem R.neg{t:TypeId}{x:Operand}{k:IntKind}{a c:Int}(hx:cM L x=some (.int k a))(hw:k.wrap (0 - a)=c)(kk:ah C ops r ⟨al ((d,.int k c)::L) ρ,h⟩ Q):
  ah C ops (⟨some d,.unOp .neg t x,ty,pos,af,none⟩::r) ⟨al L ρ,h⟩ Q:=
 ah.eR (λrun=>by simp only[ar,aC,an hx,P9,hw,aab]) kk
theorem R.MJ{t yt:TypeId}{x y:Operand}{a b:ByteArray}(hx:cM L x=some (.str a))(hy:cM L y=some (.str b))(hh:a.toList=b.toList)(k1:ah C ops r ⟨al ((d,(.bool true))::L) ρ,h⟩ Q):
  ah C ops (⟨some d,.binOp .eql t x y yt,ty,pos,af,none⟩::r) ⟨al L ρ,h⟩ Q:=ah.eR (λrun=>by simp[ar,aC,an hx,an hy,fj,lR,hh]) k1
theorem R.MK{t yt:TypeId}{x y:Operand}{a b:ByteArray}(hx:cM L x=some (.str a))(hy:cM L y=some (.str b))(hh:¬a.toList=b.toList)(k1:ah C ops r ⟨al ((d,(.bool false))::L) ρ,h⟩ Q):
  ah C ops (⟨some d,.binOp .eql t x y yt,ty,pos,af,none⟩::r) ⟨al L ρ,h⟩ Q:=ah.eR (λrun=>by simp[ar,aC,an hx,an hy,fj,lR,hh]) k1
def ko(L:List (Nat×PV)):List (Nat×Operand)->Option (List (Nat×PV))
 |[]=>some []
 |(i,x)::xs=>match cM L x,ko L xs with
  |some v,some vs=>some ((i,v)::vs)
  |_,_=>none
theorem iL{L:List (Nat×PV)}{ρ:Nat->PV}:∀{xs:List (Nat×Operand)} {vs:List (Nat×PV)},ko L xs=some vs->xs.map (λ(i,x)=>(i,ev (al L ρ) x))=vs
 |[],vs,e=>by simp[ko]at e;subst e;rfl
 |(i,x)::xs,vs,e=>by
  simp only[ko]at e
  split at e
  ·rename_i v FA h1 h2
   obtain rfl:=ZZ e;simp only[aah,an h1,iL h2]
  ·cases e
def qe(ts:Nat->Option Nat)(os:List (Nat×TypeId))(i:Nat):Option (Nat×Nat):=
 match os[i]? with
 |some (off,ty)=>(ts ty).map λs=>(off,s)
 |none=>none
theorem xV{p q:Nat->Option (Nat×Nat)}(hpq:∀i x,p i=some x->q i=some x):∀{parts:List (Nat×PV)} {cs r:List PV},jU p cs parts=some r->jU q cs parts=some r
 |[],cs,r,e=>e
 |(i,v)::parts,cs,r,e=>by
  simp only[jU]at e ⊢
  split at e
  ·cases e
  ·rename_i off size hp
   rw[hpq _ _ hp];simp only
   split at e
   ·rename_i hc
    rw[if_pos hc];exact xV hpq e
   ·cases e
theorem tK{t:TypeId}{z:PV}{os:List (Nat×TypeId)}{parts:List (Nat×PV)}{cs:List PV}(hz:T.tz t=some z)(hk:T.kd t=some (.st os))(ha:(os.all λo=>(T.ts o.2).isSome)=true)(h1:(cells z).all bI=true)
  (hf:jU (qe T.ts os) (cells z) parts=some cs):vH C.P t parts=some (.agg cs):=by
 obtain⟨fs,e1,e2⟩:=MF (T.cU _ _ hk)
 have eF:(fs.toList.all λf=>(cu C.P f.type).isSome)=true:=by
  rw[<-e2,List.all_map]at ha;rw[Z1]at ha ⊢
  intro f hf
  have:=ha f hf;simp only[Function.comp]at this
  cases hh:T.ts f.type with
  |none=>rw[hh]at this;cases this
  |some n=>rw[T.dT _ _ hh];rfl
 have hp:jU (iC C.P fs) (cells z) parts=some cs:=by
  refine xV (λi x hx=>?_) hf;unfold qe at hx;rw[<-e2,aaj]at hx;unfold iC;have Wa:fs[i]?=fs.toList[i]?:=by simp
  rw[Wa]
  cases hh:fs.toList[i]? with
  |none=>rw[hh]at hx;cases hx
  |some f=>
   rw[hh]at hx;simp only[aab]at hx ⊢
   cases zd:T.ts f.type with
   |none=>rw[zd]at hx;cases hx
   |some n=>rw[zd]at hx;rw[T.dT _ _ zd];exact hx
 unfold vH;rw[T.na _ _ hz,e1];simp only[eF,h1,and_self,if_true,hp,aab]
theorem R.build{t:TypeId}{parts:Array (Nat×Operand)}{ps:List (Nat×PV)}{z:PV}{os:List (Nat×TypeId)}{cs:List PV}(hp:ko L parts.toList=some ps)(hz:T.tz t=some z)(hk:T.kd t=some (.st os))(ha:(os.all λo=>(T.ts o.2).isSome)=true)(h1:(cells z).all bI=true)
  (hf:jU (qe T.ts os) (cells z) ps=some cs) (kk:ah C ops r ⟨al ((d,.agg cs)::L) ρ,h⟩ Q):ah C ops (⟨some d,.build t parts,ty,pos,af,none⟩::r) ⟨al L ρ,h⟩ Q:=
 ah.eR (λrun=>by simp only[ar,aC,iL hp,tK T hz hk ha h1 hf,aab]) kk
theorem D.build{i L0:Nat}{own:List Nat}{t:TypeId}{parts:Array (Nat×Operand)}{ps:List (Nat×PV)}{z:PV}{os:List (Nat×TypeId)}{cs:List PV}(hp:ko L parts.toList=some ps)(hz:T.tz t=some z)(hk:T.kd t=some (.st os))(ha:(os.all λo=>(T.ts o.2).isSome)=true)(h1:(cells z).all bI=true)
  (hf:jU (qe T.ts os) (cells z) ps=some cs) (kk:aW C ops (i+1) r ⟨⟨al ((d,.agg cs)::L) ρ,h⟩,L0,own⟩ Q):aW C ops i (⟨some d,.build t parts,ty,pos,af,none⟩::r) ⟨⟨al L ρ,h⟩,L0,own⟩ Q:=
 aW.plain (h':=h) rfl (λrun=>by simp only[ar,aC,iL hp,tK T hz hk ha h1 hf,aab]) kk
theorem D.nT{i L0:Nat}{own:List Nat}{s:TypeId}{x:Operand}{f off:Nat}{ft:TypeId}{os:List (Nat×TypeId)}{sz:Nat}{cs jo:List PV}{c:PV}(hx:cM L x=some (.eH cs))(hk:T.kd s=some (.st os))(hf:os[f]?=some (off,ft))(hs:T.ts ft=some (sz+1))
  (hc:cs.drop off=c::jo) (k:aW C ops (i+1) r ⟨⟨al ((d,.eH (c::jo))::L) ρ,h⟩,L0,own⟩ Q):aW C ops i (⟨some d,.fieldAddr s x f,ty,pos,af,none⟩::r) ⟨⟨al L ρ,h⟩,L0,own⟩ Q:=by
 have hl:off<cs.length:=by
  rcases aaD off cs.length with h |h
  ·exact h
  ·rw[aaz h]at hc;cases hc
 exact aW.plain (h':=h) rfl (λrun=>by simp[ar,aC,an hx,fU,ma T hk hf hs,hl,hc]) k
def xW(sz n:Nat)(p:Nat×PV):Bool:=decide ((cells p.2).length=sz)&& (cells p.2).all bI&&decide (p.1<n)
theorem pH{lv:Nat}{t el:TypeId}{n sz:Nat}{z:PV}{ps:List (Nat×PV)}{es:List PV}(hk:T.kd t=some (.sl el))(hs:T.ts el=some (sz+1))(hz:T.tz el=some z)(hn:n * (sz+1)<=16777216)(hl:(cells z).length=sz+1)(h1:(cells z).all bI=true)
  (hp:ps.all (xW (sz+1) n)=true) (he:yv z n ps=es) (hv:ao es=true):dy C.P lv h t n ps=some (.aa true es,h):=by
 unfold dy;rw[bp (T.cU _ _ hk)];simp only[T.dT _ _ hs,T.na _ _ hz];have Tf:(ps.all λp=>decide ((cells p.2).length=sz+1)&& (cells p.2).all bI&&decide (p.1<n))=true:=hp;rw[if_pos ⟨by omega,hn,hl,h1,Tf⟩,he,if_pos hv]
theorem R.buildSlice{t el:TypeId}{n sz:Nat}{z:PV}{parts:Array (Nat×Operand)}{ps:List (Nat×PV)}{es:List PV}(TW:ko L parts.toList=some ps)(hk:T.kd t=some (.sl el))(hs:T.ts el=some (sz+1))(hz:T.tz el=some z)(hn:n * (sz+1)<=16777216)(hl:(cells z).length=sz+1)(h1:(cells z).all bI=true)
  (hp:ps.all (xW (sz+1) n)=true) (he:yv z n ps=es) (hv:ao es=true) (kk:ah C ops r ⟨al ((d,.aa true es)::L) ρ,h⟩ Q):
  ah C ops (⟨some d,.buildSlice t n parts,ty,pos,af,none⟩::r) ⟨al L ρ,h⟩ Q:=
 ah.eR (λrun=>by simp only[ar,aC,iL TW,pH T hk hs hz hn hl h1 hp he hv]) kk
theorem D.buildSlice{i:Nat}{t el:TypeId}{n sz:Nat}{z:PV}{parts:Array (Nat×Operand)}{ps:List (Nat×PV)}{es:List PV}(dp:aT h=true)(TW:ko L parts.toList=some ps)(im:(ps.all λp=>bt (aL h) p.2)=true)(hk:T.kd t=some (.sl el))(hs:T.ts el=some (sz+1))(hz:T.tz el=some z)(hn:n * (sz+1)<=16777216)(hl:(cells z).length=sz+1)(h1:(cells z).all bI=true)
  (hp:ps.all (xW (sz+1) n)=true) (he:yv z n ps=es) (hv:ao es=true) (kk:aW C ops (i+1) r ⟨⟨al ((d,.aa true es)::L) ρ,h⟩,h.length,[]⟩ Q):
  aW C ops i (⟨some d,.buildSlice t n parts,ty,pos,af,none⟩::r) ⟨⟨al L ρ,h⟩,h.length,[]⟩ Q:=by
 refine aW.read rfl dp ?_ ⟨0,λn lv _ _=>by simp only[ar,aC,iL TW,pH T hk hs hz hn hl h1 hp he hv]⟩ kk;rw[Z1]
 intro y hy
 have hm:y∈parts.toList.map (·.2):=by simpa[Op.operands]using hy
 obtain⟨x,hx,rfl⟩:=aak.1 hm;have:=iL (ρ:=ρ) TW;rw[<-this,List.all_map,Z1]at im;exact im x hx
theorem iX{n b:Nat}(h1:n<1000000000)(h2:b<=1000):roomy n b=true:=by
 have:n * b<=1000000000 * 1000:=ab8 (by omega) h2;simp[roomy];omega
def dB(sz:Nat)(ys:List PV):Prop:=ys.all (λv=>decide ((cells v).length=sz)&& (cells v).all bI)=true
theorem gb{lv:Nat}{st xt el ql:TypeId}{sz fZ:Nat}{z:PV}{full:Bool}{ys:List PV}(h1:1<=lv)(hk:T.kd st=some (.sl el))(fB:T.kd xt=some (.sl ql))(hs:T.ts el=some (sz+1))(hb:T.tb el=some fZ)(hz:T.tz el=some z)(jn:fZ<=1000)(hl:(cells z).length=sz+1)(ho:(cells z).all bI=true)
  (hy:dB (sz+1) ys) (bJ:ys.isEmpty=false) (hn:ys.length<1000000000):bQ C.P lv h st xt (.aa true []) (.aa full ys)=some (.ak h.length 0 0 ys.length,h++[⟨.m,0,sz+1,ys⟩]):=by
 unfold bQ;rw[bp (T.cU _ _ hk)];simp only[T.dT _ _ hs,T.rI _ _ hb,T.na _ _ hz,cG,bp (T.cU _ _ fB),cw];unfold dB at hy;rw[if_pos ⟨by omega,by omega,⟨hl,ho⟩,hy⟩];simp only[bJ,aad,if_false,aaE,aan,abw,aaL,newObj];rw[if_pos ⟨trivial,h1,iX hn jn,trivial⟩]
theorem kK{st xt el ql:TypeId}{sz fZ id ep len:Nat}{z:PV}{full:Bool}{ys:List PV}{o:au}(hk:T.kd st=some (.sl el))(fB:T.kd xt=some (.sl ql))(hs:T.ts el=some (sz+1))(hb:T.tb el=some fZ)(hz:T.tz el=some z)(jn:fZ<=1000)(hl:(cells z).length=sz+1)(ho:(cells z).all bI=true)
  (hy:dB (sz+1) ys) (bJ:ys.isEmpty=false) (hn:len+ys.length<1000000000) (hg:getM h id ep=some o) (hm:o.mu=.m) (sM:o.bC=sz+1) (hle:len<=o.es.length):
  bQ C.P 2 h st xt (.ak id ep 0 len) (.aa full ys)=some (.ak id (ep+1) 0 (len+ys.length),h.set id {o with ep:=ep+1,es:=o.es.take len++ys}):=by
 unfold bQ;rw[bp (T.cU _ _ hk)];simp only[T.dT _ _ hs,T.rI _ _ hb,T.na _ _ hz,cG,bp (T.cU _ _ fB),cw];unfold dB at hy;rw[if_pos ⟨by omega,by omega,⟨hl,ho⟩,hy⟩];simp only[hg];rw[if_pos ⟨by omega,sM.symm⟩];simp only[bJ,aad,if_false];rw[if_neg (by simp[jQ]),if_pos ⟨trivial,by omega,hm,iX hn jn⟩]
def Out(sz:Nat)(h:ab)(v:PV)(es:List PV):Prop:=(v=.aa true []/\es=[])\/∃id ep,v=.ak id ep 0 es.length/\h[id]?=some ⟨.m,ep,sz,es⟩
theorem Out.nil(sz:Nat)(h:ab):Out sz h (.aa true []) []:=.inl ⟨rfl,rfl⟩
theorem Out.cC{sz:Nat}{h:ab}{v:PV}{es:List PV}(o:Out sz h v es)(J:ab):Out sz (h++J) v es:=by
 rcases o with o |⟨id,ep,e1,e2⟩
 ·exact .inl o
 ·refine .inr ⟨id,ep,e1,?_⟩
  have:id<h.length:=by
   rcases aaD id h.length with hh |hh
   ·exact hh
   ·rw[aag hh]at e2;cases e2
  rw[Z0 this];exact e2
def W7(sz:Nat)(A J:ab)(v:PV)(es:List PV):Prop:=(v=.aa true []/\es=[])\/∃id ep,v=.ak (A.length+id) ep 0 es.length/\J[id]?=some ⟨.m,ep,sz,es⟩
def HV(h:ab):Prop:=∀o∈h,o.mu≠.x/\ao o.es=true
mutual
theorem vg(f:Nat->Bool):∀p,aV p=true->bt f p=true
 | .int ..,_ | .bool _,_ | .str _,_ | .ek,_ | .aG,_ | .gm,_ | .aa ..,_ | .eH _,_=>rfl
 | .agg cs,h=>by simp only[bt];exact br f cs (by simpa[aV]using h)
 | .cx cs,h=>by simp only[bt];exact br f cs (by simpa[aV]using h)
 | .fn _ cs,h=>by simp only[bt];exact br f cs (by simpa[aV]using h)
 | .ni _ _ cs,h=>by simp only[bt];exact br f cs (by simpa[aV]using h)
 | .ak ..,h | .ptr ..,h | .undef,h | .any,h=>by simp[aV]at h
theorem br(f:Nat->Bool):∀cs,ao cs=true->bz f cs=true
 |[],_=>rfl
 |c::r,h=>by
  simp only[ao,Z9]at h;simp only[bz,vg f c h.1,br f r h.2,acb]
end
theorem HV.closed{h:ab}(H:HV h):aT h=true:=by
 unfold aT;rw[Z1]
 intro o ho
 rw[br _ _ (H o ho).2];simp
theorem HV.Qz{h:ab}(H:HV h){id:Nat}(bU:id<h.length):aL h id=true:=by
 unfold aL;rw[Z3 bU];simpa using(H _ (aay bU)).1
theorem HV.nil:HV []:=λo ho=>by cases ho
theorem HV.cC{h k:ab}(H:HV h)(K:HV k):HV (h++k):=λo ho=>(Z8.1 ho).elim (H o) (K o)
theorem HV.one{ep n:Nat}{es:List PV}(h:ao es=true):HV [⟨.m,ep,n,es⟩]:=λo ho=>by simp at ho;subst ho;exact⟨by simp,h⟩
theorem HV.set{h:ab}(H:HV h)(id:Nat){o:au}(h1:o.mu≠.x)(h2:ao o.es=true):HV (h.set id o):=λo' N3=>by
 rcases abc N3 with N3|rfl
 ·exact H o' N3
 ·exact⟨h1,h2⟩
theorem bg{h:ab}{id ep:Nat}{o:au}(e:h[id]?=some o)(h1:o.ep=ep)(h2:o.mu≠.x):getM h id ep=some o:=by simp[getM,e,h1,h2]
theorem ML{h:ab}{b n off:Nat}{e:PV}(hb:h[b]?=some ⟨.m,0,n,[e]⟩):cK h (.ptr b 0 0 off)=some ((cells e).drop off):=by simp[cK,getM,hb]
theorem R.oP{t:TypeId}{x:Operand}{c e:PV}{cs:List PV}{sz b n off:Nat}(hx:cM L x=some (.ptr b 0 0 off))(hs:T.ts t=some sz)(ht:T.ta t=some false)(hb:h[b]?=some ⟨.m,0,n,[e]⟩)(hc:(cells e).drop off=c::cs)(k:ah C ops r ⟨al ((d,c)::L) ρ,h⟩ Q):
  ah C ops (⟨some d,.load t x,ty,pos,af,none⟩::r) ⟨al L ρ,h⟩ Q:=R.fJ T hx hs ht ((ML hb).trans (by rw[hc])) k
theorem R.xX{t:TypeId}{x:Operand}{e:PV}{jo:List PV}{sz b n off:Nat}(hx:cM L x=some (.ptr b 0 0 off))(hs:T.ts t=some (sz+1))(ht:T.ta t=some true)(hb:h[b]?=some ⟨.m,0,n,[e]⟩)(hc:pG (sz+1) ((cells e).drop off) jo)(k:ah C ops r ⟨al ((d,.agg jo)::L) ρ,h⟩ Q):
  ah C ops (⟨some d,.load t x,ty,pos,af,none⟩::r) ⟨al L ρ,h⟩ Q:=R.k9 T hx hs ht (ML hb) hc k
theorem R.ij{t:TypeId}{a x:Operand}{b n off ep i sz:Nat}{o:au}{e v:PV}(ha:cM L a=some (.ptr b ep i off))(hx:cM L x=some v)(hs:T.ts t=some sz)(hg:getM h b ep=some o)(hm:o.mu=.m)(hi:o.es[i]?=some e)(hl:(cells v).length=sz)(h1:(cells v).all bI=true)(hle:off+sz<=(cells e).length)
  (k:ah C ops r ⟨al L ρ,h.set b {o with es:=o.es.set i (eI off sz e v)}⟩ Q):ah C ops (⟨none,.store t a x,ty,pos,af,none⟩::r) ⟨al L ρ,h⟩ Q:=by
 have k':ah C ops r ⟨b9 (al L ρ) none .undef,h.set b {o with es:=o.es.set i (eI off sz e v)}⟩ Q:=k;refine ah.val (v:=.undef) (h':=h.set b {o with es:=o.es.set i (eI off sz e v)}) rfl (λrun=>?_) k';simp only[ar,aC,an ha,an hx,gH,T.dT _ _ hs,hg,hi,Z5,if_true];rw[if_pos ⟨hm,hl,h1,hle⟩]
 rfl
theorem Ac(n:Nat){p:PV}(h:aV p=true):dP n p=true:=by
 unfold dP
 split <;>first |(simp[aV]at h;done)|exact h
theorem FF(n:Nat){p:PV}(h:aV p=true):cH n p=true:=by
 unfold cH
 split
 ·rename_i cs
  rw[Z1]
  intro c hc
  have:ao cs=true:=by simpa[aV]using h
  rw[bu]at this;exact Ac n (Z1.1 this c hc)
 ·exact Ac n h
theorem HV.cH{h:ab}(H:HV h)(n:Nat):(h.all λo=>o.es.all (cH n))=true:=by
 rw[Z1]
 intro o ho
 have:=(H o ho).2;rw[bu]at this;rw[Z1]
 intro e he
 exact FF n (Z1.1 this e he)
mutual
theorem jI:∀p:PV,dU (cf p)=dU p
 | .int .. | .bool _ | .str _ | .ek | .aG | .gm | .cB _ | .aa .. | .eH _ | .fn .. | .ni .. | .ak .. | .ptr .. | .undef | .any=>rfl
 | .agg cs=>by simp only[cf,dU];exact pI cs
 | .cx cs=>by simp only[cf,dU];exact pI cs
theorem pI:∀cs:List PV,ot (aQ cs)=ot cs
 |[]=>rfl
 |c::r=>by simp only[aQ,ot,jI c,pI r]
end
theorem ai.W8{lv:Nat}{f:FuncId}{args args':List PV}{rv:PV}{Q:PV->ab->Prop}(hm:C.mode f=.pure)(hv:ao args=false)(hr:gI h args=some args')(a:aO C f (aQ args') rv)(hs:dU rv=true)(q:Q rv h):ai C lv f args h Q:=by
 obtain⟨n0,hn⟩:=a;refine⟨rv,h,q,n0,λn h1=>?_⟩;obtain⟨r0,hc,r1,e1,e2,e3⟩:=hn n h1;unfold dg;rw[hm]
 have yZ:dU r1=true:=by
  have:=jI r1;rw[e3]at this;rw[<-this];exact hs
 simp only[dD,hv,aad,if_false,hr,e1,e2,e3,yZ,ab3,if_true]
theorem R.vy{t:TypeId}{x:Operand}{e c:PV}{cs:List PV}{n sz off:Nat}(hx:cM L x=some (.ptr h.length 0 0 off))(hs:T.ts t=some sz)(ht:T.ta t=some false)(hc:(cells e).drop off=c::cs)
  (k:ah C ops r ⟨al ((d,c)::L) ρ,h++[⟨.m,0,n,[e]⟩]⟩ Q):ah C ops (⟨some d,.load t x,ty,pos,af,none⟩::r) ⟨al L ρ,h++[⟨.m,0,n,[e]⟩]⟩ Q:=
 R.fJ T hx hs ht (Zu.trans (by rw[hc])) k
theorem D.va{i:Nat}{x:uZ}{op:Op}{j d':Nat}{want b:Bool}(hd:(ops.toList[j]?).bind (·.dst)=some d')(hx:x.s.ρ=al L ρ)(hb:lk L d'=some (.bool b))(he:(b==want)=true)(k:aW C ops i (⟨some d,op,ty,pos,af,none⟩::r) x Q):
  aW C ops i (⟨some d,op,ty,pos,af,some (j,want)⟩::r) x Q:=by
 obtain⟨y,q,n0,hn⟩:=k;refine⟨y,q,n0,λn h1=>?_⟩;rw[<-hn n h1];simp only[dE,ct,bm,hd,hx,dz hb,he]
theorem aW.off{i L0:Nat}{own:List Nat}{op:Op}{g:Option (Nat×Bool)}(hw:bm ops ⟨some d,op,ty,pos,af,g⟩ (al L ρ)=some false)(k:aW C ops (i+1) r ⟨⟨al ((d,.undef)::L) ρ,h⟩,L0,own⟩ Q):
  aW C ops i (⟨some d,op,ty,pos,af,g⟩::r) ⟨⟨al L ρ,h⟩,L0,own⟩ Q:=by
 refine aW.step ⟨0,λn _=>?_⟩ k;simp only[ct,hw,ck]
theorem D.mE{i L0:Nat}{own:List Nat}{op:Op}{j d':Nat}{want b:Bool}(hd:(ops.toList[j]?).bind (·.dst)=some d')(hb:lk L d'=some (.bool b))(he:(b==want)=false)(k:aW C ops (i+1) r ⟨⟨al ((d,.undef)::L) ρ,h⟩,L0,own⟩ Q):
  aW C ops i (⟨some d,op,ty,pos,af,some (j,want)⟩::r) ⟨⟨al L ρ,h⟩,L0,own⟩ Q:=aW.off (by simp only[bm,hd,dz hb,he]) k
theorem D.iF{i L0:Nat}{own:List Nat}{c x y:Operand}{v:PV}(hc:cM L c=some (.bool true))(hx:cM L x=some v)(k:aW C ops (i+1) r ⟨⟨al ((d,v)::L) ρ,h⟩,L0,own⟩ Q):aW C ops i (⟨some d,.pick c x y,ty,pos,af,none⟩::r) ⟨⟨al L ρ,h⟩,L0,own⟩ Q:=
 aW.plain (h':=h) rfl (λrun=>by simp only[ar,aC,an hc,an hx,if_true]) k
theorem D.gT{i L0:Nat}{own:List Nat}{c x y:Operand}{v:PV}(hc:cM L c=some (.bool false))(hx:cM L y=some v)(k:aW C ops (i+1) r ⟨⟨al ((d,v)::L) ρ,h⟩,L0,own⟩ Q):aW C ops i (⟨some d,.pick c x y,ty,pos,af,none⟩::r) ⟨⟨al L ρ,h⟩,L0,own⟩ Q:=
 aW.plain (h':=h) rfl (λrun=>by simp only[ar,aC,an hc,an hx,aad,if_false]) k
theorem D.arith{i L0:Nat}{own:List Nat}{ue:BinOp}{t yt:TypeId}{x y:Operand}{k:IntKind}{a b c c':Int}(hx:cM L x=some (.int k a))(hy:cM L y=some (.int k b))(hp:Pm.arith ue a b=some c)(hw:k.wrap c=c')(kk:aW C ops (i+1) r ⟨⟨al ((d,(.int k c'))::L) ρ,h⟩,L0,own⟩ Q):
  aW C ops i (⟨some d,.binOp ue t x y yt,ty,pos,af,none⟩::r) ⟨⟨al L ρ,h⟩,L0,own⟩ Q:=by
 refine aW.plain (h':=h) rfl (λrun=>?_) kk;simp only[ar,aC,an hx,an hy]
 cases ue <;>simp only[Pm.arith,aax,reduceCtorEq]at hp <;>subst hp <;>simp[fj,gD,hw]
theorem D.cmp{i L0:Nat}{own:List Nat}{ue:BinOp}{t yt:TypeId}{x y:Operand}{k:IntKind}{a b:Int}{p:Prop}(hx:cM L x=some (.int k a))(hy:cM L y=some (.int k b))(hp:EI ue a b=some p)
  (k1:p->aW C ops (i+1) r ⟨⟨al ((d,(.bool true))::L) ρ,h⟩,L0,own⟩ Q) (k2:¬p->aW C ops (i+1) r ⟨⟨al ((d,(.bool false))::L) ρ,h⟩,L0,own⟩ Q):aW C ops i (⟨some d,.binOp ue t x y yt,ty,pos,af,none⟩::r) ⟨⟨al L ρ,h⟩,L0,own⟩ Q:=by
 by_cases KL:p
 ·refine aW.plain (h':=h) rfl (λrun=>?_) (k1 KL);simp only[ar,aC,an hx,an hy]
  cases ue <;>simp only[EI,aax,reduceCtorEq]at hp <;>subst hp <;>simp[fj,gD,KL]
 ·refine aW.plain (h':=h) rfl (λrun=>?_) (k2 KL);simp only[ar,aC,an hx,an hy]
  cases ue <;>simp only[EI,aax,reduceCtorEq]at hp <;>subst hp <;>simp[fj,gD,KL] <;>omega
theorem W7.rb{sz:Nat}{A J:ab}{v:PV}{es:List PV}(o:W7 sz A J v es)(hv:ao es=true):∃r1,rb (A++J) v=some r1/\cf r1=.aa false (aQ es):=by
 rcases o with⟨rfl,rfl⟩|⟨id,ep,rfl,e2⟩
 ·exact⟨_,rfl,rfl⟩
 ·refine⟨.aa false es,?_,by simp[cf]⟩;have:(A++J)[A.length+id]?=some ⟨.m,ep,sz,es⟩:=by rw[aac (by omega),show A.length+id - A.length=id by omega];exact e2
  simp[Pm.rb,j',qs,getM,this,hv]
end Go.Pm
namespace Go.Pm
variable{C:cP}(T:lL C.P)
variable{ops:Array Oper}{d:Nat}{ty:TypeId}{pos:String}{af:Array Edge}{r:List Oper}{ρ:Nat->PV}{L:List (Nat×PV)}{h h':ab}{Q:St->Prop}
theorem ah.heap{ρ:Nat->PV}(e:h=h')(k:ah C ops r ⟨ρ,h'⟩ Q):ah C ops r ⟨ρ,h⟩ Q:=by subst e;exact k
theorem aW.heap{i:Nat}{ρ:Nat->PV}(e:h=h')(k:aW C ops i r ⟨⟨ρ,h'⟩,h'.length,[]⟩ Q):aW C ops i r ⟨⟨ρ,h⟩,h.length,[]⟩ Q:=by subst e;exact k
theorem ax.heap{f:FuncId}{args args':List PV}{Q:PV->ab->Prop}(e:h=h')(ea:args=args')(k:ax C f args' h' Q):ax C f args h Q:=by subst e;subst ea;exact k
theorem HV.take{h:ab}(H:HV h)(n:Nat):HV (h.take n):=λo ho=>H o (aaJ ho)
theorem ai.rJ{f:FuncId}{args args':List PV}{N:Nat}{P Q:PV->ab->Prop}(hm:C.mode f=.opened)(eh:h=h')(ea:args=args')(hN:h'.length=N)(a:ax C f args' h' P)
  (q:∀r k,P r k->HV k/\(dQ N r=true->Q r (k.take N))/\(dQ N r=false->Q r k)):ai C 2 f args h Q:=by
 subst eh;subst ea;subst hN;refine ai.opened hm (a.mono ?_)
 intro r k hp
 obtain⟨h1,h2,h3⟩:=q r k hp
 cases hb:dQ h.length r
 ·rw[if_neg (by simp)];exact h3 hb
 ·rw[if_pos (by rw[(h1.take h.length).cH];rfl)];exact h2 hb
end Go.Pm
namespace Go.Pm
variable{C:cP}(T:lL C.P)
variable{ops:Array Oper}{d:Nat}{ty:TypeId}{pos:String}{af:Array Edge}{r:List Oper}{ρ:Nat->PV}{L:List (Nat×PV)}{h:ab}{Q:St->Prop}
theorem ai.cz{f:FuncId}{g:List PV->ab->Option (PV×ab)}{args:List PV}{h':ab}{rv:PV}{Q:PV->ab->Prop}(hm:C.mode f=.cz g)(a:g args h=some (rv,h'))(q:Q rv h'):ai C 2 f args h Q:=by
 refine⟨rv,h',q,0,λn h1=>?_⟩;unfold dg;rw[hm];simp only[dV,Z5,if_true,a]
def loadT(h:ab)(t:TypeId)(p:PV):Option PV:=
 match T.ts t,T.ta t,cK h p with
 |some (sz+1),some true,some cs=>if Nat.ble (sz+1) cs.length then some (.agg (cs.take (sz+1)))else none
 |some _,some false,some (c::_)=>some c
 |_,_,_=>none
theorem rL{t:TypeId}{p v:PV}(e:loadT T h t p=some v):iB C.P h t p=some v:=by
 unfold loadT at e;unfold iB
 split at e
 ·rename_i sz cs h1 h2 h3
  rw[T.dT _ _ h1,T.MD _ _ h2,h3]
  split at e
  ·rename_i hle
   simp only;rw[if_pos ⟨by omega,aa3 hle⟩];exact e
  ·cases e
 ·rename_i h1 h2 h3
  rw[T.dT _ _ h1,T.MD _ _ h2,h3];exact e
 ·cases e
def xY(L:List (Nat×PV))(h:ab):List ResultVar->Option (List PV)
 |[]=>some []
 | .tmp t::r=>match lk L t,xY L h r with
  |some v,some vs=>some (v::vs)
  |_,_=>none
 | .cell a t::r=>match lk L a with
  |some p=>match loadT T h t p,xY L h r with
   |some v,some vs=>some (v::vs)
   |_,_=>none
  |none=>none
theorem vA{ρ:Nat->PV}:∀{l:List ResultVar} {vs:List PV},xY T L h l=some vs->dj C.P h (al L ρ) l=some vs
 |[],vs,e=>by simp[xY]at e;subst e;rfl
 | .tmp t::r,vs,e=>by
  simp only[xY]at e
  split at e
  ·rename_i v FA h1 h2
   obtain rfl:=ZZ e;simp[dj,dz h1,vA h2]
  ·cases e
 | .cell a t::r,vs,e=>by
  simp only[xY]at e
  split at e
  ·rename_i p hp
   split at e
   ·rename_i v FA h1 h2
    obtain rfl:=ZZ e;simp[dj,dz hp,rL T h1,vA h2]
   ·cases e
  ·cases e
theorem aJ.Zv{fn:Func}{Q:PV->ab->Prop}{vs:List PV}(hr:xY T L h fn.results.toList=some vs)(q:Q (aY vs) h):aJ C fn Q .ret ⟨al L ρ,h⟩:=⟨.inr rfl,vs,vA T hr,q⟩
theorem Eg{A J:ab}(h1:(A.all λo=>decide (o.mu=.x)||bz (aL (A++J)) o.es)=true)(hJ:HV J):aT (A++J)=true:=by
 unfold aT;rw[abj,h1,abd,Z1]
 intro o ho
 rw[br _ _ (hJ o ho).2];simp
theorem D.qP{i:Nat}{t el:TypeId}{x ix:Operand}{id ep off len:Nat}{k:IntKind}{j:Nat}{o:au}(dp:aT h=true)(hx:cM L x=some (.ak id ep off len))(hi:cM L ix=some (.int k (j:Int)))(hk:T.kd t=some (.sl el))(ho:getM h id ep=some o)(hs:T.ts el=some o.bC)(cI:j<len)(hle:off+len<=o.es.length)
  (kk:aW C ops (i+1) r ⟨⟨al ((d,.ptr id ep (off+j) 0)::L) ρ,h⟩,h.length,[]⟩ Q):aW C ops i (⟨some d,.indexAddr t x ix,ty,pos,af,none⟩::r) ⟨⟨al L ρ,h⟩,h.length,[]⟩ Q:=by
 have im:aL h id=true:=by
  unfold getM at ho
  split at ho
  ·rename_i o' N3
   split at ho
   ·rename_i hc
    unfold aL;rw[N3];simpa using hc.2
   ·cases ho
  ·cases ho
 exact aW.read rfl dp (by simp[Op.operands,an hx,an hi,bt,im]) ⟨0,λn lv _ _=>by simp[ar,aC,an hx,an hi,cy,bp (T.cU _ _ hk),T.dT _ _ hs,ho,cI,hle]⟩ kk
theorem D.ij{i L0:Nat}{own:List Nat}{t:TypeId}{a x:Operand}{b off ep j sz:Nat}{o:au}{e v:PV}(cE:level ops (before ops) i=2)(ha:cM L a=some (.ptr b ep j off))(hx:cM L x=some v)(hs:T.ts t=some sz)(hg:getM h b ep=some o)(hm:o.mu=.m)(hi:o.es[j]?=some e)(hl:(cells v).length=sz)(h1:(cells v).all bI=true)(hle:off+sz<=(cells e).length)
  (k:aW C ops (i+1) r ⟨⟨al L ρ,h.set b {o with es:=o.es.set j (eI off sz e v)}⟩,(h.set b {o with es:=o.es.set j (eI off sz e v)}).length,[]⟩ Q):aW C ops i (⟨none,.store t a x,ty,pos,af,none⟩::r) ⟨⟨al L ρ,h⟩,L0,own⟩ Q:=by
 refine aW.step ⟨0,λn _=>?_⟩ k;simp only[ct,bm,cV,aaG,if_false,cE,if_true,ar,aC,an ha,an hx,gH,T.dT _ _ hs,hg,hi,Z5,hm,hl,h1,hle,and_self,aab,b9]
theorem D.tJ{i:Nat}{t:TypeId}{x:Operand}{e:PV}{jo:List PV}{n sz:Nat}(dp:aT (h++[⟨.m,0,n,[e]⟩])=true)(hx:cM L x=some (.ptr h.length 0 0 0))(hs:T.ts t=some (sz+1))(ht:T.ta t=some true)(hc:pG (sz+1) (cells e) jo)
  (k:aW C ops (i+1) r ⟨⟨al ((d,(.agg jo))::L) ρ,h++[⟨.m,0,n,[e]⟩]⟩,(h++[⟨.m,0,n,[e]⟩]:ab).length,[]⟩ Q):aW C ops i (⟨some d,.load t x,ty,pos,af,none⟩::r) ⟨⟨al L ρ,h++[⟨.m,0,n,[e]⟩]⟩,(h++[⟨.m,0,n,[e]⟩]:ab).length,[]⟩ Q:=
 D.k9 T dp hx (by simp[bt,aL]) hs ht pcN hc k
end Go.Pm
namespace Go.Pm
open Go.Proofs
def kc(sz:Nat)(e:PV):Bool:=aV e&&decide ((cells e).length=sz)&& (cells e).all bI
def jA(args:List PV)(h:ab):Option (PV×ab):=
 match args with
 |[.aa true [],.int .i64 i,.aa _ [e]]=>if i=0/\kc 5 e=true then some (.ak h.length 0 0 1,newObj h 5 [e])else none
 |[.ak id ep 0 len,.int .i64 i,.aa _ [e]]=>match getM h id ep with
  |some o=>if o.mu=.m/\o.bC=5/\len<=o.es.length/\0<=i/\i<=len/\len<100000000/\kc 5 e=true/\(o.es.take len).all (kc 5)=true/\aT h=true then
    some (.ak id (ep+1) 0 (len+1),h.set id {o with ep:=ep+1,es:=(o.es.take len).take i.toNat++[e]++(o.es.take len).drop i.toNat})else none
  |none=>none
 |_=>none
def iE(args:List PV)(h:ab):Option (PV×ab):=
 match args with
 |[.aa true [],.int .i64 i,.aa _ [e]]=>if i=0/\kc 4 e=true then some (.ak h.length 0 0 1,newObj h 4 [e])else none
 |[.ak id ep 0 len,.int .i64 i,.aa _ [e]]=>match getM h id ep with
  |some o=>if o.mu=.m/\o.bC=4/\len<=o.es.length/\0<=i/\i<=len/\len<100000000/\kc 4 e=true/\(o.es.take len).all (kc 4)=true/\aT h=true then
    some (.ak id (ep+1) 0 (len+1),h.set id {o with ep:=ep+1,es:=(o.es.take len).take i.toNat++[e]++(o.es.take len).drop i.toNat})else none
  |none=>none
 |_=>none
def kU(args:List PV)(h:ab):Option (PV×ab):=
 match args with
 |[.ak id ep 0 len,.int .i64 i,.int .i64 j]=>match getM h id ep with
  |some o=>if o.mu=.m/\o.bC=5/\len<=o.es.length/\0<=i/\j=i+1/\i<len/\len<100000000/\(o.es.take len).all (kc 5)=true/\aT h=true then
    some (.ak id (ep+1) 0 (len - 1),h.set id {o with ep:=ep+1,es:=(o.es.take len).take i.toNat++(o.es.take len).drop (i.toNat+1)})else none
  |none=>none
 |_=>none
def bq(bC:Nat)(args:List PV)(h:ab):Option (PV×ab):=
 match args with
 |[.aa _ es]=>if es.isEmpty then some (.aa true [],h)
   else if es.all (λv=>decide ((cells v).length=bC)&& (cells v).all bI)=true/\es.length<1000000000 then some (.ak h.length 0 0 es.length,newObj h bC es)else none
 |_=>none
def jB(f:FuncId):Mode:=
 if[0,1,347,305,183,240,281,379,161,215,216,370,15,16].contains f then .no
 else if f=194 then .ext λ|[.str a,.str b]=>some (.int .i64 (Lib.compareBytes a.data.toList b.data.toList))|_=>none
 else if f=351 then .cz jA
 else if f=352 then .cz kU
 else if f=45 then .cz (bq 4)
 else if f=397 then .cz (bq 1)
 else if[65,226,229,152,310,250,311,398,372,387,388,403,402,390,391,378,399,400,207,258,162,45,397,158,203,128,154,129,130,200,87,89,143,86,142,72,104,271,320,272,270,278,371,322,323,324,368,366,367,326,325,369,381,49,51,50,100,360,361,382,359].contains f then .opened
 else if f<410 then .pure
 else .no
noncomputable def C:cP:=⟨Tryz.prog,jB⟩
end Go.Pm
namespace Go.Pm
variable{C:cP}(T:lL C.P)
variable{ops:Array Oper}{i:Nat}{d:Nat}{ty:TypeId}{pos:String}{af:Array Edge}{r:List Oper}{ρ:Nat->PV}{L:List (Nat×PV)}{h:ab}{Q:St->Prop}
theorem D.oP{t:TypeId}{x:Operand}{c e:PV}{cs:List PV}{sz b n off:Nat}(hV:HV h)(hx:cM L x=some (.ptr b 0 0 off))(hs:T.ts t=some sz)(ht:T.ta t=some false)(hb:h[b]?=some ⟨.m,0,n,[e]⟩)(hc:(cells e).drop off=c::cs)
  (k:aW C ops (i+1) r ⟨⟨al ((d,c)::L) ρ,h⟩,h.length,[]⟩ Q):aW C ops i (⟨some d,.load t x,ty,pos,af,none⟩::r) ⟨⟨al L ρ,h⟩,h.length,[]⟩ Q:=
 D.fJ T hV.closed hx (by simp only[bt];exact hV.Qz (ag hb)) hs ht ((ML hb).trans (by rw[hc])) k
theorem D.xX{t:TypeId}{x:Operand}{e:PV}{jo:List PV}{sz b n off:Nat}(hV:HV h)(hx:cM L x=some (.ptr b 0 0 off))(hs:T.ts t=some (sz+1))(ht:T.ta t=some true)(hb:h[b]?=some ⟨.m,0,n,[e]⟩)(hc:pG (sz+1) ((cells e).drop off) jo)
  (k:aW C ops (i+1) r ⟨⟨al ((d,.agg jo)::L) ρ,h⟩,h.length,[]⟩ Q):aW C ops i (⟨some d,.load t x,ty,pos,af,none⟩::r) ⟨⟨al L ρ,h⟩,h.length,[]⟩ Q:=
 D.k9 T hV.closed hx (by simp only[bt];exact hV.Qz (ag hb)) hs ht (ML hb) hc k
theorem D.call{L0:Nat}{own:List Nat}{x:Operand}{xs:List Operand}{zM:Array TypeId}{f:FuncId}{di args:List PV}(cE:level ops (before ops) i=2)(hf:cM L x=some (.fn f di))(ha:xU L xs=some args)
  (hc:ai C 2 f (args++di) h (λv h'=>aW C ops (i+1) r ⟨⟨al ((d,v)::L) ρ,h'⟩,h'.length,[]⟩ Q)):aW C ops i (⟨some d,.call ⟨.value x,xs.toArray,zM⟩,ty,pos,af,none⟩::r) ⟨⟨al L ρ,h⟩,L0,own⟩ Q:=by
 obtain⟨v,h',q,n0,hn⟩:=hc;refine aW.two rfl cE ⟨n0,λn h1=>?_⟩ q;simp only[ar,fS,an hf];have he:=gC (ρ:=ρ) ha;simp only[he];exact hn n h1
theorem ai.out{f:FuncId}{sz:Nat}{v:PV}{es rest:List PV}{rv:PV}{Q:PV->ab->Prop}(hm:C.mode f=.pure)(o:Out sz h v es)(hv:ao es=true)(hr:ao rest=true)(a:aO C f (.aa false (aQ es)::aQ rest) rv)(hs:dU rv=true)(q:Q rv h):ai C 2 f (v::rest) h Q:=by
 rcases o with⟨rfl,rfl⟩|⟨id,ep,rfl,e2⟩
 ·exact ai.pure hm (by simp[ao,aV,hr]) (by simpa[aQ,cf]using a) q
 ·refine ai.W8 (args':=.aa false es::rest) hm (by simp[ao,aV]) ?_ (by simpa[aQ,cf]using a) hs q;have h1:j' h (.ak id ep 0 es.length)=some (.aa false es):=by simp[j',qs,getM,e2,hv]
  have h2:∀l:List PV,ao l=true->gI h l=some l:=by
   intro l
   induction l with
   |nil=>intro _;rfl
   |cons c l ih=>
    intro hl
    simp only[ao,Z9]at hl;simp only[gI,ih hl.2]
    have:j' h c=some c:=by
     unfold j'
     split
     ·rename_i cs
      have hcs:ao cs=true:=by simpa[aV]using hl.1
      have key:∀cs:List PV,ao cs=true->oz h cs=some cs:=by
       intro cs
       induction cs with
       |nil=>intro _;rfl
       |cons c cs ih=>
        intro hh
        simp only[ao,Z9]at hh
        have:qs h c=some c:=by
         unfold qs
         split
         ·simp[aV]at hh
         ·rw[if_pos hh.1]
        simp only[oz,this,ih hh.2]
      rw[key cs hcs];rfl
     ·unfold qs
      split
      ·simp[aV]at hl
      ·rw[if_pos hl.1]
    rw[this]
  simp only[gI,h1,h2 rest hr]
structure LP(H:ab)(v:PV)(sz:Nat)(eT:List PV)(r:PV)(h':ab):Prop where
 out:Out sz h' r eT
 hv:HV h'
 len:H.length<=h'.length
 fr:∀j,j<H.length->(∀ep n,v≠.ak j ep 0 n)->h'[j]?=H[j]?
 ref:∀j ep n,r=.ak j ep 0 n->(∃h9 n',v=.ak j h9 0 n')\/H.length<=j
theorem lu{sz:Nat}:∀{es:List PV},es.all (kc sz)=true->ao es=true
 |[],_=>rfl
 |e::es,h=>by
  rw[aaX,Z9]at h;obtain⟨h1,h2⟩:=h;unfold kc at h1;simp only[Z9]at h1;simp only[ao,h1.1.1,lu h2,acb]
theorem xf{v e:PV}{es:List PV}{full:Bool}{j:Nat}(o:Out 5 h v es)(hV:HV h)(hj:j<=es.length)(hn:es.length<100000000)(iU:es.all (kc 5)=true)(OY:kc 5 e=true):
  ∃rv h',jA [v,.int .i64 (j:Int),.aa full [e]] h=some (rv,h')/\LP h v 5 (es.take j++[e]++es.drop j) rv h':=by
 have he:ao (es.take j++[e]++es.drop j)=true:=by
  refine lu (sz:=5) ?_;rw[Z1]at iU ⊢
  intro x hx
  simp only[aat,Z8,aav]at hx;rcases hx with hx |hx |hx
  ·exact iU x (aaJ hx)
  ·rw[hx];exact OY
  ·exact iU x (aaI hx)
 rcases o with⟨rfl,rfl⟩|⟨id,ep,rfl,e2⟩
 ·obtain rfl:j=0:=by simpa using hj
  refine⟨.ak h.length 0 0 1,h++[⟨.m,0,5,[e]⟩],?_,.inr ⟨h.length,0,rfl,by simp⟩,hV.cC (HV.one (by simpa using he)),by simp,λj hj _=>Z0 hj,λj ep n hh=>?_⟩
  ·simp[jA,newObj,OY]
  ·cases hh;exact .inr (Z5 _)
 ·have cI:=ag e2;have hl:(es.take j++[e]++es.drop j).length=es.length+1:=by simp;omega
  refine⟨.ak id (ep+1) 0 (es.length+1),h.set id ⟨.m,ep+1,5,es.take j++[e]++es.drop j⟩,?_,.inr ⟨id,ep+1,by rw[hl],Z6 cI⟩,hV.set id (by simp) he,by simp,λk hk bJ=>?_,λk h9 n hh=>?_⟩
  ·have hg:getM h id ep=some ⟨.m,ep,5,es⟩:=by simp[getM,e2]
   simp only[jA,hg,aaW,abi];rw[if_pos ⟨trivial,trivial,Z5 _,by omega,by omega,hn,OY,iU,hV.closed⟩]
  ·exact Z7 (λhh=>bJ ep es.length (by rw[hh]))
  ·cases hh;exact .inl ⟨ep,es.length,rfl⟩
theorem xg{id ep j:Nat}{es:List PV}(e2:h[id]?=some ⟨.m,ep,5,es⟩)(hV:HV h)(hj:j+1<=es.length)(hn:es.length<100000000)(iU:es.all (kc 5)=true):
  ∃rv h',kU [.ak id ep 0 es.length,.int .i64 (j:Int),.int .i64 ((j:Int)+1)] h=some (rv,h')/\LP h (.ak id ep 0 es.length) 5 (es.take j++es.drop (j+1)) rv h':=by
 have cI:=ag e2
 have he:ao (es.take j++es.drop (j+1))=true:=by
  refine lu (sz:=5) ?_;rw[Z1]at iU ⊢
  intro x hx
  rcases Z8.1 hx with hx |hx
  ·exact iU x (aaJ hx)
  ·exact iU x (aaI hx)
 have hl:(es.take j++es.drop (j+1)).length=es.length - 1:=by simp;omega
 refine⟨.ak id (ep+1) 0 (es.length - 1),h.set id ⟨.m,ep+1,5,es.take j++es.drop (j+1)⟩,?_,.inr ⟨id,ep+1,by rw[hl],Z6 cI⟩,hV.set id (by simp) he,by simp,λk hk bJ=>?_,λk h9 n hh=>?_⟩
 ·have hg:getM h id ep=some ⟨.m,ep,5,es⟩:=by simp[getM,e2]
  simp only[kU,hg,aaW,abi];rw[if_pos ⟨trivial,trivial,Z5 _,by omega,trivial,by omega,hn,iU,hV.closed⟩]
 ·exact Z7 (λhh=>bJ ep es.length (by rw[hh]))
 ·cases hh;exact .inl ⟨ep,es.length,rfl⟩
end Go.Pm
namespace Go.Pm
set_option maxRecDepth 20000
def tsL:List (Option Nat):=[some (1),some (1),some (1),some (1),some (1),some (1),some (1),some (4),some (4),some (1),some (1),some (1),some (1),some (2),some (2),some (1),some (1),some (1),some (1),some (1),some (1),some (1),some (1),some (1),some (1),some (1),some (1),some (1),some (1),some (1),some (1),some (1),some (4),some (4),some (5),some (5),some (1),some (8),some (8),some (1),some (1),some (1),some (1),some (1),some (1),some (1),some (1),some (1),some (1),some (1),some (1),some (1),some (1),some (1),some (1),some (1),some (1),some (1),some (1),some (1),some (2),some (2),some (1),some (1),some (1),some (1),some (1),some (1),some (1),some (1),some (1),some (1),some (1),some (1),some (1),some (1),some (1),some (1),some (1),some (1),some (1),some (1),some (1),some (1),some (1),some (1),some (1),some (1),some (1),some (1),some (1),some (1),some (1),some (1),some (1),some (1),some (1),some (1),some (1),some (1),some (1),some (1),some (2),some (2),some (1),some (1),some (1),some (1),some (1),some (1),some (1),some (1),some (1),some (1),some (1),some (1),some (1),some (1),some (1),some (1),some (1),some (1),some (1),some (1),some (1),some (1),some (1),some (1),some (4),some (4),some (1),some (1),some (1),some (1),some (1),some (1),some (1),some (1),some (1),some (1),some (1),some (1),some (1),some (1),some (1),some (1),some (1),some (1),some (1),some (1),some (1),some (1),some (1),some (1),some (1),some (1),some (1),some (1),some (1),some (1),some (1),some (1),some (1),some (1),some (1),some (1),some (1),some (1),some (1),some (1),some (1),some (1),some (1),some (1),some (1),some (1),some (1),some (1),some (1),some (1),some (1),some (1),some (1),some (1),some (1),some (1),some (5),some (5),some (1),some (1),some (1),some (1),some (1),some (1),some (1),some (1),some (1),some (1),some (2),some (2),some (1),some (24),some (1),some (1),some (1),some (1),some (1),some (1),some (1),some (1),some (1),some (1),some (1),some (1),some (1),some (1),some (1),some (1),some (1),some (1),some (1),some (1),some (1),some (1),some (1),some (1),some (1),some (1),some (1),some (1),some (1),some (1),some (1),some (1),some (1),some (1),some (1),some (1),some (1),some (20),some (65),some (1),some (1),some (1),some (1),some (1),some (1),some (1),some (1),some (1),some (1),some (1),some (1),some (1),some (1),some (1),some (1),some (1),some (1),some (1),some (1),some (5),some (5),some (1),some (1),some (1),some (1),some (1),some (1),some (1),some (1),some (2),some (2),some (1),some (1),some (1),some (1),some (1),some (1),some (1),some (1),some (1),some (1),some (1),some (1),some (1),some (1),some (1),some (1),some (256),some (256),some (1),some (1),some (1),some (1),some (1),some (1),some (1),some (1),some (1),some (1),some (1),some (1),some (3),some (3),some (1),some (1),some (1),some (1),some (3),some (3),some (1),some (1),some (32),some (64),some (1),some (1),some (1),some (1),some (1),some (1),some (1),some (1),some (1),some (1),some (4),some (4),some (1),some (1),some (1),some (1),some (1),some (1),some (1),some (1),some (1),some (1),some (1),some (1),some (1),some (1),some (1),some (256),some (2),some (2),some (32),some (1),some (2),some (1),some (4),some (4),some (0),some (0),some (0),some (1),some (1),some (1),some (1),some (1),some (1),some (11),some (11)]
def tbL:List (Option Nat):=[some (0),some (8),some (8),some (8),some (1),some (1),some (1),some (24),some (24),some (16),some (16),some (16),some (8),some (24),some (24),some (8),some (8),some (8),some (8),some (8),some (16),some (4),some (24),some (24),some (8),some (8),some (8),some (8),some (0),some (8),some (8),some (24),some (56),some (56),some (80),some (80),some (8),some (112),some (112),some (8),some (24),some (24),some (8),some (8),some (8),some (8),some (8),some (24),some (8),some (8),some (0),some (8),some (8),some (8),some (0),some (8),some (8),some (8),some (8),some (24),some (48),some (48),some (8),some (8),some (8),some (0),some (8),some (8),some (8),some (8),some (8),some (8),some (8),some (8),some (8),some (8),some (8),some (8),some (8),some (0),some (8),some (0),some (8),some (8),some (8),some (0),some (8),some (8),some (8),some (0),some (8),some (8),some (8),some (8),some (8),some (8),some (8),some (8),some (8),some (8),some (8),some (8),some (32),some (32),some (16),some (16),some (0),some (8),some (8),some (8),some (8),some (8),some (8),some (8),some (8),some (8),some (8),some (8),some (8),some (8),some (8),some (8),some (8),some (8),some (8),some (8),some (8),some (8),some (40),some (40),some (8),some (8),some (24),some (0),some (8),some (8),some (8),some (8),some (8),some (8),some (8),some (8),some (8),some (8),some (8),some (8),some (8),some (8),some (8),some (8),some (8),some (8),some (8),some (8),some (8),some (24),some (8),some (8),some (8),some (8),some (8),some (8),some (8),some (8),some (0),some (8),some (8),some (8),some (8),some (8),some (8),some (8),some (8),some (8),some (8),some (24),some (0),some (8),some (8),some (8),some (8),some (0),some (8),some (24),some (8),some (8),some (64),some (64),some (8),some (8),some (8),some (8),some (8),some (8),some (24),some (8),some (24),some (8),some (32),some (32),some (8),some (24),some (8),some (8),some (8),some (0),some (8),some (8),some (8),some (0),some (8),some (8),some (8),some (8),some (8),some (8),some (8),some (0),some (8),some (8),some (8),some (8),some (8),some (4),some (0),some (8),some (8),some (8),some (0),some (8),some (0),some (8),some (8),some (8),some (8),some (8),some (8),some (8),some (8),some (160),some (65),some (8),some (8),some (8),some (8),some (8),some (8),some (8),some (8),some (8),some (8),some (8),some (8),some (8),some (8),some (24),some (24),some (0),some (8),some (8),some (8),some (72),some (72),some (24),some (8),some (8),some (8),some (8),some (24),some (0),some (8),some (48),some (48),some (8),some (8),some (8),some (0),some (8),some (8),some (8),some (8),some (8),some (8),some (8),some (8),some (8),some (0),some (8),some (8),some (256),some (256),some (0),some (8),some (8),some (8),some (8),some (0),some (8),some (8),some (8),some (8),some (0),some (8),some (56),some (56),some (8),some (8),some (8),some (24),some (72),some (72),some (0),some (8),some (32),some (64),some (8),some (8),some (8),some (0),some (8),some (8),some (8),some (0),some (8),some (24),some (80),some (80),some (8),some (8),some (0),some (8),some (0),some (8),some (8),some (8),some (8),some (8),some (8),some (8),some (0),some (8),some (8),some (256),some (2),some (2),some (32),some (8),some (48),some (24),some (40),some (40),some (0),some (0),some (0),some (8),some (1),some (1),some (8),some (4),some (4),some (48),some (48)]
def taL:List (Option Bool):=[some (false),some (false),some (false),some (false),some (false),some (false),some (false),some (true),some (true),some (false),some (false),some (false),some (false),some (true),some (true),some (false),some (false),some (false),some (true),some (true),some (false),some (false),some (false),some (false),some (false),some (false),some (false),some (false),some (false),some (false),some (false),some (false),some (true),some (true),some (true),some (true),some (false),some (true),some (true),some (false),some (false),some (false),some (false),some (false),some (false),some (false),some (false),some (false),some (false),some (false),some (false),some (false),some (false),some (false),some (false),some (false),some (false),some (false),some (false),some (false),some (true),some (true),some (false),some (false),some (false),some (false),some (false),some (false),some (false),some (false),some (false),some (false),some (false),some (false),some (false),some (false),some (false),some (false),some (false),some (false),some (false),some (false),some (false),some (false),some (false),some (false),some (false),some (false),some (false),some (false),some (false),some (false),some (false),some (false),some (false),some (false),some (false),some (false),some (false),some (false),some (false),some (false),some (true),some (true),some (false),some (false),some (false),some (false),some (false),some (false),some (false),some (false),some (false),some (false),some (false),some (false),some (false),some (false),some (false),some (false),some (false),some (false),some (false),some (false),some (false),some (false),some (false),some (false),some (true),some (true),some (false),some (false),some (false),some (false),some (false),some (false),some (false),some (false),some (false),some (false),some (false),some (false),some (false),some (false),some (false),some (false),some (false),some (false),some (false),some (false),some (false),some (false),some (false),some (false),some (false),some (false),some (false),some (false),some (false),some (false),some (false),some (false),some (false),some (false),some (false),some (false),some (false),some (false),some (false),some (false),some (false),some (false),some (false),some (false),some (false),some (false),some (false),some (false),some (false),some (false),some (false),some (false),some (false),some (false),some (false),some (false),some (true),some (true),some (false),some (false),some (false),some (false),some (false),some (false),some (false),some (false),some (false),some (false),some (true),some (true),some (false),some (true),some (false),some (false),some (false),some (false),some (false),some (false),some (false),some (false),some (false),some (false),some (false),some (false),some (false),some (false),some (false),some (false),some (false),some (false),some (false),some (false),some (false),some (false),some (false),some (false),some (false),some (false),some (false),some (false),some (false),some (false),some (false),some (false),some (false),some (false),some (false),some (false),some (false),some (true),some (true),some (false),some (false),some (false),some (false),some (false),some (false),some (false),some (false),some (false),some (false),some (false),some (false),some (false),some (false),some (false),some (false),some (false),some (false),some (false),some (false),some (true),some (true),some (false),some (false),some (false),some (false),some (false),some (false),some (false),some (false),some (true),some (true),some (false),some (false),some (false),some (false),some (false),some (false),some (false),some (false),some (false),some (false),some (false),some (false),some (false),some (false),some (false),some (false),some (true),some (true),some (false),some (false),some (false),some (false),some (false),some (false),some (false),some (false),some (false),some (false),some (false),some (false),some (true),some (true),some (false),some (false),some (false),some (false),some (true),some (true),some (false),some (false),some (true),some (true),some (false),some (false),some (false),some (false),some (false),some (false),some (false),some (false),some (false),some (false),some (true),some (true),some (false),some (false),some (false),some (false),some (false),some (false),some (false),some (false),some (false),some (false),some (false),some (false),some (false),some (false),some (false),some (true),some (true),some (true),some (true),some (false),some (true),some (false),some (true),some (true),some (true),some (true),some (true),some (false),some (false),some (false),some (false),some (false),some (false),some (true),some (true)]
def kdL:List (Option Kd):=[some (.other),some (.other),some (.int .i64),some (.int .i64),some (.bool),some (.int .u8),some (.int .u8),some (.st [(0,2),(1,3),(2,4),(3,6)]),some (.st [(0,2),(1,3),(2,4),(3,6)]),some (.str),some (.str),some (.str),some (.int .u64),some (.st [(0,9),(1,12)]),some (.st [(0,9),(1,12)]),some (.other),some (.other),some (.other),some (.st [(0,17)]),some (.st [(0,17)]),some (.other),some (.int .i32),some (.sl 35),some (.sl 38),some (.other),some (.other),some (.other),some (.int .i64),some (.other),some (.other),some (.other),some (.sl 33),some (.st [(0,3),(1,9),(2,3),(3,31)]),some (.st [(0,3),(1,9),(2,3),(3,31)]),some (.st [(0,31),(1,33)]),some (.st [(0,31),(1,33)]),some (.other),some (.st [(0,33),(4,33)]),some (.st [(0,33),(4,33)]),some (.other),some (.sl 41),some (.sl 5),some (.other),some (.other),some (.other),some (.other),some (.other),some (.sl 3),some (.other),some (.other),some (.other),some (.other),some (.other),some (.other),some (.other),some (.other),some (.other),some (.other),some (.other),some (.sl 9),some (.st [(0,59),(1,59)]),some (.st [(0,59),(1,59)]),some (.other),some (.other),some (.other),some (.other),some (.other),some (.other),some (.other),some (.other),some (.other),some (.other),some (.other),some (.other),some (.other),some (.other),some (.other),some (.other),some (.other),some (.other),some (.other),some (.other),some (.other),some (.other),some (.other),some (.other),some (.other),some (.other),some (.other),some (.other),some (.other),some (.other),some (.other),some (.other),some (.other),some (.mp 9 4),some (.other),some (.other),some (.other),some (.other),some (.other),some (.other),some (.st [(0,101),(1,41)]),some (.st [(0,101),(1,41)]),some (.other),some (.other),some (.other),some (.other),some (.other),some (.other),some (.other),some (.other),some (.other),some (.other),some (.other),some (.other),some (.other),some (.mp 3 3),some (.other),some (.other),some (.other),some (.other),some (.other),some (.other),some (.other),some (.other),some (.other),some (.other),some (.st [(0,9),(1,3),(2,3),(3,3)]),some (.st [(0,9),(1,3),(2,3),(3,3)]),some (.other),some (.other),some (.sl 33),some (.other),some (.other),some (.other),some (.other),some (.other),some (.other),some (.other),some (.other),some (.other),some (.other),some (.other),some (.other),some (.other),some (.other),some (.other),some (.other),some (.other),some (.other),some (.other),some (.other),some (.other),some (.other),some (.sl 129),some (.other),some (.other),some (.other),some (.other),some (.other),some (.other),some (.other),some (.other),some (.other),some (.other),some (.other),some (.other),some (.other),some (.other),some (.other),some (.other),some (.other),some (.other),some (.other),some (.sl 187),some (.other),some (.other),some (.other),some (.other),some (.other),some (.other),some (.other),some (.sl 31),some (.other),some (.other),some (.st [(0,33),(4,3)]),some (.st [(0,33),(4,3)]),some (.other),some (.other),some (.int .u64),some (.other),some (.other),some (.mp 9 3),some (.sl 199),some (.other),some (.sl 4),some (.other),some (.st [(0,47),(1,3)]),some (.st [(0,47),(1,3)]),some (.other),some (.arr 24 5),some (.int .u64),some (.other),some (.other),some (.other),some (.other),some (.other),some (.other),some (.other),some (.other),some (.other),some (.other),some (.other),some (.other),some (.other),some (.int .i64),some (.other),some (.other),some (.other),some (.other),some (.other),some (.other),some (.int .u32),some (.other),some (.other),some (.other),some (.other),some (.other),some (.other),some (.other),some (.other),some (.other),some (.other),some (.other),some (.other),some (.other),some (.other),some (.other),some (.arr 20 202),some (.arr 65 5),some (.other),some (.other),some (.other),some (.other),some (.other),some (.int .u64),some (.other),some (.other),some (.other),some (.other),some (.other),some (.other),some (.other),some (.other),some (.sl 202),some (.sl 202),some (.other),some (.other),some (.other),some (.mp 3 256),some (.st [(0,31),(1,3),(2,260),(3,260),(4,47)]),some (.st [(0,31),(1,3),(2,260),(3,260),(4,47)]),some (.sl 175),some (.other),some (.other),some (.other),some (.other),some (.sl 272),some (.other),some (.other),some (.st [(0,31),(1,47)]),some (.st [(0,31),(1,47)]),some (.other),some (.other),some (.other),some (.other),some (.other),some (.other),some (.other),some (.other),some (.other),some (.other),some (.other),some (.other),some (.other),some (.other),some (.other),some (.other),some (.arr 256 4),some (.arr 256 4),some (.other),some (.other),some (.other),some (.other),some (.other),some (.other),some (.other),some (.other),some (.other),some (.other),some (.other),some (.other),some (.st [(0,47),(1,47),(2,4)]),some (.st [(0,47),(1,47),(2,4)]),some (.other),some (.other),some (.other),some (.sl 47),some (.st [(0,31),(1,308),(2,47)]),some (.st [(0,31),(1,308),(2,47)]),some (.other),some (.other),some (.arr 32 5),some (.arr 64 5),some (.other),some (.other),some (.other),some (.other),some (.other),some (.other),some (.other),some (.other),some (.other),some (.sl 300),some (.st [(0,31),(1,324),(2,47),(3,4)]),some (.st [(0,31),(1,324),(2,47),(3,4)]),some (.other),some (.other),some (.other),some (.other),some (.other),some (.other),some (.other),some (.other),some (.other),some (.other),some (.other),some (.other),some (.other),some (.other),some (.other),some (.arr 256 5),some (.st [(0,5),(1,5)]),some (.st [(0,5),(1,5)]),some (.arr 16 344),some (.other),some (.arr 2 47),some (.sl 347),some (.st [(0,17),(1,17),(2,17),(3,9)]),some (.st [(0,17),(1,17),(2,17),(3,9)]),some (.arr 0 16),some (.st [(0,351)]),some (.st [(0,351)]),some (.other),some (.int .u8),some (.int .u8),some (.other),some (.int .i32),some (.int .i32),some (.st [(0,12),(1,12),(2,223),(3,355),(4,5),(5,5),(6,356),(7,357),(8,147),(9,358),(10,359)]),some (.st [(0,12),(1,12),(2,223),(3,355),(4,5),(5,5),(6,356),(7,357),(8,147),(9,358),(10,359)])]
def tzL:List (Option PV):=[none,some (.aG),some (.int .i64 (0)),some (.int .i64 (0)),some (.bool false),some (.int .u8 (0)),some (.int .u8 (0)),some (.agg [.int .i64 (0),.int .i64 (0),.bool false,.int .u8 (0)]),some (.agg [.int .i64 (0),.int .i64 (0),.bool false,.int .u8 (0)]),some (.str ByteArray.empty),some (.str ByteArray.empty),some (.str ByteArray.empty),some (.int .u64 (0)),some (.agg [.str ByteArray.empty,.int .u64 (0)]),some (.agg [.str ByteArray.empty,.int .u64 (0)]),some (.ek),some (.ek),some (.ek),some (.agg [.ek]),some (.agg [.ek]),none,some (.int .i32 (0)),some (.aa true []),some (.aa true []),some (.aG),some (.aG),some (.aG),some (.int .i64 (0)),none,some (.aG),some (.aG),some (.aa true []),some (.agg [.int .i64 (0),.str ByteArray.empty,.int .i64 (0),.aa true []]),some (.agg [.int .i64 (0),.str ByteArray.empty,.int .i64 (0),.aa true []]),some (.agg [.aa true [],.int .i64 (0),.str ByteArray.empty,.int .i64 (0),.aa true []]),some (.agg [.aa true [],.int .i64 (0),.str ByteArray.empty,.int .i64 (0),.aa true []]),some (.aG),some (.agg [.int .i64 (0),.str ByteArray.empty,.int .i64 (0),.aa true [],.int .i64 (0),.str ByteArray.empty,.int .i64 (0),.aa true []]),some (.agg [.int .i64 (0),.str ByteArray.empty,.int .i64 (0),.aa true [],.int .i64 (0),.str ByteArray.empty,.int .i64 (0),.aa true []]),some (.aG),some (.aa true []),some (.aa true []),some (.aG),some (.aG),some (.aG),some (.aG),some (.aG),some (.aa true []),some (.aG),some (.aG),none,some (.aG),some (.aG),some (.aG),none,some (.aG),some (.aG),some (.aG),some (.aG),some (.aa true []),some (.agg [.aa true [],.aa true []]),some (.agg [.aa true [],.aa true []]),some (.aG),some (.aG),some (.aG),none,some (.aG),some (.aG),some (.aG),some (.aG),some (.aG),some (.aG),some (.aG),some (.aG),some (.aG),some (.aG),some (.aG),some (.aG),some (.aG),none,some (.aG),none,some (.aG),some (.aG),some (.aG),none,some (.aG),some (.aG),some (.aG),none,some (.aG),some (.aG),some (.aG),some (.aG),some (.aG),some (.gm),some (.aG),some (.aG),some (.aG),some (.aG),some (.aG),some (.ek),some (.agg [.ek,.aa true []]),some (.agg [.ek,.aa true []]),none,none,none,some (.aG),some (.aG),some (.aG),some (.aG),some (.aG),some (.aG),some (.aG),some (.aG),some (.aG),some (.aG),some (.gm),some (.aG),some (.aG),some (.aG),some (.aG),some (.aG),some (.aG),some (.aG),some (.aG),some (.aG),some (.aG),some (.agg [.str ByteArray.empty,.int .i64 (0),.int .i64 (0),.int .i64 (0)]),some (.agg [.str ByteArray.empty,.int .i64 (0),.int .i64 (0),.int .i64 (0)]),some (.aG),some (.aG),some (.aa true []),none,some (.aG),some (.aG),some (.aG),some (.aG),some (.aG),some (.aG),some (.aG),some (.aG),some (.aG),some (.aG),some (.aG),some (.aG),some (.aG),some (.ek),some (.aG),some (.aG),some (.aG),some (.aG),some (.aG),some (.aG),some (.ek),some (.aa true []),some (.aG),some (.aG),some (.aG),some (.aG),some (.aG),some (.aG),some (.aG),some (.aG),none,some (.aG),some (.aG),some (.aG),some (.aG),some (.aG),some (.aG),some (.ek),some (.aG),some (.aG),some (.aG),some (.aa true []),none,some (.aG),some (.aG),some (.aG),some (.aG),none,some (.aG),some (.aa true []),some (.aG),some (.aG),some (.agg [.int .i64 (0),.str ByteArray.empty,.int .i64 (0),.aa true [],.int .i64 (0)]),some (.agg [.int .i64 (0),.str ByteArray.empty,.int .i64 (0),.aa true [],.int .i64 (0)]),some (.aG),some (.aG),some (.int .u64 (0)),some (.aG),some (.aG),some (.gm),some (.aa true []),some (.aG),some (.aa true []),some (.aG),some (.agg [.aa true [],.int .i64 (0)]),some (.agg [.aa true [],.int .i64 (0)]),some (.aG),none,some (.int .u64 (0)),some (.aG),some (.aG),none,some (.aG),some (.aG),some (.aG),none,some (.aG),some (.aG),some (.aG),some (.aG),some (.aG),some (.aG),some (.int .i64 (0)),none,some (.aG),some (.aG),some (.aG),some (.aG),some (.aG),some (.int .u32 (0)),none,some (.aG),some (.aG),some (.aG),none,some (.aG),none,some (.aG),some (.aG),some (.aG),some (.aG),some (.aG),some (.aG),some (.aG),some (.aG),none,none,some (.aG),some (.aG),some (.aG),some (.aG),some (.aG),some (.int .u64 (0)),some (.aG),some (.aG),some (.aG),some (.aG),some (.aG),some (.aG),some (.ek),some (.aG),some (.aa true []),some (.aa true []),none,some (.aG),some (.aG),some (.gm),some (.agg [.aa true [],.int .i64 (0),.gm,.gm,.aa true []]),some (.agg [.aa true [],.int .i64 (0),.gm,.gm,.aa true []]),some (.aa true []),some (.aG),some (.aG),some (.aG),some (.aG),some (.aa true []),none,some (.aG),some (.agg [.aa true [],.aa true []]),some (.agg [.aa true [],.aa true []]),some (.aG),some (.aG),some (.aG),none,some (.aG),some (.ek),some (.aG),some (.aG),some (.aG),some (.aG),some (.aG),some (.aG),some (.ek),none,some (.aG),some (.aG),none,none,none,some (.aG),some (.aG),some (.ek),some (.aG),none,some (.aG),some (.aG),some (.ek),some (.ek),none,some (.aG),some (.agg [.aa true [],.aa true [],.bool false]),some (.agg [.aa true [],.aa true [],.bool false]),some (.aG),some (.aG),some (.aG),some (.aa true []),some (.agg [.aa true [],.aa true [],.aa true []]),some (.agg [.aa true [],.aa true [],.aa true []]),none,some (.aG),none,none,some (.aG),some (.aG),some (.aG),none,some (.aG),some (.aG),some (.aG),none,some (.aG),some (.aa true []),some (.agg [.aa true [],.aa true [],.aa true [],.bool false]),some (.agg [.aa true [],.aa true [],.aa true [],.bool false]),some (.aG),some (.aG),none,some (.aG),none,some (.aG),some (.aG),some (.aG),some (.aG),some (.aG),some (.aG),some (.aG),none,some (.aG),some (.aG),none,some (.agg [.int .u8 (0),.int .u8 (0)]),some (.agg [.int .u8 (0),.int .u8 (0)]),none,some (.aG),some (.agg [.aa true [],.aa true []]),some (.aa true []),some (.agg [.ek,.ek,.ek,.str ByteArray.empty]),some (.agg [.ek,.ek,.ek,.str ByteArray.empty]),some (.agg []),some (.agg []),some (.agg []),some (.aG),some (.int .u8 (0)),some (.int .u8 (0)),some (.aG),some (.int .i32 (0)),some (.int .i32 (0)),some (.agg [.int .u64 (0),.int .u64 (0),.int .u32 (0),.int .u8 (0),.int .u8 (0),.int .u8 (0),.int .u8 (0),.aG,.ek,.int .i32 (0),.int .i32 (0)]),some (.agg [.int .u64 (0),.int .u64 (0),.int .u32 (0),.int .u8 (0),.int .u8 (0),.int .u8 (0),.int .u8 (0),.aG,.ek,.int .i32 (0),.int .i32 (0)])]
def tN:Nat:=362
theorem Zz:(List.range tN).map (cu C.P)=tsL:=by kernel_rfl
theorem ZA:(List.range tN).map (Hl C.P)=taL:=by kernel_rfl
theorem ZB:(List.range tN).map (mb C.P)=tbL:=by kernel_rfl
theorem ZC:(List.range tN).map (λt=>(C.P.underlying t).map og)=kdL:=by kernel_rfl
theorem ZD:(List.range tN).map (λt=>if(tzL.getD t none).isSome then iQ C.P t else none)=tzL:=by kernel_rfl
theorem x3{α:Type}{f:Nat->Option α}{l:List (Option α)}(h:(List.range tN).map f=l)(t:Nat)(n:α)(e:(l[t]?).bind id=some n):f t=some n:=by
 subst h;rw[aaj]at e
 cases hr:(List.range tN)[t]? with
 |none=>rw[hr]at e;simp at e
 |some k=>
  rw[hr]at e
  have hk:k=t:=by
   have:=abZ.1 hr;obtain⟨h1,h2⟩:=this;simp at h2;exact h2.symm
  subst hk;simpa using e
def T6:lL C.P where
 ts t:=(tsL[t]?).bind id
 ta t:=(taL[t]?).bind id
 tb t:=(tbL[t]?).bind id
 kd t:=(kdL[t]?).bind id
 tz t:=(tzL[t]?).bind id
 dT:=x3 Zz
 MD:=x3 ZA
 rI:=x3 ZB
 cU:=x3 ZC
 na t n e:=by
  have:=x3 ZD t n e
  split at this
  ·exact this
  ·cases this
inductive Tm where
 |mk (kind:Int) (name:ByteArray) (sort:Int) (kids:List Tm)
def Tm.kids:Tm->List Tm | .mk _ _ _ k=>k
mutual
def enc:Tm->PV
 | .mk k s o l=>.agg [.int .i64 k,.str s,.int .i64 o,.aa false (ae l)]
def ae:List Tm->List PV
 |[]=>[]
 |t::l=>enc t::ae l
end
mutual
theorem qf:∀t,aV (enc t)=true
 | .mk k s o l=>by simp[enc,aV,ao]
end
theorem fa(l:List Tm):ao (ae l)=true:=by
 induction l with
 |nil=>rfl
 |cons t l ih=>simp[ae,ao,qf,ih]
mutual
theorem vB:∀t,cf (enc t)=enc t
 | .mk k s o l=>by simp[enc,cf,aQ,ba l]
theorem ba:∀l,aQ (ae l)=ae l
 |[]=>rfl
 |t::l=>by simp[ae,aQ,vB t,ba l]
end
theorem aj(l:List Tm):(ae l).length=l.length:=by
 induction l with
 |nil=>rfl
 |cons t l ih=>simp[ae,ih]
theorem cZ(l:List Tm):ae l=l.map enc:=by
 induction l with
 |nil=>rfl
 |cons t l ih=>simp[ae,ih]
theorem PH(t:Tm):∃a b c d,enc t=.agg [a,b,c,d]:=by cases t;exact⟨_,_,_,_,by rw[enc]⟩
mutual
def ay:Tm->Nat
 | .mk k s o l=>1+s.size+bF l
def bF:List Tm->Nat
 |[]=>0
 |t::l=>ay t+bF l
end
theorem DH(t:Tm):0<ay t:=by cases t;simp[ay];omega
theorem bE(l:List Tm):l.length<=bF l:=by
 induction l with
 |nil=>simp
 |cons t l ih=>have:=DH t;simp[bF];omega
theorem bS{l:List Tm}{t:Tm}(h:t∈l):ay t<=bF l:=by
 induction l with
 |nil=>cases h
 |cons u l ih=>
  simp only[bF];rcases Z'.1 h with rfl |h
  ·omega
  ·have:=ih h;omega
theorem Tm.ind{P:Tm->Prop}(h:∀k s o l,(∀t∈l,P t)->P (.mk k s o l)):∀t,P t:=by
 intro t
 have key:∀n t,ay t<=n->P t:=by
  intro n
  induction n with
  |zero=>intro t ht;have:=DH t;omega
  |succ n ih=>
   intro t ht
   obtain⟨k,s,o,l⟩:=t;refine h k s o l (λu hu=>ih u ?_);have:=bS hu;simp[ay]at ht;omega
 exact key (ay t) t (Z5 _)
theorem PI{l:List Tm}{i:Nat}(hc:(i:Int)<((ae l).length:Int)):∃t a1 a2 a3 a4,t∈l/\enc t=.agg [a1,a2,a3,a4]/\(ae l)[i]?=some (.agg [a1,a2,a3,a4])/\l.drop i=t::l.drop (i+1)/\i<l.length/\l[i]?=some t:=by
 have nt:i<l.length:=by have:=aj l;omega
 obtain⟨a1,a2,a3,a4,ha⟩:=PH l[i];refine⟨l[i],a1,a2,a3,a4,aay nt,ha,?_,abB nt,nt,Z3 nt⟩;rw[cZ,aaj,Z3 nt,<-ha]
 rfl
theorem jX{l:List Tm}{i:Nat}(hc:¬(i:Int)<((ae l).length:Int)):l.drop i=[]:=aaz (by have:=aj l;omega)
theorem bj(k:Int)(s:ByteArray)(o:Int)(l:List Tm):enc (.mk k s o l)=.agg [.int .i64 k,.str s,.int .i64 o,.aa false (ae l)]:=by rw[enc]
theorem ga{l:List Tm}{i:Nat}(hc:(i:Int)<((ae l).length:Int)):∃k s o l',.mk k s o l'∈l/\(ae l)[i]?=some (.agg [.int .i64 k,.str s,.int .i64 o,.aa false (ae l')])/\l.drop i=.mk k s o l'::l.drop (i+1)/\i<l.length/\l[i]?=some (.mk k s o l'):=by
 obtain⟨t,a1,a2,a3,a4,h1,h2,h3,h4,h5,h6⟩:=PI hc;obtain⟨k,s,o,l'⟩:=t;rw[bj]at h2;exact⟨k,s,o,l',h1,by rw[h3,<-h2],h4,h5,h6⟩
mutual
def size:Tm->Int
 | .mk _ _ _ l=>1+dN l
def dN:List Tm->Int
 |[]=>0
 |t::l=>size t+dN l
end
mutual
theorem gr:∀t,0<size t/\size t<=(ay t:Int)
 | .mk k s o l=>by
  have:=c8 l;simp only[size,ay];omega
theorem c8:∀l,0<=dN l/\dN l<=(bF l:Int)
 |[]=>by simp[dN,bF]
 |t::l=>by
  have h1:=gr t;have h2:=c8 l;simp only[dN,bF];omega
end
def fg(a b:Int):Int:=if a<b then -1 else if b<a then 1 else 0
mutual
def aU:Tm->Tm->Int
 | .mk k s o l,.mk k' s' o' l'=>
  if fg (size (.mk k s o l)) (size (.mk k' s' o' l'))≠0 then fg (size (.mk k s o l)) (size (.mk k' s' o' l'))else
  if fg k k'≠0 then fg k k' else
  if Op.bytesLess s.toList s'.toList=true then -1 else
  if(!(Op.bytesLess s.toList s'.toList ||s.toList==s'.toList))=true then 1 else
  if fg o o'≠0 then fg o o' else
  if fg l.length l'.length≠0 then fg l.length l'.length else lM l l'
def lM:List Tm->List Tm->Int
 |[],_=>0
 |_::_,[]=>0
 |t::l,t'::l'=>if aU t t'≠0 then aU t t' else lM l l'
end
def lG(x y:Int):Int:=if x≠0 then x else y
def eQ:List UInt8->List UInt8->Int:=Lib.compareBytes
theorem MQ:∀a b:List UInt8,Op.bytesLess a b=decide (eQ a b<0)/\((a==b)=decide (eQ a b=0))
 |[],[]=>by simp[Op.bytesLess,eQ,Lib.compareBytes]
 |[],_::_=>by simp[Op.bytesLess,eQ,Lib.compareBytes]
 |_::_,[]=>by simp[Op.bytesLess,eQ,Lib.compareBytes]
 |a::x,b::y=>by
  obtain⟨h1,h2⟩:=MQ x y;have hc:eQ (a::x) (b::y)=if a<b then -1 else if b<a then 1 else eQ x y:=rfl
  have key:a<b\/b<a\/a=b:=by
   rcases abr a.toNat b.toNat with h |h |h
   ·exact .inl (aa5.2 h)
   ·exact .inr (.inr (UInt8.toNat_inj.1 h))
   ·exact .inr (.inl (aa5.2 h))
  have asym:∀p q:UInt8,p<q->¬q<p:=λp q h1 h2=>by
   have:=aa5.1 h1;have:=aa5.1 h2;omega
  have irr:∀p:UInt8,¬p<p:=λp h1=>asym p p h1 h1
  rcases key with h |h |h
  ·have bJ:a≠b:=λe=>irr b (e▸h)
   rw[hc,if_pos h];simp[Op.bytesLess,h,bJ]
  ·have bJ:a≠b:=λe=>irr b (e▸h)
   have hn:=asym _ _ h;rw[hc,if_neg hn,if_pos h];simp[Op.bytesLess,hn,bJ]
  ·subst h;rw[hc,if_neg (irr a),if_neg (irr a)];simp only[Op.bytesLess,h1,irr,decide_false,abA,BEq.rfl,abd,true_and];rw[<-h2];simp[List.cons_beq_cons]
structure PF(x y z:Int):Prop where
 e1:x=0->z=y
 e2:y=0->z=x
 lt:x<0->y<0->z<0
theorem PF.lex{x y z x' y' z':Int}(a:PF x y z)(b:x=0->y=0->PF x' y' z'):PF (lG x x') (lG y y') (lG z z'):=by
 obtain⟨e1,e2,lt⟩:=a;unfold lG
 by_cases hx:x=0 <;>by_cases hy:y=0
 ·have hz:z=0:=by rw[e1 hx,hy]
  rw[if_neg (by simp[hx]),if_neg (by simp[hy]),if_neg (by simp[hz])];exact b hx hy
 ·have hz:z=y:=e1 hx;rw[if_neg (by simp[hx]),if_pos hy,hz,if_pos hy];exact⟨λ_=>rfl,λh=>absurd h hy,λ_ h=>h⟩
 ·have hz:z=x:=e2 hy;rw[if_neg (by simp[hy]:¬y≠0),if_pos hx,hz,if_pos hx];exact⟨λh=>absurd h hx,λ_=>rfl,λh _=>h⟩
 ·rw[if_pos hx,if_pos hy];refine⟨λh=>absurd h hx,λh=>absurd h hy,λh1 h2=>?_⟩;have:=lt h1 h2;rw[if_pos (by omega)];exact this
theorem qg(x y:Int):lG (-x) (-y)=- lG x y:=by unfold lG;split <;>split <;>omega
theorem MR{x y:Int}:lG x y=0↔x=0/\y=0:=by unfold lG;split <;>omega
theorem jO{x y:Int}(h:lG x y=0):x=0/\y=0:=MR.1 h
theorem pK(a b c:Int):PF (fg a b) (fg b c) (fg a c):=by
 unfold fg
 constructor <;>(repeat' split) <;>omega
theorem pL(a b:Int):fg b a=- fg a b:=by unfold fg;(repeat' split) <;>omega
theorem iM{a b:Int}(h:fg a b=0):a=b:=by unfold fg at h;(repeat' split at h) <;>omega
theorem MS(a b:Int):fg a b=-1\/fg a b=0\/fg a b=1:=by unfold fg;(repeat' split) <;>omega
theorem iz(a b:UInt8)(x y:List UInt8):eQ (a::x) (b::y)=lG (fg a.toNat b.toNat) (eQ x y):=by
 have hc:eQ (a::x) (b::y)=if a<b then -1 else if b<a then 1 else eQ x y:=rfl;rw[hc]
 by_cases h1:a<b
 ·have:=aa5.1 h1;have e:fg a.toNat b.toNat=-1:=by unfold fg;rw[if_pos (by omega)]
  rw[if_pos h1,e];rfl
 ·by_cases h2:b<a
  ·have:=aa5.1 h2;have e:fg a.toNat b.toNat=1:=by unfold fg;rw[if_neg (by omega),if_pos (by omega)]
   rw[if_neg h1,if_pos h2,e];rfl
  ·have NT:¬a.toNat<b.toNat:=λh=>h1 (aa5.2 h)
   have h2':¬b.toNat<a.toNat:=λh=>h2 (aa5.2 h)
   have e:fg a.toNat b.toNat=0:=by unfold fg;rw[if_neg (by omega),if_neg (by omega)]
   rw[if_neg h1,if_neg h2,e];rfl
theorem Ad:∀a b c:List UInt8,PF (eQ a b) (eQ b c) (eQ a c)
 |[],[],[]=>by constructor <;>decide
 |[],[],_::_=>by constructor <;>intros <;>simp_all[eQ,Lib.compareBytes]
 |[],_::_,[]=>by constructor <;>intros <;>simp_all[eQ,Lib.compareBytes]
 |[],b::y,c::z=>by
  have e1:eQ [] (b::y)=-1:=rfl;have e2:eQ [] (c::z)=-1:=rfl;rw[e1,e2]
  constructor <;>intros <;>omega
 |_::_,[],[]=>by constructor <;>intros <;>simp_all[eQ,Lib.compareBytes]
 |a::x,[],c::z=>by
  have e1:eQ (a::x) []=1:=rfl;have e2:eQ [] (c::z)=-1:=rfl;rw[e1,e2]
  constructor <;>intros <;>omega
 |a::x,b::y,[]=>by
  have e1:eQ (a::x) []=1:=rfl;have e2:eQ (b::y) []=1:=rfl;rw[e1,e2]
  constructor <;>intros <;>omega
 |a::x,b::y,c::z=>by
  rw[iz,iz,iz];exact(pK _ _ _).lex (λ_ _=>Ad x y z)
theorem Ae:∀a b:List UInt8,eQ b a=- eQ a b
 |[],[]=>rfl
 |[],_::_=>rfl
 |_::_,[]=>rfl
 |a::x,b::y=>by rw[iz,iz,Ae x y,pL a.toNat b.toNat,qg]
theorem x0:∀{a b:List UInt8},eQ a b=0->a=b
 |[],[],_=>rfl
 |[],_::_,h=>by cases h
 |_::_,[],h=>by cases h
 |a::x,b::y,h=>by
  rw[iz]at h;obtain⟨h1,h2⟩:=jO h;have:=iM h1;rw[x0 h2,UInt8.toNat_inj.1 (by omega:a.toNat=b.toNat)]
def Bp(s s':ByteArray):Int:=eQ s.toList s'.toList
theorem Af:∀a b:List UInt8,eQ a b=-1\/eQ a b=0\/eQ a b=1
 |[],[]=>.inr (.inl rfl)
 |[],_::_=>.inl rfl
 |_::_,[]=>.inr (.inr rfl)
 |a::x,b::y=>by
  rw[iz];have h1:=MS a.toNat b.toNat;have h2:=Af x y;unfold lG
  split <;>omega
theorem GP{a b:ByteArray}(h:a.toList=b.toList):a=b:=by
 rw[ByteArray.toList_eq,ByteArray.toList_eq]at h
 cases a;cases b
 simp at h;subst h
 rfl
theorem lH(k s o l k' s' o' l'):aU (.mk k s o l) (.mk k' s' o' l')=lG (fg (size (.mk k s o l)) (size (.mk k' s' o' l'))) (lG (fg k k') (lG (Bp s s') (lG (fg o o') (lG (fg l.length l'.length) (lM l l'))))):=by
 rw[aU];obtain⟨b1,b2⟩:=MQ s.toList s'.toList;have b3:=Af s.toList s'.toList;rw[b1,b2];unfold lG Bp
 split
 ·rfl
 ·split
  ·rfl
  ·rcases b3 with b3 |b3 |b3
   ·rw[if_pos (by simp[b3])];simp[b3]
   ·rw[if_neg (by simp[b3]),if_neg (by simp[b3])];simp[b3]
   ·rw[if_neg (by simp[b3]),if_pos (by simp[b3])];simp[b3]
theorem lI(t t' l l'):lM (t::l) (t'::l')=lG (aU t t') (lM l l'):=by rw[lM];rfl
theorem DD:∀{l l':List Tm},l.length=l'.length->(∀t∈l,∀t',aU t' t=- aU t t')->lM l' l=- lM l l'
 |[],[],_,_=>by simp[lM]
 |t::l,t'::l',hl,h=>by
  rw[lI,lI,h t (by simp) t',DD (by simpa using hl) (λu hu=>h u (by simp[hu])),qg]
theorem ee(t:Tm):∀t',aU t' t=- aU t t':=by
 induction t using Tm.ind with
 |h k s o l ih=>
  rintro⟨k',s',o',l'⟩;rw[lH,lH,pL (size (.mk k s o l)),pL k,show Bp s' s=- Bp s s' from Ae _ _,pL o,pL (l.length:Int)];rw[<-qg,<-qg,<-qg,<-qg]
  congr 4
  unfold lG
  split
  ·rw[if_pos (by omega)]
  ·rename_i h
   rw[if_neg (by omega)];refine DD ?_ ih;have h':fg (l.length:Int) l'.length=0:=by omega
   have:=iM h';omega
theorem Ag:∀{l l':List Tm},l.length=l'.length->(∀t∈l,∀t',aU t t'=0->t=t')->lM l l'=0->l=l'
 |[],[],_,_,_=>rfl
 |t::l,t'::l',hl,h,e=>by
  rw[lI]at e;obtain⟨e1,e2⟩:=jO e;rw[h t (by simp) t' e1,Ag (by simpa using hl) (λu hu=>h u (by simp[hu])) e2]
theorem dx{t:Tm}:∀{t':Tm},aU t t'=0->t=t':=by
 induction t using Tm.ind with
 |h k s o l ih=>
  rintro⟨k',s',o',l'⟩ h;rw[lH]at h;obtain⟨_,h⟩:=jO h;obtain⟨h1,h⟩:=jO h;obtain⟨h2,h⟩:=jO h;obtain⟨h3,h⟩:=jO h;obtain⟨h4,h⟩:=jO h;have h4':=iM h4;rw[iM h1,GP (x0 h2),iM h3,Ag (by omega) (λt ht t' e=>ih t ht e) h]
theorem dI(t:Tm):aU t t=0:=by have:=ee t t;omega
theorem DE:∀{l l' Yc:List Tm},l.length=l'.length->l'.length=Yc.length->(∀t∈l,∀t' T7,PF (aU t t') (aU t' T7) (aU t T7))->PF (lM l l') (lM l' Yc) (lM l Yc)
 |[],[],[],_,_,_=>by simp[lM];constructor <;>omega
 |t::l,t'::l',T7::Yc,h1,h2,h=>by
  rw[lI,lI,lI];exact(h t (by simp) t' T7).lex (λ_ _=>DE (by simpa using h1) (by simpa using h2) (λu hu=>h u (by simp[hu])))
theorem MT(t:Tm):∀t' T7,PF (aU t t') (aU t' T7) (aU t T7):=by
 induction t using Tm.ind with
 |h k s o l ih=>
  rintro⟨k',s',o',l'⟩ ⟨k2,s2,o2,l2⟩;rw[lH,lH,lH];refine(pK _ _ _).lex λ_ _=>(pK _ _ _).lex λ_ _=>(Ad _ _ _).lex λ_ _=>(pK _ _ _).lex λ_ _=>(pK _ _ _).lex λh1 h2=>?_;have NT:=iM h1;have h2':=iM h2;exact DE (by omega) (by omega) ih
theorem dR{a b c:Tm}(h1:aU a b<0)(h2:aU b c<0):aU a c<0:=(MT a b c).lt h1 h2
abbrev Pw:=Tm×Int
def vL:Pw->PV
 |(.mk k s o l,n)=>.agg [.int .i64 k,.str s,.int .i64 o,.aa false (ae l),.int .i64 n]
def bh(l:List Pw):List PV:=l.map vL
def FB(t:Tm)(n:Int):Bool->List Pw->List Pw
 |d,[]=>if d then[]else[(t,n)]
 |d,p::l=>(if d=false/\aU t p.1<0 then[(t,n)]else[])++((if(if aU t p.1=0 then p.2+n else p.2)≠0 then[(p.1,if aU t p.1=0 then p.2+n else p.2)]else[])++FB t n (d ||decide (aU t p.1<=0)) l)
def jq(t:Tm)(n:Int):List Pw->List Pw
 |[]=>[(t,n)]
 |p::l=>if aU p.1 t<0 then p::jq t n l else if aU p.1 t=0 then(if p.2+n=0 then l else(p.1,p.2+n)::l)else(t,n)::p::l
def As(l:List Pw):Prop:=l.Pairwise λp q=>aU p.1 q.1<0
def Nz(l:List Pw):Prop:=∀p∈l,p.2≠0
theorem tI(t:Tm)(n:Int):∀(l:List Pw),Nz l->(∀p∈l,aU t p.1<0)->FB t n true l=l
 |[],_,_=>rfl
 |p::l,h1,h2=>by
  have e:=h2 p (by simp);have z:=h1 p (by simp);have ih:=tI t n l (λq hq=>h1 q (by simp[hq])) (λq hq=>h2 q (by simp[hq]));simp only[FB,aaG,false_and,if_false,aaL,ab3,ih];rw[if_neg (show¬aU t p.1=0 by omega),if_pos z]
  rfl
theorem Ds(t:Tm)(n:Int):∀(l:List Pw),As l->Nz l->FB t n false l=jq t n l
 |[],_,_=>by simp[FB,jq]
 |p::l,h1,h2=>by
  have z:=h2 p (by simp);obtain⟨s1,s2⟩:=aal.1 h1;have nz:Nz l:=λq hq=>h2 q (by simp[hq])
  have ng:=ee p.1 t;rw[FB,jq]
  by_cases c1:aU p.1 t<0
  ·rw[if_pos c1,if_neg (by omega),if_neg (show¬aU t p.1=0 by omega),if_pos z,show(false ||decide (aU t p.1<=0))=false by simp;omega,Ds t n l s2 nz]
   rfl
  ·by_cases c2:aU p.1 t=0
   ·have e:=dx c2;have hd:=tI t n l nz (λq hq=>by rw[<-e];exact s1 q hq);rw[if_neg c1,if_pos c2,if_neg (by omega),if_pos (show aU t p.1=0 by omega),show(false ||decide (aU t p.1<=0))=true by simp;omega,hd]
    by_cases c3:p.2+n=0
    ·rw[if_pos c3,if_neg (by omega)];rfl
    ·rw[if_neg c3,if_pos c3];rfl
   ·have hd:=tI t n l nz (λq hq=>dR (show aU t p.1<0 by omega) (s1 q hq));rw[if_neg c1,if_neg c2,if_pos ⟨rfl,by omega⟩,if_neg (show¬aU t p.1=0 by omega),if_pos z,show(false ||decide (aU t p.1<=0))=true by simp;omega,hd]
    rfl
theorem vM{t:Tm}{n:Int}:∀{l:List Pw} {p:Pw},p∈jq t n l->p.1=t\/∃q∈l,q.1=p.1
 |[],p,h=>by simp[jq]at h;exact .inl (by rw[h])
 |q::l,p,h=>by
  rw[jq]at h
  split at h
  ·rcases Z'.1 h with rfl |h
   ·exact .inr ⟨p,by simp,rfl⟩
   ·rcases vM h with h |⟨r,h,e⟩
    ·exact .inl h
    ·exact .inr ⟨r,by simp[h],e⟩
  ·split at h
   ·split at h
    ·exact .inr ⟨p,by simp[h],rfl⟩
    ·rcases Z'.1 h with rfl |h
     ·exact .inr ⟨q,by simp,rfl⟩
     ·exact .inr ⟨p,by simp[h],rfl⟩
   ·rcases Z'.1 h with rfl |h
    ·exact .inl rfl
    ·exact .inr ⟨p,h,rfl⟩
theorem G7{t:Tm}{n:Int}(hn:n≠0):∀{l:List Pw},Nz l->Nz (jq t n l)
 |[],_=>by intro p hp;simp[jq]at hp;subst hp;exact hn
 |q::l,h=>by
  have h1:Nz l:=λr hr=>h r (by simp[hr])
  rw[jq]
  split
  ·intro p hp
   rcases Z'.1 hp with rfl |hp
   ·exact h p (by simp)
   ·exact G7 hn h1 p hp
  ·split
   ·split
    ·exact h1
    ·intro p hp
     rcases Z'.1 hp with rfl |hp
     ·assumption
     ·exact h1 p hp
   ·intro p hp
    rcases Z'.1 hp with rfl |hp
    ·exact hn
    ·exact h p hp
theorem Dt{t:Tm}{n:Int}:∀{l:List Pw},As l->As (jq t n l)
 |[],_=>by simp[jq,As]
 |q::l,h=>by
  obtain⟨s1,s2⟩:=aal.1 h;rw[jq];have ng:=ee q.1 t
  split
  ·rename_i c
   refine aal.2 ⟨λp hp=>?_,Dt s2⟩;rcases vM hp with e |⟨r,hr,e⟩
   ·rw[e];exact c
   ·rw[<-e];exact s1 r hr
  ·split
   ·split
    ·exact s2
    ·exact aal.2 ⟨s1,s2⟩
   ·refine aal.2 ⟨λp hp=>?_,h⟩;have c:aU t q.1<0:=by omega
    rcases Z'.1 hp with rfl |hp
    ·exact c
    ·exact dR c (s1 p hp)
theorem Du{t:Tm}{n:Int}:∀(l:List Pw),(jq t n l).length<=l.length+1
 |[]=>by simp[jq]
 |q::l=>by
  have:=Du (t:=t) (n:=n) l;rw[jq]
  (repeat' split) <;>simp <;>omega
def tQ:List UInt8:=[109,117,108]
def lU:List UInt8:=[105,110,118]
def tT:List UInt8:=[111,110,101]
def dm:Tm->Bool
 | .mk k s o l=>decide (k=3)&& (decide (s.toList=tQ)||decide (s.toList=lU)||decide (s.toList=tT))
mutual
def arity:Tm->Bool
 | .mk k s o l=>if dm (.mk k s o l)=false then true else
  if(s.toList=tQ/\l.length<2)\/(s.toList=lU/\l.length≠1)\/(s.toList=tT/\l.length≠0)then false else lW l
def lW:List Tm->Bool
 |[]=>true
 |t::l=>if arity t=false then false else lW l
end
mutual
def fW(a:List Pw):Tm->Int->List Pw
 | .mk k s o l,n=>if dm (.mk k s o l)=false then jq (.mk k s o l) n a else gQ a l (if s.toList=lU then -n else n)
def gQ(a:List Pw):List Tm->Int->List Pw
 |[],_=>a
 |t::l,n=>gQ (fW a t n) l n
end
mutual
def MC(a:List Pw):Tm->Int->List Pw
 | .mk k s o l,n=>if dm (.mk k s o l)=false then FB (.mk k s o l) n false a else xQ a l (if s.toList=lU then -n else n)
def xQ(a:List Pw):List Tm->Int->List Pw
 |[],_=>a
 |t::l,n=>xQ (MC a t n) l n
end
mutual
theorem G8:∀(t:Tm) (a:List Pw) (n:Int),As a->Nz a->n≠0->As (fW a t n)/\Nz (fW a t n)/\MC a t n=fW a t n
 | .mk k s o l,a,n,h1,h2,h3=>by
  rw[fW,MC]
  split
  ·exact⟨Dt h1,G7 h3 h2,Ds _ _ _ h1 h2⟩
  ·exact Dv l a _ h1 h2 (by split <;>omega)
theorem Dv:∀(l:List Tm) (a:List Pw) (n:Int),As a->Nz a->n≠0->As (gQ a l n)/\Nz (gQ a l n)/\xQ a l n=gQ a l n
 |[],a,n,h1,h2,_=>by rw[gQ,xQ];exact⟨h1,h2,rfl⟩
 |t::l,a,n,h1,h2,h3=>by
  obtain⟨g1,g2,g3⟩:=G8 t a n h1 h2 h3;rw[gQ,xQ,g3];exact Dv l _ n g1 g2 h3
end
mutual
theorem xF:∀(t:Tm) (a:List Pw) (n:Int),((fW a t n).length:Int)<=a.length+size t
 | .mk k s o l,a,n=>by
  rw[fW];have:=c8 l
  split
  ·have:=Du (t:=.mk k s o l) (n:=n) a;simp only[size];omega
  ·have:=Ab l a (if s.toList=lU then -n else n);simp only[size];omega
theorem Ab:∀(l:List Tm) (a:List Pw) (n:Int),((gQ a l n).length:Int)<=a.length+dN l
 |[],a,n=>by simp[gQ,dN]
 |t::l,a,n=>by
  have h1:=xF t a n;have h2:=Ab l (fW a t n) n;rw[gQ,dN];omega
end
def Bd(B:Int)(l:List Pw):Prop:=∀p∈l,-B<=p.2/\p.2<=B
theorem G9{B:Int}{t:Tm}{n:Int}(h1: -1<=n)(h2:n<=1)(hB:0<=B):∀{l:List Pw},Bd B l->Bd (B+1) (jq t n l)
 |[],_=>by intro p hp;simp[jq]at hp;subst hp;simp only;omega
 |q::l,h=>by
  have hl:Bd B l:=λr hr=>h r (by simp[hr])
  have yg:Bd (B+1) l:=λr hr=>by have:=hl r hr;omega
  have hq:=h q (by simp);rw[jq]
  split
  ·intro p hp
   rcases Z'.1 hp with rfl |hp
   ·omega
   ·exact G9 h1 h2 hB hl p hp
  ·split
   ·split
    ·exact yg
    ·intro p hp
     rcases Z'.1 hp with rfl |hp
     ·simp only;omega
     ·exact yg p hp
   ·intro p hp
    rcases Z'.1 hp with rfl |hp
    ·simp only;omega
    ·have:=h p hp;omega
mutual
theorem G':∀(t:Tm) (a:List Pw) (n B:Int),-1<=n->n<=1->0<=B->Bd B a->Bd (B+size t) (fW a t n)
 | .mk k s o l,a,n,B,h1,h2,h3,h4=>by
  rw[fW];have:=c8 l
  split
  ·intro p hp
   have:=G9 h1 h2 h3 h4 p hp;simp only[size];omega
  ·intro p hp
   have:=Dw l a (if s.toList=lU then -n else n) B (by split <;>omega) (by split <;>omega) h3 h4 p hp;simp only[size];omega
theorem Dw:∀(l:List Tm) (a:List Pw) (n B:Int),-1<=n->n<=1->0<=B->Bd B a->Bd (B+dN l) (gQ a l n)
 |[],a,n,B,h1,h2,h3,h4=>by rw[gQ,dN];intro p hp;have:=h4 p hp;omega
 |t::l,a,n,B,h1,h2,h3,h4=>by
  have hs:=gr t;have g:=G' t a n B h1 h2 h3 h4;have g2:=Dw l (fW a t n) n (B+size t) h1 h2 (by omega) g;rw[gQ,dN]
  intro p hp
  have:=g2 p hp;omega
end
def jS(c:Int):Bool:=decide ((97<=c/\c<=122)\/(65<=c/\c<=90))
def pt(c:Int):Bool:=decide (48<=c/\c<=57)
def nY(c:Int):Bool:=jS c ||pt c ||decide (c=95)||decide (c=35)
def jk:List UInt8->Bool
 |[]=>true
 |c::l=>nY c.toNat&&jk l
def AF:List UInt8->Bool
 |[]=>false
 |c::l=>decide (l.length<24)&&jS c.toNat&&jk (c::l)
def eK(s:ByteArray):Bool:=AF s.toList
theorem bsize(s:ByteArray):s.toList.length=s.size:=by rw[ByteArray.toList_eq];exact abl
theorem LJ{s:ByteArray}{i:Nat}{c:UInt8}(h:s.toList[i]?=some c):s[i]?=some c:=by
 have cI:=ag h;rw[ByteArray.toList_eq,aaw]at h;have Xf:i<s.size:=by rw[<-bsize];exact cI
 rw[getElem?_pos s i Xf];rw[abb Xf]at h;exact h
def node:Tm->Int
 | .mk k s o l=>if(k≠1/\k≠2/\k≠3)\/o<0\/5<o\/(k=3/\o≠0)\/(k≠3/\0<l.length)then 1 else if eK s=false then 2 else if 8<l.length then 3 else 0
mutual
def nodes:Tm->Int
 | .mk k s o l=>if node (.mk k s o l)≠0 then node (.mk k s o l)else iT l
def iT:List Tm->Int
 |[]=>0
 |t::l=>if nodes t≠0 then nodes t else iT l
end
mutual
def depth:Tm->Int
 | .mk _ _ _ l=>gJ l+1
def gJ:List Tm->Int
 |[]=>0
 |t::l=>max (depth t) (gJ l)
end
def valid(t:Tm):Int:=if nodes t≠0 then nodes t else if 400<size t\/40<depth t then 3 else 0
mutual
theorem nD:∀t,0<depth t/\depth t<=size t
 | .mk k s o l=>by have:=iY l;simp only[depth,size];omega
theorem iY:∀l,0<=gJ l/\gJ l<=dN l
 |[]=>by simp[gJ,dN]
 |t::l=>by
  have h1:=nD t;have h2:=iY l;simp only[gJ,dN];omega
end
def Yl:ByteArray:=⟨#[109,117,108]⟩
def Ym:ByteArray:=⟨#[105,110,118]⟩
def Yn:ByteArray:=⟨#[111,110,101]⟩
theorem JR:Yl.toList=tQ:=by rw[ByteArray.toList_eq];rfl
theorem JS:Ym.toList=lU:=by rw[ByteArray.toList_eq];rfl
theorem JT:Yn.toList=tT:=by rw[ByteArray.toList_eq];rfl
theorem D0{t:Tm}(h:dm t=false)(a:List Pw)(n:Int):fW a t n=jq t n a:=by
 obtain⟨k,s,o,l⟩:=t;rw[fW,if_pos h]
mutual
theorem BE{Q:Tm->Prop}{P:Tm->Prop}(hP:∀k s o l,Q (.mk k s o l)->dm (.mk k s o l)=false->P (.mk k s o l))(hQ:∀k s o l,Q (.mk k s o l)->∀t∈l,Q t):
  ∀(t:Tm) (a:List Pw) (n:Int),Q t->(∀p∈a,P p.1)->∀p∈fW a t n,P p.1
 | .mk k s o l,a,n,h1,h2=>by
  rw[fW]
  split
  ·rename_i hs
   intro p hp
   rcases vM hp with e |⟨q,hq,e⟩
   ·rw[e];exact hP k s o l h1 hs
   ·rw[<-e];exact h2 q hq
  ·exact yW hP hQ l a _ (hQ k s o l h1) h2
theorem yW{Q:Tm->Prop}{P:Tm->Prop}(hP:∀k s o l,Q (.mk k s o l)->dm (.mk k s o l)=false->P (.mk k s o l))(hQ:∀k s o l,Q (.mk k s o l)->∀t∈l,Q t):
  ∀(l:List Tm) (a:List Pw) (n:Int),(∀t∈l,Q t)->(∀p∈a,P p.1)->∀p∈gQ a l n,P p.1
 |[],a,n,h1,h2=>by rw[gQ];exact h2
 |t::l,a,n,h1,h2=>by
  rw[gQ];exact yW hP hQ l _ n (λu hu=>h1 u (by simp[hu])) (BE hP hQ t a n (h1 t (by simp)) h2)
end
theorem nw:∀{l:List Tm},iT l=0->∀t∈l,nodes t=0
 |[],_,t,h=>by cases h
 |u::l,e,t,h=>by
  rw[iT]at e
  split at e
  ·rename_i hu;exact absurd e hu
  ·rename_i hu
   rcases Z'.1 h with rfl |h
   ·omega
   ·exact nw e t h
theorem yX:∀{l:List Tm},∀t∈l,size t<=dN l
 |[],t,h=>by cases h
 |u::l,t,h=>by
  have h1:=gr u;have h2:=c8 l;rw[dN];rcases Z'.1 h with rfl |h
  ·omega
  ·have:=yX t h;omega
theorem qK:∀{l:List Tm},∀t∈l,depth t<=gJ l
 |[],t,h=>by cases h
 |u::l,t,h=>by
  rw[gJ];rcases Z'.1 h with rfl |h
  ·omega
  ·have:=qK t h;omega
def VQ(S D:Int)(t:Tm):Prop:=nodes t=0/\size t<=S/\depth t<=D
theorem VQ.kids{S D k s o l}(h:VQ S D (.mk k s o l)):∀t∈l,VQ S D t:=by
 obtain⟨h1,h2,h3⟩:=h;rw[nodes]at h1
 split at h1
 ·rename_i hn;exact absurd h1 hn
 ·intro t ht
  have:=yX t ht;have:=qK t ht;have:=c8 l;simp only[size]at h2;simp only[depth]at h3;exact⟨nw h1 t ht,by omega,by omega⟩
theorem fX{t:Tm}:valid t=0↔VQ 400 40 t:=by
 unfold valid VQ
 constructor
 ·intro h
  split at h
  ·rename_i hn;exact absurd h hn
  ·rename_i hn
   split at h
   ·cases h
   ·exact⟨by omega,by omega,by omega⟩
 ·rintro⟨h1,h2,h3⟩;rw[if_neg (by omega),if_neg (by omega)]
theorem BF{t:Tm}(h:dm t=false):arity t=true:=by
 obtain⟨k,s,o,l⟩:=t;rw[arity,if_pos h]
end Go.Pm
