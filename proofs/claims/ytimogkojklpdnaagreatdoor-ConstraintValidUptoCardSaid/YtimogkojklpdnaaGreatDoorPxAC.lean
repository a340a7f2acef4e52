/-
  Pm, a part. Conditions: none.
-/
import Derived.Test.YtimogkojklpdnaaGreatDoorPxAB
import Derived.Test.YtimogkojklpdnaaGreatDoorProg
import Derived.KernelRfl
import Derived.Lib.Bytealg
set_option linter.unusedVariables false
set_option linter.unusedSimpArgs false
set_option linter.unnecessarySimpa false
set_option linter.unusedSectionVars false
namespace Go.Pm
variable[iD:Inhabited Prop]
variable{P:Program}{w:World}{F:Nat->Prop}{Y:List (Nat×Nat)}{h:aa}
def fc(w:World)(A:Nat->Prop)(Y:List (Nat×Nat))(h:aa)(a:Act)(V:Nat->PV):Prop:=∀t,ar w A Y h (a.tmps.getD t Go.undef) (V t)
theorem fc.ev{A:Nat->Prop}{a:Act}{V:Nat->PV}(r:fc w A Y h a V)(G:cp w A)(x:Operand):ar w A Y h (a.eval x) (Pm.ev V x):=by
 cases x with
 |tmp t=>exact r t
 |const v=>exact zy w A Y h v
 |global g=>
  show ar w A Y h _ (match qI g with |some p=>.cU [p]|none=>.any)
  split
  ·rename_i p e;exact .val (G.rel e)
  exact .any _
 |func f=>exact .fn f [] [] rfl (by simp)
theorem fc.C3{A:Nat->Prop}{a:Act}{V:Nat->PV}(r:fc w A Y h a V)(G:cp w A)(xs:List Operand):L2 (ar w A Y h) (xs.map a.eval) (xs.map (Pm.ev V)):=by
 refine⟨by simp,λj hj=>?_⟩;simp at hj;have e1:(xs.map a.eval).getD j undef=a.eval xs[j]:=by simp[List.getD,hj]
 have e2:(xs.map (Pm.ev V)).getD j .any=Pm.ev V xs[j]:=by simp[List.getD,hj]
 rw[e1,e2];exact r.ev G _
theorem fc.parts{A:Nat->Prop}{a:Act}{V:Nat->PV}(r:fc w A Y h a V)(G:cp w A)(xs:Array (Nat×Operand)):jH w A Y h (xs.map λ(i,x)=>(i,a.eval x)).toList (xs.toList.map λ(i,x)=>(i,Pm.ev V x)):=by
 refine⟨by simp,λk x hx=>?_⟩;simp only[TS,Uj]at hx;obtain⟨y,h1,rfl⟩:=hx;exact⟨a.eval y.2,by simp only[Array.toList_map,TS,h1];rfl,r.ev G y.2⟩
theorem fc.NB{A:Nat->Prop}{a:Act}{V:Nat->PV}(r:fc w A Y h a V)(G:cp w A)(x:Option Operand):qC w A Y h (x.map a.eval) (x.map (Pm.ev V)):=by
 cases x with
 |none=>trivial
 |some x=>exact r.ev G x
def qe(P:Program)(lv:Nat)(w:World)(F:Nat->Prop)(Y:List (Nat×Nat))(h:aa)(s:Sem Next)(p:PV)(h':aa):Prop:=
 ∃v w' Y',(s.run P w=.ok (.value v) w'\/(s.run P w=.ok .skip w'/\v=undef))/\ar w' (Av F h' Y') Y' h' v p/\aG w' F Y' h'/\cP w h Y w' h' Y'/\(lv<=1->cc w w')
theorem vq.o{lv:Nat}{s:Sem Value}{p:PV}{h':aa}(x:vq P lv w F Y h s p h'):qe P lv w F Y h (do pure (.value (<-s))) p h':=by
 obtain⟨v,w',Y',h1,h2,h3,h4⟩:=x;exact⟨v,w',Y',.inl (by simp only[Sem.run_bind,h1,Result.andThen_ok,Sem.run_pure]),h2,h3,h4⟩
theorem dH{lv:Nat}(H:aG w F Y h){s:Sem Value}{p:PV}(x:∃u,s.run P w=.ok u w/\ar w (Av F h Y) Y h u p):qe P lv w F Y h (do pure (.value (<-s))) p h:=by
 obtain⟨u,h1,h2⟩:=x;exact(vq.still H h1 h2).o
theorem cD{α:Type}{x:Option α}{h:aa}{p:α}{h':aa}(e:x.map (·,h)=some (p,h')):x=some p/\h'=h:=by
 cases x with
 |none=>cases e
 |some y=>simp at e;exact⟨by rw[e.1],e.2.symm⟩
theorem yS(H:aG w F Y h){a:Act}{V:Nat->PV}(R:fc w (Av F h Y) Y h a V){lv:Nat}{o:Oper}{p:PV}{h':aa}(hc:∀c,o.op≠.call c)(e:aw P lv o.op V h=some (p,h')):
  qe P lv w F Y h (execOp a.eval o) p h':=by
 obtain⟨dst,op,type,pos,after,guard⟩:=o;simp only at e hc ⊢
 cases op <;>simp only[aw]at e <;>simp only[execOp]
 case move x=>
  obtain⟨rfl,rfl⟩:=TL (TF e);exact⟨_,w,Y,.inl rfl,R.ev H.di x,H,cP.refl w h Y,λ_=>cc.refl w⟩
 case assign x=>
  obtain⟨rfl,rfl⟩:=TL (TF e);exact⟨_,w,Y,.inl rfl,R.ev H.di x,H,cP.refl w h Y,λ_=>cc.refl w⟩
 case pick c x y=>
  split at e
  ·rename_i t ht
   obtain⟨rfl,rfl⟩:=TL (TF e);have hb:=R.ev H.di c;rw[ht]at hb;have:=hb.dN;refine⟨if t then a.eval x else a.eval y,w,Y,.inl ?_,?_,H,cP.refl w h Y,λ_=>cc.refl w⟩;simp only[this,asBool,Sem.run_bind,Sem.run_pure,Result.andThen_ok]
   ·cases t
    ·exact R.ev H.di y
    ·exact R.ev H.di x
  cases e
 case alloc t=>
  split at e
  ·rename_i z hz
   split at e
   ·rename_i sN
    obtain⟨rfl,rfl⟩:=TL (TF e);exact(BR H t hz sN.2.1 sN.2.2).o
   cases e
  cases e
 case box t x=>
  split at e
  ·rename_i sN
   obtain⟨rfl,rfl⟩:=TL (TF e);exact(AT H t (R.ev H.di x) sN.2.1 sN.2.2).o
  cases e
 case build t ps=>
  obtain⟨e1,rfl⟩:=cD e;exact dH H (BX (R.parts H.di ps) e1)
 case buildSlice t n ps=>exact(r9 H (R.parts H.di ps) e).o
 case load t x=>
  obtain⟨e1,rfl⟩:=cD e;exact dH H (xE H (R.ev H.di x) e1)
 case store t x y=>
  split at e
  ·rename_i Ea
   cases hs:fq P h t (Pm.ev V x) (Pm.ev V y)with
   |none=>rw[hs]at e;simp at e
   |some h2=>
    rw[hs]at e;simp at e;obtain⟨rfl,rfl⟩:=e;obtain⟨w',Y',r1,r2,r3⟩:=BQ H (R.ev H.di x) (R.ev H.di y) hs;exact⟨undef,w',Y',.inr ⟨by simp only[Sem.run_bind,r1,Result.andThen_ok,Sem.run_pure],rfl⟩,.undef,r2,r3,λhh=>by omega⟩
  cases e
 case nilCheck x=>
  have hx:=R.ev H.di x;generalize a.eval x=v at hx ⊢
  split at e
  ·rename_i id ep i oo hp
   obtain⟨rfl,rfl⟩:=TL (TF e);rw[hp]at hx
   cases hx with
   |val hs=>cases hs
   |ptr _ _ _ _ _ oo bc h0 h1 h2 h3 h4 h5=>
    obtain⟨ad,rfl⟩:=h0;exact⟨_,w,Y,.inl rfl,.ptr _ _ _ _ _ oo bc ⟨_,rfl⟩ h1 h2 h3 h4 h5,H,cP.refl w h Y,λ_=>cc.refl w⟩
  ·rename_i cs hp
   obtain⟨rfl,rfl⟩:=TL (TF e);rw[hp]at hx;have hs:=hx.nZ
   cases hs with
   |cU=>exact⟨_,w,Y,.inl rfl,hx,H,cP.refl w h Y,λ_=>cc.refl w⟩
  ·rename_i f cs hp
   obtain⟨rfl,rfl⟩:=TL (TF e);rw[hp]at hx;obtain⟨vs,rfl,_⟩:=hx.yR;exact⟨_,w,Y,.inl rfl,hx,H,cP.refl w h Y,λ_=>cc.refl w⟩
  cases e
 case binOp op t x y yt=>
  obtain⟨e1,rfl⟩:=cD e;exact dH H (Gu (R.ev H.di x) (R.ev H.di y) e1)
 case unOp op t x=>
  obtain⟨e1,rfl⟩:=cD e;exact dH H (JH (R.ev H.di x) e1)
 case convert s d x=>
  obtain⟨e1,rfl⟩:=cD e;exact dH H (Ei (R.ev H.di x) e1)
 case makeFunc fn first cA=>
  cases fn <;>simp only at e <;>try(cases e;done)
  rename_i f
  split at e
  ·rename_i hf
   obtain⟨rfl,rfl⟩:=TL (TF e);obtain rfl:first= #[]:=by simpa using hf
   obtain⟨l1,l2⟩:=R.C3 H.di cA.toList;refine(vq.still H (v:=.func (.func f) #[] (cA.toList.map a.eval).toArray) ?_ (.fn f _ _ l1 l2)).o;have:cA.map a.eval=(cA.toList.map a.eval).toArray:=by apply UH;simp
   simp[Instr.makeFunc,this]
  ·obtain⟨rfl,rfl⟩:=TL (TF e);obtain⟨l1,l2⟩:=R.C3 H.di (first.toList++cA.toList);refine(vq.still H (v:=.func (.func f) (((first.toList++cA.toList).map a.eval).take first.size).toArray (((first.toList++cA.toList).map a.eval).drop first.size).toArray) ?_ (.j4 f first.size _ _ l1 l2)).o;have e1:first.map a.eval=(((first.toList++cA.toList).map a.eval).take first.size).toArray:=by apply UH;simp
   have e2:cA.map a.eval=(((first.toList++cA.toList).map a.eval).drop first.size).toArray:=by apply UH;simp
   simp only[Instr.makeFunc,e1,e2];rfl
 case makeSlice t l c=>exact(Eg H (R.ev H.di l) (R.ev H.di c) e).o
 case slice t x lo hi mx=>
  obtain⟨e1,rfl⟩:=cD e;exact dH H (BU H (R.ev H.di x) (R.NB H.di lo) (R.NB H.di hi) (R.NB H.di mx) e1)
 case fieldAddr s x f=>
  obtain⟨e1,rfl⟩:=cD e;exact dH H (sY H (R.ev H.di x) e1)
 case field s x f=>
  obtain⟨e1,rfl⟩:=cD e;exact dH H (BO (R.ev H.di x) e1)
 case indexAddr t x ix=>
  obtain⟨e1,rfl⟩:=cD e;exact dH H (sZ H (R.ev H.di x) (R.ev H.di ix) e1)
 case index t x ix=>
  obtain⟨e1,rfl⟩:=cD e;exact dH H (BP (R.ev H.di x) (R.ev H.di ix) e1)
 case makeMap t r=>exact(xv H (R.NB H.di r) e).o
 case lookup t x k ok=>
  obtain⟨e1,rfl⟩:=cD e;exact dH H (zq H (R.ev H.di x) (R.ev H.di k) e1)
 case mapUpdate t m k x=>
  split at e
  ·rename_i Ea
   cases hs:j' P h t (Pm.ev V m) (Pm.ev V k) (Pm.ev V x)with
   |none=>rw[hs]at e;simp at e
   |some h2=>
    rw[hs]at e;simp at e;obtain⟨rfl,rfl⟩:=e;obtain⟨w',Y',r1,r2,r3⟩:=rM H (R.ev H.di m) (R.ev H.di k) (R.ev H.di x) hs;exact⟨undef,w',Y',.inr ⟨by simp only[Sem.run_bind,r1,Result.andThen_ok,Sem.run_pure],rfl⟩,.undef,r2,r3,λhh=>by omega⟩
  cases e
 case insert t m k x=>
  split at e
  ·rename_i Ea
   cases hs:j' P h t (Pm.ev V m) (Pm.ev V k) (Pm.ev V x)with
   |none=>rw[hs]at e;simp at e
   |some h2=>
    rw[hs]at e;simp at e;obtain⟨rfl,rfl⟩:=e;obtain⟨w',Y',r1,r2,r3⟩:=rM H (R.ev H.di m) (R.ev H.di k) (R.ev H.di x) hs;exact⟨undef,w',Y',.inr ⟨by simp only[Sem.run_bind,r1,Result.andThen_ok,Sem.run_pure],rfl⟩,.undef,r2,r3,λhh=>by omega⟩
  cases e
 case extract x i=>
  split at e
  ·rename_i vs hv
   split at e
   ·rename_i v hi
    obtain⟨rfl,rfl⟩:=TL (TF e);have hx:=R.ev H.di x;rw[hv]at hx;obtain⟨us,hu,hl,hr⟩:=hx.l9;have hj:=ae hi;have:=hr i hj;have e2:vs.getD i .any=v:=by simp[List.getD,hi]
    rw[e2]at this;refine dH H ⟨us.getD i Go.undef,?_,this⟩;rw[hu];have:i<us.length:=by omega
    simp[Instr.extract,this,List.getD]
   cases e
  cases e
 case call c=>exact absurd rfl (hc c)
 all_goals cases e
theorem xb(H:aG w F Y h){a:Act}{V:Nat->PV}(R:fc w (Av F h Y) Y h a V){lv:Nat}{b:Builtin}{ts:Array TypeId}{ty:TypeId}{cb:Array Bool}{xs:Array Operand}{p:PV}{h':aa}
  (e:aT P lv h b ts.toList (xs.toList.map (Pm.ev V))=some (p,h')):qe P lv w F Y h (builtin b ts ty cb (xs.map a.eval)) p h':=by
 have MK:∀{t:TypeId} {r:List TypeId},ts.toList=t::r->ts[0]?=some t:=λhh=>by rw[<-T1,hh];rfl
 have Sz:∀{t t':TypeId} {r:List TypeId},ts.toList=t::t'::r->ts[1]?=some t':=λhh=>by rw[<-T1,hh];rfl
 have ML:∀{p:PV} {r:List PV},xs.toList.map (Pm.ev V)=p::r->∃v,(xs.map a.eval)[0]?=some v/\ar w (Av F h Y) Y h v p:=λ{p r} hh=>by
  cases hx:xs.toList with
  |nil=>rw[hx]at hh;simp at hh
  |cons y ys=>
   rw[hx]at hh;simp at hh;refine⟨a.eval y,?_,by rw[<-hh.1];exact R.ev H.di y⟩;rw[<-T1,Array.toList_map,hx];rfl
 have Qn:∀{p q:PV} {r:List PV},xs.toList.map (Pm.ev V)=p::q::r->∃v,(xs.map a.eval)[1]?=some v/\ar w (Av F h Y) Y h v q:=λ{p q r} hh=>by
  cases hx:xs.toList with
  |nil=>rw[hx]at hh;simp at hh
  |cons y ys=>
   cases hy:ys with
   |nil=>rw[hx,hy]at hh;simp at hh
   |cons z zs=>
    rw[hx,hy]at hh;simp at hh;refine⟨a.eval z,?_,by rw[<-hh.2.1];exact R.ev H.di z⟩;rw[<-T1,Array.toList_map,hx,hy];rfl
 have earr:xs.map a.eval=(xs.toList.map a.eval).toArray:=by apply UH;simp
 unfold aT at e
 split at e
 ·rename_i t r x r' h1 h2
  obtain⟨e1,rfl⟩:=cD e;obtain⟨v,v1,v2⟩:=ML h2;refine dH H ?_
  cases hx:xs.toList with
  |nil=>rw[hx]at h2;simp at h2
  |cons y ys=>
   rw[earr,hx,TT];rw[hx]at h2;simp at h2;have:=R.ev H.di y;rw[h2.1]at this;exact Gp H (MK h1) this e1
 ·rename_i st xt r s x r' h1 h2
  obtain⟨v,v1,v2⟩:=ML h2;obtain⟨u,u1,u2⟩:=Qn h2;exact(zz H (MK h1) (Sz h1) v1 u1 v2 u2 e).o
 ·rename_i dt r d x r' h1 h2
  obtain⟨v,v1,v2⟩:=ML h2;obtain⟨u,u1,u2⟩:=Qn h2;exact(Ef H (MK h1) v1 u1 v2 u2 e).o
 ·rename_i t r x r' h1 h2
  obtain⟨v,v1,v2⟩:=ML h2;exact(BS H (MK h1) v1 v2 e).o
 ·rename_i t r x r' h1 h2
  obtain⟨e1,rfl⟩:=cD e;obtain⟨v,v1,v2⟩:=ML h2;refine dH H ?_;unfold KO at e1
  split at e1
  ·rename_i el es hu
   obtain rfl:=TF e1;obtain⟨ad,cap,rfl,_,hf⟩:=v2.dM.fZ;obtain rfl:=hf rfl;exact⟨_,by simp[Builtin.cap_,MK h1,v1,aR hu,goInt],.val (.int _ _)⟩
  cases e1
 ·rename_i tt xx
  obtain⟨e1,rfl⟩:=cD e;rw[earr];exact dH H (Gs (R.C3 H.di xs.toList) e1)
 ·rename_i tt xx
  obtain⟨e1,rfl⟩:=cD e;rw[earr];exact dH H (Gt (R.C3 H.di xs.toList) e1)
 cases e
theorem cK(cs:List PV):ba cs=cs.map cJ:=by
 induction cs with
 |nil=>rfl
 |cons c r ih=>simp[ba,ih]
theorem bp(cs:List PV):au cs=cs.all aJ:=by
 induction cs with
 |nil=>rfl
 |cons c r ih=>simp[au,ih]
theorem wo(cs:List PV):kU cs=cs.all dI:=by
 induction cs with
 |nil=>rfl
 |cons c r ih=>simp[kU,ih]
theorem dZ(cs:List PV)(j:Nat):(ba cs).getD j .any=cJ (cs.getD j .any):=by
 rw[cK];simp only[List.getD,TS]
 cases cs[j]? <;>simp[cJ]
theorem tx(e:PV):Pm.cells (cJ e)=ba (Pm.cells e):=by
 cases e <;>simp[cJ,Pm.cells,ba]
theorem aS.cJ{A:Nat->Prop}{v:Value}{p:PV}(r:aS w A v p):aS w A v (Pm.cJ p):=by
 induction r with
 |int k n=>exact .int k n
 |bool b=>exact .bool b
 |str s=>exact .str s
 |c9=>exact .c9
 |ay=>exact .ay
 |eK=>exact .eK
 |agg vs cs hl _ ih=>exact .agg vs _ (by simp[cK,hl]) (λj hj=>by rw[dZ];exact ih j (by simpa[cK]using hj))
 |cT vs cs hl _ ih=>exact .cT vs _ (by simp[cK,hl]) (λj hj=>by rw[dZ];exact ih j (by simpa[cK]using hj))
 |fn f vs cs hl _ ih=>exact .fn f vs _ (by simp[cK,hl]) (λj hj=>by rw[dZ];exact ih j (by simpa[cK]using hj))
 |j4 f k vs cs hl _ ih=>exact .j4 f k vs _ (by simp[cK,hl]) (λj hj=>by rw[dZ];exact ih j (by simpa[cK]using hj))
 |dP a cap full hf=>exact .dP a cap false (λhh=>by cases hh)
 |ab b off cap sz full es j0 h1 h2 h3 h4 h5 h6 h7 _ ih=>
  have hl:(ba es).length=es.length:=by simp[cK]
  have:=aS.ab (w:=w) (A:=A) b off cap sz false (ba es) j0 (by intro hn;rw[hn]at hl;exact h1 (T3 hl.symm)) (by omega) (λhh=>by cases hh) h4 h5
   (λi hi=>by rw[dZ,tx,cK,U2];exact h6 i (by omega)) (λi j hi hj=>h7 i j (by omega) hj)
   (λi j hi hj=>by rw[dZ,tx,dZ];exact ih i j (by omega) hj)
  rw[hl]at this;exact this
 |cU b off cs j0 h1 h2 h3 _ ih=>
  have hl:(ba cs).length=cs.length:=by simp[cK]
  exact .cU b off (ba cs) j0 (by intro hn;rw[hn]at hl;exact h1 (T3 hl.symm)) h2 (λj hj=>h3 j (by omega)) (λj hj=>by rw[dZ];exact ih j (by omega))
theorem dJ{f:PV->Bool}{cs:List PV}(h:cs.all f=true){j:Nat}(hj:j<cs.length):f (cs.getD j .any)=true:=by
 have:cs.getD j .any=cs[j]:=by simp[List.getD,hj]
 rw[this];exact TH.1 h _ (Up hj)
theorem aS.dI{A A':Nat->Prop}{w':World}{v:Value}{p:PV}(r:aS w A v p)(hs:Pm.dI p=true):aS w' A' v p:=by
 induction r with
 |int k n=>exact .int k n
 |bool b=>exact .bool b
 |str s=>exact .str s
 |c9=>exact .c9
 |ay=>exact .ay
 |eK=>exact .eK
 |agg vs cs hl _ ih=>simp[Pm.dI,wo]at hs;exact .agg vs _ hl (λj hj=>ih j hj (dJ (by simpa using hs) hj))
 |cT vs cs hl _ ih=>simp[Pm.dI,wo]at hs;exact .cT vs _ hl (λj hj=>ih j hj (dJ (by simpa using hs) hj))
 |fn f vs cs hl _ ih=>simp[Pm.dI]at hs
 |j4 f k vs cs hl _ ih=>simp[Pm.dI]at hs
 |dP a cap full hf=>simp[Pm.dI]at hs
 |ab=>simp[Pm.dI]at hs
 |cU=>simp[Pm.dI]at hs
theorem Ak(H:aG w F Y h){A':Nat->Prop}(hA:∀b,b<w.heap.size->¬Av F h Y b->¬A' b){v:Value}{p p':PV}(hv:ar w (Av F h Y) Y h v p)(e:sP h p=some p')
  (hM:∀(id:Nat) (o:aC) (bc:Nat×Nat),id∈A6 p->h[id]?=some o->Y[id]?=some bc->(o.mu=.m\/o.mu=.f)->¬A' bc.1):aS w A' v p':=by
 unfold sP at e
 split at e
 ·rename_i id ep off len
  split at e
  ·rename_i o ho
   split at e
   ·rename_i hc
    obtain⟨hle,Ba,gC⟩:=hc;obtain rfl:=TF e;obtain⟨e1,e2,e3⟩:=getM_some ho;obtain⟨bc,hb⟩:=cm H.len e1;obtain⟨h1,h2,h3⟩:=hv.cO;obtain⟨cap,rfl,c2⟩:=h3 o bc e1 hb e3 e2 hle;obtain⟨T,oC,k1,k2,k3,k4,k5⟩:=(H.obj id o bc e1 hb e3).c (h2 o e1).2;have hlen:((o.es.drop off).take len).length=len:=by simp;omega
    by_cases FC:len=0
    ·subst FC;simp;exact .dP _ _ _ (λhh=>by cases hh)
    ·have at_i:∀i,i<len->∃e,((o.es.drop off).take len).getD i .any=e/\o.es[off+i]?=some e/\aJ e=true:=λi hi=>by
      have g1:((o.es.drop off).take len)[i]?=some (o.es[off+i]'(by omega)):=by
       rw[TX,if_pos hi,T9];exact TJ (by omega)
      refine⟨o.es[off+i]'(by omega),by rw[T7,g1];rfl,TJ (by omega),?_⟩;rw[bp]at gC;exact TH.1 gC _ (TU g1)
     have Bb:∀(e:PV),aJ e=true->∀q∈Pm.cells e,aJ q=true:=by
      intro e he q hq
      cases e <;>first
       |(simp only[Pm.cells,Ua]at hq;subst hq;exact he)
       |(simp only[aJ,bp]at he;exact TH.1 he q hq)
     have iO:∀i j,i<len->j<o.aP->∃u,w.cell? ⟨bc.1,off * o.aP+(i * o.aP+j),none⟩=some u/\aS w A' u ((Pm.cells (((o.es.drop off).take len).getD i .any)).getD j .any):=by
      intro i j hi hj
      obtain⟨el,g1,g2,g3⟩:=at_i i hi;obtain⟨n1,n2⟩:=k5 _ el g2;have hq:=TJ (show j<(Pm.cells el).length by omega);obtain⟨u,m1,m2⟩:=n2 j _ hq;refine⟨u,?_,?_⟩
      ·rw[cell_of_row w bc.1 _ oC T (0,0) k1,<-US,<-Ur];exact m1
      ·rw[g1];have e2:(Pm.cells el).getD j .any=(Pm.cells el)[j]'(by omega):=by simp[List.getD,hq]
       rw[e2];exact(m2.yz (Bb el g3 _ (Up _))).mono (λ_ _ _=>rfl) hA
     have:=aS.ab (w:=w) (A:=A') bc.1 (off * o.aP) cap o.aP false ((o.es.drop off).take len) (λi j=>(w.cell? ⟨bc.1,off * o.aP+(i * o.aP+j),none⟩).getD Go.undef)
      (by intro hn;rw[hn]at hlen;simp at hlen;omega) (by rw[hlen];omega) (λhh=>by cases hh) (hM id o bc (by simp[A6]) e1 hb Ba) k4
      (λi hi=>by rw[hlen]at hi;obtain⟨el,g1,g2,g3⟩:=at_i i hi;rw[g1];exact(k5 _ el g2).1)
      (λi j hi hj=>by rw[hlen]at hi;obtain⟨u,m1,m2⟩:=iO i j hi hj;rw[m1];rfl)
      (λi j hi hj=>by rw[hlen]at hi;obtain⟨u,m1,m2⟩:=iO i j hi hj;rw[m1];exact m2)
     rw[hlen]at this;exact this
   cases e
  cases e
 ·split at e
  ·rename_i yy
   obtain rfl:=TF e;exact(hv.yz yy).mono (λ_ _ _=>rfl) hA
  ·cases e
def Ia(p:PV):List Nat:=(Pm.cells p).flatMap A6
theorem CY{cs r:List PV}(e:qM h cs=some r):r.length=cs.length/\∀j,j<cs.length->sP h (cs.getD j .any)=some (r.getD j .any):=by
 induction cs generalizing r with
 |nil=>simp[qM]at e;subst e;exact⟨rfl,λj hj=>by simp at hj⟩
 |cons c cs ih=>
  simp only[qM]at e
  split at e
  ·rename_i c' r' h1 h2
   obtain rfl:=TF e;obtain⟨l1,l2⟩:=ih h2;refine⟨by simp[l1],λj hj=>?_⟩
   cases j with
   |zero=>simpa using h1
   |succ j=>simpa using l2 j (by simpa using hj)
  cases e
theorem wq{cs r:List PV}(e:kL h cs=some r):r.length=cs.length/\∀j,j<cs.length->ot h (cs.getD j .any)=some (r.getD j .any):=by
 induction cs generalizing r with
 |nil=>simp[kL]at e;subst e;exact⟨rfl,λj hj=>by simp at hj⟩
 |cons c cs ih=>
  simp only[kL]at e
  split at e
  ·rename_i c' r' h1 h2
   obtain rfl:=TF e;obtain⟨l1,l2⟩:=ih h2;refine⟨by simp[l1],λj hj=>?_⟩
   cases j with
   |zero=>simpa using h1
   |succ j=>simpa using l2 j (by simpa using hj)
  cases e
theorem CZ{cs:List PV}{j:Nat}(hj:j<cs.length){f:PV->List Nat}{id:Nat}(hm:id∈f (cs.getD j .any)):id∈cs.flatMap f:=by
 have:cs.getD j .any=cs[j]:=by simp[List.getD,hj]
 rw[this]at hm;exact UY.2 ⟨_,Up hj,hm⟩
theorem qp(H:aG w F Y h){A':Nat->Prop}(hA:∀b,b<w.heap.size->¬Av F h Y b->¬A' b){v:Value}{p p':PV}(hv:ar w (Av F h Y) Y h v p)(e:ot h p=some p')
  (hM:∀(id:Nat) (o:aC) (bc:Nat×Nat),id∈Ia p->h[id]?=some o->Y[id]?=some bc->(o.mu=.m\/o.mu=.f)->¬A' bc.1):aS w A' v p':=by
 unfold ot at e
 split at e
 ·rename_i cs
  cases hr:qM h cs with
  |none=>rw[hr]at e;simp at e
  |some r=>
   rw[hr]at e;simp at e;subst e;obtain⟨l1,l2⟩:=CY hr;obtain⟨vs,rfl,hl,hh⟩:=hv.nC;exact .agg vs r (by omega) (λj hj=>Ak H hA (hh j (by omega)) (l2 j (by omega)) (λid o bc hm=>hM id o bc (CZ (cs:=cs) (by omega) hm)))
 ·rename_i FD
  have hc:Pm.cells p=[p]:=by cases p <;>first |rfl |exact absurd rfl (FD _)
  exact Ak H hA hv e (λid o bc hm=>hM id o bc (by simp[Ia,hc,hm]))
theorem Ib(H:aG w F Y h){A':Nat->Prop}(hA:∀b,b<w.heap.size->¬Av F h Y b->¬A' b){v:Value}{p p':PV}(hv:ar w (Av F h Y) Y h v p)(e:rb h p=some p')
  (hM:∀(id:Nat) (o:aC) (bc:Nat×Nat),h[id]?=some o->Y[id]?=some bc->(o.mu=.m\/o.mu=.f)->¬A' bc.1):aS w A' v p':=by
 unfold rb at e
 split at e
 ·rename_i cs
  cases hr:kL h cs with
  |none=>rw[hr]at e;simp at e
  |some r=>
   rw[hr]at e;simp at e;subst e;obtain⟨l1,l2⟩:=wq hr;obtain⟨vs,rfl,hl,hh⟩:=hv.l9;exact .cT vs r (by omega) (λj hj=>qp H hA (hh j (by omega)) (l2 j (by omega)) (λid o bc _=>hM id o bc))
 exact qp H hA hv e (λid o bc _=>hM id o bc)
theorem iA{f:PV->Option PV}:∀{cs r:List PV},nw f cs=some r->r.length=cs.length/\∀j,j<cs.length->f (cs.getD j .any)=some (r.getD j .any)
 |[],r,e=>by simp[nw]at e;subst e;exact⟨rfl,λj hj=>by simp at hj⟩
 |c::cs,r,e=>by
  simp only[nw]at e
  split at e
  ·rename_i c' r' h1 h2
   obtain rfl:=TF e;obtain⟨l1,l2⟩:=iA h2;refine⟨by simp[l1],λj hj=>?_⟩
   cases j with
   |zero=>simpa using h1
   |succ j=>simpa using l2 j (by simpa using hj)
  cases e
theorem FE{n:Nat}{e e':PV}(FD:∀cs,e≠.agg cs)(he:vX n h e=some e'):Pm.cells e=[e]/\Pm.cells e'=[e']:=by
 have hc:Pm.cells e=[e]:=by cases e <;>first |rfl |exact absurd rfl (FD _)
 refine⟨hc,?_⟩
 cases n with
 |zero=>
  simp only[vX]at he
  split at he
  obtain rfl:=TF he;exact hc
  cases he
 |succ n=>
  unfold vX at he
  split at he
  ·split at he
   ·split at he
    ·obtain⟨r,hr,rfl⟩:=Uj.1 he;rfl
    ·cases he
   ·cases he
  exact absurd rfl (FD _);obtain⟨r,hr,rfl⟩:=Uj.1 he;rfl
  ·split at he
   ·obtain rfl:=TF he;exact hc
   ·cases he
theorem Bc{n:Nat}{e e':PV}(he:vX n h e=some e'):(Pm.cells e').length=(Pm.cells e).length/\∀j,j<(Pm.cells e).length->∃m,m<=n/\vX m h ((Pm.cells e).getD j .any)=some ((Pm.cells e').getD j .any):=by
 by_cases FD:∀cs,e≠.agg cs
 ·obtain⟨c1,c2⟩:=FE FD he;rw[c1,c2];refine⟨rfl,λj hj=>?_⟩;obtain rfl:j=0:=by simp at hj;omega
  exact⟨n,TI _,by simpa using he⟩
 ·obtain⟨cs,rfl⟩:∃cs,e=.agg cs:=Classical.byContradiction λhh=>FD λcs hc=>hh ⟨cs,hc⟩
  cases n with
  |zero=>
   simp only[vX]at he
   split at he
   ·rename_i hv
    obtain rfl:=TF he;refine⟨rfl,λj hj=>⟨0,TI _,?_⟩⟩;have yy:cs.all aJ=true:=by rw[<-bp];simpa[aJ]using hv
    have hh:aJ ((Pm.cells (.agg cs)).getD j .any)=true:=dJ yy hj;simp only[vX];rw[if_pos hh]
   cases he
  |succ n=>
   simp only[vX]at he;obtain⟨r,hr,rfl⟩:=Uj.1 he;obtain⟨l1,l2⟩:=iA hr;exact⟨l1,λj hj=>⟨n,by omega,l2 j hj⟩⟩
theorem Am(H:aG w F Y h){A':Nat->Prop}(hA:∀b,b<w.heap.size->¬Av F h Y b->¬A' b)
  (hM:∀(id:Nat) (o:aC) (bc:Nat×Nat),h[id]?=some o->Y[id]?=some bc->(o.mu=.m\/o.mu=.f)->¬A' bc.1):∀(n:Nat) {v:Value} {p p':PV},ar w (Av F h Y) Y h v p->vX n h p=some p'->aS w A' v p':=by
 intro n
 induction n using Nat.strongRecOn with
 |ind n ih=>
  intro v p p' hv e
  have vl:aJ p=true->aS w A' v p:=λhp=>(hv.yz hp).mono (λ_ _ _=>rfl) hA
  cases n with
  |zero=>
   simp only[vX]at e
   split at e
   ·rename_i hp;obtain rfl:=TF e;exact vl hp
   cases e
  |succ n=>
   unfold vX at e
   split at e
   ·rename_i id ep off len
    split at e
    ·rename_i o ho
     split at e
     ·rename_i hc
      obtain⟨hle,Ba⟩:=hc;obtain⟨es,h9,rfl⟩:=Uj.1 e;obtain⟨e1,e2,e3⟩:=getM_some ho;obtain⟨bc,hb⟩:=cm H.len e1;obtain⟨h1,h2,h3⟩:=hv.cO;obtain⟨cap,rfl,c2⟩:=h3 o bc e1 hb e3 e2 hle;obtain⟨T,oC,k1,k2,k3,k4,k5⟩:=(H.obj id o bc e1 hb e3).c (h2 o e1).2;obtain⟨l1,l2⟩:=iA h9;have Hd:((o.es.drop off).take len).length=len:=by simp;omega
      have hlen:es.length=len:=by omega
      by_cases FC:len=0
      ·subst FC;obtain rfl:=List.length_eq_zero_iff.1 hlen;exact .dP _ _ _ (λhh=>by cases hh)
      ·have at_i:∀i,i<len->∃el,o.es[off+i]?=some el/\vX n h el=some (es.getD i .any):=λi hi=>by
        have g1:((o.es.drop off).take len)[i]?=some (o.es[off+i]'(by omega)):=by
         rw[TX,if_pos hi,T9];exact TJ (by omega)
        have g2:=l2 i (by omega);rw[T7,g1]at g2;exact⟨_,TJ (by omega),g2⟩
       have iO:∀i j,i<len->j<o.aP->(Pm.cells (es.getD i .any)).length=o.aP/\∃u,w.cell? ⟨bc.1,off * o.aP+(i * o.aP+j),none⟩=some u/\aS w A' u ((Pm.cells (es.getD i .any)).getD j .any):=by
        intro i j hi hj
        obtain⟨el,g1,g2⟩:=at_i i hi;obtain⟨n1,n2⟩:=k5 _ el g1;obtain⟨m1,m2⟩:=Bc g2;have hq:=TJ (show j<(Pm.cells el).length by omega);obtain⟨u,q1,q2⟩:=n2 j _ hq;obtain⟨m,hm,q3⟩:=m2 j (by omega);rw[T7,hq]at q3;refine⟨by omega,u,?_,ih m (by omega) q2 q3⟩;rw[cell_of_row w bc.1 _ oC T (0,0) k1,<-US,<-Ur];exact q1
       have:=aS.ab (w:=w) (A:=A') bc.1 (off * o.aP) cap o.aP false es (λi j=>(w.cell? ⟨bc.1,off * o.aP+(i * o.aP+j),none⟩).getD Go.undef)
        (by intro hn;rw[hn]at hlen;simp at hlen;omega) (by rw[hlen];omega) (λhh=>by cases hh) (hM id o bc e1 hb Ba) k4
        (λi hi=>(iO i 0 (by omega) k4).1)
        (λi j hi hj=>by obtain⟨_,u,m1,m2⟩:=iO i j (by omega) hj;rw[m1];rfl)
        (λi j hi hj=>by obtain⟨_,u,m1,m2⟩:=iO i j (by omega) hj;rw[m1];exact m2)
       rw[hlen]at this;exact this
     cases e
    cases e
   ·rename_i cs
    obtain⟨r,hr,rfl⟩:=Uj.1 e;obtain⟨l1,l2⟩:=iA hr;obtain⟨vs,rfl,hl,hh⟩:=hv.nC;exact .agg vs r (by omega) (λj hj=>ih n (by omega) (hh j (by omega)) (l2 j (by omega)))
   ·rename_i cs
    obtain⟨r,hr,rfl⟩:=Uj.1 e;obtain⟨l1,l2⟩:=iA hr;obtain⟨vs,rfl,hl,hh⟩:=hv.l9;exact .cT vs r (by omega) (λj hj=>ih n (by omega) (hh j (by omega)) (l2 j (by omega)))
   ·split at e
    ·rename_i hp;obtain rfl:=TF e;exact vl hp
    ·cases e
theorem qs(H:aG w F Y h){A':Nat->Prop}(hA:∀b,b<w.heap.size->¬Av F h Y b->¬A' b){v:Value}{p p':PV}(hv:ar w (Av F h Y) Y h v p)(e:sQ h p=some p')
  (hM:∀(id:Nat) (o:aC) (bc:Nat×Nat),h[id]?=some o->Y[id]?=some bc->(o.mu=.m\/o.mu=.f)->¬A' bc.1):aS w A' v p':=by
 unfold sQ at e
 split at e
 ·rename_i r hr
  obtain rfl:=TF e;exact Ib H hA hv hr hM
 exact Am H hA hM 8 hv e
theorem aG.empty(w:World)(F:Nat->Prop)(hF:∀b,F b->b<w.heap.size)(hG:cp w F):aG w F [] [] where
 di:=hG.ia λb hb=>hb.elim id λm=>by obtain⟨id,o,bc,e,_⟩:=m;simp at e
 len:=rfl
 fin:=hF
 obj id o bc e:=by simp at e
 eZ id cz o o' bc bW _ e:=by simp at e
 out id o bc e:=by simp at e
theorem gU(b:Nat):¬Mb [] [] b:=by rintro⟨id,o,bc,e,_⟩;simp at e
def jC(P:Program)(lv:Nat)(w:World)(F:Nat->Prop)(Y:List (Nat×Nat))(h:aa)(f:FuncId)(vs:List Value)(r:PV)(h':aa):Prop:=
 Calls P f vs.toArray w λe w'=>∃v Y',e=.returned v/\ar w' (Av F h' Y') Y' h' v r/\aG w' F Y' h'/\cP w h Y w' h' Y'/\(lv<=1->cc w w')
def cW(P:Program)(f:FuncId)(g:List PV->aa->Option (PV×aa)):Prop:=
 ∀args h r h',g args h=some (r,h')->∀w F Y vs,aG w F Y h->L2 (ar w (Av F h Y) Y h) vs args->jC P 2 w F Y h f vs r h'
theorem aG.l8(H:aG w F Y h){id:Nat}{h2:aa}(e:l8 h id=some h2):
  aG w F Y h2/\cP w h Y w h2 Y/\(∃o:aC,h2[id]?=some o/\o.mu=.f)/\(∀(k:Nat) (o:aC),h[k]?=some o->o.mu=.f->h2[k]?=some o):=by
 unfold Pm.l8 at e
 split at e
 ·rename_i o ho
  split at e
  ·rename_i hc
   obtain⟨hv,Ba⟩:=hc;obtain rfl:=TF e;have bE:=ae ho;have im:(h.set id {o with mu:=.f})[id]?=some {o with mu:=.f}:=by simp[bE]
   have gV:∀k,k≠id->(h.set id {o with mu:=.f})[k]?=h[k]?:=λk hk=>TN (Um hk)
   have hx:o.mu≠.x:=by rcases Ba with h |h <;>rw[h] <;>simp
   have hs:cP w h Y w (h.set id {o with mu:=.f}) Y:=by
    refine⟨TI _,by simp,λ_ _ _=>rfl,?_,?_,?_,rfl,rfl,rfl,λ_=>TI _⟩
    ·rintro b hb ⟨k,o',c',e1,e2,e3,rfl⟩
     by_cases hk:k=id
     subst hk;rw[im]at e1;obtain rfl:=TF e1;simp at e3;rw[gV k hk]at e1;exact⟨k,o',c',e1,e2,e3,rfl⟩
    ·intro k o' c' e1 e2 e3
     by_cases hk:k=id
     ·subst hk;rw[ho]at e1;obtain rfl:=TF e1;exact⟨_,c',im,e2,by simp,⟨TI _,λh=>h⟩,λ_=>⟨rfl,λ_=>rfl,rfl⟩⟩
     exact⟨o',c',by rw[gV k hk];exact e1,e2,e3,⟨TI _,λh=>h⟩,λ_=>⟨rfl,λ_=>rfl,rfl⟩⟩
    ·intro k o' e1 e2
     refine⟨?_,rfl⟩
     by_cases hk:k=id
     ·subst hk;rw[ho]at e1;obtain rfl:=TF e1;rw[im];rcases Ba with hm |hm;exact absurd hm e2
      ·congr 1;cases o;simp at hm;subst hm;rfl
     rw[gV k hk];exact e1
   refine⟨⟨by simp[H.len],H.fin,?_,?_,?_,H.di.pG hs⟩,hs,⟨_,im,rfl⟩,?_⟩
   ·intro k o' c' e1 e2 e3
    by_cases hk:k=id
    ·subst hk;rw[im]at e1;obtain rfl:=TF e1;exact gq.mono hs rfl (H.obj k o c' ho e2 hx)
    rw[gV k hk]at e1;exact gq.mono hs rfl (H.obj k o' c' e1 e2 e3)
   ·intro k k' o1 o2 c1 c2 aU e1 e2 e3 e4 m1 m2
    have hk:k≠id:=by rintro rfl;rw[im]at e1;obtain rfl:=TF e1;simp at m1
    rw[gV k hk]at e1
    by_cases fv:k'=id
    subst fv;exact H.eZ k k' o1 o c1 c2 aU e1 ho e3 e4 m1 hx;rw[gV k' fv]at e2;exact H.eZ k k' o1 o2 c1 c2 aU e1 e2 e3 e4 m1 m2
   ·intro k o' c' e1 e2 e3
    by_cases hk:k=id
    subst hk;exact H.out k o c' ho e2 Ba;rw[gV k hk]at e1;exact H.out k o' c' e1 e2 e3
   ·intro k o' e1 e2
    by_cases hk:k=id
    ·subst hk;rw[ho]at e1;obtain rfl:=TF e1;rw[im];congr 1;cases o;simp at e2;subst e2;rfl
    rw[gV k hk];exact e1
  cases e
 cases e
theorem aG.fO:∀(ids:List Nat) {h h2:aa},aG w F Y h->fO h ids=some h2->
  aG w F Y h2/\cP w h Y w h2 Y/\(∀id∈ids,∃o:aC,h2[id]?=some o/\o.mu=.f)/\(∀(k:Nat) (o:aC),h[k]?=some o->o.mu=.f->h2[k]?=some o)
 |[],h,h2,H,e=>by
  simp[Pm.fO]at e;subst e;exact⟨H,cP.refl w h Y,(λ_ hm=>by cases hm),(λ_ _ h1 _=>h1)⟩
 |id::r,h,h2,H,e=>by
  simp only[Pm.fO]at e
  split at e
  ·rename_i h1 he
   obtain⟨H1,S1,⟨o,o1,o2⟩,K1⟩:=H.l8 he;obtain⟨H2,S2,A2,K2⟩:=aG.fO r H1 e;refine⟨H2,S1.trans S2,λk hk=>?_,λk o h3 h4=>K2 k o (K1 k o h3 h4) h4⟩;rcases TW.1 hk with rfl |hk;exact⟨o,K2 _ o o1 o2,o2⟩;exact A2 k hk
  cases e
theorem Bd{args:List PV}{j:Nat}(hj:j<args.length){id:Nat}(hm:id∈Ia (args.getD j .any)):id∈my args:=by
 have:args.getD j .any=args[j]:=by simp[List.getD,hj]
 rw[this]at hm;exact UY.2 ⟨_,Up hj,hm⟩
theorem qV(H:aG w F Y h){id:Nat}{o:aC}{bc:Nat×Nat}(e1:h[id]?=some o)(e2:Y[id]?=some bc)(e3:o.mu=.f):¬Av F h Y bc.1:=by
 rintro(hf |⟨k,o',c',f1,f2,f3,f4⟩);exact H.out id o bc e1 e2 (.inr e3) hf
 ·have aU:k≠id:=by
   rintro rfl;rw[e1]at f1;obtain rfl:=TF f1;rw[e3]at f3;cases f3
  exact H.eZ k id o' o c' bc aU f1 e1 f2 e2 f3 (by rw[e3];simp) f4
theorem pH{w':World}{h':aa}{Y':List (Nat×Nat)}(s:cP w [] [] w' h' Y'):cc w w':=
 ⟨s.size,λb hb=>s.aB b hb (gU b),s.os,s.tape,s.output,s.drawn⟩
theorem jM{f:FuncId}{run:List PV->aa->Option (PV×aa)}(S:cW P f run){A:Nat->Prop}(hA:∀b,A b->b<w.heap.size)(hG:cp w A){args:List PV}{vs:List Value}(ha:L2 (aS w A) vs args)
  {r r':PV} {hc:aa} (e1:run (ba args) []=some (r,hc)) (e2:sQ hc r=some r'):
  Calls P f vs.toArray w λe w'=>∃v,e=.returned v/\aS w' A v (cJ r')/\cc w w':=by
 have hl:(ba args).length=args.length:=by simp[cK]
 have NN:∀b,Av A [] [] b↔A b:=λb=>⟨λh=>h.elim id (λh=>absurd h (gU b)),.inl⟩
 have mz:L2 (ar w (Av A [] []) [] []) vs (ba args):=⟨by rw[hl];exact ha.1,λj hj=>by
  rw[dZ];exact .val (((ha.2 j (by omega)).cJ).ia (λb hb=>(NN b).1 hb))⟩
 refine(S (ba args) [] r hc e1 w A [] vs (aG.empty w A hA hG) mz).mono ?_;rintro e w' ⟨v,Y',rfl,q1,q2,q3,_⟩;refine⟨v,rfl,?_,pH q3⟩;refine(qs q2 (λb _ hb ha=>hb (.inl ha)) q1 e2 (λid o bc m1 m2 m3=>?_)).cJ;rcases m3 with m3 |m3;exact q2.out id o bc m1 m2 (.inl m3);exact q2.out id o bc m1 m2 (.inr m3)
mutual
theorem qW:∀p:PV,dI p=true->dI (cJ p)=true
 | .agg cs,h=>by simp only[dI,cJ]at h ⊢;exact mR cs h
 | .cT cs,h=>by simp only[dI,cJ]at h ⊢;exact mR cs h
 | .int _ _,_=>rfl
 | .bool _,_=>rfl
 | .str _,_=>rfl
 | .c9,_=>rfl
 | .ay,_=>rfl
 | .eK,_=>rfl
 | .ab _ _,h=>by simp[dI]at h
 | .an _ _ _ _,h=>by simp[dI]at h
 | .ptr _ _ _ _,h=>by simp[dI]at h
 | .fe _,h=>by simp[dI]at h
 | .cU _,h=>by simp[dI]at h
 | .fn _ _,h=>by simp[dI]at h
 | .j4 _ _ _,h=>by simp[dI]at h
 | .undef,h=>by simp[dI]at h
 | .any,h=>by simp[dI]at h
theorem mR:∀cs:List PV,kU cs=true->kU (ba cs)=true
 |[],_=>rfl
 |c::r,h=>by
  simp only[kU,ba,TK]at h ⊢;exact⟨qW c h.1,mR r h.2⟩
end
theorem uX{run:gw}{f:FuncId}(S:cW P f (run f)){lv:Nat}{args:List PV}{r:PV}{h':aa}(e:dp run lv f args h=some (r,h'))(H:aG w F Y h){vs:List Value}
  (ha:L2 (ar w (Av F h Y) Y h) vs args):jC P lv w F Y h f vs r h':=by
 unfold dp at e
 have done:∀{h2:aa} (H2:aG w F Y h2) (S2:cP w h Y w h2 Y) (p:PV),(Calls P f vs.toArray w λe w'=>∃v,e=.returned v/\aS w' (Av F h2 Y) v p/\cc w w')->jC P lv w F Y h f vs p h2:=by
  intro h2 H2 S2 p hc
  refine hc.mono ?_;rintro e w' ⟨v,rfl,q1,q2⟩;exact⟨v,Y,rfl,.val q1,H2.uY q2,S2.trans (q2.pG h2 Y),λ_=>q2⟩
 split at e
 ·rename_i hv
  split at e
  ·rename_i r0 hc h1
   split at e
   ·rename_i r1 h2
    obtain⟨rfl,rfl⟩:=TL (TF e);refine done H (cP.refl w h Y) _ (jM (A:=Av F h Y) S (λb hb=>Av.lt H hb) H.di (args:=args) ⟨ha.1,λj hj=>?_⟩ h1 h2);rw[bp]at hv;exact(ha.2 j hj).yz (dJ hv hj)
   cases e
  cases e
 ·split at e
  ·rename_i args' hr
   obtain⟨l1,l2⟩:=wq hr
   split at e
   ·rename_i r0 hc h1
    split at e
    ·rename_i r1 h2
     have frozen:∀{h2:aa} (H2:aG w F Y h2) (S2:cP w h Y w h2 Y) (hf:∀id∈my args,∃o:aC,h2[id]?=some o/\o.mu=.f),L2 (aS w (Av F h2 Y)) vs args':=by
      intro h2 H2 S2 hf
      refine⟨by rw[ha.1,l1],λj hj=>?_⟩;refine qp H (λb hb hn=>Av.mono S2 b hb hn) (ha.2 j (by omega)) (l2 j (by omega)) (λid o bc hm m1 m2 m3=>?_);obtain⟨o2,g1,g2⟩:=hf id (Bd (by omega) hm);exact qV H2 g1 m2 g2
     split at e
     ·rename_i An
      obtain⟨rfl,rfl⟩:=TL (TF e);simp only[Uo]at An;rcases An with An |An
      ·refine done H (cP.refl w h Y) _ ?_;have:=jM (P:=P) (w:=w) (A:=λ_=>False) S (λb hb=>hb.elim) (H.di.ia λb hb=>hb.elim) (args:=args') (vs:=vs) ⟨by rw[ha.1,l1],λj hj=>qp H (λ_ _ _ hh=>hh) (ha.2 j (by omega)) (l2 j (by omega)) (λ_ _ _ _ _ _ _ hh=>hh)⟩ h1 h2;refine this.mono ?_;rintro e w' ⟨v,rfl,q1,q2⟩;have yA:dI (cJ r1)=true:=qW r1 An;exact⟨v,rfl,q1.dI yA,q2⟩
      ·refine done H (cP.refl w h Y) _ (jM (A:=Av F h Y) S (λb hb=>Av.lt H hb) H.di (frozen H (cP.refl w h Y) (λid bE=>?_)) h1 h2);have:=TH.1 An id bE
       split at this
       ·rename_i o ho
        simp only[TK,decide_eq_true_eq]at this;exact⟨o,ho,this.1⟩
       cases this
     ·split at e
      ·cases Kb:fO h (my args)with
       |none=>rw[Kb]at e;simp at e
       |some h3=>
        rw[Kb]at e;simp at e;obtain⟨rfl,rfl⟩:=e;obtain⟨H2,S2,A2,_⟩:=aG.fO (my args) H Kb;exact done H2 S2 _ (jM (A:=Av F h3 Y) S (λb hb=>Av.lt H2 hb) H2.di (frozen H2 S2 A2) h1 h2)
      ·cases e
    cases e
   cases e
  ·split at e
   ·rename_i args' hr
    obtain⟨l1,l2⟩:=iA hr
    split at e
    ·rename_i r0 hc h1
     split at e
     ·rename_i r1 h2
      split at e
      ·rename_i An
       obtain⟨rfl,rfl⟩:=TL (TF e);refine done H (cP.refl w h Y) _ ?_;have:=jM (P:=P) (w:=w) (A:=λ_=>False) S (λb hb=>hb.elim) (H.di.ia λb hb=>hb.elim) (args:=args') (vs:=vs) ⟨by rw[ha.1,l1],λj hj=>Am H (λ_ _ _ hh=>hh) (λ_ _ _ _ _ _ hh=>hh) 8 (ha.2 j (by omega)) (l2 j (by omega))⟩ h1 h2;refine this.mono ?_;rintro e w' ⟨v,rfl,q1,q2⟩;exact⟨v,rfl,q1.dI (qW r1 An),q2⟩
      cases e
     cases e
    cases e
   ·cases e
end Go.Pm
namespace Go.Pm
variable{C:bZ}(T:kM C.P)
variable{ops:Array Oper}{d:Nat}{ty:TypeId}{pos:String}{af:Array Edge}{r:List Oper}{V:Nat->PV}{L:List (Nat×PV)}{h:aa}{Q:St->Prop}
theorem R.gm{t:TypeId}{x ix:Operand}{s:ByteArray}{k:IntKind}{i:Nat}{b:UInt8}(hx:dn L x=some (.str s))(hi:dn L ix=some (.int k (i:Int)))(hk:T.kd t=some .str)(hv:s[i]?=some b)
  (kk:ag C ops r ⟨al ((d,.int .u8 b.toNat)::L) V,h⟩ Q):ag C ops (⟨some d,.index t x ix,ty,pos,af,none⟩::r) ⟨al L V,h⟩ Q:=
 ag.fj (λrun=>by simp[ak,aw,ah hx,ah hi,qL,jE (T.cI _ _ hk),hv]) kk
theorem R.max{ts:Array TypeId}{x y:Operand}{k:IntKind}{a b:Int}(hx:dn L x=some (.int k a))(hy:dn L y=some (.int k b))(kk:ag C ops r ⟨al ((d,.int k (max a b))::L) V,h⟩ Q):
  ag C ops (⟨some d,.call ⟨.builtin .max,#[x,y],ts⟩,ty,pos,af,none⟩::r) ⟨al L V,h⟩ Q:=by
 refine ag.fj (v:=.int k (Max.max a b)) (λrun=>?_) kk;have:(if b>a then b else a)=Max.max a b:=by split <;>omega
 simp[ak,ah hx,ah hy,aT,CM,this]
theorem R.Et{t yt:TypeId}{x y:Operand}{a b:ByteArray}(hx:dn L x=some (.str a))(hy:dn L y=some (.str b))(hh:a.toList=b.toList)(k1:ag C ops r ⟨al ((d,(.bool true))::L) V,h⟩ Q):
  ag C ops (⟨some d,.binOp .eql t x y yt,ty,pos,af,none⟩::r) ⟨al L V,h⟩ Q:=ag.fj (λrun=>by simp[ak,aw,ah hx,ah hy,dY,jJ,hh]) k1
def ky(L:List (Nat×PV)):List (Nat×Operand)->Option (List (Nat×PV))
 |[]=>some []
 |(i,x)::xs=>match dn L x,ky L xs with
  |some v,some vs=>some ((i,v)::vs)
  |_,_=>none
theorem mj{L:List (Nat×PV)}{V:Nat->PV}:∀{xs:List (Nat×Operand)} {vs:List (Nat×PV)},ky L xs=some vs->xs.map (λ(i,x)=>(i,ev (al L V) x))=vs
 |[],vs,e=>by simp[ky]at e;subst e;rfl
 |(i,x)::xs,vs,e=>by
  simp only[ky]at e
  split at e
  ·rename_i v zC h1 h2
   obtain rfl:=TF e;simp only[TT,ah h1,mj h2]
  cases e
def qD(ts:Nat->Option Nat)(os:List (Nat×TypeId))(i:Nat):Option (Nat×Nat):=
 match os[i]? with
 |some (off,ty)=>(ts ty).map λs=>(off,s)
 |none=>none
theorem sf{p q:Nat->Option (Nat×Nat)}(Ql:∀i x,p i=some x->q i=some x):∀{parts:List (Nat×PV)} {cs r:List PV},iF p cs parts=some r->iF q cs parts=some r
 |[],cs,r,e=>e
 |(i,v)::parts,cs,r,e=>by
  simp only[iF]at e ⊢
  split at e
  cases e
  ·rename_i off size hp
   rw[Ql _ _ hp];simp only
   split at e
   ·rename_i hc
    rw[if_pos hc];exact sf Ql e
   cases e
theorem B4{t:TypeId}{z:PV}{os:List (Nat×TypeId)}{parts:List (Nat×PV)}{cs:List PV}(hz:T.tz t=some z)(hk:T.kd t=some (.st os))(ha:(os.all λo=>(T.ts o.2).isSome)=true)(h1:(cells z).all aZ=true)
  (hf:iF (qD T.ts os) (cells z) parts=some cs):qJ C.P t parts=some (.agg cs):=by
 obtain⟨fs,e1,e2⟩:=xK (T.cI _ _ hk)
 have cZ:(fs.toList.all λf=>(bI C.P f.type).isSome)=true:=by
  rw[<-e2,List.all_map]at ha;rw[TH]at ha ⊢
  intro f hf
  have:=ha f hf;simp only[Function.comp]at this
  cases hh:T.ts f.type with
  |none=>rw[hh]at this;cases this
  |some n=>rw[T.dF _ _ hh];rfl
 have hp:iF (fD C.P fs) (cells z) parts=some cs:=by
  refine sf (λi x hx=>?_) hf;unfold qD at hx;rw[<-e2,TS]at hx;unfold fD;have OH:fs[i]?=fs.toList[i]?:=by simp
  rw[OH]
  cases hh:fs.toList[i]? with
  |none=>rw[hh]at hx;cases hx
  |some f=>
   rw[hh]at hx;simp only[TO]at hx ⊢
   cases tF:T.ts f.type with
   |none=>rw[tF]at hx;cases hx
   |some n=>rw[tF]at hx;rw[T.dF _ _ tF];exact hx
 unfold qJ;rw[T.mC _ _ hz,e1];simp only[cZ,h1,and_self,if_true,hp,TO]
def vM(sz n:Nat)(p:Nat×PV):Bool:=decide ((cells p.2).length=sz)&& (cells p.2).all aZ&&decide (p.1<n)
theorem sg{lv:Nat}{t el:TypeId}{n sz:Nat}{z:PV}{ps:List (Nat×PV)}{es:List PV}(hk:T.kd t=some (.sl el))(hs:T.ts el=some (sz+1))(hz:T.tz el=some z)(hn:n * (sz+1)<=16777216)(hl:(cells z).length=sz+1)(h1:(cells z).all aZ=true)
  (hp:ps.all (vM (sz+1) n)=true) (he:uR z n ps=es) (hv:au es=true):cu C.P lv h t n ps=some (.ab true es,h):=by
 unfold cu;rw[aY (T.cI _ _ hk)];simp only[T.dF _ _ hs,T.mC _ _ hz];have Sq:(ps.all λp=>decide ((cells p.2).length=sz+1)&& (cells p.2).all aZ&&decide (p.1<n))=true:=hp;rw[if_pos ⟨by omega,hn,hl,h1,Sq⟩,he,if_pos hv]
theorem R.buildSlice{t el:TypeId}{n sz:Nat}{z:PV}{parts:Array (Nat×Operand)}{ps:List (Nat×PV)}{es:List PV}(Nv:ky L parts.toList=some ps)(hk:T.kd t=some (.sl el))(hs:T.ts el=some (sz+1))(hz:T.tz el=some z)(hn:n * (sz+1)<=16777216)(hl:(cells z).length=sz+1)(h1:(cells z).all aZ=true)
  (hp:ps.all (vM (sz+1) n)=true) (he:uR z n ps=es) (hv:au es=true) (kk:ag C ops r ⟨al ((d,.ab true es)::L) V,h⟩ Q):
  ag C ops (⟨some d,.buildSlice t n parts,ty,pos,af,none⟩::r) ⟨al L V,h⟩ Q:=
 ag.fj (λrun=>by simp only[ak,aw,mj Nv,sg T hk hs hz hn hl h1 hp he hv]) kk
theorem nI{n b:Nat}(h1:n<1000000000)(h2:b<=1000):roomy n b=true:=by
 have:n * b<=1000000000 * 1000:=Vy (by omega) h2;simp[roomy];omega
def dw(sz:Nat)(ys:List PV):Prop:=ys.all (λv=>decide ((cells v).length=sz)&& (cells v).all aZ)=true
theorem fH{lv:Nat}{st xt el qf:TypeId}{sz iU:Nat}{z:PV}{full:Bool}{ys:List PV}(h1:1<=lv)(hk:T.kd st=some (.sl el))(fv:T.kd xt=some (.sl qf))(hs:T.ts el=some (sz+1))(hb:T.tb el=some iU)(hz:T.tz el=some z)(fS:iU<=1000)(hl:(cells z).length=sz+1)(ho:(cells z).all aZ=true)
  (hy:dw (sz+1) ys) (aU:ys.isEmpty=false) (hn:ys.length<1000000000):cg C.P lv h st xt (.ab true []) (.ab full ys)=some (.an h.length 0 0 ys.length,h++[⟨.m,0,sz+1,ys⟩]):=by
 unfold cg;rw[aY (T.cI _ _ hk)];simp only[T.dF _ _ hs,T.tT _ _ hb,T.mC _ _ hz,cL,aY (T.cI _ _ fv),bC];unfold dw at hy;rw[if_pos ⟨by omega,by omega,⟨hl,ho⟩,hy⟩];simp only[aU,TR,if_false,Ut,Uu,Vw,UP,newObj];rw[if_pos ⟨trivial,h1,nI hn fS,trivial⟩]
theorem iB{st xt el qf:TypeId}{sz iU id ep len:Nat}{z:PV}{full:Bool}{ys:List PV}{o:aC}(hk:T.kd st=some (.sl el))(fv:T.kd xt=some (.sl qf))(hs:T.ts el=some (sz+1))(hb:T.tb el=some iU)(hz:T.tz el=some z)(fS:iU<=1000)(hl:(cells z).length=sz+1)(ho:(cells z).all aZ=true)
  (hy:dw (sz+1) ys) (aU:ys.isEmpty=false) (hn:len+ys.length<1000000000) (hg:getM h id ep=some o) (hm:o.mu=.m) (Dv:o.aP=sz+1) (hle:len<=o.es.length):
  cg C.P 2 h st xt (.an id ep 0 len) (.ab full ys)=some (.an id (ep+1) 0 (len+ys.length),h.set id {o with ep:=ep+1,es:=o.es.take len++ys}):=by
 unfold cg;rw[aY (T.cI _ _ hk)];simp only[T.dF _ _ hs,T.tT _ _ hb,T.mC _ _ hz,cL,aY (T.cI _ _ fv),bC];unfold dw at hy;rw[if_pos ⟨by omega,by omega,⟨hl,ho⟩,hy⟩];simp only[hg];rw[if_pos ⟨by omega,Dv.symm⟩];simp only[aU,TR,if_false];rw[if_neg (by simp[nv]),if_pos ⟨trivial,by omega,hm,nI hn fS⟩]
def Out(sz:Nat)(h:aa)(v:PV)(es:List PV):Prop:=(v=.ab true []/\es=[])\/∃id ep,v=.an id ep 0 es.length/\h[id]?=some ⟨.m,ep,sz,es⟩
theorem Out.gr{sz:Nat}{h:aa}{v:PV}{es:List PV}(o:Out sz h v es)(J:aa):Out sz (h++J) v es:=by
 rcases o with o |⟨id,ep,e1,e2⟩;exact .inl o
 ·refine .inr ⟨id,ep,e1,?_⟩
  have:id<h.length:=by
   rcases T8 id h.length with hh |hh;exact hh;rw[TZ hh]at e2;cases e2
  rw[TG this];exact e2
def MC(sz:Nat)(A J:aa)(v:PV)(es:List PV):Prop:=(v=.ab true []/\es=[])\/∃id ep,v=.an (A.length+id) ep 0 es.length/\J[id]?=some ⟨.m,ep,sz,es⟩
def HV(h:aa):Prop:=∀o∈h,o.mu≠.x/\au o.es=true
mutual
theorem vo(f:Nat->Bool):∀p,aJ p=true->br f p=true
 | .int ..,_ | .bool _,_ | .str _,_ | .c9,_ | .ay,_ | .eK,_ | .ab ..,_ | .cU _,_=>rfl
 | .agg cs,h=>by simp only[br];exact cf f cs (by simpa[aJ]using h)
 | .cT cs,h=>by simp only[br];exact cf f cs (by simpa[aJ]using h)
 | .fn _ cs,h=>by simp only[br];exact cf f cs (by simpa[aJ]using h)
 | .j4 _ _ cs,h=>by simp only[br];exact cf f cs (by simpa[aJ]using h)
 | .an ..,h | .ptr ..,h | .undef,h | .any,h=>by simp[aJ]at h
theorem cf(f:Nat->Bool):∀cs,au cs=true->bM f cs=true
 |[],_=>rfl
 |c::r,h=>by
  simp only[au,TK]at h;simp only[bM,vo f c h.1,cf f r h.2,UT]
end
theorem HV.closed{h:aa}(H:HV h):aL h=true:=by
 unfold aL;rw[TH]
 intro o ho
 rw[cf _ _ (H o ho).2];simp
theorem HV.nil:HV []:=λo ho=>by cases ho
theorem HV.gr{h k:aa}(H:HV h)(K:HV k):HV (h++k):=λo ho=>(TP.1 ho).elim (H o) (K o)
theorem HV.one{ep n:Nat}{es:List PV}(h:au es=true):HV [⟨.m,ep,n,es⟩]:=λo ho=>by simp at ho;subst ho;exact⟨by simp,h⟩
theorem HV.set{h:aa}(H:HV h)(id:Nat){o:aC}(h1:o.mu≠.x)(h2:au o.es=true):HV (h.set id o):=λo' FI=>by
 rcases U9 FI with FI|rfl;exact H o' FI;exact⟨h1,h2⟩
theorem bo{h:aa}{id ep:Nat}{o:aC}(e:h[id]?=some o)(h1:o.ep=ep)(h2:o.mu≠.x):getM h id ep=some o:=by simp[getM,e,h1,h2]
theorem MD{h:aa}{b n off:Nat}{e:PV}(hb:h[b]?=some ⟨.m,0,n,[e]⟩):cV h (.ptr b 0 0 off)=some ((cells e).drop off):=by simp[cV,getM,hb]
theorem R.oH{t:TypeId}{x:Operand}{c e:PV}{cs:List PV}{sz b n off:Nat}(hx:dn L x=some (.ptr b 0 0 off))(hs:T.ts t=some sz)(ht:T.ta t=some false)(hb:h[b]?=some ⟨.m,0,n,[e]⟩)(hc:(cells e).drop off=c::cs)(k:ag C ops r ⟨al ((d,c)::L) V,h⟩ Q):
  ag C ops (⟨some d,.load t x,ty,pos,af,none⟩::r) ⟨al L V,h⟩ Q:=R.gZ T hx hs ht ((MD hb).trans (by rw[hc])) k
theorem R.vd{t:TypeId}{a x:Operand}{b n off ep i sz:Nat}{o:aC}{e v:PV}(ha:dn L a=some (.ptr b ep i off))(hx:dn L x=some v)(hs:T.ts t=some sz)(hg:getM h b ep=some o)(hm:o.mu=.m)(hi:o.es[i]?=some e)(hl:(cells v).length=sz)(h1:(cells v).all aZ=true)(hle:off+sz<=(cells e).length)
  (k:ag C ops r ⟨al L V,h.set b {o with es:=o.es.set i (eF off sz e v)}⟩ Q):ag C ops (⟨none,.store t a x,ty,pos,af,none⟩::r) ⟨al L V,h⟩ Q:=by
 have k':ag C ops r ⟨bh (al L V) none .undef,h.set b {o with es:=o.es.set i (eF off sz e v)}⟩ Q:=k;refine ag.val (v:=.undef) (h':=h.set b {o with es:=o.es.set i (eF off sz e v)}) rfl (λrun=>?_) k';simp only[ak,aw,ah ha,ah hx,fq,T.dF _ _ hs,hg,hi,TI,if_true];rw[if_pos ⟨hm,hl,h1,hle⟩]
 rfl
theorem uz(n:Nat){p:PV}(h:aJ p=true):iH n p=true:=by
 unfold iH
 split <;>first |(simp[aJ]at h;done)|exact h
theorem zI(n:Nat){p:PV}(h:aJ p=true):eW n p=true:=by
 unfold eW
 split
 ·rename_i cs
  rw[TH]
  intro c hc
  have:au cs=true:=by simpa[aJ]using h
  rw[bp]at this;exact uz n (TH.1 this c hc)
 exact uz n h
theorem HV.eW{h:aa}(H:HV h)(n:Nat):(h.all λo=>o.es.all (eW n))=true:=by
 rw[TH]
 intro o ho
 have:=(H o ho).2;rw[bp]at this;rw[TH]
 intro e he
 exact zI n (TH.1 this e he)
mutual
theorem ml:∀p:PV,dI (cJ p)=dI p
 | .int .. | .bool _ | .str _ | .c9 | .ay | .eK | .fe _ | .ab .. | .cU _ | .fn .. | .j4 .. | .an .. | .ptr .. | .undef | .any=>rfl
 | .agg cs=>by simp only[cJ,dI];exact lS cs
 | .cT cs=>by simp only[cJ,dI];exact lS cs
theorem lS:∀cs:List PV,kU (ba cs)=kU cs
 |[]=>rfl
 |c::r=>by simp only[ba,kU,ml c,lS r]
end
theorem ai.ME{lv:Nat}{f:FuncId}{args args':List PV}{rv:PV}{Q:PV->aa->Prop}(hm:C.mode f=.pure)(hv:au args=false)(hr:kL h args=some args')(a:aW C f (ba args') rv)(hs:dI rv=true)(q:Q rv h):ai C lv f args h Q:=by
 obtain⟨n0,hn⟩:=a;refine⟨rv,h,q,n0,λn h1=>?_⟩;obtain⟨r0,hc,r1,e1,e2,e3⟩:=hn n h1;unfold cM;rw[hm]
 have An:dI r1=true:=by
  have:=ml r1;rw[e3]at this;rw[<-this];exact hs
 simp only[dp,hv,TR,if_false,hr,e1,e2,e3,An,Bool.true_or,if_true]
theorem bw.off{i L0:Nat}{own:List Nat}{op:Op}{g:Option (Nat×Bool)}(hw:aK ops ⟨some d,op,ty,pos,af,g⟩ (al L V)=some false)(k:bw C ops (i+1) r ⟨⟨al ((d,.undef)::L) V,h⟩,L0,own⟩ Q):
  bw C ops i (⟨some d,op,ty,pos,af,g⟩::r) ⟨⟨al L V,h⟩,L0,own⟩ Q:=by
 refine bw.step ⟨0,λn _=>?_⟩ k;simp only[bS,hw,bd]
theorem D.arith{i L0:Nat}{own:List Nat}{sW:BinOp}{t yt:TypeId}{x y:Operand}{k:IntKind}{a b c c':Int}(hx:dn L x=some (.int k a))(hy:dn L y=some (.int k b))(hp:Pm.arith sW a b=some c)(hw:k.wrap c=c')(kk:bw C ops (i+1) r ⟨⟨al ((d,(.int k c'))::L) V,h⟩,L0,own⟩ Q):
  bw C ops i (⟨some d,.binOp sW t x y yt,ty,pos,af,none⟩::r) ⟨⟨al L V,h⟩,L0,own⟩ Q:=by
 refine bw.plain (h':=h) rfl (λrun=>?_) kk;simp only[ak,aw,ah hx,ah hy]
 cases sW <;>simp only[Pm.arith,Ue,reduceCtorEq]at hp <;>subst hp <;>simp[dY,fE,hw]
theorem MC.rb{sz:Nat}{A J:aa}{v:PV}{es:List PV}(o:MC sz A J v es)(hv:au es=true):∃r1,rb (A++J) v=some r1/\cJ r1=.ab false (ba es):=by
 rcases o with⟨rfl,rfl⟩|⟨id,ep,rfl,e2⟩;exact⟨_,rfl,rfl⟩
 ·refine⟨.ab false es,?_,by simp[cJ]⟩;have:(A++J)[A.length+id]?=some ⟨.m,ep,sz,es⟩:=by rw[TQ (by omega),show A.length+id - A.length=id by omega];exact e2
  simp[Pm.rb,ot,sP,getM,this,hv]
end Go.Pm
namespace Go.Pm
variable{C:bZ}(T:kM C.P)
variable{ops:Array Oper}{d:Nat}{ty:TypeId}{pos:String}{af:Array Edge}{r:List Oper}{V:Nat->PV}{L:List (Nat×PV)}{h h':aa}{Q:St->Prop}
theorem ag.heap{V:Nat->PV}(e:h=h')(k:ag C ops r ⟨V,h'⟩ Q):ag C ops r ⟨V,h⟩ Q:=by subst e;exact k
theorem bw.heap{i:Nat}{V:Nat->PV}(e:h=h')(k:bw C ops i r ⟨⟨V,h'⟩,h'.length,[]⟩ Q):bw C ops i r ⟨⟨V,h⟩,h.length,[]⟩ Q:=by subst e;exact k
theorem HV.take{h:aa}(H:HV h)(n:Nat):HV (h.take n):=λo ho=>H o (Un ho)
theorem ai.As{f:FuncId}{args args':List PV}{N:Nat}{P Q:PV->aa->Prop}(hm:C.mode f=.opened)(eh:h=h')(ea:args=args')(hN:h'.length=N)(a:aD C f args' h' P)
  (q:∀r k,P r k->HV k/\(mM N r=true->Q r (k.take N))/\(mM N r=false->Q r k)):ai C 2 f args h Q:=by
 subst eh;subst ea;subst hN;refine ai.opened hm (a.mono ?_)
 intro r k hp
 obtain⟨h1,h2,h3⟩:=q r k hp
 cases hb:mM h.length r
 rw[if_neg (by simp)];exact h3 hb;rw[if_pos (by rw[(h1.take h.length).eW];rfl)];exact h2 hb
end Go.Pm
namespace Go.Pm
variable{C:bZ}(T:kM C.P)
variable{ops:Array Oper}{d:Nat}{ty:TypeId}{pos:String}{af:Array Edge}{r:List Oper}{V:Nat->PV}{L:List (Nat×PV)}{h:aa}{Q:St->Prop}
theorem ai.cH{f:FuncId}{g:List PV->aa->Option (PV×aa)}{args:List PV}{h':aa}{rv:PV}{Q:PV->aa->Prop}(hm:C.mode f=.cH g)(a:g args h=some (rv,h'))(q:Q rv h'):ai C 2 f args h Q:=by
 refine⟨rv,h',q,0,λn h1=>?_⟩;unfold cM;rw[hm];simp only[da,TI,if_true,a]
def loadT(h:aa)(t:TypeId)(p:PV):Option PV:=
 match T.ts t,T.ta t,cV h p with
 |some (sz+1),some true,some cs=>if Nat.ble (sz+1) cs.length then some (.agg (cs.take (sz+1)))else none
 |some _,some false,some (c::_)=>some c
 |_,_,_=>none
theorem nH{t:TypeId}{p v:PV}(e:loadT T h t p=some v):fC C.P h t p=some v:=by
 unfold loadT at e;unfold fC
 split at e
 ·rename_i sz cs h1 h2 h3
  rw[T.dF _ _ h1,T.En _ _ h2,h3]
  split at e
  ·rename_i hle
   simp only;rw[if_pos ⟨by omega,UD hle⟩];exact e
  cases e
 ·rename_i h1 h2 h3
  rw[T.dF _ _ h1,T.En _ _ h2,h3];exact e
 cases e
def tc(L:List (Nat×PV))(h:aa):List ResultVar->Option (List PV)
 |[]=>some []
 | .tmp t::r=>match lk L t,tc L h r with
  |some v,some vs=>some (v::vs)
  |_,_=>none
 | .cell a t::r=>match lk L a with
  |some p=>match loadT T h t p,tc L h r with
   |some v,some vs=>some (v::vs)
   |_,_=>none
  |none=>none
theorem vN{V:Nat->PV}:∀{l:List ResultVar} {vs:List PV},tc T L h l=some vs->cd C.P h (al L V) l=some vs
 |[],vs,e=>by simp[tc]at e;subst e;rfl
 | .tmp t::r,vs,e=>by
  simp only[tc]at e
  split at e
  ·rename_i v zC h1 h2
   obtain rfl:=TF e;simp[cd,cC h1,vN h2]
  cases e
 | .cell a t::r,vs,e=>by
  simp only[tc]at e
  split at e
  ·rename_i p hp
   split at e
   ·rename_i v zC h1 h2
    obtain rfl:=TF e;simp[cd,cC hp,nH T h1,vN h2]
   cases e
  cases e
end Go.Pm
namespace Go.Pm
open Go.Proofs
def jB(sz:Nat)(e:PV):Bool:=aJ e&&decide ((cells e).length=sz)&& (cells e).all aZ
def mP(args:List PV)(h:aa):Option (PV×aa):=
 match args with
 |[.ab true [],.int .i64 i,.ab _ [e]]=>if i=0/\jB 5 e=true then some (.an h.length 0 0 1,newObj h 5 [e])else none
 |[.an id ep 0 len,.int .i64 i,.ab _ [e]]=>match getM h id ep with
  |some o=>if o.mu=.m/\o.aP=5/\len<=o.es.length/\0<=i/\i<=len/\len<100000000/\jB 5 e=true/\(o.es.take len).all (jB 5)=true/\aL h=true then
    some (.an id (ep+1) 0 (len+1),h.set id {o with ep:=ep+1,es:=(o.es.take len).take i.toNat++[e]++(o.es.take len).drop i.toNat})else none
  |none=>none
 |_=>none
def ll(args:List PV)(h:aa):Option (PV×aa):=
 match args with
 |[.ab true [],.int .i64 i,.ab _ [e]]=>if i=0/\jB 4 e=true then some (.an h.length 0 0 1,newObj h 4 [e])else none
 |[.an id ep 0 len,.int .i64 i,.ab _ [e]]=>match getM h id ep with
  |some o=>if o.mu=.m/\o.aP=4/\len<=o.es.length/\0<=i/\i<=len/\len<100000000/\jB 4 e=true/\(o.es.take len).all (jB 4)=true/\aL h=true then
    some (.an id (ep+1) 0 (len+1),h.set id {o with ep:=ep+1,es:=(o.es.take len).take i.toNat++[e]++(o.es.take len).drop i.toNat})else none
  |none=>none
 |_=>none
def mQ(args:List PV)(h:aa):Option (PV×aa):=
 match args with
 |[.an id ep 0 len,.int .i64 i,.int .i64 j]=>match getM h id ep with
  |some o=>if o.mu=.m/\o.aP=5/\len<=o.es.length/\0<=i/\j=i+1/\i<len/\len<100000000/\(o.es.take len).all (jB 5)=true/\aL h=true then
    some (.an id (ep+1) 0 (len - 1),h.set id {o with ep:=ep+1,es:=(o.es.take len).take i.toNat++(o.es.take len).drop (i.toNat+1)})else none
  |none=>none
 |_=>none
def bz(aP:Nat)(args:List PV)(h:aa):Option (PV×aa):=
 match args with
 |[.ab _ es]=>if es.isEmpty then some (.ab true [],h)
   else if es.all (λv=>decide ((cells v).length=aP)&& (cells v).all aZ)=true/\es.length<1000000000 then some (.an h.length 0 0 es.length,newObj h aP es)else none
 |_=>none
def gA(f:FuncId):Mode:=
 if[0,1,82,80,28,347,305,183,240,281,379,161,215,216,370,15,16].contains f then .no
 else if f=194 then .ext λ|[.str a,.str b]=>some (.int .i64 (Lib.compareBytes a.data.toList b.data.toList))|_=>none
 else if f=351 then .cH mP
 else if f=352 then .cH mQ
 else if f=45 then .cH (bz 4)
 else if f=397 then .cH (bz 1)
 else if[65,226,229,152,310,250,311,398,372,387,388,403,402,390,391,378,399,400,207,258,162,45,397,158,203,128,154,129,130,200,87,89,143,86,142,72,104,271,320,272,270,278,371,322,323,324,368,366,367,326,325,369,381,49,51,50,100,360,361,382,359].contains f then .opened
 else if f<410 then .pure
 else .no
noncomputable def C:bZ:=⟨Tryz.prog,gA⟩
end Go.Pm
namespace Go.Pm
variable{C:bZ}(T:kM C.P)
variable{ops:Array Oper}{i:Nat}{d:Nat}{ty:TypeId}{pos:String}{af:Array Edge}{r:List Oper}{V:Nat->PV}{L:List (Nat×PV)}{h:aa}{Q:St->Prop}
theorem ai.out{f:FuncId}{sz:Nat}{v:PV}{es rest:List PV}{rv:PV}{Q:PV->aa->Prop}(hm:C.mode f=.pure)(o:Out sz h v es)(hv:au es=true)(hr:au rest=true)(a:aW C f (.ab false (ba es)::ba rest) rv)(hs:dI rv=true)(q:Q rv h):ai C 2 f (v::rest) h Q:=by
 rcases o with⟨rfl,rfl⟩|⟨id,ep,rfl,e2⟩;exact ai.pure hm (by simp[au,aJ,hr]) (by simpa[ba,cJ]using a) q
 ·refine ai.ME (args':=.ab false es::rest) hm (by simp[au,aJ]) ?_ (by simpa[ba,cJ]using a) hs q;have h1:ot h (.an id ep 0 es.length)=some (.ab false es):=by simp[ot,sP,getM,e2,hv]
  have h2:∀l:List PV,au l=true->kL h l=some l:=by
   intro l
   induction l with
   |nil=>intro _;rfl
   |cons c l ih=>
    intro hl
    simp only[au,TK]at hl;simp only[kL,ih hl.2]
    have:ot h c=some c:=by
     unfold ot
     split
     ·rename_i cs
      have G8:au cs=true:=by simpa[aJ]using hl.1
      have key:∀cs:List PV,au cs=true->qM h cs=some cs:=by
       intro cs
       induction cs with
       |nil=>intro _;rfl
       |cons c cs ih=>
        intro hh
        simp only[au,TK]at hh
        have:sP h c=some c:=by
         unfold sP
         split
         simp[aJ]at hh;rw[if_pos hh.1]
        simp only[qM,this,ih hh.2]
      rw[key cs G8];rfl
     ·unfold sP
      split
      simp[aJ]at hl;rw[if_pos hl.1]
    rw[this]
  simp only[kL,h1,h2 rest hr]
structure LP(H:aa)(v:PV)(sz:Nat)(eD:List PV)(r:PV)(h':aa):Prop where
 out:Out sz h' r eD
 hv:HV h'
 len:H.length<=h'.length
 fr:∀j,j<H.length->(∀ep n,v≠.an j ep 0 n)->h'[j]?=H[j]?
 ref:∀j ep n,r=.an j ep 0 n->(∃hY n',v=.an j hY 0 n')\/H.length<=j
theorem lK{sz:Nat}:∀{es:List PV},es.all (jB sz)=true->au es=true
 |[],_=>rfl
 |e::es,h=>by
  rw[U6,TK]at h;obtain⟨h1,h2⟩:=h;unfold jB at h1;simp only[TK]at h1;simp only[au,h1.1.1,lK h2,UT]
end Go.Pm
namespace Go.Pm
set_option maxRecDepth 20000
def Qq:List (Option Nat):=[some (1),some (1),some (1),some (1),some (1),some (1),some (1),some (4),some (4),some (1),some (1),some (1),some (1),some (2),some (2),some (1),some (1),some (1),some (1),some (1),some (1),some (1),some (1),some (1),some (1),some (1),some (1),some (1),some (1),some (1),some (1),some (1),some (4),some (4),some (5),some (5),some (1),some (8),some (8),some (1),some (1),some (1),some (1),some (1),some (1),some (1),some (1),some (1),some (1),some (1),some (1),some (1),some (1),some (1),some (1),some (1),some (1),some (1),some (1),some (1),some (2),some (2),some (1),some (1),some (1),some (1),some (1),some (1),some (1),some (1),some (1),some (1),some (1),some (1),some (1),some (1),some (1),some (1),some (1),some (1),some (1),some (1),some (1),some (1),some (1),some (1),some (1),some (1),some (1),some (1),some (1),some (1),some (1),some (1),some (1),some (1),some (1),some (1),some (1),some (1),some (1),some (1),some (2),some (2),some (1),some (1),some (1),some (1),some (1),some (1),some (1),some (1),some (1),some (1),some (1),some (1),some (1),some (1),some (1),some (1),some (1),some (1),some (1),some (1),some (1),some (1),some (1),some (1),some (4),some (4),some (1),some (1),some (1),some (1),some (1),some (1),some (1),some (1),some (1),some (1),some (1),some (1),some (1),some (1),some (1),some (1),some (1),some (1),some (1),some (1),some (1),some (1),some (1),some (1),some (1),some (1),some (1),some (1),some (1),some (1),some (1),some (1),some (1),some (1),some (1),some (1),some (1),some (1),some (1),some (1),some (1),some (1),some (1),some (1),some (1),some (1),some (1),some (1),some (1),some (1),some (1),some (1),some (1),some (1),some (1),some (1),some (5),some (5),some (1),some (1),some (1),some (1),some (1),some (1),some (1),some (1),some (1),some (1),some (2),some (2),some (1),some (24),some (1),some (1),some (1),some (1),some (1),some (1),some (1),some (1),some (1),some (1),some (1),some (1),some (1),some (1),some (1),some (1),some (1),some (1),some (1),some (1),some (1),some (1),some (1),some (1),some (1),some (1),some (1),some (1),some (1),some (1),some (1),some (1),some (1),some (1),some (1),some (1),some (1),some (20),some (65),some (1),some (1),some (1),some (1),some (1),some (1),some (1),some (1),some (1),some (1),some (1),some (1),some (1),some (1),some (1),some (1),some (1),some (1),some (1),some (1),some (5),some (5),some (1),some (1),some (1),some (1),some (1),some (1),some (1),some (1),some (2),some (2),some (1),some (1),some (1),some (1),some (1),some (1),some (1),some (1),some (1),some (1),some (1),some (1),some (1),some (1),some (1),some (1),some (256),some (256),some (1),some (1),some (1),some (1),some (1),some (1),some (1),some (1),some (1),some (1),some (1),some (1),some (3),some (3),some (1),some (1),some (1),some (1),some (3),some (3),some (1),some (1),some (32),some (64),some (1),some (1),some (1),some (1),some (1),some (1),some (1),some (1),some (1),some (1),some (4),some (4),some (1),some (1),some (1),some (1),some (1),some (1),some (1),some (1),some (1),some (1),some (1),some (1),some (1),some (1),some (1),some (256),some (2),some (2),some (32),some (1),some (2),some (1),some (4),some (4),some (0),some (0),some (0),some (1),some (1),some (1),some (1),some (1),some (1),some (11),some (11)]
def Qr:List (Option Nat):=[some (0),some (8),some (8),some (8),some (1),some (1),some (1),some (24),some (24),some (16),some (16),some (16),some (8),some (24),some (24),some (8),some (8),some (8),some (8),some (8),some (16),some (4),some (24),some (24),some (8),some (8),some (8),some (8),some (0),some (8),some (8),some (24),some (56),some (56),some (80),some (80),some (8),some (112),some (112),some (8),some (24),some (24),some (8),some (8),some (8),some (8),some (8),some (24),some (8),some (8),some (0),some (8),some (8),some (8),some (0),some (8),some (8),some (8),some (8),some (24),some (48),some (48),some (8),some (8),some (8),some (0),some (8),some (8),some (8),some (8),some (8),some (8),some (8),some (8),some (8),some (8),some (8),some (8),some (8),some (0),some (8),some (0),some (8),some (8),some (8),some (0),some (8),some (8),some (8),some (0),some (8),some (8),some (8),some (8),some (8),some (8),some (8),some (8),some (8),some (8),some (8),some (8),some (32),some (32),some (16),some (16),some (0),some (8),some (8),some (8),some (8),some (8),some (8),some (8),some (8),some (8),some (8),some (8),some (8),some (8),some (8),some (8),some (8),some (8),some (8),some (8),some (8),some (8),some (40),some (40),some (8),some (8),some (24),some (0),some (8),some (8),some (8),some (8),some (8),some (8),some (8),some (8),some (8),some (8),some (8),some (8),some (8),some (8),some (8),some (8),some (8),some (8),some (8),some (8),some (8),some (24),some (8),some (8),some (8),some (8),some (8),some (8),some (8),some (8),some (0),some (8),some (8),some (8),some (8),some (8),some (8),some (8),some (8),some (8),some (8),some (24),some (0),some (8),some (8),some (8),some (8),some (0),some (8),some (24),some (8),some (8),some (64),some (64),some (8),some (8),some (8),some (8),some (8),some (8),some (24),some (8),some (24),some (8),some (32),some (32),some (8),some (24),some (8),some (8),some (8),some (0),some (8),some (8),some (8),some (0),some (8),some (8),some (8),some (8),some (8),some (8),some (8),some (0),some (8),some (8),some (8),some (8),some (8),some (4),some (0),some (8),some (8),some (8),some (0),some (8),some (0),some (8),some (8),some (8),some (8),some (8),some (8),some (8),some (8),some (160),some (65),some (8),some (8),some (8),some (8),some (8),some (8),some (8),some (8),some (8),some (8),some (8),some (8),some (8),some (8),some (24),some (24),some (0),some (8),some (8),some (8),some (72),some (72),some (24),some (8),some (8),some (8),some (8),some (24),some (0),some (8),some (48),some (48),some (8),some (8),some (8),some (0),some (8),some (8),some (8),some (8),some (8),some (8),some (8),some (8),some (8),some (0),some (8),some (8),some (256),some (256),some (0),some (8),some (8),some (8),some (8),some (0),some (8),some (8),some (8),some (8),some (0),some (8),some (56),some (56),some (8),some (8),some (8),some (24),some (72),some (72),some (0),some (8),some (32),some (64),some (8),some (8),some (8),some (0),some (8),some (8),some (8),some (0),some (8),some (24),some (80),some (80),some (8),some (8),some (0),some (8),some (0),some (8),some (8),some (8),some (8),some (8),some (8),some (8),some (0),some (8),some (8),some (256),some (2),some (2),some (32),some (8),some (48),some (24),some (40),some (40),some (0),some (0),some (0),some (8),some (1),some (1),some (8),some (4),some (4),some (48),some (48)]
def Qs:List (Option Bool):=[some (false),some (false),some (false),some (false),some (false),some (false),some (false),some (true),some (true),some (false),some (false),some (false),some (false),some (true),some (true),some (false),some (false),some (false),some (true),some (true),some (false),some (false),some (false),some (false),some (false),some (false),some (false),some (false),some (false),some (false),some (false),some (false),some (true),some (true),some (true),some (true),some (false),some (true),some (true),some (false),some (false),some (false),some (false),some (false),some (false),some (false),some (false),some (false),some (false),some (false),some (false),some (false),some (false),some (false),some (false),some (false),some (false),some (false),some (false),some (false),some (true),some (true),some (false),some (false),some (false),some (false),some (false),some (false),some (false),some (false),some (false),some (false),some (false),some (false),some (false),some (false),some (false),some (false),some (false),some (false),some (false),some (false),some (false),some (false),some (false),some (false),some (false),some (false),some (false),some (false),some (false),some (false),some (false),some (false),some (false),some (false),some (false),some (false),some (false),some (false),some (false),some (false),some (true),some (true),some (false),some (false),some (false),some (false),some (false),some (false),some (false),some (false),some (false),some (false),some (false),some (false),some (false),some (false),some (false),some (false),some (false),some (false),some (false),some (false),some (false),some (false),some (false),some (false),some (true),some (true),some (false),some (false),some (false),some (false),some (false),some (false),some (false),some (false),some (false),some (false),some (false),some (false),some (false),some (false),some (false),some (false),some (false),some (false),some (false),some (false),some (false),some (false),some (false),some (false),some (false),some (false),some (false),some (false),some (false),some (false),some (false),some (false),some (false),some (false),some (false),some (false),some (false),some (false),some (false),some (false),some (false),some (false),some (false),some (false),some (false),some (false),some (false),some (false),some (false),some (false),some (false),some (false),some (false),some (false),some (false),some (false),some (true),some (true),some (false),some (false),some (false),some (false),some (false),some (false),some (false),some (false),some (false),some (false),some (true),some (true),some (false),some (true),some (false),some (false),some (false),some (false),some (false),some (false),some (false),some (false),some (false),some (false),some (false),some (false),some (false),some (false),some (false),some (false),some (false),some (false),some (false),some (false),some (false),some (false),some (false),some (false),some (false),some (false),some (false),some (false),some (false),some (false),some (false),some (false),some (false),some (false),some (false),some (false),some (false),some (true),some (true),some (false),some (false),some (false),some (false),some (false),some (false),some (false),some (false),some (false),some (false),some (false),some (false),some (false),some (false),some (false),some (false),some (false),some (false),some (false),some (false),some (true),some (true),some (false),some (false),some (false),some (false),some (false),some (false),some (false),some (false),some (true),some (true),some (false),some (false),some (false),some (false),some (false),some (false),some (false),some (false),some (false),some (false),some (false),some (false),some (false),some (false),some (false),some (false),some (true),some (true),some (false),some (false),some (false),some (false),some (false),some (false),some (false),some (false),some (false),some (false),some (false),some (false),some (true),some (true),some (false),some (false),some (false),some (false),some (true),some (true),some (false),some (false),some (true),some (true),some (false),some (false),some (false),some (false),some (false),some (false),some (false),some (false),some (false),some (false),some (true),some (true),some (false),some (false),some (false),some (false),some (false),some (false),some (false),some (false),some (false),some (false),some (false),some (false),some (false),some (false),some (false),some (true),some (true),some (true),some (true),some (false),some (true),some (false),some (true),some (true),some (true),some (true),some (true),some (false),some (false),some (false),some (false),some (false),some (false),some (true),some (true)]
def Qt:List (Option Kd):=[some (.other),some (.other),some (.int .i64),some (.int .i64),some (.bool),some (.int .u8),some (.int .u8),some (.st [(0,2),(1,3),(2,4),(3,6)]),some (.st [(0,2),(1,3),(2,4),(3,6)]),some (.str),some (.str),some (.str),some (.int .u64),some (.st [(0,9),(1,12)]),some (.st [(0,9),(1,12)]),some (.other),some (.other),some (.other),some (.st [(0,17)]),some (.st [(0,17)]),some (.other),some (.int .i32),some (.sl 35),some (.sl 38),some (.other),some (.other),some (.other),some (.int .i64),some (.other),some (.other),some (.other),some (.sl 33),some (.st [(0,3),(1,9),(2,3),(3,31)]),some (.st [(0,3),(1,9),(2,3),(3,31)]),some (.st [(0,31),(1,33)]),some (.st [(0,31),(1,33)]),some (.other),some (.st [(0,33),(4,33)]),some (.st [(0,33),(4,33)]),some (.other),some (.sl 41),some (.sl 5),some (.other),some (.other),some (.other),some (.other),some (.other),some (.sl 3),some (.other),some (.other),some (.other),some (.other),some (.other),some (.other),some (.other),some (.other),some (.other),some (.other),some (.other),some (.sl 9),some (.st [(0,59),(1,59)]),some (.st [(0,59),(1,59)]),some (.other),some (.other),some (.other),some (.other),some (.other),some (.other),some (.other),some (.other),some (.other),some (.other),some (.other),some (.other),some (.other),some (.other),some (.other),some (.other),some (.other),some (.other),some (.other),some (.other),some (.other),some (.other),some (.other),some (.other),some (.other),some (.other),some (.other),some (.other),some (.other),some (.other),some (.other),some (.other),some (.other),some (.mp 9 4),some (.other),some (.other),some (.other),some (.other),some (.other),some (.other),some (.st [(0,101),(1,41)]),some (.st [(0,101),(1,41)]),some (.other),some (.other),some (.other),some (.other),some (.other),some (.other),some (.other),some (.other),some (.other),some (.other),some (.other),some (.other),some (.other),some (.mp 3 3),some (.other),some (.other),some (.other),some (.other),some (.other),some (.other),some (.other),some (.other),some (.other),some (.other),some (.st [(0,9),(1,3),(2,3),(3,3)]),some (.st [(0,9),(1,3),(2,3),(3,3)]),some (.other),some (.other),some (.sl 33),some (.other),some (.other),some (.other),some (.other),some (.other),some (.other),some (.other),some (.other),some (.other),some (.other),some (.other),some (.other),some (.other),some (.other),some (.other),some (.other),some (.other),some (.other),some (.other),some (.other),some (.other),some (.other),some (.sl 129),some (.other),some (.other),some (.other),some (.other),some (.other),some (.other),some (.other),some (.other),some (.other),some (.other),some (.other),some (.other),some (.other),some (.other),some (.other),some (.other),some (.other),some (.other),some (.other),some (.sl 187),some (.other),some (.other),some (.other),some (.other),some (.other),some (.other),some (.other),some (.sl 31),some (.other),some (.other),some (.st [(0,33),(4,3)]),some (.st [(0,33),(4,3)]),some (.other),some (.other),some (.int .u64),some (.other),some (.other),some (.mp 9 3),some (.sl 199),some (.other),some (.sl 4),some (.other),some (.st [(0,47),(1,3)]),some (.st [(0,47),(1,3)]),some (.other),some (.arr 24 5),some (.int .u64),some (.other),some (.other),some (.other),some (.other),some (.other),some (.other),some (.other),some (.other),some (.other),some (.other),some (.other),some (.other),some (.other),some (.int .i64),some (.other),some (.other),some (.other),some (.other),some (.other),some (.other),some (.int .u32),some (.other),some (.other),some (.other),some (.other),some (.other),some (.other),some (.other),some (.other),some (.other),some (.other),some (.other),some (.other),some (.other),some (.other),some (.other),some (.arr 20 202),some (.arr 65 5),some (.other),some (.other),some (.other),some (.other),some (.other),some (.int .u64),some (.other),some (.other),some (.other),some (.other),some (.other),some (.other),some (.other),some (.other),some (.sl 202),some (.sl 202),some (.other),some (.other),some (.other),some (.mp 3 256),some (.st [(0,31),(1,3),(2,260),(3,260),(4,47)]),some (.st [(0,31),(1,3),(2,260),(3,260),(4,47)]),some (.sl 175),some (.other),some (.other),some (.other),some (.other),some (.sl 272),some (.other),some (.other),some (.st [(0,31),(1,47)]),some (.st [(0,31),(1,47)]),some (.other),some (.other),some (.other),some (.other),some (.other),some (.other),some (.other),some (.other),some (.other),some (.other),some (.other),some (.other),some (.other),some (.other),some (.other),some (.other),some (.arr 256 4),some (.arr 256 4),some (.other),some (.other),some (.other),some (.other),some (.other),some (.other),some (.other),some (.other),some (.other),some (.other),some (.other),some (.other),some (.st [(0,47),(1,47),(2,4)]),some (.st [(0,47),(1,47),(2,4)]),some (.other),some (.other),some (.other),some (.sl 47),some (.st [(0,31),(1,308),(2,47)]),some (.st [(0,31),(1,308),(2,47)]),some (.other),some (.other),some (.arr 32 5),some (.arr 64 5),some (.other),some (.other),some (.other),some (.other),some (.other),some (.other),some (.other),some (.other),some (.other),some (.sl 300),some (.st [(0,31),(1,324),(2,47),(3,4)]),some (.st [(0,31),(1,324),(2,47),(3,4)]),some (.other),some (.other),some (.other),some (.other),some (.other),some (.other),some (.other),some (.other),some (.other),some (.other),some (.other),some (.other),some (.other),some (.other),some (.other),some (.arr 256 5),some (.st [(0,5),(1,5)]),some (.st [(0,5),(1,5)]),some (.arr 16 344),some (.other),some (.arr 2 47),some (.sl 347),some (.st [(0,17),(1,17),(2,17),(3,9)]),some (.st [(0,17),(1,17),(2,17),(3,9)]),some (.arr 0 16),some (.st [(0,351)]),some (.st [(0,351)]),some (.other),some (.int .u8),some (.int .u8),some (.other),some (.int .i32),some (.int .i32),some (.st [(0,12),(1,12),(2,223),(3,355),(4,5),(5,5),(6,356),(7,357),(8,147),(9,358),(10,359)]),some (.st [(0,12),(1,12),(2,223),(3,355),(4,5),(5,5),(6,356),(7,357),(8,147),(9,358),(10,359)])]
def Pb:List (Option PV):=[none,some (.ay),some (.int .i64 (0)),some (.int .i64 (0)),some (.bool false),some (.int .u8 (0)),some (.int .u8 (0)),some (.agg [.int .i64 (0),.int .i64 (0),.bool false,.int .u8 (0)]),some (.agg [.int .i64 (0),.int .i64 (0),.bool false,.int .u8 (0)]),some (.str ByteArray.empty),some (.str ByteArray.empty),some (.str ByteArray.empty),some (.int .u64 (0)),some (.agg [.str ByteArray.empty,.int .u64 (0)]),some (.agg [.str ByteArray.empty,.int .u64 (0)]),some (.c9),some (.c9),some (.c9),some (.agg [.c9]),some (.agg [.c9]),none,some (.int .i32 (0)),some (.ab true []),some (.ab true []),some (.ay),some (.ay),some (.ay),some (.int .i64 (0)),none,some (.ay),some (.ay),some (.ab true []),some (.agg [.int .i64 (0),.str ByteArray.empty,.int .i64 (0),.ab true []]),some (.agg [.int .i64 (0),.str ByteArray.empty,.int .i64 (0),.ab true []]),some (.agg [.ab true [],.int .i64 (0),.str ByteArray.empty,.int .i64 (0),.ab true []]),some (.agg [.ab true [],.int .i64 (0),.str ByteArray.empty,.int .i64 (0),.ab true []]),some (.ay),some (.agg [.int .i64 (0),.str ByteArray.empty,.int .i64 (0),.ab true [],.int .i64 (0),.str ByteArray.empty,.int .i64 (0),.ab true []]),some (.agg [.int .i64 (0),.str ByteArray.empty,.int .i64 (0),.ab true [],.int .i64 (0),.str ByteArray.empty,.int .i64 (0),.ab true []]),some (.ay),some (.ab true []),some (.ab true []),some (.ay),some (.ay),some (.ay),some (.ay),some (.ay),some (.ab true []),some (.ay),some (.ay),none,some (.ay),some (.ay),some (.ay),none,some (.ay),some (.ay),some (.ay),some (.ay),some (.ab true []),some (.agg [.ab true [],.ab true []]),some (.agg [.ab true [],.ab true []]),some (.ay),some (.ay),some (.ay),none,some (.ay),some (.ay),some (.ay),some (.ay),some (.ay),some (.ay),some (.ay),some (.ay),some (.ay),some (.ay),some (.ay),some (.ay),some (.ay),none,some (.ay),none,some (.ay),some (.ay),some (.ay),none,some (.ay),some (.ay),some (.ay),none,some (.ay),some (.ay),some (.ay),some (.ay),some (.ay),some (.eK),some (.ay),some (.ay),some (.ay),some (.ay),some (.ay),some (.c9),some (.agg [.c9,.ab true []]),some (.agg [.c9,.ab true []]),none,none,none,some (.ay),some (.ay),some (.ay),some (.ay),some (.ay),some (.ay),some (.ay),some (.ay),some (.ay),some (.ay),some (.eK),some (.ay),some (.ay),some (.ay),some (.ay),some (.ay),some (.ay),some (.ay),some (.ay),some (.ay),some (.ay),some (.agg [.str ByteArray.empty,.int .i64 (0),.int .i64 (0),.int .i64 (0)]),some (.agg [.str ByteArray.empty,.int .i64 (0),.int .i64 (0),.int .i64 (0)]),some (.ay),some (.ay),some (.ab true []),none,some (.ay),some (.ay),some (.ay),some (.ay),some (.ay),some (.ay),some (.ay),some (.ay),some (.ay),some (.ay),some (.ay),some (.ay),some (.ay),some (.c9),some (.ay),some (.ay),some (.ay),some (.ay),some (.ay),some (.ay),some (.c9),some (.ab true []),some (.ay),some (.ay),some (.ay),some (.ay),some (.ay),some (.ay),some (.ay),some (.ay),none,some (.ay),some (.ay),some (.ay),some (.ay),some (.ay),some (.ay),some (.c9),some (.ay),some (.ay),some (.ay),some (.ab true []),none,some (.ay),some (.ay),some (.ay),some (.ay),none,some (.ay),some (.ab true []),some (.ay),some (.ay),some (.agg [.int .i64 (0),.str ByteArray.empty,.int .i64 (0),.ab true [],.int .i64 (0)]),some (.agg [.int .i64 (0),.str ByteArray.empty,.int .i64 (0),.ab true [],.int .i64 (0)]),some (.ay),some (.ay),some (.int .u64 (0)),some (.ay),some (.ay),some (.eK),some (.ab true []),some (.ay),some (.ab true []),some (.ay),some (.agg [.ab true [],.int .i64 (0)]),some (.agg [.ab true [],.int .i64 (0)]),some (.ay),none,some (.int .u64 (0)),some (.ay),some (.ay),none,some (.ay),some (.ay),some (.ay),none,some (.ay),some (.ay),some (.ay),some (.ay),some (.ay),some (.ay),some (.int .i64 (0)),none,some (.ay),some (.ay),some (.ay),some (.ay),some (.ay),some (.int .u32 (0)),none,some (.ay),some (.ay),some (.ay),none,some (.ay),none,some (.ay),some (.ay),some (.ay),some (.ay),some (.ay),some (.ay),some (.ay),some (.ay),none,none,some (.ay),some (.ay),some (.ay),some (.ay),some (.ay),some (.int .u64 (0)),some (.ay),some (.ay),some (.ay),some (.ay),some (.ay),some (.ay),some (.c9),some (.ay),some (.ab true []),some (.ab true []),none,some (.ay),some (.ay),some (.eK),some (.agg [.ab true [],.int .i64 (0),.eK,.eK,.ab true []]),some (.agg [.ab true [],.int .i64 (0),.eK,.eK,.ab true []]),some (.ab true []),some (.ay),some (.ay),some (.ay),some (.ay),some (.ab true []),none,some (.ay),some (.agg [.ab true [],.ab true []]),some (.agg [.ab true [],.ab true []]),some (.ay),some (.ay),some (.ay),none,some (.ay),some (.c9),some (.ay),some (.ay),some (.ay),some (.ay),some (.ay),some (.ay),some (.c9),none,some (.ay),some (.ay),none,none,none,some (.ay),some (.ay),some (.c9),some (.ay),none,some (.ay),some (.ay),some (.c9),some (.c9),none,some (.ay),some (.agg [.ab true [],.ab true [],.bool false]),some (.agg [.ab true [],.ab true [],.bool false]),some (.ay),some (.ay),some (.ay),some (.ab true []),some (.agg [.ab true [],.ab true [],.ab true []]),some (.agg [.ab true [],.ab true [],.ab true []]),none,some (.ay),none,none,some (.ay),some (.ay),some (.ay),none,some (.ay),some (.ay),some (.ay),none,some (.ay),some (.ab true []),some (.agg [.ab true [],.ab true [],.ab true [],.bool false]),some (.agg [.ab true [],.ab true [],.ab true [],.bool false]),some (.ay),some (.ay),none,some (.ay),none,some (.ay),some (.ay),some (.ay),some (.ay),some (.ay),some (.ay),some (.ay),none,some (.ay),some (.ay),none,some (.agg [.int .u8 (0),.int .u8 (0)]),some (.agg [.int .u8 (0),.int .u8 (0)]),none,some (.ay),some (.agg [.ab true [],.ab true []]),some (.ab true []),some (.agg [.c9,.c9,.c9,.str ByteArray.empty]),some (.agg [.c9,.c9,.c9,.str ByteArray.empty]),some (.agg []),some (.agg []),some (.agg []),some (.ay),some (.int .u8 (0)),some (.int .u8 (0)),some (.ay),some (.int .i32 (0)),some (.int .i32 (0)),some (.agg [.int .u64 (0),.int .u64 (0),.int .u32 (0),.int .u8 (0),.int .u8 (0),.int .u8 (0),.int .u8 (0),.ay,.c9,.int .i32 (0),.int .i32 (0)]),some (.agg [.int .u64 (0),.int .u64 (0),.int .u32 (0),.int .u8 (0),.int .u8 (0),.int .u8 (0),.int .u8 (0),.ay,.c9,.int .i32 (0),.int .i32 (0)])]
def tN:Nat:=362
theorem Pc:(List.range tN).map (bI C.P)=Qq:=by kernel_rfl
theorem Pd:(List.range tN).map (A5 C.P)=Qs:=by kernel_rfl
theorem Pe:(List.range tN).map (jz C.P)=Qr:=by kernel_rfl
theorem Pf:(List.range tN).map (λt=>(C.P.underlying t).map kQ)=Qt:=by kernel_rfl
theorem Pg:(List.range tN).map (λt=>if(Pb.getD t none).isSome then gv C.P t else none)=Pb:=by kernel_rfl
theorem su{α:Type}{f:Nat->Option α}{l:List (Option α)}(h:(List.range tN).map f=l)(t:Nat)(n:α)(e:(l[t]?).bind id=some n):f t=some n:=by
 subst h;rw[TS]at e
 cases hr:(List.range tN)[t]? with
 |none=>rw[hr]at e;simp at e
 |some k=>
  rw[hr]at e
  have hk:k=t:=by
   have:=List.getElem?_eq_some_iff.1 hr;obtain⟨h1,h2⟩:=this;simp at h2;exact h2.symm
  subst hk;simpa using e
def T6:kM C.P where
 ts t:=(Qq[t]?).bind id
 ta t:=(Qs[t]?).bind id
 tb t:=(Qr[t]?).bind id
 kd t:=(Qt[t]?).bind id
 tz t:=(Pb[t]?).bind id
 dF:=su Pc
 En:=su Pd
 tT:=su Pe
 cI:=su Pf
 mC t n e:=by
  have:=su Pg t n e
  split at this
  exact this
  cases this
inductive Tm where
 |mk (kind:Int) (name:ByteArray) (sort:Int) (kids:List Tm)
def Tm.kids:Tm->List Tm | .mk _ _ _ k=>k
mutual
def enc:Tm->PV
 | .mk k s o l=>.agg [.int .i64 k,.str s,.int .i64 o,.ab false (aj l)]
def aj:List Tm->List PV
 |[]=>[]
 |t::l=>enc t::aj l
end
mutual
theorem iC:∀t,aJ (enc t)=true
 | .mk k s o l=>by simp[enc,aJ,au]
end
theorem fF(l:List Tm):au (aj l)=true:=by
 induction l with
 |nil=>rfl
 |cons t l ih=>simp[aj,au,iC,ih]
mutual
theorem mh:∀t,cJ (enc t)=enc t
 | .mk k s o l=>by simp[enc,cJ,ba,bP l]
theorem bP:∀l,ba (aj l)=aj l
 |[]=>rfl
 |t::l=>by simp[aj,ba,mh t,bP l]
end
theorem ax(l:List Tm):(aj l).length=l.length:=by
 induction l with
 |nil=>rfl
 |cons t l ih=>simp[aj,ih]
theorem cQ(l:List Tm):aj l=l.map enc:=by
 induction l with
 |nil=>rfl
 |cons t l ih=>simp[aj,ih]
theorem AI(t:Tm):∃a b c d,enc t=.agg [a,b,c,d]:=by cases t;exact⟨_,_,_,_,by rw[enc]⟩
mutual
def aE:Tm->Nat
 | .mk k s o l=>1+s.size+bg l
def bg:List Tm->Nat
 |[]=>0
 |t::l=>aE t+bg l
end
theorem n5(t:Tm):0<aE t:=by cases t;simp[aE];omega
theorem bq(l:List Tm):l.length<=bg l:=by
 induction l with
 |nil=>simp
 |cons t l ih=>have:=n5 t;simp[bg];omega
theorem bF{l:List Tm}{t:Tm}(h:t∈l):aE t<=bg l:=by
 induction l with
 |nil=>cases h
 |cons u l ih=>
  simp only[bg];rcases TW.1 h with rfl |h;omega;have:=ih h;omega
theorem Tm.ind{P:Tm->Prop}(h:∀k s o l,(∀t∈l,P t)->P (.mk k s o l)):∀t,P t:=by
 intro t
 have key:∀n t,aE t<=n->P t:=by
  intro n
  induction n with
  |zero=>intro t ht;have:=n5 t;omega
  |succ n ih=>
   intro t ht
   obtain⟨k,s,o,l⟩:=t;refine h k s o l (λu hu=>ih u ?_);have:=bF hu;simp[aE]at ht;omega
 exact key (aE t) t (TI _)
theorem AJ{l:List Tm}{i:Nat}(hc:(i:Int)<((aj l).length:Int)):∃t a1 a2 a3 a4,t∈l/\enc t=.agg [a1,a2,a3,a4]/\(aj l)[i]?=some (.agg [a1,a2,a3,a4])/\l.drop i=t::l.drop (i+1)/\i<l.length/\l[i]?=some t:=by
 have mV:i<l.length:=by have:=ax l;omega
 obtain⟨a1,a2,a3,a4,ha⟩:=AI l[i];refine⟨l[i],a1,a2,a3,a4,Up mV,ha,?_,U8 mV,mV,TJ mV⟩;rw[cQ,TS,TJ mV,<-ha]
 rfl
theorem gX{l:List Tm}{i:Nat}(hc:¬(i:Int)<((aj l).length:Int)):l.drop i=[]:=Uf (by have:=ax l;omega)
theorem bL(k:Int)(s:ByteArray)(o:Int)(l:List Tm):enc (.mk k s o l)=.agg [.int .i64 k,.str s,.int .i64 o,.ab false (aj l)]:=by rw[enc]
theorem fX{l:List Tm}{i:Nat}(hc:(i:Int)<((aj l).length:Int)):∃k s o l',.mk k s o l'∈l/\(aj l)[i]?=some (.agg [.int .i64 k,.str s,.int .i64 o,.ab false (aj l')])/\l.drop i=.mk k s o l'::l.drop (i+1)/\i<l.length/\l[i]?=some (.mk k s o l'):=by
 obtain⟨t,a1,a2,a3,a4,h1,h2,h3,h4,h5,h6⟩:=AJ hc;obtain⟨k,s,o,l'⟩:=t;rw[bL]at h2;exact⟨k,s,o,l',h1,by rw[h3,<-h2],h4,h5,h6⟩
mutual
def size:Tm->Int
 | .mk _ _ _ l=>1+eC l
def eC:List Tm->Int
 |[]=>0
 |t::l=>size t+eC l
end
mutual
theorem jR:∀t,0<size t/\size t<=(aE t:Int)
 | .mk k s o l=>by
  have:=dT l;simp only[size,aE];omega
theorem dT:∀l,0<=eC l/\eC l<=(bg l:Int)
 |[]=>by simp[eC,bg]
 |t::l=>by
  have h1:=jR t;have h2:=dT l;simp only[eC,bg];omega
end
def dy(a b:Int):Int:=if a<b then -1 else if b<a then 1 else 0
mutual
def bR:Tm->Tm->Int
 | .mk k s o l,.mk k' s' o' l'=>
  if dy (size (.mk k s o l)) (size (.mk k' s' o' l'))≠0 then dy (size (.mk k s o l)) (size (.mk k' s' o' l'))else
  if dy k k'≠0 then dy k k' else
  if Op.bytesLess s.toList s'.toList=true then -1 else
  if(!(Op.bytesLess s.toList s'.toList ||s.toList==s'.toList))=true then 1 else
  if dy o o'≠0 then dy o o' else
  if dy l.length l'.length≠0 then dy l.length l'.length else jl l l'
def jl:List Tm->List Tm->Int
 |[],_=>0
 |_::_,[]=>0
 |t::l,t'::l'=>if bR t t'≠0 then bR t t' else jl l l'
end
def je(x y:Int):Int:=if x≠0 then x else y
def de:List UInt8->List UInt8->Int:=Lib.compareBytes
theorem Ey:∀a b:List UInt8,Op.bytesLess a b=decide (de a b<0)/\((a==b)=decide (de a b=0))
 |[],[]=>by simp[Op.bytesLess,de,Lib.compareBytes]
 |[],_::_=>by simp[Op.bytesLess,de,Lib.compareBytes]
 |_::_,[]=>by simp[Op.bytesLess,de,Lib.compareBytes]
 |a::x,b::y=>by
  obtain⟨h1,h2⟩:=Ey x y;have hc:de (a::x) (b::y)=if a<b then -1 else if b<a then 1 else de x y:=rfl
  have key:a<b\/b<a\/a=b:=by
   rcases VA a.toNat b.toNat with h |h |h;exact .inl (UA.2 h);exact .inr (.inr (UInt8.toNat_inj.1 h));exact .inr (.inl (UA.2 h))
  have asym:∀p q:UInt8,p<q->¬q<p:=λp q h1 h2=>by
   have:=UA.1 h1;have:=UA.1 h2;omega
  have irr:∀p:UInt8,¬p<p:=λp h1=>asym p p h1 h1
  rcases key with h |h |h
  ·have aU:a≠b:=λe=>irr b (e▸h)
   rw[hc,if_pos h];simp[Op.bytesLess,h,aU]
  ·have aU:a≠b:=λe=>irr b (e▸h)
   have hn:=asym _ _ h;rw[hc,if_neg hn,if_pos h];simp[Op.bytesLess,hn,aU]
  ·subst h;rw[hc,if_neg (irr a),if_neg (irr a)];simp only[Op.bytesLess,h1,irr,decide_false,Vm,BEq.rfl,VV,true_and];rw[<-h2];simp[List.cons_beq_cons]
structure GB(x y z:Int):Prop where
 e1:x=0->z=y
 e2:y=0->z=x
 lt:x<0->y<0->z<0
theorem GB.lex{x y z x' y' z':Int}(a:GB x y z)(b:x=0->y=0->GB x' y' z'):GB (je x x') (je y y') (je z z'):=by
 obtain⟨e1,e2,lt⟩:=a;unfold je
 by_cases hx:x=0 <;>by_cases hy:y=0
 ·have hz:z=0:=by rw[e1 hx,hy]
  rw[if_neg (by simp[hx]),if_neg (by simp[hy]),if_neg (by simp[hz])];exact b hx hy
 ·have hz:z=y:=e1 hx;rw[if_neg (by simp[hx]),if_pos hy,hz,if_pos hy];exact⟨λ_=>rfl,λh=>absurd h hy,λ_ h=>h⟩
 ·have hz:z=x:=e2 hy;rw[if_neg (by simp[hy]:¬y≠0),if_pos hx,hz,if_pos hx];exact⟨λh=>absurd h hx,λ_=>rfl,λh _=>h⟩
 ·rw[if_pos hx,if_pos hy];refine⟨λh=>absurd h hx,λh=>absurd h hy,λh1 h2=>?_⟩;have:=lt h1 h2;rw[if_pos (by omega)];exact this
theorem mn(x y:Int):je (-x) (-y)=- je x y:=by unfold je;split <;>split <;>omega
theorem Ez{x y:Int}:je x y=0↔x=0/\y=0:=by unfold je;split <;>omega
theorem gI{x y:Int}(h:je x y=0):x=0/\y=0:=Ez.1 h
theorem lT(a b c:Int):GB (dy a b) (dy b c) (dy a c):=by
 unfold dy
 constructor <;>(repeat' split) <;>omega
theorem lU(a b:Int):dy b a=- dy a b:=by unfold dy;(repeat' split) <;>omega
theorem fK{a b:Int}(h:dy a b=0):a=b:=by unfold dy at h;(repeat' split at h) <;>omega
theorem EA(a b:Int):dy a b=-1\/dy a b=0\/dy a b=1:=by unfold dy;(repeat' split) <;>omega
theorem fB(a b:UInt8)(x y:List UInt8):de (a::x) (b::y)=je (dy a.toNat b.toNat) (de x y):=by
 have hc:de (a::x) (b::y)=if a<b then -1 else if b<a then 1 else de x y:=rfl;rw[hc]
 by_cases h1:a<b
 ·have:=UA.1 h1;have e:dy a.toNat b.toNat=-1:=by unfold dy;rw[if_pos (by omega)]
  rw[if_pos h1,e];rfl
 ·by_cases h2:b<a
  ·have:=UA.1 h2;have e:dy a.toNat b.toNat=1:=by unfold dy;rw[if_neg (by omega),if_pos (by omega)]
   rw[if_neg h1,if_pos h2,e];rfl
  ·have Fu:¬a.toNat<b.toNat:=λh=>h1 (UA.2 h)
   have Sw:¬b.toNat<a.toNat:=λh=>h2 (UA.2 h)
   have e:dy a.toNat b.toNat=0:=by unfold dy;rw[if_neg (by omega),if_neg (by omega)]
   rw[if_neg h1,if_neg h2,e];rfl
theorem uA:∀a b c:List UInt8,GB (de a b) (de b c) (de a c)
 |[],[],[]=>by constructor <;>decide
 |[],[],_::_=>by constructor <;>intros <;>simp_all[de,Lib.compareBytes]
 |[],_::_,[]=>by constructor <;>intros <;>simp_all[de,Lib.compareBytes]
 |[],b::y,c::z=>by
  have e1:de [] (b::y)=-1:=rfl;have e2:de [] (c::z)=-1:=rfl;rw[e1,e2]
  constructor <;>intros <;>omega
 |_::_,[],[]=>by constructor <;>intros <;>simp_all[de,Lib.compareBytes]
 |a::x,[],c::z=>by
  have e1:de (a::x) []=1:=rfl;have e2:de [] (c::z)=-1:=rfl;rw[e1,e2]
  constructor <;>intros <;>omega
 |a::x,b::y,[]=>by
  have e1:de (a::x) []=1:=rfl;have e2:de (b::y) []=1:=rfl;rw[e1,e2]
  constructor <;>intros <;>omega
 |a::x,b::y,c::z=>by
  rw[fB,fB,fB];exact(lT _ _ _).lex (λ_ _=>uA x y z)
theorem uB:∀a b:List UInt8,de b a=- de a b
 |[],[]=>rfl
 |[],_::_=>rfl
 |_::_,[]=>rfl
 |a::x,b::y=>by rw[fB,fB,uB x y,lU a.toNat b.toNat,mn]
theorem sq:∀{a b:List UInt8},de a b=0->a=b
 |[],[],_=>rfl
 |[],_::_,h=>by cases h
 |_::_,[],h=>by cases h
 |a::x,b::y,h=>by
  rw[fB]at h;obtain⟨h1,h2⟩:=gI h;have:=fK h1;rw[sq h2,UInt8.toNat_inj.1 (by omega:a.toNat=b.toNat)]
def vP(s s':ByteArray):Int:=de s.toList s'.toList
theorem uC:∀a b:List UInt8,de a b=-1\/de a b=0\/de a b=1
 |[],[]=>.inr (.inl rfl)
 |[],_::_=>.inl rfl
 |_::_,[]=>.inr (.inr rfl)
 |a::x,b::y=>by
  rw[fB];have h1:=EA a.toNat b.toNat;have h2:=uC x y;unfold je
  split <;>omega
theorem GC{a b:ByteArray}(h:a.toList=b.toList):a=b:=by
 rw[ByteArray.toList_eq,ByteArray.toList_eq]at h
 cases a;cases b
 simp at h;subst h
 rfl
theorem jf(k s o l k' s' o' l'):bR (.mk k s o l) (.mk k' s' o' l')=je (dy (size (.mk k s o l)) (size (.mk k' s' o' l'))) (je (dy k k') (je (vP s s') (je (dy o o') (je (dy l.length l'.length) (jl l l'))))):=by
 rw[bR];obtain⟨b1,b2⟩:=Ey s.toList s'.toList;have b3:=uC s.toList s'.toList;rw[b1,b2];unfold je vP
 split
 rfl
 ·split
  ·rfl
  ·rcases b3 with b3 |b3 |b3
   ·rw[if_pos (by simp[b3])];simp[b3]
   ·rw[if_neg (by simp[b3]),if_neg (by simp[b3])];simp[b3]
   ·rw[if_neg (by simp[b3]),if_pos (by simp[b3])];simp[b3]
theorem jg(t t' l l'):jl (t::l) (t'::l')=je (bR t t') (jl l l'):=by rw[jl];rfl
theorem xS:∀{l l':List Tm},l.length=l'.length->(∀t∈l,∀t',bR t' t=- bR t t')->jl l' l=- jl l l'
 |[],[],_,_=>by simp[jl]
 |t::l,t'::l',hl,h=>by
  rw[jg,jg,h t (by simp) t',xS (by simpa using hl) (λu hu=>h u (by simp[hu])),mn]
theorem fY(t:Tm):∀t',bR t' t=- bR t t':=by
 induction t using Tm.ind with
 |h k s o l ih=>
  rintro⟨k',s',o',l'⟩;rw[jf,jf,lU (size (.mk k s o l)),lU k,show vP s' s=- vP s s' from uB _ _,lU o,lU (l.length:Int)];rw[<-mn,<-mn,<-mn,<-mn]
  congr 4
  unfold je
  split
  rw[if_pos (by omega)]
  ·rename_i h
   rw[if_neg (by omega)];refine xS ?_ ih;have h':dy (l.length:Int) l'.length=0:=by omega
   have:=fK h';omega
theorem uD:∀{l l':List Tm},l.length=l'.length->(∀t∈l,∀t',bR t t'=0->t=t')->jl l l'=0->l=l'
 |[],[],_,_,_=>rfl
 |t::l,t'::l',hl,h,e=>by
  rw[jg]at e;obtain⟨e1,e2⟩:=gI e;rw[h t (by simp) t' e1,uD (by simpa using hl) (λu hu=>h u (by simp[hu])) e2]
theorem fG{t:Tm}:∀{t':Tm},bR t t'=0->t=t':=by
 induction t using Tm.ind with
 |h k s o l ih=>
  rintro⟨k',s',o',l'⟩ h;rw[jf]at h;obtain⟨_,h⟩:=gI h;obtain⟨h1,h⟩:=gI h;obtain⟨h2,h⟩:=gI h;obtain⟨h3,h⟩:=gI h;obtain⟨h4,h⟩:=gI h;have Tx:=fK h4;rw[fK h1,GC (sq h2),fK h3,uD (by omega) (λt ht t' e=>ih t ht e) h]
theorem ma(t:Tm):bR t t=0:=by have:=fY t t;omega
theorem xT:∀{l l' Nz:List Tm},l.length=l'.length->l'.length=Nz.length->(∀t∈l,∀t' JO,GB (bR t t') (bR t' JO) (bR t JO))->GB (jl l l') (jl l' Nz) (jl l Nz)
 |[],[],[],_,_,_=>by simp[jl];constructor <;>omega
 |t::l,t'::l',JO::Nz,h1,h2,h=>by
  rw[jg,jg,jg];exact(h t (by simp) t' JO).lex (λ_ _=>xT (by simpa using h1) (by simpa using h2) (λu hu=>h u (by simp[hu])))
theorem EB(t:Tm):∀t' JO,GB (bR t t') (bR t' JO) (bR t JO):=by
 induction t using Tm.ind with
 |h k s o l ih=>
  rintro⟨k',s',o',l'⟩ ⟨k2,s2,o2,l2⟩;rw[jf,jf,jf];refine(lT _ _ _).lex λ_ _=>(lT _ _ _).lex λ_ _=>(uA _ _ _).lex λ_ _=>(lT _ _ _).lex λ_ _=>(lT _ _ _).lex λh1 h2=>?_;have Fu:=fK h1;have Sw:=fK h2;exact xT (by omega) (by omega) ih
theorem iT{a b c:Tm}(h1:bR a b<0)(h2:bR b c<0):bR a c<0:=(EB a b c).lt h1 h2
abbrev Pw:=Tm×Int
def yq:Pw->PV
 |(.mk k s o l,n)=>.agg [.int .i64 k,.str s,.int .i64 o,.ab false (aj l),.int .i64 n]
def kC(l:List Pw):List PV:=l.map yq
def gO(c:Int):Bool:=decide ((97<=c/\c<=122)\/(65<=c/\c<=90))
def rP(c:Int):Bool:=decide (48<=c/\c<=57)
def kH(c:Int):Bool:=gO c ||rP c ||decide (c=95)||decide (c=35)
def gk:List UInt8->Bool
 |[]=>true
 |c::l=>kH c.toNat&&gk l
def AE:List UInt8->Bool
 |[]=>false
 |c::l=>decide (l.length<24)&&gO c.toNat&&gk (c::l)
def dx(s:ByteArray):Bool:=AE s.toList
theorem bsize(s:ByteArray):s.toList.length=s.size:=by rw[ByteArray.toList_eq];exact Uv
theorem JA{s:ByteArray}{i:Nat}{c:UInt8}(h:s.toList[i]?=some c):s[i]?=some c:=by
 have cx:=ae h;rw[ByteArray.toList_eq,T1]at h;have MN:i<s.size:=by rw[<-bsize];exact cx
 rw[getElem?_pos s i MN];rw[UC MN]at h;exact h
def node:Tm->Int
 | .mk k s o l=>if(k≠1/\k≠2/\k≠3)\/o<0\/5<o\/(k=3/\o≠0)\/(k≠3/\0<l.length)then 1 else if dx s=false then 2 else if 8<l.length then 3 else 0
mutual
def nodes:Tm->Int
 | .mk k s o l=>if node (.mk k s o l)≠0 then node (.mk k s o l)else eX l
def eX:List Tm->Int
 |[]=>0
 |t::l=>if nodes t≠0 then nodes t else eX l
end
mutual
def depth:Tm->Int
 | .mk _ _ _ l=>eY l+1
def eY:List Tm->Int
 |[]=>0
 |t::l=>max (depth t) (eY l)
end
def valid(t:Tm):Int:=if nodes t≠0 then nodes t else if 400<size t\/40<depth t then 3 else 0
mutual
theorem kj:∀t,0<depth t/\depth t<=size t
 | .mk k s o l=>by have:=fW l;simp only[depth,size];omega
theorem fW:∀l,0<=eY l/\eY l<=eC l
 |[]=>by simp[eY,eC]
 |t::l=>by
  have h1:=kj t;have h2:=fW l;simp only[eY,eC];omega
end
theorem qP:∀{l:List Tm},eX l=0->∀t∈l,nodes t=0
 |[],_,t,h=>by cases h
 |u::l,e,t,h=>by
  rw[eX]at e
  split at e
  ·rename_i hu;exact absurd e hu
  ·rename_i hu
   rcases TW.1 h with rfl |h;omega;exact qP e t h
theorem qQ:∀{l:List Tm},∀t∈l,depth t<=eY l
 |[],t,h=>by cases h
 |u::l,t,h=>by
  rw[eY];rcases TW.1 h with rfl |h;omega;have:=qQ t h;omega
def VQ(S D:Int)(t:Tm):Prop:=nodes t=0/\size t<=S/\depth t<=D
theorem yv{t:Tm}:valid t=0↔VQ 400 40 t:=by
 unfold valid VQ
 constructor
 ·intro h
  split at h
  ·rename_i hn;exact absurd h hn
  ·rename_i hn
   split at h
   cases h
   exact⟨by omega,by omega,by omega⟩
 ·rintro⟨h1,h2,h3⟩;rw[if_neg (by omega),if_neg (by omega)]
open Go.Proofs
attribute [local irreducible] aA az aH aF Ev ag ai aD bw
set_option maxHeartbeats 4000000
theorem rO(c:Int):kH c=decide ((97<=c/\c<=122)\/(65<=c/\c<=90)\/(48<=c/\c<=57)\/c=95\/c=35):=by
 unfold kH gO rP;simp only[<-Bool.decide_or]
 congr 1
 apply propext;omega
theorem rQ(c:Int):aW C 191 [.int .u8 c] (.bool (gO c)):=by
 refine aW.of (aD.dD Tryz.func191 rfl ?_)
 (repeat' (first |refine ag.nil ?_ |(apply R.ve;exact rfl;exact rfl;exact rfl)|(apply R.mU;exact rfl;exact rfl;exact rfl)|(apply R.Jz;exact rfl;exact rfl)|(apply R.move;exact rfl)|(apply R.assign;exact rfl)|(apply R.gx;exact rfl;exact rfl)|(apply R.ir;exact rfl;exact rfl)|(apply R.cmp;exact rfl;exact rfl;exact rfl;all_goals intro hc)|refine Ev.seq ?_ |refine Ev.region ?_ |refine Ev.ret ?_ |refine aA.normal ?_ |(apply aF.ret;exact rfl)|fail))
 all_goals(refine⟨_,rfl,congrArg PV.bool ?_⟩;unfold gO;first |exact(decide_eq_true (by omega)).symm |exact(decide_eq_false (by omega)).symm)
theorem BM(c:Int):aW C 192 [.int .u8 c] (.bool (rP c)):=by
 refine aW.of (aD.dD Tryz.func192 rfl ?_)
 (repeat' (first |refine ag.nil ?_ |(apply R.ve;exact rfl;exact rfl;exact rfl)|(apply R.mU;exact rfl;exact rfl;exact rfl)|(apply R.move;exact rfl)|(apply R.assign;exact rfl)|(apply R.gx;exact rfl;exact rfl)|(apply R.ir;exact rfl;exact rfl)|(apply R.cmp;exact rfl;exact rfl;exact rfl;all_goals intro hc)|refine Ev.seq ?_ |refine Ev.region ?_ |refine Ev.ret ?_ |refine aA.normal ?_ |(apply aF.ret;exact rfl)|fail))
 all_goals(refine⟨_,rfl,congrArg PV.bool ?_⟩;unfold rP;first |exact(decide_eq_true (by omega)).symm |exact(decide_eq_false (by omega)).symm)
theorem xA(c:Int):aW C 244 [.int .u8 c] (.bool (kH c)):=by
 refine aW.of (aD.dD Tryz.func244 rfl ?_)
 (repeat' (first |refine ag.nil ?_ |(apply R.ve;exact rfl;exact rfl;exact rfl)|(apply R.mU;exact rfl;exact rfl;exact rfl)|(apply R.Jz;exact rfl;exact rfl)|(apply R.move;exact rfl)|(apply R.assign;exact rfl)|(apply R.gx;exact rfl;exact rfl)|(apply R.ir;exact rfl;exact rfl)|(apply R.cmp;exact rfl;exact rfl;exact rfl;all_goals intro hc)|refine Ev.seq ?_ |refine Ev.region ?_ |refine Ev.ret ?_ |refine aA.normal ?_ |(apply aF.ret;exact rfl)|fail))
 all_goals(refine⟨_,rfl,congrArg PV.bool ?_⟩;rw[rO];first |exact(decide_eq_true (by omega)).symm |exact(decide_eq_false (by omega)).symm)
theorem nV(s:ByteArray)(i:Nat)(h:i<s.toList.length):gk (s.toList.drop i)=(kH (s.toList[i]).toNat&&gk (s.toList.drop (i+1))):=by
 rw[U8 h,gk]
theorem rR(s:ByteArray):(s.size=0/\s.toList=[])\/∃c l,s.toList=c::l/\s[0]?=some c/\s.size=l.length+1:=by
 have hl:=bsize s
 cases h:s.toList with
 |nil=>rw[h]at hl;exact .inl ⟨by simpa using hl.symm,rfl⟩
 |cons c l=>exact .inr ⟨c,l,rfl,JA (i:=0) (by rw[h];rfl),by rw[<-hl,h];rfl⟩
theorem xB(s:ByteArray)(hb:s.size<1000000000):aW C 149 [.str s] (.bool (dx s)):=by
 refine aW.of (aD.dD Tryz.func149 rfl ?_);have hl:=bsize s;rcases rR s with⟨h0,hn⟩|⟨c,l,eJ,um,ez⟩
 ·have hs:dx s=false:=by unfold dx;rw[hn];rfl
  (repeat' (first |refine ag.nil ?_ |(apply R.ve;exact rfl;exact rfl;exact rfl)|(apply R.mU;exact rfl;exact rfl;exact rfl)|(apply R.move;exact rfl)|(apply R.assign;exact rfl)|(apply R.gx;exact rfl;exact rfl)|(apply R.ir;exact rfl;exact rfl)|(apply R.cmp;exact rfl;exact rfl;exact rfl;all_goals intro hc)|(apply R.oV T6;exact rfl;exact rfl)|refine Ev.seq ?_ |refine Ev.region ?_ |(apply Ev.ef;exact rfl)|refine Ev.ret ?_ |refine aA.normal ?_ |refine aA.ret ?_ |(apply aF.ret;exact rfl)|fail))
  exact⟨_,rfl,by rw[hs];rfl⟩;omega;omega
 ·have hs:dx s=(decide (l.length<24)&&gO c.toNat&&gk s.toList):=by unfold dx;rw[eJ];rfl
  (repeat' (first |refine ag.nil ?_ |(apply R.ve;exact rfl;exact rfl;exact rfl)|(apply R.mU;exact rfl;exact rfl;exact rfl)|(apply R.move;exact rfl)|(apply R.assign;exact rfl)|(apply R.gx;exact rfl;exact rfl)|(apply R.ir;exact rfl;exact rfl)|(apply R.cmp;exact rfl;exact rfl;exact rfl;all_goals intro hc)|(apply R.oV T6;exact rfl;exact rfl)|refine Ev.seq ?_ |refine Ev.region ?_ |(apply Ev.ef;exact rfl)|refine Ev.ret ?_ |refine aA.normal ?_ |refine aA.ret ?_ |(apply aF.ret;exact rfl)|fail))
  omega
  ·refine⟨_,rfl,?_⟩;rw[hs,decide_eq_false (by omega)];rfl
  ·refine R.gm T6 (i:=0) rfl rfl rfl um ?_;refine wB ?_;refine R.call rfl rfl (ai.pure rfl rfl (rQ c.toNat) ?_)
   cases D6:gO c.toNat
   ·refine wB ?_;refine⟨_,rfl,?_⟩;rw[hs,D6];simp[cJ,aQ]
   ·refine wB ?_;have Fk:dx s=gk (s.toList.drop 0):=by rw[hs,D6,decide_eq_true (by omega)];simp
    refine Ev.loop (I:=λk' st=>∃(i:Nat) (V':Nat->PV),st=⟨al [(0,.str s),(3,.int .i64 i)] V',[]⟩/\k'+i=s.size/\dx s=gk (s.toList.drop i)) s.size ?_ ?_;exact⟨0,_,St.aB ⟨rfl,rfl,trivial⟩,rfl,Fk⟩
    ·rintro k' _ ⟨i,V',rfl,hk,ew⟩;refine wE (λhc=>?_) λhc=>?_
     ·have mV:i<s.toList.length:=by omega
      have dL:=JA (TJ mV);rw[nV s i mV]at ew;refine R.gm T6 rfl rfl rfl dL ?_;generalize hx:s.toList[i]=x at ew dL;have sX:=rO x.toNat
      skip
      refine R.call rfl rfl (ai.pure rfl rfl (rQ x.toNat) ?_)
      cases D6:gO x.toNat
      ·refine wB ?_;refine R.gm T6 rfl rfl rfl dL ?_;refine wB ?_;refine R.call rfl rfl (ai.pure rfl rfl (BM x.toNat) ?_)
       cases Mi:rP x.toNat
       ·refine wB ?_;refine R.gm T6 rfl rfl rfl dL ?_;refine wE (λhc=>?_) λhc=>?_
        ·refine R.gm T6 rfl rfl rfl dL ?_;refine wE (λhc=>?_) λhc=>?_
         ·rename_i Tp
          have Tq:=hc;refine⟨_,rfl,?_⟩;rw[ew];unfold kH;rw[D6,Mi,decide_eq_false (by omega),decide_eq_false (by omega)];rfl
         ·refine⟨k' - 1,by omega,i+1,_,St.aB ⟨rfl,rfl,trivial⟩,by omega,?_⟩;rw[ew];unfold kH;rw[decide_eq_true (show(x.toNat:Int)=35 by omega)];simp
        ·refine⟨k' - 1,by omega,i+1,_,St.aB ⟨rfl,rfl,trivial⟩,by omega,?_⟩;rw[ew];unfold kH;rw[decide_eq_true (show(x.toNat:Int)=95 by omega)];simp
       ·refine wB ?_;refine⟨k' - 1,by omega,i+1,_,St.aB ⟨rfl,rfl,trivial⟩,by omega,?_⟩;rw[ew];unfold kH;rw[Mi];simp
      ·refine wB ?_;refine⟨k' - 1,by omega,i+1,_,St.aB ⟨rfl,rfl,trivial⟩,by omega,?_⟩;rw[ew];unfold kH;rw[D6];simp
     ·refine⟨_,rfl,?_⟩;rw[ew,Uf (by omega)];rfl
theorem Hy:(ByteArray.mk #[]).toList=[]:=by rw[ByteArray.toList_eq]
theorem yI(s:ByteArray)(hb:s.size<1000000000):aW C 193 [.str s] (.bool (dx s)):=by
 refine aW.of (aD.dD Tryz.func193 rfl ?_);have hl:=bsize s;rcases rR s with⟨h0,hn⟩|⟨c,l,eJ,um,ez⟩
 ·have hs:dx s=false:=by unfold dx;rw[hn];rfl
  have Gm:s.toList=(ByteArray.mk #[]).toList:=by rw[hn,Hy]
  refine wB ?_;exact⟨_,rfl,by rw[hs];rfl⟩
 ·have hs:dx s=(decide (l.length<24)&&gO c.toNat&&gk s.toList):=by unfold dx;rw[eJ];rfl
  have sX:=rO c.toNat;have hle:gO c.toNat=decide ((97<=(c.toNat:Int)/\(c.toNat:Int)<=122)\/(65<=(c.toNat:Int)/\(c.toNat:Int)<=90)):=rfl
  (repeat' (first |(apply R.gm T6 (i:=0);exact rfl;exact rfl;exact rfl;assumption)|refine ag.nil ?_ |(apply R.ve;exact rfl;exact rfl;exact rfl)|(apply R.mU;exact rfl;exact rfl;exact rfl)|(apply R.Jz;exact rfl;exact rfl)|(apply R.move;exact rfl)|(apply R.assign;exact rfl)|(apply R.gx;exact rfl;exact rfl)|(apply R.ir;exact rfl;exact rfl)|(apply R.cmp;exact rfl;exact rfl;exact rfl;all_goals intro hc;all_goals(try(exfalso;omega)))|(apply R.Mj;exact rfl;exact rfl;all_goals intro hc)|(apply R.oV T6;exact rfl;exact rfl)|refine Ev.seq ?_ |refine Ev.region ?_ |(apply Ev.ef;exact rfl)|refine Ev.ret ?_ |refine aA.normal ?_ |refine aA.ret ?_ |(apply aF.ret;exact rfl)|fail))
  rw[eJ,Hy]at hc;cases hc
  ·refine⟨_,rfl,?_⟩;rw[hs,decide_eq_false (by omega)];rfl
  ·have Tr:=hc;clear hc;refine R.call rfl rfl (ai.pure rfl rfl (xA c.toNat) ?_)
   cases Nv:kH c.toNat
   ·refine wC ?_;refine⟨_,rfl,?_⟩;rw[Nv]at sX;have:=of_decide_eq_false sX.symm;rw[hs,hle,decide_eq_false (p:=(97<=(c.toNat:Int)/\(c.toNat:Int)<=122)\/(65<=(c.toNat:Int)/\(c.toNat:Int)<=90)) (by omega)];simp[cJ,aQ]
   ·rw[Nv]at sX;have sX:=of_decide_eq_true sX.symm
    by_cases hg:(97<=(c.toNat:Int)/\(c.toNat:Int)<=122)\/(65<=(c.toNat:Int)/\(c.toNat:Int)<=90)
    ·have Fk:dx s=gk (s.toList.drop 0):=by rw[hs,hle,decide_eq_true hg,decide_eq_true (by omega)];simp
     (repeat' (first |(apply R.gm T6 (i:=0);exact rfl;exact rfl;exact rfl;assumption)|refine ag.nil ?_ |(apply R.ve;exact rfl;exact rfl;exact rfl)|(apply R.move;exact rfl)|(apply R.gx;exact rfl;exact rfl)|(apply R.ir;exact rfl;exact rfl)|(apply R.cmp;exact rfl;exact rfl;exact rfl;all_goals intro hc;all_goals(try(exfalso;omega)))|(apply R.not;exact rfl;exact rfl)|(apply R.oV T6;exact rfl;exact rfl)|refine Ev.seq ?_ |refine Ev.region ?_ |(apply Ev.ef;exact rfl)|refine Ev.skip ?_ |refine Ev.block ?_ |refine aA.normal ?_ |fail))
     refine Ev.loop (I:=λk' st=>∃(i:Nat) (V':Nat->PV),st=⟨al [(0,.str s),(38,.int .i64 s.size),(39,.int .i64 i)] V',[]⟩/\k'+i=s.size/\dx s=gk (s.toList.drop i)) s.size ?_ ?_;exact⟨0,_,St.aB ⟨rfl,rfl,rfl,trivial⟩,rfl,Fk⟩
     ·rintro k' _ ⟨i,V',rfl,hk,ew⟩;refine wE (λhc=>?_) λhc=>?_
      ·have mV:i<s.toList.length:=by omega
       have dL:=JA (TJ mV);rw[nV s i mV]at ew;refine R.gm T6 rfl rfl rfl dL ?_;generalize hx:s.toList[i]=x at ew dL
       skip
       refine R.call rfl rfl (ai.pure rfl rfl (xA x.toNat) ?_)
       cases Mk:kH x.toNat
       ·refine wB ?_;refine⟨_,rfl,?_⟩;rw[ew,Mk];rfl
       ·refine wB ?_;refine⟨k' - 1,by omega,i+1,_,St.aB ⟨rfl,rfl,rfl,trivial⟩,by omega,?_⟩;rw[ew,Mk];rfl
      ·refine⟨_,rfl,?_⟩;rw[ew,Uf (by omega)];rfl
    ·have Fk:dx s=false:=by rw[hs,hle,decide_eq_false hg];simp
     (repeat' (first |(apply R.gm T6 (i:=0);exact rfl;exact rfl;exact rfl;assumption)|refine ag.nil ?_ |(apply R.ve;exact rfl;exact rfl;exact rfl)|(apply R.mU;exact rfl;exact rfl;exact rfl)|(apply R.move;exact rfl)|(apply R.assign;exact rfl)|(apply R.gx;exact rfl;exact rfl)|(apply R.ir;exact rfl;exact rfl)|(apply R.cmp;exact rfl;exact rfl;exact rfl;all_goals intro hc;all_goals(try(exfalso;omega)))|(apply R.not;exact rfl;exact rfl)|refine Ev.seq ?_ |refine Ev.region ?_ |(apply Ev.ef;exact rfl)|refine Ev.ret ?_ |refine aA.normal ?_ |refine aA.ret ?_ |(apply aF.ret;exact rfl)|fail))
     all_goals exact⟨_,rfl,by rw[Fk];rfl⟩
end Go.Pm
namespace Go.Pm
open Go.Proofs
attribute [local irreducible] aA az aH aF Ev ag ai aD
set_option maxRecDepth 4000
set_option maxHeartbeats 4000000
theorem kl(a b:Int):aW C 181 [.int .i64 a,.int .i64 b] (.int .i64 (dy a b)):=by
 refine aW.of (aD.dD Tryz.func181 rfl ?_)
 (repeat' (first |refine ag.nil ?_ |(apply R.move;exact rfl)|(apply R.assign;exact rfl)|(apply R.cmp;exact rfl;exact rfl;exact rfl;all_goals intro hc)|refine Ev.seq ?_ |refine Ev.region ?_ |(apply Ev.ef;exact rfl)|refine Ev.ret ?_ |refine Ev.skip ?_ |refine aA.normal ?_ |refine aA.ret ?_ |(apply aF.ret;exact rfl)|fail))
 all_goals(refine⟨_,rfl,congrArg (PV.int .i64) ?_⟩;unfold dy;(repeat' split) <;>omega)
theorem oc(a b:Int):aW C 101 [.int .i64 a,.int .i64 b] (.int .i64 (dy a b)):=by
 refine aW.of (aD.dD Tryz.func101 rfl ?_)
 (repeat' (first |refine ag.nil ?_ |(apply R.move;exact rfl)|(apply R.assign;exact rfl)|(apply R.cmp;exact rfl;exact rfl;exact rfl;all_goals intro hc)|refine Ev.seq ?_ |refine Ev.region ?_ |(apply Ev.ef;exact rfl)|refine Ev.ret ?_ |refine Ev.skip ?_ |refine Ev.block ?_ |refine aA.normal ?_ |refine aA.ret ?_ |refine az.normal ?_ |refine az.ret ?_ |(apply aF.ret;exact rfl)|fail))
 all_goals(refine⟨_,rfl,congrArg (PV.int .i64) ?_⟩;unfold dy;(repeat' split) <;>omega)
theorem Gz(k s o l)(tv:bg l<1000000000)(ih:∀t∈l,aW C 176 [enc t] (.int .i64 (size t))):aW C 176 [enc (.mk k s o l)] (.int .i64 (size (.mk k s o l))):=by
 refine aW.of (aD.dD Tryz.func176 rfl ?_);rw[bL];have hlen:=bq l;have eE:=ax l;have ez:=dT l;refine wB ?_;refine Ev.loop (I:=λk' st=>∃(i:Nat) (n:Int) (V':Nat->PV),st=⟨al [(1,.ptr 0 0 0 0),(3,.int .i64 n),(4,.int .i64 i)] V',[⟨.m,0,4,[.agg [.int .i64 k,.str s,.int .i64 o,.ab false (aj l)]]⟩]⟩/\k'+i=l.length/\0<=n/\1+eC l=n+eC (l.drop i)) l.length ?_ ?_;exact⟨0,1,_,St.aB ⟨rfl,rfl,rfl,trivial⟩,rfl,by omega,rfl⟩
 ·rintro k' _ ⟨i,n,V',rfl,hk,hn,ew⟩;refine wE (λhc=>?_) λhc=>?_
  ·obtain⟨k1,s1,o1,l1,ib,dL,hd,mV,_⟩:=fX hc;refine R.ic T6 rfl rfl rfl rfl dL rfl rfl ?_;have Sr:=bF ib;have Ss:=jR (.mk k1 s1 o1 l1);have Nj:=dT (l.drop (i+1));rw[hd,eC]at ew;refine wB ?_;refine R.call rfl rfl ?_;show ai C 2 _ [.agg [.int .i64 k1,.str s1,.int .i64 o1,.ab false (aj l1)]] _ _;rw[<-bL];refine ai.pure (r:=.int .i64 (size (.mk k1 s1 o1 l1))) rfl (by simp[au,iC]) (by simpa[ba,mh]using ih _ ib) ?_;refine wB ?_;exact⟨k' - 1,by omega,i+1,n+size (.mk k1 s1 o1 l1),_,St.aB ⟨rfl,rfl,rfl,trivial⟩,by omega,by omega,by omega⟩
  ·refine⟨_,rfl,?_⟩;simp only[cJ,aQ,size];rw[gX hc,eC]at ew;rw[ew];simp
theorem nJ(t:Tm)(hb:aE t<1000000000):aW C 176 [enc t] (.int .i64 (size t)):=by
 induction t using Tm.ind with
 |h k s o l ih=>
  simp only[aE]at hb;exact Gz k s o l (by omega) (λt ht=>ih t ht (by have:=bF ht;omega))
theorem Eu(k s o l)(tv:bg l<1000000000)(ih:∀t∈l,aW C 102 [enc t] (.int .i64 (size t))):aW C 102 [enc (.mk k s o l)] (.int .i64 (size (.mk k s o l))):=by
 refine aW.of (aD.dD Tryz.func102 rfl ?_);rw[bL];have hlen:=bq l;have eE:=ax l;have ez:=dT l;refine wB ?_;refine Ev.loop (I:=λk' st=>∃(i:Nat) (n:Int) (J:aa) (V':Nat->PV),st=⟨al [(1,.ptr 0 0 0 0),(3,.int .i64 n),(7,.ab false (aj l)),(8,.int .i64 (aj l).length),(9,.int .i64 i)] V',⟨.m,0,4,[.agg [.int .i64 k,.str s,.int .i64 o,.ab false (aj l)]]⟩::J⟩/\k'+i=l.length/\0<=n/\1+eC l=n+eC (l.drop i)) l.length ?_ ?_;exact⟨0,1,[],_,St.aB ⟨rfl,rfl,rfl,rfl,rfl,trivial⟩,rfl,by omega,rfl⟩
 ·rintro k' _ ⟨i,n,J,V',rfl,hk,hn,ew⟩;refine wE (λhc=>?_) λhc=>?_
  ·obtain⟨k1,s1,o1,l1,ib,dL,hd,mV,_⟩:=fX hc;refine R.ic T6 rfl rfl rfl rfl dL rfl rfl ?_;have Sr:=bF ib;have Ss:=jR (.mk k1 s1 o1 l1);have Nj:=dT (l.drop (i+1));rw[hd,eC]at ew;refine wB ?_;refine R.call rfl rfl ?_;show ai C 2 _ [.agg [.int .i64 k1,.str s1,.int .i64 o1,.ab false (aj l1)]] _ _;rw[<-bL];refine ai.pure (r:=.int .i64 (size (.mk k1 s1 o1 l1))) rfl (by simp[au,iC]) (by simpa[ba,mh]using ih _ ib) ?_;refine wB ?_;exact⟨k' - 1,by omega,i+1,n+size (.mk k1 s1 o1 l1),_,_,St.aB ⟨rfl,rfl,rfl,rfl,rfl,trivial⟩,by omega,by omega,by omega⟩
  ·refine⟨_,rfl,?_⟩;simp only[cJ,aQ,size];rw[gX hc,eC]at ew;rw[ew];simp
theorem pt(t:Tm)(hb:aE t<1000000000):aW C 102 [enc t] (.int .i64 (size t)):=by
 induction t using Tm.ind with
 |h k s o l ih=>
  simp only[aE]at hb;exact Eu k s o l (by omega) (λt ht=>ih t ht (by have:=bF ht;omega))
end Go.Pm
namespace Go.Pm
open Go.Proofs
attribute [local irreducible] aA az aH aF Ev ag ai aD bw
set_option maxRecDepth 4000
set_option maxHeartbeats 4000000
theorem Cl(k s o l)(hb:aE (.mk k s o l)<1000000000):aW C 235 [enc (.mk k s o l)] (.int .i64 (node (.mk k s o l))):=by
 refine aW.of (aD.dD Tryz.func235 rfl ?_);rw[bL];have eE:=ax l;have hlen:=bq l;have Fi:s.size<1000000000:=by simp only[aE]at hb;omega
 (repeat' (first |refine ag.nil ?_ |(apply R.ve;exact rfl;exact rfl;exact rfl)|(apply R.mU;exact rfl;exact rfl;exact rfl)|(apply R.Jz;exact rfl;exact rfl)|(apply R.move;exact rfl)|(apply R.assign;exact rfl)|(apply R.gx;exact rfl;exact rfl)|(apply R.ir;exact rfl;exact rfl)|(apply R.gZ T6;exact rfl;exact rfl;exact rfl;exact rfl)|(apply R.fieldAddr T6;exact rfl;exact rfl;exact rfl;exact rfl)|(apply R.cmp;exact rfl;exact rfl;exact rfl;all_goals intro hc;all_goals(try(exfalso;omega)))|(apply R.not;exact rfl;exact rfl)|(apply R.qc T6;exact rfl;exact rfl)|(apply R.box;exact rfl;exact rfl;exact rfl;exact .nil)|refine Ev.seq ?_ |refine Ev.region ?_ |(apply Ev.ef;exact rfl)|refine Ev.ret ?_ |refine Ev.skip ?_ |refine aA.normal ?_ |refine aA.ret ?_ |(apply aF.ret;exact rfl)|fail))
 all_goals first
  |(refine⟨_,rfl,congrArg (PV.int .i64) ?_⟩;rw[node,if_pos (by omega)])
  |(refine R.call rfl rfl (ai.pure rfl rfl (xB s Fi) ?_);cases hN:dx s <;>(repeat' (first |refine ag.nil ?_ |(apply R.assign;exact rfl)|(apply R.gZ T6;exact rfl;exact rfl;exact rfl;exact rfl)|(apply R.fieldAddr T6;exact rfl;exact rfl;exact rfl;exact rfl)|(apply R.cmp;exact rfl;exact rfl;exact rfl;all_goals intro hc;all_goals(try(exfalso;omega)))|(apply R.not;exact rfl;exact rfl)|(apply R.qc T6;exact rfl;exact rfl)|refine Ev.seq ?_ |refine Ev.region ?_ |(apply Ev.ef;exact rfl)|refine Ev.ret ?_ |refine Ev.skip ?_ |refine aA.normal ?_ |refine aA.ret ?_ |(apply aF.ret;exact rfl)|fail)))
 all_goals first
  |(refine⟨_,rfl,congrArg (PV.int .i64) ?_⟩;rw[node,if_neg (by omega),if_pos hN])
  |(refine⟨_,rfl,congrArg (PV.int .i64) ?_⟩;rw[node,if_neg (by omega),if_neg (by rw[hN];simp),if_pos (by omega)])
  |(refine⟨_,rfl,congrArg (PV.int .i64) ?_⟩;rw[node,if_neg (by omega),if_neg (by rw[hN];simp),if_neg (by omega)])
theorem Cm(k s o l)(hb:aE (.mk k s o l)<1000000000)(ih:∀t∈l,aW C 175 [enc t] (.int .i64 (nodes t))):aW C 175 [enc (.mk k s o l)] (.int .i64 (nodes (.mk k s o l))):=by
 have wP:=Cl k s o l hb;refine aW.of (aD.dD Tryz.func175 rfl ?_);rw[bL]at wP ⊢;have hlen:=bq l;have eE:=ax l;simp only[aE]at hb;refine wB ?_;refine R.call rfl rfl (ai.pure rfl (by simp[au,aJ]) (by simpa[ba,cJ,bP]using wP) ?_);refine wE (λhc=>?_) λhc=>?_
 ·refine⟨_,rfl,?_⟩;rw[nodes,if_pos (by assumption)];rfl
 ·have h0:nodes (.mk k s o l)=eX l:=by rw[nodes,if_neg (by assumption)]
  refine Ev.loop (I:=λk' st=>∃(i:Nat) (V':Nat->PV),st=⟨al [(1,.ptr 0 0 0 0),(4,.int .i64 i)] V',[⟨.m,0,4,[.agg [.int .i64 k,.str s,.int .i64 o,.ab false (aj l)]]⟩]⟩/\k'+i=l.length/\eX l=eX (l.drop i)) l.length ?_ ?_;exact⟨0,_,St.aB ⟨rfl,rfl,trivial⟩,rfl,rfl⟩
  ·rintro k' _ ⟨i,V',rfl,hk,ew⟩;refine wE (λhc=>?_) λhc=>?_
   ·obtain⟨k1,s1,o1,l1,ib,dL,hd,mV,_⟩:=fX hc;refine R.ic T6 rfl rfl rfl rfl dL rfl rfl ?_;have Ar:=ih _ ib;rw[bL]at Ar;rw[hd,eX]at ew;refine wB ?_;refine R.call rfl rfl (ai.pure rfl (by simp[au,aJ]) (by simpa[ba,cJ,bP]using Ar) ?_);refine wE (λhc=>?_) λhc=>?_
    ·refine⟨_,rfl,?_⟩;rw[h0,ew,if_pos (by assumption)];rfl
    ·refine⟨k' - 1,by omega,i+1,_,St.aB ⟨rfl,rfl,trivial⟩,by omega,?_⟩;rw[ew,if_neg (by assumption)]
   ·refine⟨_,rfl,?_⟩;rw[h0,ew,gX hc];rfl
theorem zY(t:Tm)(hb:aE t<1000000000):aW C 175 [enc t] (.int .i64 (nodes t)):=by
 induction t using Tm.ind with
 |h k s o l ih=>
  exact Cm k s o l hb (λt ht=>ih t ht (by have:=bF ht;simp only[aE]at hb;omega))
theorem Cn(k s o l)(hb:aE (.mk k s o l)<1000000000)(ih:∀t∈l,aW C 177 [enc t] (.int .i64 (depth t))):aW C 177 [enc (.mk k s o l)] (.int .i64 (depth (.mk k s o l))):=by
 refine aW.of (aD.dD Tryz.func177 rfl ?_);rw[bL];have hlen:=bq l;have eE:=ax l;have ez:=dT l;have N0:=fW l;simp only[aE]at hb;refine wB ?_;refine Ev.loop (I:=λk' st=>∃(i:Nat) (n:Int) (V':Nat->PV),st=⟨al [(1,.ptr 0 0 0 0),(3,.int .i64 n),(4,.int .i64 i)] V',[⟨.m,0,4,[.agg [.int .i64 k,.str s,.int .i64 o,.ab false (aj l)]]⟩]⟩/\k'+i=l.length/\0<=n/\eY l=max n (eY (l.drop i))) l.length ?_ ?_;exact⟨0,0,_,St.aB ⟨rfl,rfl,rfl,trivial⟩,rfl,by omega,by simp only[U'];omega⟩
 ·rintro k' _ ⟨i,n,V',rfl,hk,hn,ew⟩;refine wE (λhc=>?_) λhc=>?_
  ·obtain⟨k1,s1,o1,l1,ib,dL,hd,mV,_⟩:=fX hc;refine R.ic T6 rfl rfl rfl rfl dL rfl rfl ?_;have Ar:=ih _ ib;rw[bL]at Ar;rw[hd,eY]at ew;have HE:=kj (.mk k1 s1 o1 l1);refine wB ?_;refine R.call rfl rfl (ai.pure rfl (by simp[au,aJ]) (by simpa[ba,cJ,bP]using Ar) ?_);refine wB ?_;exact⟨k' - 1,by omega,i+1,_,_,St.aB ⟨rfl,rfl,rfl,trivial⟩,by omega,by omega,by omega⟩
  ·rw[gX hc,eY]at ew
   skip
   refine⟨_,rfl,congrArg (PV.int .i64) ?_⟩;rw[depth];omega
theorem zZ(t:Tm)(hb:aE t<1000000000):aW C 177 [enc t] (.int .i64 (depth t)):=by
 induction t using Tm.ind with
 |h k s o l ih=>
  exact Cn k s o l hb (λt ht=>ih t ht (by have:=bF ht;simp only[aE]at hb;omega))
theorem zP(t:Tm)(hb:aE t<1000000000):aW C 125 [enc t] (.int .i64 (valid t)):=by
 have h1:=zY t hb;have h2:=nJ t hb;have h3:=zZ t hb;obtain⟨k,s,o,l⟩:=t;refine aW.of (aD.dD Tryz.func125 rfl ?_);rw[bL]at h1 h2 h3 ⊢;refine wB ?_;refine R.call rfl rfl (ai.pure rfl (by simp[au,aJ]) (by simpa[ba,cJ,bP]using h1) ?_);refine wE (λhc=>?_) λhc=>?_
 ·refine⟨_,rfl,?_⟩;rw[valid,if_pos (by assumption)];rfl
 ·have h0:=hc;clear hc;refine R.call rfl rfl (ai.pure rfl (by simp[au,aJ]) (by simpa[ba,cJ,bP]using h2) ?_);refine wE (λhc=>?_) λhc=>?_
  ·refine⟨_,rfl,?_⟩;rw[valid,if_neg h0,if_pos (by omega)];rfl
  ·refine R.call rfl rfl (ai.pure rfl (by simp[au,aJ]) (by simpa[ba,cJ,bP]using h3) ?_);refine wE (λhc=>?_) λhc=>?_
   ·refine⟨_,rfl,?_⟩;rw[valid,if_neg h0,if_pos (by omega)];rfl
   ·refine⟨_,rfl,?_⟩;rw[valid,if_neg h0,if_neg (by omega)];rfl
set_option maxHeartbeats 2000000 in
theorem FY(k s o l k' s' o' l')(hb:aE (.mk k s o l)<1000000000)(ew:aE (.mk k' s' o' l')<1000000000)
  (ih:∀t∈l,∀t'∈l',aW C 134 [enc t,enc t'] (.int .i64 (bR t t'))):aW C 134 [enc (.mk k s o l),enc (.mk k' s' o' l')] (.int .i64 (bR (.mk k s o l) (.mk k' s' o' l'))):=by
 refine aW.of (aD.dD Tryz.func134 rfl ?_);rw[bL,bL];have z1:=nJ _ hb;have z2:=nJ _ ew;have v1:au (aj l)=true:=fF l;have v2:au (aj l')=true:=fF l';have e1:=ax l;have e2:=ax l';have b1:l.length<1000000000:=by have:=bq l;simp only[aE]at hb;omega
 have b2:l'.length<1000000000:=by have:=bq l';simp only[aE]at ew;omega
 rw[bL]at z1 z2;refine wB ?_;refine D.pL rfl rfl rfl rfl (by simp[au,aJ,v1]) rfl rfl (by simpa[ba,cJ,bP]using z1) ?_;refine wB ?_;refine D.pL rfl rfl rfl rfl (by simp[au,aJ,v2]) rfl rfl (by simpa[ba,cJ,bP]using z2) ?_;refine D.pL rfl rfl rfl rfl rfl rfl rfl (kl _ _) ?_;refine wE (λhc=>?_) λhc=>?_;exact⟨_,rfl,by simp only[cJ,aQ,bR];rw[if_pos hc]⟩;have h1:=hc;clear hc;refine R.call rfl rfl (ai.pure rfl rfl (kl k k') ?_)
 (repeat' (first |refine ag.nil ?_ |(apply R.move;exact rfl)|(apply R.assign;exact rfl)|(apply R.gZ T6;exact rfl;exact rfl;exact rfl;exact rfl)|(apply R.fieldAddr T6;exact rfl;exact rfl;exact rfl;exact rfl)|(apply R.cmp;exact rfl;exact rfl;exact rfl;all_goals intro hc)|(apply R.Is;exact rfl;exact rfl;exact rfl;all_goals intro hc)|refine Ev.seq ?_ |refine Ev.region ?_ |(apply Ev.ef;exact rfl)|refine Ev.ret ?_ |refine Ev.skip ?_ |refine aA.normal ?_ |refine aA.ret ?_ |(apply aF.ret;exact rfl)|fail))
 exact⟨_,rfl,by simp only[cJ,aQ,bR];rw[if_neg h1,if_pos hc]⟩
 ·rename_i h2
  have h3:=hc;exact⟨_,rfl,by simp only[cJ,aQ,bR];rw[if_neg h1,if_neg h2,if_pos h3]⟩
 ·rename_i h2 h3
  have h4:=hc;exact⟨_,rfl,by simp only[cJ,aQ,bR];rw[if_neg h1,if_neg h2,if_neg (by rw[h3];simp),if_pos h4]⟩
 rename_i h2 h3
 have h4:=hc;clear hc;refine R.call rfl rfl (ai.pure rfl rfl (kl o o') ?_);refine wE (λhc=>?_) λhc=>?_;exact⟨_,rfl,by simp only[cJ,aQ,bR];rw[if_neg h1,if_neg h2,if_neg (by rw[h3];simp),if_neg (by rw[h4];simp),if_pos hc]⟩;have h5:=hc;clear hc;refine R.call rfl rfl (ai.pure rfl rfl (kl (aj l).length (aj l').length) ?_);refine wE (λhc=>?_) λhc=>?_
 ·refine⟨_,rfl,?_⟩;simp only[cJ,aQ,bR];rw[e1,e2]at hc ⊢;rw[if_neg h1,if_neg h2,if_neg (by rw[h3];simp),if_neg (by rw[h4];simp),if_neg h5,if_pos hc]
 have h6:=hc;clear hc
 have yQ:l.length=l'.length:=by
  rw[e1,e2]at h6;unfold dy at h6
  repeat' split at h6
  all_goals omega
 have Hq:bR (.mk k s o l) (.mk k' s' o' l')=jl l l':=by
  rw[e1,e2]at h6;rw[bR,if_neg h1,if_neg h2,if_neg (by rw[h3];simp),if_neg (by rw[h4];simp),if_neg h5,if_neg h6]
 refine Ev.loop (I:=λIt st=>∃(i:Nat) (V':Nat->PV),st=⟨al [(2,.ptr 0 0 0 0),(3,.ptr 1 0 0 0),(9,.int .i64 i)] V',[⟨.m,0,4,[.agg [.int .i64 k,.str s,.int .i64 o,.ab false (aj l)]]⟩,⟨.m,0,4,[.agg [.int .i64 k',.str s',.int .i64 o',.ab false (aj l')]]⟩]⟩/\It+i=l.length/\jl l l'=jl (l.drop i) (l'.drop i)) l.length ?_ ?_;exact⟨0,_,St.aB ⟨rfl,rfl,rfl,trivial⟩,rfl,rfl⟩
 ·rintro It _ ⟨i,V',rfl,hk,qo⟩;refine wE (λhc=>?_) λhc=>?_
  ·obtain⟨k1,s1,o1,l1,ib,dL,hd,mV,_⟩:=fX hc;obtain⟨k2,s2,o2,l2,Dl,Iu,CD,Oj,_⟩:=fX (l:=l') (i:=i) (by omega);have w1:au (aj l1)=true:=fF l1;have w2:au (aj l2)=true:=fF l2;have Ar:=ih _ ib _ Dl;rw[bL,bL]at Ar;refine D.ic T6 rfl rfl rfl rfl rfl dL rfl rfl ?_;refine wB ?_;refine D.ic T6 rfl rfl rfl rfl rfl Iu rfl rfl ?_;refine wB ?_;refine D.pL rfl rfl rfl rfl (by simp[au,aJ,w1,w2]) rfl rfl (by simpa[ba,cJ,bP]using Ar) ?_;refine wE (λhc=>?_) λhc=>?_
   ·refine⟨_,rfl,?_⟩;simp only[cJ,aQ];rw[Hq,qo,hd,CD,jl,if_pos (by assumption)]
   ·refine⟨It - 1,by omega,i+1,_,St.aB ⟨rfl,rfl,rfl,trivial⟩,by omega,?_⟩;rw[qo,hd,CD,jl,if_neg (by assumption)]
  ·refine⟨_,rfl,?_⟩;simp only[cJ,aQ];rw[Hq,qo,gX hc,jl]
end Go.Pm
