/-
  Pm, a part. Conditions: none.
-/
import Derived.Test.YtimogkojklpdnaaGreatDoorPyAB
import Derived.Test.YtimogkojklpdnaaGreatDoorProg
import Derived.KernelRfl
import Derived.Lib.Bytealg
set_option linter.unusedVariables false
set_option linter.unusedSimpArgs false
set_option linter.unnecessarySimpa false
set_option linter.unusedSectionVars false
namespace Go.Pm
variable[iD:Inhabited Prop]
variable{P:Program}{w:World}{F:Nat->Prop}{Z:List (Nat×Nat)}{h:ab}
def gZ(w:World)(A:Nat->Prop)(Z:List (Nat×Nat))(h:ab)(a:Act)(Y:Nat->PV):Prop:=∀t,aE w A Z h (a.tmps.getD t Go.undef) (Y t)
theorem gZ.ev{A:Nat->Prop}{a:Act}{Y:Nat->PV}(r:gZ w A Z h a Y)(G:fS w A)(x:Operand):aE w A Z h (a.eval x) (Pm.ev Y x):=by
 cases x with
 |tmp t=>exact r t
 |const v=>exact GO w A Z h v
 |global g=>
  show aE w A Z h _ (match zJ g with |some p=>.eg [p]|none=>.any)
  split
  ·rename_i p e;exact .val (G.rel e)
  exact .any _
 |func f=>exact .fn f [] [] rfl (by simp)
theorem gZ.LM{A:Nat->Prop}{a:Act}{Y:Nat->PV}(r:gZ w A Z h a Y)(G:fS w A)(xs:List Operand):L2 (aE w A Z h) (xs.map a.eval) (xs.map (Pm.ev Y)):=by
 refine⟨by simp,λj hj=>?_⟩;simp at hj;have e1:(xs.map a.eval).getD j undef=a.eval xs[j]:=by simp[List.getD,hj]
 have e2:(xs.map (Pm.ev Y)).getD j .any=Pm.ev Y xs[j]:=by simp[List.getD,hj]
 rw[e1,e2];exact r.ev G _
theorem gZ.parts{A:Nat->Prop}{a:Act}{Y:Nat->PV}(r:gZ w A Z h a Y)(G:fS w A)(xs:Array (Nat×Operand)):mL w A Z h (xs.map λ(i,x)=>(i,a.eval x)).toList (xs.toList.map λ(i,x)=>(i,Pm.ev Y x)):=by
 refine⟨by simp,λk x hx=>?_⟩;simp only[abm,abS]at hx;obtain⟨y,h1,rfl⟩:=hx;exact⟨a.eval y.2,by simp only[Array.toList_map,abm,h1];rfl,r.ev G y.2⟩
theorem gZ.opt{A:Nat->Prop}{a:Act}{Y:Nat->PV}(r:gZ w A Z h a Y)(G:fS w A)(x:Option Operand):vJ w A Z h (x.map a.eval) (x.map (Pm.ev Y)):=by
 cases x with
 |none=>trivial
 |some x=>exact r.ev G x
def tQ(P:Program)(lv:Nat)(w:World)(F:Nat->Prop)(Z:List (Nat×Nat))(h:ab)(s:Sem Next)(p:PV)(h':ab):Prop:=
 ∃v w' Z',(s.run P w=.ok (.value v) w'\/(s.run P w=.ok .skip w'/\v=undef))/\aE w' (Av F h' Z') Z' h' v p/\ba w' F Z' h'/\dU w h Z w' h' Z'/\(lv<=1->dD w w')
theorem BM.o{lv:Nat}{s:Sem Value}{p:PV}{h':ab}(x:BM P lv w F Z h s p h'):tQ P lv w F Z h (do pure (.value (<-s))) p h':=by
 obtain⟨v,w',Z',h1,h2,h3,h4⟩:=x;exact⟨v,w',Z',.inl (by simp only[Sem.run_bind,h1,Result.andThen_ok,Sem.run_pure]),h2,h3,h4⟩
theorem fH{lv:Nat}(H:ba w F Z h){s:Sem Value}{p:PV}(x:∃u,s.run P w=.ok u w/\aE w (Av F h Z) Z h u p):tQ P lv w F Z h (do pure (.value (<-s))) p h:=by
 obtain⟨u,h1,h2⟩:=x;exact(BM.still H h1 h2).o
theorem dM{α:Type}{x:Option α}{h:ab}{p:α}{h':ab}(e:x.map (·,h)=some (p,h')):x=some p/\h'=h:=by
 cases x with
 |none=>cases e
 |some y=>simp at e;exact⟨by rw[e.1],e.2.symm⟩
theorem Fx(H:ba w F Z h){a:Act}{Y:Nat->PV}(R:gZ w (Av F h Z) Z h a Y){lv:Nat}{o:Oper}{p:PV}{h':ab}(hc:∀c,o.op≠.call c)(e:aC P lv o.op Y h=some (p,h')):
  tQ P lv w F Z h (execOp a.eval o) p h':=by
 obtain⟨dst,op,type,pos,after,guard⟩:=o;simp only at e hc ⊢
 cases op <;>simp only[aC]at e <;>simp only[execOp]
 case move x=>
  obtain⟨rfl,rfl⟩:=abe (aa2 e);exact⟨_,w,Z,.inl rfl,R.ev H.fA x,H,dU.refl w h Z,λ_=>dD.refl w⟩
 case assign x=>
  obtain⟨rfl,rfl⟩:=abe (aa2 e);exact⟨_,w,Z,.inl rfl,R.ev H.fA x,H,dU.refl w h Z,λ_=>dD.refl w⟩
 case pick c x y=>
  split at e
  ·rename_i t ht
   obtain⟨rfl,rfl⟩:=abe (aa2 e);have hb:=R.ev H.fA c;rw[ht]at hb;have:=hb.gF;refine⟨if t then a.eval x else a.eval y,w,Z,.inl ?_,?_,H,dU.refl w h Z,λ_=>dD.refl w⟩;simp only[this,asBool,Sem.run_bind,Sem.run_pure,Result.andThen_ok]
   ·cases t
    ·exact R.ev H.fA y
    ·exact R.ev H.fA x
  cases e
 case alloc t=>
  split at e
  ·rename_i z hz
   split at e
   ·rename_i E3
    obtain⟨rfl,rfl⟩:=abe (aa2 e);exact(Kz H t hz E3.2.1 E3.2.2).o
   cases e
  cases e
 case box t x=>
  split at e
  ·rename_i E3
   obtain⟨rfl,rfl⟩:=abe (aa2 e);exact(IF H t (R.ev H.fA x) E3.2.1 E3.2.2).o
  cases e
 case build t ps=>
  obtain⟨e1,rfl⟩:=dM e;exact fH H (KG (R.parts H.fA ps) e1)
 case buildSlice t n ps=>exact(yz H (R.parts H.fA ps) e).o
 case load t x=>
  obtain⟨e1,rfl⟩:=dM e;exact fH H (Ek H (R.ev H.fA x) e1)
 case store t x y=>
  split at e
  ·rename_i E5
   cases hs:gV P h t (Pm.ev Y x) (Pm.ev Y y)with
   |none=>rw[hs]at e;simp at e
   |some h2=>
    rw[hs]at e;simp at e;obtain⟨rfl,rfl⟩:=e;obtain⟨w',Z',r1,r2,r3⟩:=Ky H (R.ev H.fA x) (R.ev H.fA y) hs;exact⟨undef,w',Z',.inr ⟨by simp only[Sem.run_bind,r1,Result.andThen_ok,Sem.run_pure],rfl⟩,.undef,r2,r3,λhh=>by omega⟩
  cases e
 case nilCheck x=>
  have hx:=R.ev H.fA x;generalize a.eval x=v at hx ⊢
  split at e
  ·rename_i id ep i oo hp
   obtain⟨rfl,rfl⟩:=abe (aa2 e);rw[hp]at hx
   cases hx with
   |val hs=>cases hs
   |ptr _ _ _ _ _ oo bc h0 h1 h2 h3 h4 h5=>
    obtain⟨ad,rfl⟩:=h0;exact⟨_,w,Z,.inl rfl,.ptr _ _ _ _ _ oo bc ⟨_,rfl⟩ h1 h2 h3 h4 h5,H,dU.refl w h Z,λ_=>dD.refl w⟩
  ·rename_i cs hp
   obtain⟨rfl,rfl⟩:=abe (aa2 e);rw[hp]at hx;have hs:=hx.tq
   cases hs with
   |eg=>exact⟨_,w,Z,.inl rfl,hx,H,dU.refl w h Z,λ_=>dD.refl w⟩
  ·rename_i f cs hp
   obtain⟨rfl,rfl⟩:=abe (aa2 e);rw[hp]at hx;obtain⟨vs,rfl,_⟩:=hx.Fw;exact⟨_,w,Z,.inl rfl,hx,H,dU.refl w h Z,λ_=>dD.refl w⟩
  cases e
 case binOp op t x y yt=>
  obtain⟨e1,rfl⟩:=dM e;exact fH H (RS (R.ev H.fA x) (R.ev H.fA y) e1)
 case unOp op t x=>
  obtain⟨e1,rfl⟩:=dM e;exact fH H (V3 (R.ev H.fA x) e1)
 case convert s d x=>
  obtain⟨e1,rfl⟩:=dM e;exact fH H (OH (R.ev H.fA x) e1)
 case makeFunc fn first dy=>
  cases fn <;>simp only at e <;>try(cases e;done)
  rename_i f
  split at e
  ·rename_i hf
   obtain⟨rfl,rfl⟩:=abe (aa2 e);obtain rfl:first= #[]:=by simpa using hf
   obtain⟨l1,l2⟩:=R.LM H.fA dy.toList;refine(BM.still H (v:=.func (.func f) #[] (dy.toList.map a.eval).toArray) ?_ (.fn f _ _ l1 l2)).o;have:dy.map a.eval=(dy.toList.map a.eval).toArray:=by apply acy;simp
   simp[Instr.makeFunc,this]
  ·obtain⟨rfl,rfl⟩:=abe (aa2 e);obtain⟨l1,l2⟩:=R.LM H.fA (first.toList++dy.toList);refine(BM.still H (v:=.func (.func f) (((first.toList++dy.toList).map a.eval).take first.size).toArray (((first.toList++dy.toList).map a.eval).drop first.size).toArray) ?_ (.nK f first.size _ _ l1 l2)).o;have e1:first.map a.eval=(((first.toList++dy.toList).map a.eval).take first.size).toArray:=by apply acy;simp
   have e2:dy.map a.eval=(((first.toList++dy.toList).map a.eval).drop first.size).toArray:=by apply acy;simp
   simp only[Instr.makeFunc,e1,e2];rfl
 case makeSlice t l c=>exact(OF H (R.ev H.fA l) (R.ev H.fA c) e).o
 case slice t x lo hi mx=>
  obtain⟨e1,rfl⟩:=dM e;exact fH H (KD H (R.ev H.fA x) (R.opt H.fA lo) (R.opt H.fA hi) (R.opt H.fA mx) e1)
 case fieldAddr s x f=>
  obtain⟨e1,rfl⟩:=dM e;exact fH H (zD H (R.ev H.fA x) e1)
 case field s x f=>
  obtain⟨e1,rfl⟩:=dM e;exact fH H (Kw (R.ev H.fA x) e1)
 case indexAddr t x ix=>
  obtain⟨e1,rfl⟩:=dM e;exact fH H (zE H (R.ev H.fA x) (R.ev H.fA ix) e1)
 case index t x ix=>
  obtain⟨e1,rfl⟩:=dM e;exact fH H (Kx (R.ev H.fA x) (R.ev H.fA ix) e1)
 case makeMap t r=>exact(Ea H (R.opt H.fA r) e).o
 case lookup t x k ok=>
  obtain⟨e1,rfl⟩:=dM e;exact fH H (GK H (R.ev H.fA x) (R.ev H.fA k) e1)
 case mapUpdate t m k x=>
  split at e
  ·rename_i E5
   cases hs:nO P h t (Pm.ev Y m) (Pm.ev Y k) (Pm.ev Y x)with
   |none=>rw[hs]at e;simp at e
   |some h2=>
    rw[hs]at e;simp at e;obtain⟨rfl,rfl⟩:=e;obtain⟨w',Z',r1,r2,r3⟩:=yh H (R.ev H.fA m) (R.ev H.fA k) (R.ev H.fA x) hs;exact⟨undef,w',Z',.inr ⟨by simp only[Sem.run_bind,r1,Result.andThen_ok,Sem.run_pure],rfl⟩,.undef,r2,r3,λhh=>by omega⟩
  cases e
 case insert t m k x=>
  split at e
  ·rename_i E5
   cases hs:nO P h t (Pm.ev Y m) (Pm.ev Y k) (Pm.ev Y x)with
   |none=>rw[hs]at e;simp at e
   |some h2=>
    rw[hs]at e;simp at e;obtain⟨rfl,rfl⟩:=e;obtain⟨w',Z',r1,r2,r3⟩:=yh H (R.ev H.fA m) (R.ev H.fA k) (R.ev H.fA x) hs;exact⟨undef,w',Z',.inr ⟨by simp only[Sem.run_bind,r1,Result.andThen_ok,Sem.run_pure],rfl⟩,.undef,r2,r3,λhh=>by omega⟩
  cases e
 case extract x i=>
  split at e
  ·rename_i vs hv
   split at e
   ·rename_i v hi
    obtain⟨rfl,rfl⟩:=abe (aa2 e);have hx:=R.ev H.fA x;rw[hv]at hx;obtain⟨us,hu,hl,hr⟩:=hx.vQ;have hj:=ag hi;have:=hr i hj;have e2:vs.getD i .any=v:=by simp[List.getD,hi]
    rw[e2]at this;refine fH H ⟨us.getD i Go.undef,?_,this⟩;rw[hu];have:i<us.length:=by omega
    simp[Instr.extract,this,List.getD]
   cases e
  cases e
 case call c=>exact absurd rfl (hc c)
 all_goals cases e
theorem C'(H:ba w F Z h){a:Act}{Y:Nat->PV}(R:gZ w (Av F h Z) Z h a Y){lv:Nat}{b:Builtin}{ts:Array TypeId}{ty:TypeId}{cb:Array Bool}{xs:Array Operand}{p:PV}{h':ab}
  (e:br P lv h b ts.toList (xs.toList.map (Pm.ev Y))=some (p,h')):tQ P lv w F Z h (builtin b ts ty cb (xs.map a.eval)) p h':=by
 have ts0:∀{t:TypeId} {r:List TypeId},ts.toList=t::r->ts[0]?=some t:=λhh=>by rw[<-abD,hh];rfl
 have ts1:∀{t t':TypeId} {r:List TypeId},ts.toList=t::t'::r->ts[1]?=some t':=λhh=>by rw[<-abD,hh];rfl
 have xs0:∀{p:PV} {r:List PV},xs.toList.map (Pm.ev Y)=p::r->∃v,(xs.map a.eval)[0]?=some v/\aE w (Av F h Z) Z h v p:=λ{p r} hh=>by
  cases hx:xs.toList with
  |nil=>rw[hx]at hh;simp at hh
  |cons y ys=>
   rw[hx]at hh;simp at hh;refine⟨a.eval y,?_,by rw[<-hh.1];exact R.ev H.fA y⟩;rw[<-abD,Array.toList_map,hx];rfl
 have xs1:∀{p q:PV} {r:List PV},xs.toList.map (Pm.ev Y)=p::q::r->∃v,(xs.map a.eval)[1]?=some v/\aE w (Av F h Z) Z h v q:=λ{p q r} hh=>by
  cases hx:xs.toList with
  |nil=>rw[hx]at hh;simp at hh
  |cons y ys=>
   cases hy:ys with
   |nil=>rw[hx,hy]at hh;simp at hh
   |cons z zs=>
    rw[hx,hy]at hh;simp at hh;refine⟨a.eval z,?_,by rw[<-hh.2.1];exact R.ev H.fA z⟩;rw[<-abD,Array.toList_map,hx,hy];rfl
 have earr:xs.map a.eval=(xs.toList.map a.eval).toArray:=by apply acy;simp
 unfold br at e
 split at e
 ·rename_i t r x r' h1 h2
  obtain⟨e1,rfl⟩:=dM e;obtain⟨v,v1,v2⟩:=xs0 h2;refine fH H ?_
  cases hx:xs.toList with
  |nil=>rw[hx]at h2;simp at h2
  |cons y ys=>
   rw[earr,hx,abk];rw[hx]at h2;simp at h2;have:=R.ev H.fA y;rw[h2.1]at this;exact RM H (ts0 h1) this e1
 ·rename_i st xt r s x r' h1 h2
  obtain⟨v,v1,v2⟩:=xs0 h2;obtain⟨u,u1,u2⟩:=xs1 h2;exact(GP H (ts0 h1) (ts1 h1) v1 u1 v2 u2 e).o
 ·rename_i dt r d x r' h1 h2
  obtain⟨v,v1,v2⟩:=xs0 h2;obtain⟨u,u1,u2⟩:=xs1 h2;exact(OE H (ts0 h1) v1 u1 v2 u2 e).o
 ·rename_i t r x r' h1 h2
  obtain⟨v,v1,v2⟩:=xs0 h2;exact(KA H (ts0 h1) v1 v2 e).o
 ·rename_i t r x r' h1 h2
  obtain⟨e1,rfl⟩:=dM e;obtain⟨v,v1,v2⟩:=xs0 h2;refine fH H ?_;unfold TW at e1
  split at e1
  ·rename_i el es hu
   obtain rfl:=aa2 e1;obtain⟨ad,cap,rfl,_,hf⟩:=v2.fK.kj;obtain rfl:=hf rfl;exact⟨_,by simp[Builtin.cap_,ts0 h1,v1,bR hu,goInt],.val (.int _ _)⟩
  cases e1
 ·rename_i tt xx
  obtain⟨e1,rfl⟩:=dM e;rw[earr];exact fH H (RP (R.LM H.fA xs.toList) e1)
 ·rename_i tt xx
  obtain⟨e1,rfl⟩:=dM e;rw[earr];exact fH H (RQ (R.LM H.fA xs.toList) e1)
 cases e
theorem cJ(cs:List PV):aU cs=cs.map bW:=by
 induction cs with
 |nil=>rfl
 |cons c r ih=>simp[aU,ih]
theorem bj(cs:List PV):ao cs=cs.all aV:=by
 induction cs with
 |nil=>rfl
 |cons c r ih=>simp[ao,ih]
theorem CQ(cs:List PV):o9 cs=cs.all eT:=by
 induction cs with
 |nil=>rfl
 |cons c r ih=>simp[o9,ih]
theorem fX(cs:List PV)(j:Nat):(aU cs).getD j .any=bW (cs.getD j .any):=by
 rw[cJ];simp only[List.getD,abm]
 cases cs[j]? <;>simp[bW]
theorem zP(e:PV):Pm.cells (bW e)=aU (Pm.cells e):=by
 cases e <;>simp[bW,Pm.cells,aU]
theorem bZ.bW{A:Nat->Prop}{v:Value}{p:PV}(r:bZ w A v p):bZ w A v (Pm.bW p):=by
 induction r with
 |int k n=>exact .int k n
 |bool b=>exact .bool b
 |str s=>exact .str s
 |eJ=>exact .eJ
 |aI=>exact .aI
 |gL=>exact .gL
 |agg vs cs hl _ ih=>exact .agg vs _ (by simp[cJ,hl]) (λj hj=>by rw[fX];exact ih j (by simpa[cJ]using hj))
 |cy vs cs hl _ ih=>exact .cy vs _ (by simp[cJ,hl]) (λj hj=>by rw[fX];exact ih j (by simpa[cJ]using hj))
 |fn f vs cs hl _ ih=>exact .fn f vs _ (by simp[cJ,hl]) (λj hj=>by rw[fX];exact ih j (by simpa[cJ]using hj))
 |nK f k vs cs hl _ ih=>exact .nK f k vs _ (by simp[cJ,hl]) (λj hj=>by rw[fX];exact ih j (by simpa[cJ]using hj))
 |gp a cap full hf=>exact .gp a cap false (λhh=>by cases hh)
 |aa b off cap sz full es oP h1 h2 h3 h4 h5 h6 h7 _ ih=>
  have hl:(aU es).length=es.length:=by simp[cJ]
  have:=bZ.aa (w:=w) (A:=A) b off cap sz false (aU es) oP (by intro hn;rw[hn]at hl;exact h1 (abj hl.symm)) (by omega) (λhh=>by cases hh) h4 h5
   (λi hi=>by rw[fX,zP,cJ,ace];exact h6 i (by omega)) (λi j hi hj=>h7 i j (by omega) hj)
   (λi j hi hj=>by rw[fX,zP,fX];exact ih i j (by omega) hj)
  rw[hl]at this;exact this
 |eg b off cs oP h1 h2 h3 _ ih=>
  have hl:(aU cs).length=cs.length:=by simp[cJ]
  exact .eg b off (aU cs) oP (by intro hn;rw[hn]at hl;exact h1 (abj hl.symm)) h2 (λj hj=>h3 j (by omega)) (λj hj=>by rw[fX];exact ih j (by omega))
theorem fJ{f:PV->Bool}{cs:List PV}(h:cs.all f=true){j:Nat}(hj:j<cs.length):f (cs.getD j .any)=true:=by
 have:cs.getD j .any=cs[j]:=by simp[List.getD,hj]
 rw[this];exact aa4.1 h _ (abF hj)
theorem bZ.eT{A A':Nat->Prop}{w':World}{v:Value}{p:PV}(r:bZ w A v p)(hs:Pm.eT p=true):bZ w' A' v p:=by
 induction r with
 |int k n=>exact .int k n
 |bool b=>exact .bool b
 |str s=>exact .str s
 |eJ=>exact .eJ
 |aI=>exact .aI
 |gL=>exact .gL
 |agg vs cs hl _ ih=>simp[Pm.eT,CQ]at hs;exact .agg vs _ hl (λj hj=>ih j hj (fJ (by simpa using hs) hj))
 |cy vs cs hl _ ih=>simp[Pm.eT,CQ]at hs;exact .cy vs _ hl (λj hj=>ih j hj (fJ (by simpa using hs) hj))
 |fn f vs cs hl _ ih=>simp[Pm.eT]at hs
 |nK f k vs cs hl _ ih=>simp[Pm.eT]at hs
 |gp a cap full hf=>simp[Pm.eT]at hs
 |aa=>simp[Pm.eT]at hs
 |eg=>simp[Pm.eT]at hs
theorem Bq(H:ba w F Z h){A':Nat->Prop}(hA:∀b,b<w.heap.size->¬Av F h Z b->¬A' b){v:Value}{p p':PV}(hv:aE w (Av F h Z) Z h v p)(e:oE h p=some p')
  (hM:∀(id:Nat) (o:au) (bc:Nat×Nat),id∈rX p->h[id]?=some o->Z[id]?=some bc->(o.mu=.m\/o.mu=.f)->¬A' bc.1):bZ w A' v p':=by
 unfold oE at e
 split at e
 ·rename_i id ep off len
  split at e
  ·rename_i o ho
   split at e
   ·rename_i hc
    obtain⟨hle,EY,jJ⟩:=hc;obtain rfl:=aa2 e;obtain⟨e1,e2,e3⟩:=getM_some ho;obtain⟨bc,hb⟩:=db H.len e1;obtain⟨h1,h2,h3⟩:=hv.dL;obtain⟨cap,rfl,c2⟩:=h3 o bc e1 hb e3 e2 hle;obtain⟨T,sb,k1,k2,k3,k4,k5⟩:=(H.obj id o bc e1 hb e3).c (h2 o e1).2;have hlen:((o.es.drop off).take len).length=len:=by simp;omega
    by_cases Hx:len=0
    ·subst Hx;simp;exact .gp _ _ _ (λhh=>by cases hh)
    ·have at_i:∀i,i<len->∃e,((o.es.drop off).take len).getD i .any=e/\o.es[off+i]?=some e/\aV e=true:=λi hi=>by
      have g1:((o.es.drop off).take len)[i]?=some (o.es[off+i]'(by omega)):=by
       rw[abn,if_pos hi,abI];exact aa6 (by omega)
      refine⟨o.es[off+i]'(by omega),by rw[abt,g1];rfl,aa6 (by omega),?_⟩;rw[bj]at jJ;exact aa4.1 jJ _ (abh g1)
     have I0:∀(e:PV),aV e=true->∀q∈Pm.cells e,aV q=true:=by
      intro e he q hq
      cases e <;>first
       |(simp only[Pm.cells,abC]at hq;subst hq;exact he)
       |(simp only[aV,bj]at he;exact aa4.1 he q hq)
     have jB:∀i j,i<len->j<o.bA->∃u,w.cell? ⟨bc.1,off * o.bA+(i * o.bA+j),none⟩=some u/\bZ w A' u ((Pm.cells (((o.es.drop off).take len).getD i .any)).getD j .any):=by
      intro i j hi hj
      obtain⟨el,g1,g2,g3⟩:=at_i i hi;obtain⟨n1,n2⟩:=k5 _ el g2;have hq:=aa6 (show j<(Pm.cells el).length by omega);obtain⟨u,m1,m2⟩:=n2 j _ hq;refine⟨u,?_,?_⟩
      ·rw[cell_of_row w bc.1 _ sb T (0,0) k1,<-acF,<-abX];exact m1
      ·rw[g1];have e2:(Pm.cells el).getD j .any=(Pm.cells el)[j]'(by omega):=by simp[List.getD,hq]
       rw[e2];exact(m2.EZ (I0 el g3 _ (abF _))).mono (λ_ _ _=>rfl) hA
     have:=bZ.aa (w:=w) (A:=A') bc.1 (off * o.bA) cap o.bA false ((o.es.drop off).take len) (λi j=>(w.cell? ⟨bc.1,off * o.bA+(i * o.bA+j),none⟩).getD Go.undef)
      (by intro hn;rw[hn]at hlen;simp at hlen;omega) (by rw[hlen];omega) (λhh=>by cases hh) (hM id o bc (by simp[rX]) e1 hb EY) k4
      (λi hi=>by rw[hlen]at hi;obtain⟨el,g1,g2,g3⟩:=at_i i hi;rw[g1];exact(k5 _ el g2).1)
      (λi j hi hj=>by rw[hlen]at hi;obtain⟨u,m1,m2⟩:=jB i j hi hj;rw[m1];rfl)
      (λi j hi hj=>by rw[hlen]at hi;obtain⟨u,m1,m2⟩:=jB i j hi hj;rw[m1];exact m2)
     rw[hlen]at this;exact this
   cases e
  cases e
 ·split at e
  ·rename_i E0
   obtain rfl:=aa2 e;exact(hv.EZ E0).mono (λ_ _ _=>rfl) hA
  ·cases e
def T5(p:PV):List Nat:=(Pm.cells p).flatMap rX
theorem LH{cs r:List PV}(e:nP h cs=some r):r.length=cs.length/\∀j,j<cs.length->oE h (cs.getD j .any)=some (r.getD j .any):=by
 induction cs generalizing r with
 |nil=>simp[nP]at e;subst e;exact⟨rfl,λj hj=>by simp at hj⟩
 |cons c cs ih=>
  simp only[nP]at e
  split at e
  ·rename_i c' r' h1 h2
   obtain rfl:=aa2 e;obtain⟨l1,l2⟩:=ih h2;refine⟨by simp[l1],λj hj=>?_⟩
   cases j with
   |zero=>simpa using h1
   |succ j=>simpa using l2 j (by simpa using hj)
  cases e
theorem CR{cs r:List PV}(e:ie h cs=some r):r.length=cs.length/\∀j,j<cs.length->kY h (cs.getD j .any)=some (r.getD j .any):=by
 induction cs generalizing r with
 |nil=>simp[ie]at e;subst e;exact⟨rfl,λj hj=>by simp at hj⟩
 |cons c cs ih=>
  simp only[ie]at e
  split at e
  ·rename_i c' r' h1 h2
   obtain rfl:=aa2 e;obtain⟨l1,l2⟩:=ih h2;refine⟨by simp[l1],λj hj=>?_⟩
   cases j with
   |zero=>simpa using h1
   |succ j=>simpa using l2 j (by simpa using hj)
  cases e
theorem LI{cs:List PV}{j:Nat}(hj:j<cs.length){f:PV->List Nat}{id:Nat}(hm:id∈f (cs.getD j .any)):id∈cs.flatMap f:=by
 have:cs.getD j .any=cs[j]:=by simp[List.getD,hj]
 rw[this]at hm;exact abY.2 ⟨_,abF hj,hm⟩
theorem vP(H:ba w F Z h){A':Nat->Prop}(hA:∀b,b<w.heap.size->¬Av F h Z b->¬A' b){v:Value}{p p':PV}(hv:aE w (Av F h Z) Z h v p)(e:kY h p=some p')
  (hM:∀(id:Nat) (o:au) (bc:Nat×Nat),id∈T5 p->h[id]?=some o->Z[id]?=some bc->(o.mu=.m\/o.mu=.f)->¬A' bc.1):bZ w A' v p':=by
 unfold kY at e
 split at e
 ·rename_i cs
  cases hr:nP h cs with
  |none=>rw[hr]at e;simp at e
  |some r=>
   rw[hr]at e;simp at e;subst e;obtain⟨l1,l2⟩:=LH hr;obtain⟨vs,rfl,hl,hh⟩:=hv.sc;exact .agg vs r (by omega) (λj hj=>Bq H hA (hh j (by omega)) (l2 j (by omega)) (λid o bc hm=>hM id o bc (LI (cs:=cs) (by omega) hm)))
 ·rename_i LJ
  have hc:Pm.cells p=[p]:=by cases p <;>first |rfl |exact absurd rfl (LJ _)
  exact Bq H hA hv e (λid o bc hm=>hM id o bc (by simp[T5,hc,hm]))
theorem T7(H:ba w F Z h){A':Nat->Prop}(hA:∀b,b<w.heap.size->¬Av F h Z b->¬A' b){v:Value}{p p':PV}(hv:aE w (Av F h Z) Z h v p)(e:rb h p=some p')
  (hM:∀(id:Nat) (o:au) (bc:Nat×Nat),h[id]?=some o->Z[id]?=some bc->(o.mu=.m\/o.mu=.f)->¬A' bc.1):bZ w A' v p':=by
 unfold rb at e
 split at e
 ·rename_i cs
  cases hr:ie h cs with
  |none=>rw[hr]at e;simp at e
  |some r=>
   rw[hr]at e;simp at e;subst e;obtain⟨l1,l2⟩:=CR hr;obtain⟨vs,rfl,hl,hh⟩:=hv.vQ;exact .cy vs r (by omega) (λj hj=>vP H hA (hh j (by omega)) (l2 j (by omega)) (λid o bc _=>hM id o bc))
 exact vP H hA hv e (λid o bc _=>hM id o bc)
theorem kZ{f:PV->Option PV}:∀{cs r:List PV},gv f cs=some r->r.length=cs.length/\∀j,j<cs.length->f (cs.getD j .any)=some (r.getD j .any)
 |[],r,e=>by simp[gv]at e;subst e;exact⟨rfl,λj hj=>by simp at hj⟩
 |c::cs,r,e=>by
  simp only[gv]at e
  split at e
  ·rename_i c' r' h1 h2
   obtain rfl:=aa2 e;obtain⟨l1,l2⟩:=kZ h2;refine⟨by simp[l1],λj hj=>?_⟩
   cases j with
   |zero=>simpa using h1
   |succ j=>simpa using l2 j (by simpa using hj)
  cases e
theorem PR{n:Nat}{e e':PV}(LJ:∀cs,e≠.agg cs)(he:qk n h e=some e'):Pm.cells e=[e]/\Pm.cells e'=[e']:=by
 have hc:Pm.cells e=[e]:=by cases e <;>first |rfl |exact absurd rfl (LJ _)
 refine⟨hc,?_⟩
 cases n with
 |zero=>
  simp only[qk]at he
  split at he
  obtain rfl:=aa2 he;exact hc
  cases he
 |succ n=>
  unfold qk at he
  split at he
  ·split at he
   ·split at he
    ·obtain⟨r,hr,rfl⟩:=abS.1 he;rfl
    ·cases he
   ·cases he
  exact absurd rfl (LJ _);obtain⟨r,hr,rfl⟩:=abS.1 he;rfl
  ·split at he
   ·obtain rfl:=aa2 he;exact hc
   ·cases he
theorem I1{n:Nat}{e e':PV}(he:qk n h e=some e'):(Pm.cells e').length=(Pm.cells e).length/\∀j,j<(Pm.cells e).length->∃m,m<=n/\qk m h ((Pm.cells e).getD j .any)=some ((Pm.cells e').getD j .any):=by
 by_cases LJ:∀cs,e≠.agg cs
 ·obtain⟨c1,c2⟩:=PR LJ he;rw[c1,c2];refine⟨rfl,λj hj=>?_⟩;obtain rfl:j=0:=by simp at hj;omega
  exact⟨n,aa5 _,by simpa using he⟩
 ·obtain⟨cs,rfl⟩:∃cs,e=.agg cs:=ac8 λhh=>LJ λcs hc=>hh ⟨cs,hc⟩
  cases n with
  |zero=>
   simp only[qk]at he
   split at he
   ·rename_i hv
    obtain rfl:=aa2 he;refine⟨rfl,λj hj=>⟨0,aa5 _,?_⟩⟩;have E0:cs.all aV=true:=by rw[<-bj];simpa[aV]using hv
    have hh:aV ((Pm.cells (.agg cs)).getD j .any)=true:=fJ E0 hj;simp only[qk];rw[if_pos hh]
   cases he
  |succ n=>
   simp only[qk]at he;obtain⟨r,hr,rfl⟩:=abS.1 he;obtain⟨l1,l2⟩:=kZ hr;exact⟨l1,λj hj=>⟨n,by omega,l2 j hj⟩⟩
theorem Hy(H:ba w F Z h){A':Nat->Prop}(hA:∀b,b<w.heap.size->¬Av F h Z b->¬A' b)
  (hM:∀(id:Nat) (o:au) (bc:Nat×Nat),h[id]?=some o->Z[id]?=some bc->(o.mu=.m\/o.mu=.f)->¬A' bc.1):∀(n:Nat) {v:Value} {p p':PV},aE w (Av F h Z) Z h v p->qk n h p=some p'->bZ w A' v p':=by
 intro n
 induction n using Nat.strongRecOn with
 |ind n ih=>
  intro v p p' hv e
  have vl:aV p=true->bZ w A' v p:=λhp=>(hv.EZ hp).mono (λ_ _ _=>rfl) hA
  cases n with
  |zero=>
   simp only[qk]at e
   split at e
   ·rename_i hp;obtain rfl:=aa2 e;exact vl hp
   cases e
  |succ n=>
   unfold qk at e
   split at e
   ·rename_i id ep off len
    split at e
    ·rename_i o ho
     split at e
     ·rename_i hc
      obtain⟨hle,EY⟩:=hc;obtain⟨es,gK,rfl⟩:=abS.1 e;obtain⟨e1,e2,e3⟩:=getM_some ho;obtain⟨bc,hb⟩:=db H.len e1;obtain⟨h1,h2,h3⟩:=hv.dL;obtain⟨cap,rfl,c2⟩:=h3 o bc e1 hb e3 e2 hle;obtain⟨T,sb,k1,k2,k3,k4,k5⟩:=(H.obj id o bc e1 hb e3).c (h2 o e1).2;obtain⟨l1,l2⟩:=kZ gK;have SL:((o.es.drop off).take len).length=len:=by simp;omega
      have hlen:es.length=len:=by omega
      by_cases Hx:len=0
      ·subst Hx;obtain rfl:=List.length_eq_zero_iff.1 hlen;exact .gp _ _ _ (λhh=>by cases hh)
      ·have at_i:∀i,i<len->∃el,o.es[off+i]?=some el/\qk n h el=some (es.getD i .any):=λi hi=>by
        have g1:((o.es.drop off).take len)[i]?=some (o.es[off+i]'(by omega)):=by
         rw[abn,if_pos hi,abI];exact aa6 (by omega)
        have g2:=l2 i (by omega);rw[abt,g1]at g2;exact⟨_,aa6 (by omega),g2⟩
       have jB:∀i j,i<len->j<o.bA->(Pm.cells (es.getD i .any)).length=o.bA/\∃u,w.cell? ⟨bc.1,off * o.bA+(i * o.bA+j),none⟩=some u/\bZ w A' u ((Pm.cells (es.getD i .any)).getD j .any):=by
        intro i j hi hj
        obtain⟨el,g1,g2⟩:=at_i i hi;obtain⟨n1,n2⟩:=k5 _ el g1;obtain⟨m1,m2⟩:=I1 g2;have hq:=aa6 (show j<(Pm.cells el).length by omega);obtain⟨u,q1,q2⟩:=n2 j _ hq;obtain⟨m,hm,q3⟩:=m2 j (by omega);rw[abt,hq]at q3;refine⟨by omega,u,?_,ih m (by omega) q2 q3⟩;rw[cell_of_row w bc.1 _ sb T (0,0) k1,<-acF,<-abX];exact q1
       have:=bZ.aa (w:=w) (A:=A') bc.1 (off * o.bA) cap o.bA false es (λi j=>(w.cell? ⟨bc.1,off * o.bA+(i * o.bA+j),none⟩).getD Go.undef)
        (by intro hn;rw[hn]at hlen;simp at hlen;omega) (by rw[hlen];omega) (λhh=>by cases hh) (hM id o bc e1 hb EY) k4
        (λi hi=>(jB i 0 (by omega) k4).1)
        (λi j hi hj=>by obtain⟨_,u,m1,m2⟩:=jB i j (by omega) hj;rw[m1];rfl)
        (λi j hi hj=>by obtain⟨_,u,m1,m2⟩:=jB i j (by omega) hj;rw[m1];exact m2)
       rw[hlen]at this;exact this
     cases e
    cases e
   ·rename_i cs
    obtain⟨r,hr,rfl⟩:=abS.1 e;obtain⟨l1,l2⟩:=kZ hr;obtain⟨vs,rfl,hl,hh⟩:=hv.sc;exact .agg vs r (by omega) (λj hj=>ih n (by omega) (hh j (by omega)) (l2 j (by omega)))
   ·rename_i cs
    obtain⟨r,hr,rfl⟩:=abS.1 e;obtain⟨l1,l2⟩:=kZ hr;obtain⟨vs,rfl,hl,hh⟩:=hv.vQ;exact .cy vs r (by omega) (λj hj=>ih n (by omega) (hh j (by omega)) (l2 j (by omega)))
   ·split at e
    ·rename_i hp;obtain rfl:=aa2 e;exact vl hp
    ·cases e
theorem Br(H:ba w F Z h){A':Nat->Prop}(hA:∀b,b<w.heap.size->¬Av F h Z b->¬A' b){v:Value}{p p':PV}(hv:aE w (Av F h Z) Z h v p)(e:Bm h p=some p')
  (hM:∀(id:Nat) (o:au) (bc:Nat×Nat),h[id]?=some o->Z[id]?=some bc->(o.mu=.m\/o.mu=.f)->¬A' bc.1):bZ w A' v p':=by
 unfold Bm at e
 split at e
 ·rename_i r hr
  obtain rfl:=aa2 e;exact T7 H hA hv hr hM
 exact Hy H hA hM 8 hv e
theorem ba.empty(w:World)(F:Nat->Prop)(hF:∀b,F b->b<w.heap.size)(hG:fS w F):ba w F [] [] where
 fA:=hG.kL λb hb=>hb.elim id λm=>by obtain⟨id,o,bc,e,_⟩:=m;simp at e
 len:=rfl
 fin:=hF
 obj id o bc e:=by simp at e
 gY id dF o o' bc cK _ e:=by simp at e
 out id o bc e:=by simp at e
theorem mS(b:Nat):¬Mb [] [] b:=by rintro⟨id,o,bc,e,_⟩;simp at e
def kM(P:Program)(lv:Nat)(w:World)(F:Nat->Prop)(Z:List (Nat×Nat))(h:ab)(f:FuncId)(vs:List Value)(r:PV)(h':ab):Prop:=
 Calls P f vs.toArray w λe w'=>∃v Z',e=.returned v/\aE w' (Av F h' Z') Z' h' v r/\ba w' F Z' h'/\dU w h Z w' h' Z'/\(lv<=1->dD w w')
def eE(P:Program)(f:FuncId)(g:List PV->ab->Option (PV×ab)):Prop:=
 ∀args h r h',g args h=some (r,h')->∀w F Z vs,ba w F Z h->L2 (aE w (Av F h Z) Z h) vs args->kM P 2 w F Z h f vs r h'
theorem ba.kU(H:ba w F Z h){id:Nat}{h2:ab}(e:kU h id=some h2):
  ba w F Z h2/\dU w h Z w h2 Z/\(∃o:au,h2[id]?=some o/\o.mu=.f)/\(∀(k:Nat) (o:au),h[k]?=some o->o.mu=.f->h2[k]?=some o):=by
 unfold Pm.kU at e
 split at e
 ·rename_i o ho
  split at e
  ·rename_i hc
   obtain⟨hv,EY⟩:=hc;obtain rfl:=aa2 e;have hid:=ag ho;have mT:(h.set id {o with mu:=.f})[id]?=some {o with mu:=.f}:=by simp[hid]
   have ke:∀k,k≠id->(h.set id {o with mu:=.f})[k]?=h[k]?:=λk hk=>aa8 (abW hk)
   have hx:o.mu≠.x:=by rcases EY with h |h <;>rw[h] <;>simp
   have hs:dU w h Z w (h.set id {o with mu:=.f}) Z:=by
    refine⟨aa5 _,by simp,λ_ _ _=>rfl,?_,?_,?_,rfl,rfl,rfl,λ_=>aa5 _⟩
    ·rintro b hb ⟨k,o',c',e1,e2,e3,rfl⟩
     by_cases hk:k=id
     subst hk;rw[mT]at e1;obtain rfl:=aa2 e1;simp at e3;rw[ke k hk]at e1;exact⟨k,o',c',e1,e2,e3,rfl⟩
    ·intro k o' c' e1 e2 e3
     by_cases hk:k=id
     ·subst hk;rw[ho]at e1;obtain rfl:=aa2 e1;exact⟨_,c',mT,e2,by simp,⟨aa5 _,λh=>h⟩,λ_=>⟨rfl,λ_=>rfl,rfl⟩⟩
     exact⟨o',c',by rw[ke k hk];exact e1,e2,e3,⟨aa5 _,λh=>h⟩,λ_=>⟨rfl,λ_=>rfl,rfl⟩⟩
    ·intro k o' e1 e2
     refine⟨?_,rfl⟩
     by_cases hk:k=id
     ·subst hk;rw[ho]at e1;obtain rfl:=aa2 e1;rw[mT];rcases EY with hm |hm;exact absurd hm e2
      ·congr 1;cases o;simp at hm;subst hm;rfl
     rw[ke k hk];exact e1
   refine⟨⟨by simp[H.len],H.fin,?_,?_,?_,H.fA.Cy hs⟩,hs,⟨_,mT,rfl⟩,?_⟩
   ·intro k o' c' e1 e2 e3
    by_cases hk:k=id
    ·subst hk;rw[mT]at e1;obtain rfl:=aa2 e1;exact jK.mono hs rfl (H.obj k o c' ho e2 hx)
    rw[ke k hk]at e1;exact jK.mono hs rfl (H.obj k o' c' e1 e2 e3)
   ·intro k k' o1 o2 c1 c2 bN e1 e2 e3 e4 m1 m2
    have hk:k≠id:=by rintro rfl;rw[mT]at e1;obtain rfl:=aa2 e1;simp at m1
    rw[ke k hk]at e1
    by_cases gf:k'=id
    subst gf;exact H.gY k k' o1 o c1 c2 bN e1 ho e3 e4 m1 hx;rw[ke k' gf]at e2;exact H.gY k k' o1 o2 c1 c2 bN e1 e2 e3 e4 m1 m2
   ·intro k o' c' e1 e2 e3
    by_cases hk:k=id
    subst hk;exact H.out k o c' ho e2 EY;rw[ke k hk]at e1;exact H.out k o' c' e1 e2 e3
   ·intro k o' e1 e2
    by_cases hk:k=id
    ·subst hk;rw[ho]at e1;obtain rfl:=aa2 e1;rw[mT];congr 1;cases o;simp at e2;subst e2;rfl
    rw[ke k hk];exact e1
  cases e
 cases e
theorem ba.fG:∀(ids:List Nat) {h h2:ab},ba w F Z h->fG h ids=some h2->
  ba w F Z h2/\dU w h Z w h2 Z/\(∀id∈ids,∃o:au,h2[id]?=some o/\o.mu=.f)/\(∀(k:Nat) (o:au),h[k]?=some o->o.mu=.f->h2[k]?=some o)
 |[],h,h2,H,e=>by
  simp[Pm.fG]at e;subst e;exact⟨H,dU.refl w h Z,(λ_ hm=>by cases hm),(λ_ _ h1 _=>h1)⟩
 |id::r,h,h2,H,e=>by
  simp only[Pm.fG]at e
  split at e
  ·rename_i h1 he
   obtain⟨H1,S1,⟨o,o1,o2⟩,K1⟩:=H.kU he;obtain⟨H2,S2,A2,K2⟩:=ba.fG r H1 e;refine⟨H2,S1.trans S2,λk hk=>?_,λk o h3 h4=>K2 k o (K1 k o h3 h4) h4⟩;rcases abc.1 hk with rfl |hk;exact⟨o,K2 _ o o1 o2,o2⟩;exact A2 k hk
  cases e
theorem I2{args:List PV}{j:Nat}(hj:j<args.length){id:Nat}(hm:id∈T5 (args.getD j .any)):id∈jA args:=by
 have:args.getD j .any=args[j]:=by simp[List.getD,hj]
 rw[this]at hm;exact abY.2 ⟨_,abF hj,hm⟩
theorem wN(H:ba w F Z h){id:Nat}{o:au}{bc:Nat×Nat}(e1:h[id]?=some o)(e2:Z[id]?=some bc)(e3:o.mu=.f):¬Av F h Z bc.1:=by
 rintro(hf |⟨k,o',c',f1,f2,f3,f4⟩);exact H.out id o bc e1 e2 (.inr e3) hf
 ·have bN:k≠id:=by
   rintro rfl;rw[e1]at f1;obtain rfl:=aa2 f1;rw[e3]at f3;cases f3
  exact H.gY k id o' o c' bc bN f1 e1 f2 e2 f3 (by rw[e3];simp) f4
theorem mi{w':World}{h':ab}{Z':List (Nat×Nat)}(s:dU w [] [] w' h' Z'):dD w w':=
 ⟨s.size,λb hb=>s.aR b hb (mS b),s.os,s.tape,s.output,s.drawn⟩
theorem mU{f:FuncId}{run:List PV->ab->Option (PV×ab)}(S:eE P f run){A:Nat->Prop}(hA:∀b,A b->b<w.heap.size)(hG:fS w A){args:List PV}{vs:List Value}(ha:L2 (bZ w A) vs args)
  {r r':PV} {hc:ab} (e1:run (aU args) []=some (r,hc)) (e2:Bm hc r=some r'):
  Calls P f vs.toArray w λe w'=>∃v,e=.returned v/\bZ w' A v (bW r')/\dD w w':=by
 have hl:(aU args).length=args.length:=by simp[cJ]
 have T8:∀b,Av A [] [] b↔A b:=λb=>⟨λh=>h.elim id (λh=>absurd h (mS b)),.inl⟩
 have kF:L2 (aE w (Av A [] []) [] []) vs (aU args):=⟨by rw[hl];exact ha.1,λj hj=>by
  rw[fX];exact .val (((ha.2 j (by omega)).bW).kL (λb hb=>(T8 b).1 hb))⟩
 refine(S (aU args) [] r hc e1 w A [] vs (ba.empty w A hA hG) kF).mono ?_;rintro e w' ⟨v,Z',rfl,q1,q2,q3,_⟩;refine⟨v,rfl,?_,mi q3⟩;refine(Br q2 (λb _ hb ha=>hb (.inl ha)) q1 e2 (λid o bc m1 m2 m3=>?_)).bW;rcases m3 with m3 |m3;exact q2.out id o bc m1 m2 (.inl m3);exact q2.out id o bc m1 m2 (.inr m3)
mutual
theorem wO:∀p:PV,eT p=true->eT (bW p)=true
 | .agg cs,h=>by simp only[eT,bW]at h ⊢;exact ri cs h
 | .cy cs,h=>by simp only[eT,bW]at h ⊢;exact ri cs h
 | .int _ _,_=>rfl
 | .bool _,_=>rfl
 | .str _,_=>rfl
 | .eJ,_=>rfl
 | .aI,_=>rfl
 | .gL,_=>rfl
 | .aa _ _,h=>by simp[eT]at h
 | .aj _ _ _ _,h=>by simp[eT]at h
 | .ptr _ _ _ _,h=>by simp[eT]at h
 | .cM _,h=>by simp[eT]at h
 | .eg _,h=>by simp[eT]at h
 | .fn _ _,h=>by simp[eT]at h
 | .nK _ _ _,h=>by simp[eT]at h
 | .undef,h=>by simp[eT]at h
 | .any,h=>by simp[eT]at h
theorem ri:∀cs:List PV,o9 cs=true->o9 (aU cs)=true
 |[],_=>rfl
 |c::r,h=>by
  simp only[o9,aU,abb]at h ⊢;exact⟨wO c h.1,ri r h.2⟩
end
theorem Bs{run:gW}{f:FuncId}(S:eE P f (run f)){lv:Nat}{args:List PV}{r:PV}{h':ab}(e:dV run lv f args h=some (r,h'))(H:ba w F Z h){vs:List Value}
  (ha:L2 (aE w (Av F h Z) Z h) vs args):kM P lv w F Z h f vs r h':=by
 unfold dV at e
 have done:∀{h2:ab} (H2:ba w F Z h2) (S2:dU w h Z w h2 Z) (p:PV),(Calls P f vs.toArray w λe w'=>∃v,e=.returned v/\bZ w' (Av F h2 Z) v p/\dD w w')->kM P lv w F Z h f vs p h2:=by
  intro h2 H2 S2 p hc
  refine hc.mono ?_;rintro e w' ⟨v,rfl,q1,q2⟩;exact⟨v,Z,rfl,.val q1,H2.I3 q2,S2.trans (q2.Cy h2 Z),λ_=>q2⟩
 split at e
 ·rename_i hv
  split at e
  ·rename_i r0 hc h1
   split at e
   ·rename_i r1 h2
    obtain⟨rfl,rfl⟩:=abe (aa2 e);refine done H (dU.refl w h Z) _ (mU (A:=Av F h Z) S (λb hb=>Av.lt H hb) H.fA (args:=args) ⟨ha.1,λj hj=>?_⟩ h1 h2);rw[bj]at hv;exact(ha.2 j hj).EZ (fJ hv hj)
   cases e
  cases e
 ·split at e
  ·rename_i args' hr
   obtain⟨l1,l2⟩:=CR hr
   split at e
   ·rename_i r0 hc h1
    split at e
    ·rename_i r1 h2
     have frozen:∀{h2:ab} (H2:ba w F Z h2) (S2:dU w h Z w h2 Z) (hf:∀id∈jA args,∃o:au,h2[id]?=some o/\o.mu=.f),L2 (bZ w (Av F h2 Z)) vs args':=by
      intro h2 H2 S2 hf
      refine⟨by rw[ha.1,l1],λj hj=>?_⟩;refine vP H (λb hb hn=>Av.mono S2 b hb hn) (ha.2 j (by omega)) (l2 j (by omega)) (λid o bc hm m1 m2 m3=>?_);obtain⟨o2,g1,g2⟩:=hf id (I2 (by omega) hm);exact wN H2 g1 m2 g2
     split at e
     ·rename_i Cz
      obtain⟨rfl,rfl⟩:=abe (aa2 e);simp only[abA]at Cz;rcases Cz with Cz |Cz
      ·refine done H (dU.refl w h Z) _ ?_;have:=mU (P:=P) (w:=w) (A:=λ_=>False) S (λb hb=>hb.elim) (H.fA.kL λb hb=>hb.elim) (args:=args') (vs:=vs) ⟨by rw[ha.1,l1],λj hj=>vP H (λ_ _ _ hh=>hh) (ha.2 j (by omega)) (l2 j (by omega)) (λ_ _ _ _ _ _ _ hh=>hh)⟩ h1 h2;refine this.mono ?_;rintro e w' ⟨v,rfl,q1,q2⟩;have tK:eT (bW r1)=true:=wO r1 Cz;exact⟨v,rfl,q1.eT tK,q2⟩
      ·refine done H (dU.refl w h Z) _ (mU (A:=Av F h Z) S (λb hb=>Av.lt H hb) H.fA (frozen H (dU.refl w h Z) (λid hid=>?_)) h1 h2);have:=aa4.1 Cz id hid
       split at this
       ·rename_i o ho
        simp only[abb,decide_eq_true_eq]at this;exact⟨o,ho,this.1⟩
       cases this
     ·split at e
      ·cases Ws:fG h (jA args)with
       |none=>rw[Ws]at e;simp at e
       |some h3=>
        rw[Ws]at e;simp at e;obtain⟨rfl,rfl⟩:=e;obtain⟨H2,S2,A2,_⟩:=ba.fG (jA args) H Ws;exact done H2 S2 _ (mU (A:=Av F h3 Z) S (λb hb=>Av.lt H2 hb) H2.fA (frozen H2 S2 A2) h1 h2)
      ·cases e
    cases e
   cases e
  ·split at e
   ·rename_i args' hr
    obtain⟨l1,l2⟩:=kZ hr
    split at e
    ·rename_i r0 hc h1
     split at e
     ·rename_i r1 h2
      split at e
      ·rename_i Cz
       obtain⟨rfl,rfl⟩:=abe (aa2 e);refine done H (dU.refl w h Z) _ ?_;have:=mU (P:=P) (w:=w) (A:=λ_=>False) S (λb hb=>hb.elim) (H.fA.kL λb hb=>hb.elim) (args:=args') (vs:=vs) ⟨by rw[ha.1,l1],λj hj=>Hy H (λ_ _ _ hh=>hh) (λ_ _ _ _ _ _ hh=>hh) 8 (ha.2 j (by omega)) (l2 j (by omega))⟩ h1 h2;refine this.mono ?_;rintro e w' ⟨v,rfl,q1,q2⟩;exact⟨v,rfl,q1.eT (wO r1 Cz),q2⟩
      cases e
     cases e
    cases e
   ·cases e
end Go.Pm
namespace Go.Pm
variable{C:cG}(T:kJ C.P)
variable{ops:Array Oper}{d:Nat}{ty:TypeId}{pos:String}{af:Array Edge}{r:List Oper}{Y:Nat->PV}{L:List (Nat×PV)}{h:ab}{Q:St->Prop}
theorem R.jv{t:TypeId}{x ix:Operand}{s:ByteArray}{k:IntKind}{i:Nat}{b:UInt8}(hx:cO L x=some (.str s))(hi:cO L ix=some (.int k (i:Int)))(hk:T.kd t=some .str)(hv:s[i]?=some b)
  (kk:ah C ops r ⟨al ((d,.int .u8 b.toNat)::L) Y,h⟩ Q):ah C ops (⟨some d,.index t x ix,ty,pos,af,none⟩::r) ⟨al L Y,h⟩ Q:=
 ah.eP (λrun=>by simp[ar,aC,an hx,an hi,wo,oC (T.cQ _ _ hk),hv]) kk
theorem R.max{ts:Array TypeId}{x y:Operand}{k:IntKind}{a b:Int}(hx:cO L x=some (.int k a))(hy:cO L y=some (.int k b))(kk:ah C ops r ⟨al ((d,.int k (max a b))::L) Y,h⟩ Q):
  ah C ops (⟨some d,.call ⟨.builtin .max,#[x,y],ts⟩,ty,pos,af,none⟩::r) ⟨al L Y,h⟩ Q:=by
 refine ah.eP (v:=.int k (Max.max a b)) (λrun=>?_) kk;have:(if b>a then b else a)=Max.max a b:=by split <;>omega
 simp[ar,an hx,an hy,br,Lw,this]
theorem R.neg{t:TypeId}{x:Operand}{k:IntKind}{a c:Int}(hx:cO L x=some (.int k a))(hw:k.wrap (0 - a)=c)(kk:ah C ops r ⟨al ((d,.int k c)::L) Y,h⟩ Q):
  ah C ops (⟨some d,.unOp .neg t x,ty,pos,af,none⟩::r) ⟨al L Y,h⟩ Q:=
 ah.eP (λrun=>by simp only[ar,aC,an hx,SH,hw,abf]) kk
theorem R.OO{t yt:TypeId}{x y:Operand}{a b:ByteArray}(hx:cO L x=some (.str a))(hy:cO L y=some (.str b))(hh:a.toList=b.toList)(k1:ah C ops r ⟨al ((d,(.bool true))::L) Y,h⟩ Q):
  ah C ops (⟨some d,.binOp .eql t x y yt,ty,pos,af,none⟩::r) ⟨al L Y,h⟩ Q:=ah.eP (λrun=>by simp[ar,aC,an hx,an hy,fF,l8,hh]) k1
theorem R.OP{t yt:TypeId}{x y:Operand}{a b:ByteArray}(hx:cO L x=some (.str a))(hy:cO L y=some (.str b))(hh:¬a.toList=b.toList)(k1:ah C ops r ⟨al ((d,(.bool false))::L) Y,h⟩ Q):
  ah C ops (⟨some d,.binOp .eql t x y yt,ty,pos,af,none⟩::r) ⟨al L Y,h⟩ Q:=ah.eP (λrun=>by simp[ar,aC,an hx,an hy,fF,l8,hh]) k1
def kQ(L:List (Nat×PV)):List (Nat×Operand)->Option (List (Nat×PV))
 |[]=>some []
 |(i,x)::xs=>match cO L x,kQ L xs with
  |some v,some vs=>some ((i,v)::vs)
  |_,_=>none
theorem iW{L:List (Nat×PV)}{Y:Nat->PV}:∀{xs:List (Nat×Operand)} {vs:List (Nat×PV)},kQ L xs=some vs->xs.map (λ(i,x)=>(i,ev (al L Y) x))=vs
 |[],vs,e=>by simp[kQ]at e;subst e;rfl
 |(i,x)::xs,vs,e=>by
  simp only[kQ]at e
  split at e
  ·rename_i v GS h1 h2
   obtain rfl:=aa2 e;simp only[abk,an h1,iW h2]
  cases e
def qD(ts:Nat->Option Nat)(os:List (Nat×TypeId))(i:Nat):Option (Nat×Nat):=
 match os[i]? with
 |some (off,ty)=>(ts ty).map λs=>(off,s)
 |none=>none
theorem yE{p q:Nat->Option (Nat×Nat)}(hpq:∀i x,p i=some x->q i=some x):∀{parts:List (Nat×PV)} {cs r:List PV},kc p cs parts=some r->kc q cs parts=some r
 |[],cs,r,e=>e
 |(i,v)::parts,cs,r,e=>by
  simp only[kc]at e ⊢
  split at e
  cases e
  ·rename_i off size hp
   rw[hpq _ _ hp];simp only
   split at e
   ·rename_i hc
    rw[if_pos hc];exact yE hpq e
   cases e
theorem uz{t:TypeId}{z:PV}{os:List (Nat×TypeId)}{parts:List (Nat×PV)}{cs:List PV}(hz:T.tz t=some z)(hk:T.kd t=some (.st os))(ha:(os.all λo=>(T.ts o.2).isSome)=true)(h1:(cells z).all bC=true)
  (hf:kc (qD T.ts os) (cells z) parts=some cs):wj C.P t parts=some (.agg cs):=by
 obtain⟨fs,e1,e2⟩:=IA (T.cQ _ _ hk)
 have ek:(fs.toList.all λf=>(cw C.P f.type).isSome)=true:=by
  rw[<-e2,List.all_map]at ha;rw[aa4]at ha ⊢
  intro f hf
  have:=ha f hf;simp only[Function.comp]at this
  cases hh:T.ts f.type with
  |none=>rw[hh]at this;cases this
  |some n=>rw[T.eA _ _ hh];rfl
 have hp:kc (iL C.P fs) (cells z) parts=some cs:=by
  refine yE (λi x hx=>?_) hf;unfold qD at hx;rw[<-e2,abm]at hx;unfold iL;have Yy:fs[i]?=fs.toList[i]?:=by simp
  rw[Yy]
  cases hh:fs.toList[i]? with
  |none=>rw[hh]at hx;cases hx
  |some f=>
   rw[hh]at hx;simp only[abf]at hx ⊢
   cases zT:T.ts f.type with
   |none=>rw[zT]at hx;cases hx
   |some n=>rw[zT]at hx;rw[T.eA _ _ zT];exact hx
 unfold wj;rw[T.mM _ _ hz,e1];simp only[ek,h1,and_self,if_true,hp,abf]
theorem R.build{t:TypeId}{parts:Array (Nat×Operand)}{ps:List (Nat×PV)}{z:PV}{os:List (Nat×TypeId)}{cs:List PV}(hp:kQ L parts.toList=some ps)(hz:T.tz t=some z)(hk:T.kd t=some (.st os))(ha:(os.all λo=>(T.ts o.2).isSome)=true)(h1:(cells z).all bC=true)
  (hf:kc (qD T.ts os) (cells z) ps=some cs) (kk:ah C ops r ⟨al ((d,.agg cs)::L) Y,h⟩ Q):ah C ops (⟨some d,.build t parts,ty,pos,af,none⟩::r) ⟨al L Y,h⟩ Q:=
 ah.eP (λrun=>by simp only[ar,aC,iW hp,uz T hz hk ha h1 hf,abf]) kk
theorem D.build{i L0:Nat}{own:List Nat}{t:TypeId}{parts:Array (Nat×Operand)}{ps:List (Nat×PV)}{z:PV}{os:List (Nat×TypeId)}{cs:List PV}(hp:kQ L parts.toList=some ps)(hz:T.tz t=some z)(hk:T.kd t=some (.st os))(ha:(os.all λo=>(T.ts o.2).isSome)=true)(h1:(cells z).all bC=true)
  (hf:kc (qD T.ts os) (cells z) ps=some cs) (kk:aZ C ops (i+1) r ⟨⟨al ((d,.agg cs)::L) Y,h⟩,L0,own⟩ Q):aZ C ops i (⟨some d,.build t parts,ty,pos,af,none⟩::r) ⟨⟨al L Y,h⟩,L0,own⟩ Q:=
 aZ.plain (h':=h) rfl (λrun=>by simp only[ar,aC,iW hp,uz T hz hk ha h1 hf,abf]) kk
theorem D.yF{i L0:Nat}{own:List Nat}{s:TypeId}{x:Operand}{f off:Nat}{ft:TypeId}{os:List (Nat×TypeId)}{sz:Nat}{cs jx:List PV}{c:PV}(hx:cO L x=some (.eg cs))(hk:T.kd s=some (.st os))(hf:os[f]?=some (off,ft))(hs:T.ts ft=some (sz+1))
  (hc:cs.drop off=c::jx) (k:aZ C ops (i+1) r ⟨⟨al ((d,.eg (c::jx))::L) Y,h⟩,L0,own⟩ Q):aZ C ops i (⟨some d,.fieldAddr s x f,ty,pos,af,none⟩::r) ⟨⟨al L Y,h⟩,L0,own⟩ Q:=by
 have hl:off<cs.length:=by
  rcases abJ off cs.length with h |h;exact h;rw[abG h]at hc;cases hc
 exact aZ.plain (h':=h) rfl (λrun=>by simp[ar,aC,an hx,gu,mz T hk hf hs,hl,hc]) k
def yG(sz n:Nat)(p:Nat×PV):Bool:=decide ((cells p.2).length=sz)&& (cells p.2).all bC&&decide (p.1<n)
theorem qb{lv:Nat}{t el:TypeId}{n sz:Nat}{z:PV}{ps:List (Nat×PV)}{es:List PV}(hk:T.kd t=some (.sl el))(hs:T.ts el=some (sz+1))(hz:T.tz el=some z)(hn:n * (sz+1)<=16777216)(hl:(cells z).length=sz+1)(h1:(cells z).all bC=true)
  (hp:ps.all (yG (sz+1) n)=true) (he:zh z n ps=es) (hv:ao es=true):dE C.P lv h t n ps=some (.aa true es,h):=by
 unfold dE;rw[bp (T.cQ _ _ hk)];simp only[T.eA _ _ hs,T.mM _ _ hz];have hp':(ps.all λp=>decide ((cells p.2).length=sz+1)&& (cells p.2).all bC&&decide (p.1<n))=true:=hp;rw[if_pos ⟨by omega,hn,hl,h1,hp'⟩,he,if_pos hv]
theorem R.buildSlice{t el:TypeId}{n sz:Nat}{z:PV}{parts:Array (Nat×Operand)}{ps:List (Nat×PV)}{es:List PV}(VY:kQ L parts.toList=some ps)(hk:T.kd t=some (.sl el))(hs:T.ts el=some (sz+1))(hz:T.tz el=some z)(hn:n * (sz+1)<=16777216)(hl:(cells z).length=sz+1)(h1:(cells z).all bC=true)
  (hp:ps.all (yG (sz+1) n)=true) (he:zh z n ps=es) (hv:ao es=true) (kk:ah C ops r ⟨al ((d,.aa true es)::L) Y,h⟩ Q):
  ah C ops (⟨some d,.buildSlice t n parts,ty,pos,af,none⟩::r) ⟨al L Y,h⟩ Q:=
 ah.eP (λrun=>by simp only[ar,aC,iW VY,qb T hk hs hz hn hl h1 hp he hv]) kk
theorem D.buildSlice{i:Nat}{t el:TypeId}{n sz:Nat}{z:PV}{parts:Array (Nat×Operand)}{ps:List (Nat×PV)}{es:List PV}(dG:aY h=true)(VY:kQ L parts.toList=some ps)(iG:(ps.all λp=>bw (aO h) p.2)=true)(hk:T.kd t=some (.sl el))(hs:T.ts el=some (sz+1))(hz:T.tz el=some z)(hn:n * (sz+1)<=16777216)(hl:(cells z).length=sz+1)(h1:(cells z).all bC=true)
  (hp:ps.all (yG (sz+1) n)=true) (he:zh z n ps=es) (hv:ao es=true) (kk:aZ C ops (i+1) r ⟨⟨al ((d,.aa true es)::L) Y,h⟩,h.length,[]⟩ Q):
  aZ C ops i (⟨some d,.buildSlice t n parts,ty,pos,af,none⟩::r) ⟨⟨al L Y,h⟩,h.length,[]⟩ Q:=by
 refine aZ.read rfl dG ?_ ⟨0,λn lv _ _=>by simp only[ar,aC,iW VY,qb T hk hs hz hn hl h1 hp he hv]⟩ kk;rw[aa4]
 intro y hy
 have hm:y∈parts.toList.map (·.2):=by simpa[Op.operands]using hy
 obtain⟨x,hx,rfl⟩:=abB.1 hm;have:=iW (Y:=Y) VY;rw[<-this,List.all_map,aa4]at iG;exact iG x hx
theorem im{n b:Nat}(h1:n<1000000000)(h2:b<=1000):roomy n b=true:=by
 have:n * b<=1000000000 * 1000:=adl (by omega) h2;simp[roomy];omega
def dj(sz:Nat)(ys:List PV):Prop:=ys.all (λv=>decide ((cells v).length=sz)&& (cells v).all bC)=true
theorem gE{lv:Nat}{st xt el oQ:TypeId}{sz fY:Nat}{z:PV}{full:Bool}{ys:List PV}(h1:1<=lv)(hk:T.kd st=some (.sl el))(gf:T.kd xt=some (.sl oQ))(hs:T.ts el=some (sz+1))(hb:T.tb el=some fY)(hz:T.tz el=some z)(jb:fY<=1000)(hl:(cells z).length=sz+1)(ho:(cells z).all bC=true)
  (hy:dj (sz+1) ys) (bN:ys.isEmpty=false) (hn:ys.length<1000000000):bJ C.P lv h st xt (.aa true []) (.aa full ys)=some (.aj h.length 0 0 ys.length,h++[⟨.m,0,sz+1,ys⟩]):=by
 unfold bJ;rw[bp (T.cQ _ _ hk)];simp only[T.eA _ _ hs,T.rS _ _ hb,T.mM _ _ hz,cA,bp (T.cQ _ _ gf),cf];unfold dj at hy;rw[if_pos ⟨by omega,by omega,⟨hl,ho⟩,hy⟩];simp only[bN,abi,if_false,abH,abp,acH,abK,newObj];rw[if_pos ⟨trivial,h1,im hn jb,trivial⟩]
theorem lc{st xt el oQ:TypeId}{sz fY id ep len:Nat}{z:PV}{full:Bool}{ys:List PV}{o:au}(hk:T.kd st=some (.sl el))(gf:T.kd xt=some (.sl oQ))(hs:T.ts el=some (sz+1))(hb:T.tb el=some fY)(hz:T.tz el=some z)(jb:fY<=1000)(hl:(cells z).length=sz+1)(ho:(cells z).all bC=true)
  (hy:dj (sz+1) ys) (bN:ys.isEmpty=false) (hn:len+ys.length<1000000000) (hg:getM h id ep=some o) (hm:o.mu=.m) (I7:o.bA=sz+1) (hle:len<=o.es.length):
  bJ C.P 2 h st xt (.aj id ep 0 len) (.aa full ys)=some (.aj id (ep+1) 0 (len+ys.length),h.set id {o with ep:=ep+1,es:=o.es.take len++ys}):=by
 unfold bJ;rw[bp (T.cQ _ _ hk)];simp only[T.eA _ _ hs,T.rS _ _ hb,T.mM _ _ hz,cA,bp (T.cQ _ _ gf),cf];unfold dj at hy;rw[if_pos ⟨by omega,by omega,⟨hl,ho⟩,hy⟩];simp only[hg];rw[if_pos ⟨by omega,I7.symm⟩];simp only[bN,abi,if_false];rw[if_neg (by simp[j3]),if_pos ⟨trivial,by omega,hm,im hn jb⟩]
def Out(sz:Nat)(h:ab)(v:PV)(es:List PV):Prop:=(v=.aa true []/\es=[])\/∃id ep,v=.aj id ep 0 es.length/\h[id]?=some ⟨.m,ep,sz,es⟩
theorem Out.nil(sz:Nat)(h:ab):Out sz h (.aa true []) []:=.inl ⟨rfl,rfl⟩
theorem Out.c8{sz:Nat}{h:ab}{v:PV}{es:List PV}(o:Out sz h v es)(J:ab):Out sz (h++J) v es:=by
 rcases o with o |⟨id,ep,e1,e2⟩;exact .inl o
 ·refine .inr ⟨id,ep,e1,?_⟩
  have:id<h.length:=by
   rcases abJ id h.length with hh |hh;exact hh;rw[abl hh]at e2;cases e2
  rw[aa3 this];exact e2
def Ze(sz:Nat)(A J:ab)(v:PV)(es:List PV):Prop:=(v=.aa true []/\es=[])\/∃id ep,v=.aj (A.length+id) ep 0 es.length/\J[id]?=some ⟨.m,ep,sz,es⟩
def HV(h:ab):Prop:=∀o∈h,o.mu≠.x/\ao o.es=true
mutual
theorem sy(f:Nat->Bool):∀p,aV p=true->bw f p=true
 | .int ..,_ | .bool _,_ | .str _,_ | .eJ,_ | .aI,_ | .gL,_ | .aa ..,_ | .eg _,_=>rfl
 | .agg cs,h=>by simp only[bw];exact bt f cs (by simpa[aV]using h)
 | .cy cs,h=>by simp only[bw];exact bt f cs (by simpa[aV]using h)
 | .fn _ cs,h=>by simp only[bw];exact bt f cs (by simpa[aV]using h)
 | .nK _ _ cs,h=>by simp only[bw];exact bt f cs (by simpa[aV]using h)
 | .aj ..,h | .ptr ..,h | .undef,h | .any,h=>by simp[aV]at h
theorem bt(f:Nat->Bool):∀cs,ao cs=true->bL f cs=true
 |[],_=>rfl
 |c::r,h=>by
  simp only[ao,abb]at h;simp only[bL,sy f c h.1,bt f r h.2,adp]
end
theorem HV.closed{h:ab}(H:HV h):aY h=true:=by
 unfold aY;rw[aa4]
 intro o ho
 rw[bt _ _ (H o ho).2];simp
theorem HV.PA{h:ab}(H:HV h){id:Nat}(hid:id<h.length):aO h id=true:=by
 unfold aO;rw[aa6 hid];simpa using(H _ (abF hid)).1
theorem HV.nil:HV []:=λo ho=>by cases ho
theorem HV.c8{h k:ab}(H:HV h)(K:HV k):HV (h++k):=λo ho=>(aa9.1 ho).elim (H o) (K o)
theorem HV.one{ep n:Nat}{es:List PV}(h:ao es=true):HV [⟨.m,ep,n,es⟩]:=λo ho=>by simp at ho;subst ho;exact⟨by simp,h⟩
theorem HV.set{h:ab}(H:HV h)(id:Nat){o:au}(h1:o.mu≠.x)(h2:ao o.es=true):HV (h.set id o):=λo' PW=>by
 rcases acx PW with PW|rfl;exact H o' PW;exact⟨h1,h2⟩
theorem bm{h:ab}{id ep:Nat}{o:au}(e:h[id]?=some o)(h1:o.ep=ep)(h2:o.mu≠.x):getM h id ep=some o:=by simp[getM,e,h1,h2]
theorem OQ{h:ab}{b n off:Nat}{e:PV}(hb:h[b]?=some ⟨.m,0,n,[e]⟩):cR h (.ptr b 0 0 off)=some ((cells e).drop off):=by simp[cR,getM,hb]
theorem R.rn{t:TypeId}{x:Operand}{c e:PV}{cs:List PV}{sz b n off:Nat}(hx:cO L x=some (.ptr b 0 0 off))(hs:T.ts t=some sz)(ht:T.ta t=some false)(hb:h[b]?=some ⟨.m,0,n,[e]⟩)(hc:(cells e).drop off=c::cs)(k:ah C ops r ⟨al ((d,c)::L) Y,h⟩ Q):
  ah C ops (⟨some d,.load t x,ty,pos,af,none⟩::r) ⟨al L Y,h⟩ Q:=R.gB T hx hs ht ((OQ hb).trans (by rw[hc])) k
theorem R.Cp{t:TypeId}{x:Operand}{e:PV}{jx:List PV}{sz b n off:Nat}(hx:cO L x=some (.ptr b 0 0 off))(hs:T.ts t=some (sz+1))(ht:T.ta t=some true)(hb:h[b]?=some ⟨.m,0,n,[e]⟩)(hc:qa (sz+1) ((cells e).drop off) jx)(k:ah C ops r ⟨al ((d,.agg jx)::L) Y,h⟩ Q):
  ah C ops (⟨some d,.load t x,ty,pos,af,none⟩::r) ⟨al L Y,h⟩ Q:=R.oG T hx hs ht (OQ hb) hc k
theorem R.jj{t:TypeId}{a x:Operand}{b n off ep i sz:Nat}{o:au}{e v:PV}(ha:cO L a=some (.ptr b ep i off))(hx:cO L x=some v)(hs:T.ts t=some sz)(hg:getM h b ep=some o)(hm:o.mu=.m)(hi:o.es[i]?=some e)(hl:(cells v).length=sz)(h1:(cells v).all bC=true)(hle:off+sz<=(cells e).length)
  (k:ah C ops r ⟨al L Y,h.set b {o with es:=o.es.set i (eZ off sz e v)}⟩ Q):ah C ops (⟨none,.store t a x,ty,pos,af,none⟩::r) ⟨al L Y,h⟩ Q:=by
 have k':ah C ops r ⟨bY (al L Y) none .undef,h.set b {o with es:=o.es.set i (eZ off sz e v)}⟩ Q:=k;refine ah.val (v:=.undef) (h':=h.set b {o with es:=o.es.set i (eZ off sz e v)}) rfl (λrun=>?_) k';simp only[ar,aC,an ha,an hx,gV,T.eA _ _ hs,hg,hi,aa5,if_true];rw[if_pos ⟨hm,hl,h1,hle⟩]
 rfl
theorem AZ(n:Nat){p:PV}(h:aV p=true):eK n p=true:=by
 unfold eK
 split <;>first |(simp[aV]at h;done)|exact h
theorem GZ(n:Nat){p:PV}(h:aV p=true):cS n p=true:=by
 unfold cS
 split
 ·rename_i cs
  rw[aa4]
  intro c hc
  have:ao cs=true:=by simpa[aV]using h
  rw[bj]at this;exact AZ n (aa4.1 this c hc)
 exact AZ n h
theorem HV.cS{h:ab}(H:HV h)(n:Nat):(h.all λo=>o.es.all (cS n))=true:=by
 rw[aa4]
 intro o ho
 have:=(H o ho).2;rw[bj]at this;rw[aa4]
 intro e he
 exact GZ n (aa4.1 this e he)
mutual
theorem li:∀p:PV,eT (bW p)=eT p
 | .int .. | .bool _ | .str _ | .eJ | .aI | .gL | .cM _ | .aa .. | .eg _ | .fn .. | .nK .. | .aj .. | .ptr .. | .undef | .any=>rfl
 | .agg cs=>by simp only[bW,eT];exact qc cs
 | .cy cs=>by simp only[bW,eT];exact qc cs
theorem qc:∀cs:List PV,o9 (aU cs)=o9 cs
 |[]=>rfl
 |c::r=>by simp only[aU,o9,li c,qc r]
end
theorem ai.Zf{lv:Nat}{f:FuncId}{args args':List PV}{rv:PV}{Q:PV->ab->Prop}(hm:C.mode f=.pure)(hv:ao args=false)(hr:ie h args=some args')(a:aL C f (aU args') rv)(hs:eT rv=true)(q:Q rv h):ai C lv f args h Q:=by
 obtain⟨n0,hn⟩:=a;refine⟨rv,h,q,n0,λn h1=>?_⟩;obtain⟨r0,hc,r1,e1,e2,e3⟩:=hn n h1;unfold di;rw[hm]
 have Cz:eT r1=true:=by
  have:=li r1;rw[e3]at this;rw[<-this];exact hs
 simp only[dV,hv,abi,if_false,hr,e1,e2,e3,Cz,ade,if_true]
theorem R.IH{t:TypeId}{x:Operand}{e c:PV}{cs:List PV}{n sz off:Nat}(hx:cO L x=some (.ptr h.length 0 0 off))(hs:T.ts t=some sz)(ht:T.ta t=some false)(hc:(cells e).drop off=c::cs)
  (k:ah C ops r ⟨al ((d,c)::L) Y,h++[⟨.m,0,n,[e]⟩]⟩ Q):ah C ops (⟨some d,.load t x,ty,pos,af,none⟩::r) ⟨al L Y,h++[⟨.m,0,n,[e]⟩]⟩ Q:=
 R.gB T hx hs ht (aax.trans (by rw[hc])) k
theorem D.wv{i:Nat}{x:vO}{op:Op}{j d':Nat}{want b:Bool}(hd:(ops.toList[j]?).bind (·.dst)=some d')(hx:x.s.Y=al L Y)(hb:lk L d'=some (.bool b))(he:(b==want)=true)(k:aZ C ops i (⟨some d,op,ty,pos,af,none⟩::r) x Q):
  aZ C ops i (⟨some d,op,ty,pos,af,some (j,want)⟩::r) x Q:=by
 obtain⟨y,q,n0,hn⟩:=k;refine⟨y,q,n0,λn h1=>?_⟩;rw[<-hn n h1];simp only[dJ,ct,bu,hd,hx,dn hb,he]
theorem aZ.off{i L0:Nat}{own:List Nat}{op:Op}{g:Option (Nat×Bool)}(hw:bu ops ⟨some d,op,ty,pos,af,g⟩ (al L Y)=some false)(k:aZ C ops (i+1) r ⟨⟨al ((d,.undef)::L) Y,h⟩,L0,own⟩ Q):
  aZ C ops i (⟨some d,op,ty,pos,af,g⟩::r) ⟨⟨al L Y,h⟩,L0,own⟩ Q:=by
 refine aZ.step ⟨0,λn _=>?_⟩ k;simp only[ct,hw,b8]
theorem D.nU{i L0:Nat}{own:List Nat}{op:Op}{j d':Nat}{want b:Bool}(hd:(ops.toList[j]?).bind (·.dst)=some d')(hb:lk L d'=some (.bool b))(he:(b==want)=false)(k:aZ C ops (i+1) r ⟨⟨al ((d,.undef)::L) Y,h⟩,L0,own⟩ Q):
  aZ C ops i (⟨some d,op,ty,pos,af,some (j,want)⟩::r) ⟨⟨al L Y,h⟩,L0,own⟩ Q:=aZ.off (by simp only[bu,hd,dn hb,he]) k
theorem D.iO{i L0:Nat}{own:List Nat}{c x y:Operand}{v:PV}(hc:cO L c=some (.bool true))(hx:cO L x=some v)(k:aZ C ops (i+1) r ⟨⟨al ((d,v)::L) Y,h⟩,L0,own⟩ Q):aZ C ops i (⟨some d,.pick c x y,ty,pos,af,none⟩::r) ⟨⟨al L Y,h⟩,L0,own⟩ Q:=
 aZ.plain (h':=h) rfl (λrun=>by simp only[ar,aC,an hc,an hx,if_true]) k
theorem D.iM{i L0:Nat}{own:List Nat}{c x y:Operand}{v:PV}(hc:cO L c=some (.bool false))(hx:cO L y=some v)(k:aZ C ops (i+1) r ⟨⟨al ((d,v)::L) Y,h⟩,L0,own⟩ Q):aZ C ops i (⟨some d,.pick c x y,ty,pos,af,none⟩::r) ⟨⟨al L Y,h⟩,L0,own⟩ Q:=
 aZ.plain (h':=h) rfl (λrun=>by simp only[ar,aC,an hc,an hx,abi,if_false]) k
theorem D.arith{i L0:Nat}{own:List Nat}{uR:BinOp}{t yt:TypeId}{x y:Operand}{k:IntKind}{a b c c':Int}(hx:cO L x=some (.int k a))(hy:cO L y=some (.int k b))(hp:Pm.arith uR a b=some c)(hw:k.wrap c=c')(kk:aZ C ops (i+1) r ⟨⟨al ((d,(.int k c'))::L) Y,h⟩,L0,own⟩ Q):
  aZ C ops i (⟨some d,.binOp uR t x y yt,ty,pos,af,none⟩::r) ⟨⟨al L Y,h⟩,L0,own⟩ Q:=by
 refine aZ.plain (h':=h) rfl (λrun=>?_) kk;simp only[ar,aC,an hx,an hy]
 cases uR <;>simp only[Pm.arith,abw,reduceCtorEq]at hp <;>subst hp <;>simp[fF,gT,hw]
theorem D.cmp{i L0:Nat}{own:List Nat}{uR:BinOp}{t yt:TypeId}{x y:Operand}{k:IntKind}{a b:Int}{p:Prop}(hx:cO L x=some (.int k a))(hy:cO L y=some (.int k b))(hp:F2 uR a b=some p)
  (k1:p->aZ C ops (i+1) r ⟨⟨al ((d,(.bool true))::L) Y,h⟩,L0,own⟩ Q) (k2:¬p->aZ C ops (i+1) r ⟨⟨al ((d,(.bool false))::L) Y,h⟩,L0,own⟩ Q):aZ C ops i (⟨some d,.binOp uR t x y yt,ty,pos,af,none⟩::r) ⟨⟨al L Y,h⟩,L0,own⟩ Q:=by
 by_cases MP:p
 ·refine aZ.plain (h':=h) rfl (λrun=>?_) (k1 MP);simp only[ar,aC,an hx,an hy]
  cases uR <;>simp only[F2,abw,reduceCtorEq]at hp <;>subst hp <;>simp[fF,gT,MP]
 ·refine aZ.plain (h':=h) rfl (λrun=>?_) (k2 MP);simp only[ar,aC,an hx,an hy]
  cases uR <;>simp only[F2,abw,reduceCtorEq]at hp <;>subst hp <;>simp[fF,gT,MP] <;>omega
theorem Ze.rb{sz:Nat}{A J:ab}{v:PV}{es:List PV}(o:Ze sz A J v es)(hv:ao es=true):∃r1,rb (A++J) v=some r1/\bW r1=.aa false (aU es):=by
 rcases o with⟨rfl,rfl⟩|⟨id,ep,rfl,e2⟩;exact⟨_,rfl,rfl⟩
 ·refine⟨.aa false es,?_,by simp[bW]⟩;have:(A++J)[A.length+id]?=some ⟨.m,ep,sz,es⟩:=by rw[abd (by omega),show A.length+id - A.length=id by omega];exact e2
  simp[Pm.rb,kY,oE,getM,this,hv]
end Go.Pm
namespace Go.Pm
variable{C:cG}(T:kJ C.P)
variable{ops:Array Oper}{d:Nat}{ty:TypeId}{pos:String}{af:Array Edge}{r:List Oper}{Y:Nat->PV}{L:List (Nat×PV)}{h h':ab}{Q:St->Prop}
theorem ah.heap{Y:Nat->PV}(e:h=h')(k:ah C ops r ⟨Y,h'⟩ Q):ah C ops r ⟨Y,h⟩ Q:=by subst e;exact k
theorem aZ.heap{i:Nat}{Y:Nat->PV}(e:h=h')(k:aZ C ops i r ⟨⟨Y,h'⟩,h'.length,[]⟩ Q):aZ C ops i r ⟨⟨Y,h⟩,h.length,[]⟩ Q:=by subst e;exact k
theorem ax.heap{f:FuncId}{args args':List PV}{Q:PV->ab->Prop}(e:h=h')(ea:args=args')(k:ax C f args' h' Q):ax C f args h Q:=by subst e;subst ea;exact k
theorem HV.take{h:ab}(H:HV h)(n:Nat):HV (h.take n):=λo ho=>H o (abP ho)
theorem ai.sg{f:FuncId}{args args':List PV}{N:Nat}{P Q:PV->ab->Prop}(hm:C.mode f=.opened)(eh:h=h')(ea:args=args')(hN:h'.length=N)(a:ax C f args' h' P)
  (q:∀r k,P r k->HV k/\(eL N r=true->Q r (k.take N))/\(eL N r=false->Q r k)):ai C 2 f args h Q:=by
 subst eh;subst ea;subst hN;refine ai.opened hm (a.mono ?_)
 intro r k hp
 obtain⟨h1,h2,h3⟩:=q r k hp
 cases hb:eL h.length r
 rw[if_neg (by simp)];exact h3 hb;rw[if_pos (by rw[(h1.take h.length).cS];rfl)];exact h2 hb
end Go.Pm
namespace Go.Pm
variable{C:cG}(T:kJ C.P)
variable{ops:Array Oper}{d:Nat}{ty:TypeId}{pos:String}{af:Array Edge}{r:List Oper}{Y:Nat->PV}{L:List (Nat×PV)}{h:ab}{Q:St->Prop}
theorem ai.cD{f:FuncId}{g:List PV->ab->Option (PV×ab)}{args:List PV}{h':ab}{rv:PV}{Q:PV->ab->Prop}(hm:C.mode f=.cD g)(a:g args h=some (rv,h'))(q:Q rv h'):ai C 2 f args h Q:=by
 refine⟨rv,h',q,0,λn h1=>?_⟩;unfold di;rw[hm];simp only[dI,aa5,if_true,a]
def loadT(h:ab)(t:TypeId)(p:PV):Option PV:=
 match T.ts t,T.ta t,cR h p with
 |some (sz+1),some true,some cs=>if Nat.ble (sz+1) cs.length then some (.agg (cs.take (sz+1)))else none
 |some _,some false,some (c::_)=>some c
 |_,_,_=>none
theorem si{t:TypeId}{p v:PV}(e:loadT T h t p=some v):iK C.P h t p=some v:=by
 unfold loadT at e;unfold iK
 split at e
 ·rename_i sz cs h1 h2 h3
  rw[T.eA _ _ h1,T.OJ _ _ h2,h3]
  split at e
  ·rename_i hle
   simp only;rw[if_pos ⟨by omega,aca hle⟩];exact e
  cases e
 ·rename_i h1 h2 h3
  rw[T.eA _ _ h1,T.OJ _ _ h2,h3];exact e
 cases e
def yH(L:List (Nat×PV))(h:ab):List ResultVar->Option (List PV)
 |[]=>some []
 | .tmp t::r=>match lk L t,yH L h r with
  |some v,some vs=>some (v::vs)
  |_,_=>none
 | .cell a t::r=>match lk L a with
  |some p=>match loadT T h t p,yH L h r with
   |some v,some vs=>some (v::vs)
   |_,_=>none
  |none=>none
theorem wb{Y:Nat->PV}:∀{l:List ResultVar} {vs:List PV},yH T L h l=some vs->dz C.P h (al L Y) l=some vs
 |[],vs,e=>by simp[yH]at e;subst e;rfl
 | .tmp t::r,vs,e=>by
  simp only[yH]at e
  split at e
  ·rename_i v GS h1 h2
   obtain rfl:=aa2 e;simp[dz,dn h1,wb h2]
  cases e
 | .cell a t::r,vs,e=>by
  simp only[yH]at e
  split at e
  ·rename_i p hp
   split at e
   ·rename_i v GS h1 h2
    obtain rfl:=aa2 e;simp[dz,dn hp,si T h1,wb h2]
   cases e
  cases e
theorem aG.aay{fn:Func}{Q:PV->ab->Prop}{vs:List PV}(hr:yH T L h fn.results.toList=some vs)(q:Q (aT vs) h):aG C fn Q .ret ⟨al L Y,h⟩:=⟨.inr rfl,vs,wb T hr,q⟩
theorem Fu{A J:ab}(h1:(A.all λo=>decide (o.mu=.x)||bL (aO (A++J)) o.es)=true)(hJ:HV J):aY (A++J)=true:=by
 unfold aY;rw[ab5,h1,aco,aa4]
 intro o ho
 rw[bt _ _ (hJ o ho).2];simp
theorem D.rm{i:Nat}{t el:TypeId}{x ix:Operand}{id ep off len:Nat}{k:IntKind}{j:Nat}{o:au}(dG:aY h=true)(hx:cO L x=some (.aj id ep off len))(hi:cO L ix=some (.int k (j:Int)))(hk:T.kd t=some (.sl el))(ho:getM h id ep=some o)(hs:T.ts el=some o.bA)(cL:j<len)(hle:off+len<=o.es.length)
  (kk:aZ C ops (i+1) r ⟨⟨al ((d,.ptr id ep (off+j) 0)::L) Y,h⟩,h.length,[]⟩ Q):aZ C ops i (⟨some d,.indexAddr t x ix,ty,pos,af,none⟩::r) ⟨⟨al L Y,h⟩,h.length,[]⟩ Q:=by
 have iG:aO h id=true:=by
  unfold getM at ho
  split at ho
  ·rename_i o' PW
   split at ho
   ·rename_i hc
    unfold aO;rw[PW];simpa using hc.2
   cases ho
  cases ho
 exact aZ.read rfl dG (by simp[Op.operands,an hx,an hi,bw,iG]) ⟨0,λn lv _ _=>by simp[ar,aC,an hx,an hi,cF,bp (T.cQ _ _ hk),T.eA _ _ hs,ho,cL,hle]⟩ kk
theorem D.jj{i L0:Nat}{own:List Nat}{t:TypeId}{a x:Operand}{b off ep j sz:Nat}{o:au}{e v:PV}(dO:level ops (before ops) i=2)(ha:cO L a=some (.ptr b ep j off))(hx:cO L x=some v)(hs:T.ts t=some sz)(hg:getM h b ep=some o)(hm:o.mu=.m)(hi:o.es[j]?=some e)(hl:(cells v).length=sz)(h1:(cells v).all bC=true)(hle:off+sz<=(cells e).length)
  (k:aZ C ops (i+1) r ⟨⟨al L Y,h.set b {o with es:=o.es.set j (eZ off sz e v)}⟩,(h.set b {o with es:=o.es.set j (eZ off sz e v)}).length,[]⟩ Q):aZ C ops i (⟨none,.store t a x,ty,pos,af,none⟩::r) ⟨⟨al L Y,h⟩,L0,own⟩ Q:=by
 refine aZ.step ⟨0,λn _=>?_⟩ k;simp only[ct,bu,c9,abL,if_false,dO,if_true,ar,aC,an ha,an hx,gV,T.eA _ _ hs,hg,hi,aa5,hm,hl,h1,hle,and_self,abf,bY]
theorem D.Co{i:Nat}{t:TypeId}{x:Operand}{e:PV}{jx:List PV}{n sz:Nat}(dG:aY (h++[⟨.m,0,n,[e]⟩])=true)(hx:cO L x=some (.ptr h.length 0 0 0))(hs:T.ts t=some (sz+1))(ht:T.ta t=some true)(hc:qa (sz+1) (cells e) jx)
  (k:aZ C ops (i+1) r ⟨⟨al ((d,(.agg jx))::L) Y,h++[⟨.m,0,n,[e]⟩]⟩,(h++[⟨.m,0,n,[e]⟩]:ab).length,[]⟩ Q):aZ C ops i (⟨some d,.load t x,ty,pos,af,none⟩::r) ⟨⟨al L Y,h++[⟨.m,0,n,[e]⟩]⟩,(h++[⟨.m,0,n,[e]⟩]:ab).length,[]⟩ Q:=
 D.oG T dG hx (by simp[bw,aO]) hs ht pcN hc k
end Go.Pm
namespace Go.Pm
open Go.Proofs
def kK(sz:Nat)(e:PV):Bool:=aV e&&decide ((cells e).length=sz)&& (cells e).all bC
def jG(args:List PV)(h:ab):Option (PV×ab):=
 match args with
 |[.aa true [],.int .i64 i,.aa _ [e]]=>if i=0/\kK 5 e=true then some (.aj h.length 0 0 1,newObj h 5 [e])else none
 |[.aj id ep 0 len,.int .i64 i,.aa _ [e]]=>match getM h id ep with
  |some o=>if o.mu=.m/\o.bA=5/\len<=o.es.length/\0<=i/\i<=len/\len<100000000/\kK 5 e=true/\(o.es.take len).all (kK 5)=true/\aY h=true then
    some (.aj id (ep+1) 0 (len+1),h.set id {o with ep:=ep+1,es:=(o.es.take len).take i.toNat++[e]++(o.es.take len).drop i.toNat})else none
  |none=>none
 |_=>none
def iN(args:List PV)(h:ab):Option (PV×ab):=
 match args with
 |[.aa true [],.int .i64 i,.aa _ [e]]=>if i=0/\kK 4 e=true then some (.aj h.length 0 0 1,newObj h 4 [e])else none
 |[.aj id ep 0 len,.int .i64 i,.aa _ [e]]=>match getM h id ep with
  |some o=>if o.mu=.m/\o.bA=4/\len<=o.es.length/\0<=i/\i<=len/\len<100000000/\kK 4 e=true/\(o.es.take len).all (kK 4)=true/\aY h=true then
    some (.aj id (ep+1) 0 (len+1),h.set id {o with ep:=ep+1,es:=(o.es.take len).take i.toNat++[e]++(o.es.take len).drop i.toNat})else none
  |none=>none
 |_=>none
def ly(args:List PV)(h:ab):Option (PV×ab):=
 match args with
 |[.aj id ep 0 len,.int .i64 i,.int .i64 j]=>match getM h id ep with
  |some o=>if o.mu=.m/\o.bA=5/\len<=o.es.length/\0<=i/\j=i+1/\i<len/\len<100000000/\(o.es.take len).all (kK 5)=true/\aY h=true then
    some (.aj id (ep+1) 0 (len - 1),h.set id {o with ep:=ep+1,es:=(o.es.take len).take i.toNat++(o.es.take len).drop (i.toNat+1)})else none
  |none=>none
 |_=>none
def bB(bA:Nat)(args:List PV)(h:ab):Option (PV×ab):=
 match args with
 |[.aa _ es]=>if es.isEmpty then some (.aa true [],h)
   else if es.all (λv=>decide ((cells v).length=bA)&& (cells v).all bC)=true/\es.length<1000000000 then some (.aj h.length 0 0 es.length,newObj h bA es)else none
 |_=>none
def jH(f:FuncId):Mode:=
 if[0,1,82,146,19,80,28,347,305,183,240,281,379,161,215,216,370,15,16].contains f then .no
 else if f=194 then .ext λ|[.str a,.str b]=>some (.int .i64 (Lib.compareBytes a.data.toList b.data.toList))|_=>none
 else if f=351 then .cD jG
 else if f=352 then .cD ly
 else if f=45 then .cD (bB 4)
 else if f=397 then .cD (bB 1)
 else if[65,226,229,152,310,250,311,398,372,387,388,403,402,390,391,378,399,400,207,258,162,45,397,158,203,128,154,129,130,200,87,89,143,86,142,72,104,37,92,271,320,272,270,278,371,322,323,324,368,366,367,326,325,369,381,49,51,50,100,360,361,382,359].contains f then .opened
 else if f<410 then .pure
 else .no
noncomputable def C:cG:=⟨Tryz.prog,jH⟩
end Go.Pm
namespace Go.Pm
variable{C:cG}(T:kJ C.P)
variable{ops:Array Oper}{i:Nat}{d:Nat}{ty:TypeId}{pos:String}{af:Array Edge}{r:List Oper}{Y:Nat->PV}{L:List (Nat×PV)}{h:ab}{Q:St->Prop}
theorem D.rn{t:TypeId}{x:Operand}{c e:PV}{cs:List PV}{sz b n off:Nat}(hV:HV h)(hx:cO L x=some (.ptr b 0 0 off))(hs:T.ts t=some sz)(ht:T.ta t=some false)(hb:h[b]?=some ⟨.m,0,n,[e]⟩)(hc:(cells e).drop off=c::cs)
  (k:aZ C ops (i+1) r ⟨⟨al ((d,c)::L) Y,h⟩,h.length,[]⟩ Q):aZ C ops i (⟨some d,.load t x,ty,pos,af,none⟩::r) ⟨⟨al L Y,h⟩,h.length,[]⟩ Q:=
 D.gB T hV.closed hx (by simp only[bw];exact hV.PA (ag hb)) hs ht ((OQ hb).trans (by rw[hc])) k
theorem D.Cp{t:TypeId}{x:Operand}{e:PV}{jx:List PV}{sz b n off:Nat}(hV:HV h)(hx:cO L x=some (.ptr b 0 0 off))(hs:T.ts t=some (sz+1))(ht:T.ta t=some true)(hb:h[b]?=some ⟨.m,0,n,[e]⟩)(hc:qa (sz+1) ((cells e).drop off) jx)
  (k:aZ C ops (i+1) r ⟨⟨al ((d,.agg jx)::L) Y,h⟩,h.length,[]⟩ Q):aZ C ops i (⟨some d,.load t x,ty,pos,af,none⟩::r) ⟨⟨al L Y,h⟩,h.length,[]⟩ Q:=
 D.oG T hV.closed hx (by simp only[bw];exact hV.PA (ag hb)) hs ht (OQ hb) hc k
theorem D.call{L0:Nat}{own:List Nat}{x:Operand}{xs:List Operand}{zf:Array TypeId}{f:FuncId}{dy args:List PV}(dO:level ops (before ops) i=2)(hf:cO L x=some (.fn f dy))(ha:vI L xs=some args)
  (hc:ai C 2 f (args++dy) h (λv h'=>aZ C ops (i+1) r ⟨⟨al ((d,v)::L) Y,h'⟩,h'.length,[]⟩ Q)):aZ C ops i (⟨some d,.call ⟨.value x,xs.toArray,zf⟩,ty,pos,af,none⟩::r) ⟨⟨al L Y,h⟩,L0,own⟩ Q:=by
 obtain⟨v,h',q,n0,hn⟩:=hc;refine aZ.two rfl dO ⟨n0,λn h1=>?_⟩ q;simp only[ar,fQ,an hf];have he:=gq (Y:=Y) ha;simp only[he];exact hn n h1
theorem ai.out{f:FuncId}{sz:Nat}{v:PV}{es rest:List PV}{rv:PV}{Q:PV->ab->Prop}(hm:C.mode f=.pure)(o:Out sz h v es)(hv:ao es=true)(hr:ao rest=true)(a:aL C f (.aa false (aU es)::aU rest) rv)(hs:eT rv=true)(q:Q rv h):ai C 2 f (v::rest) h Q:=by
 rcases o with⟨rfl,rfl⟩|⟨id,ep,rfl,e2⟩;exact ai.pure hm (by simp[ao,aV,hr]) (by simpa[aU,bW]using a) q
 ·refine ai.Zf (args':=.aa false es::rest) hm (by simp[ao,aV]) ?_ (by simpa[aU,bW]using a) hs q;have h1:kY h (.aj id ep 0 es.length)=some (.aa false es):=by simp[kY,oE,getM,e2,hv]
  have h2:∀l:List PV,ao l=true->ie h l=some l:=by
   intro l
   induction l with
   |nil=>intro _;rfl
   |cons c l ih=>
    intro hl
    simp only[ao,abb]at hl;simp only[ie,ih hl.2]
    have:kY h c=some c:=by
     unfold kY
     split
     ·rename_i cs
      have Ye:ao cs=true:=by simpa[aV]using hl.1
      have key:∀cs:List PV,ao cs=true->nP h cs=some cs:=by
       intro cs
       induction cs with
       |nil=>intro _;rfl
       |cons c cs ih=>
        intro hh
        simp only[ao,abb]at hh
        have:oE h c=some c:=by
         unfold oE
         split
         simp[aV]at hh;rw[if_pos hh.1]
        simp only[nP,this,ih hh.2]
      rw[key cs Ye];rfl
     ·unfold oE
      split
      simp[aV]at hl;rw[if_pos hl.1]
    rw[this]
  simp only[ie,h1,h2 rest hr]
structure LP(H:ab)(v:PV)(sz:Nat)(es':List PV)(r:PV)(h':ab):Prop where
 out:Out sz h' r es'
 hv:HV h'
 len:H.length<=h'.length
 fr:∀j,j<H.length->(∀ep n,v≠.aj j ep 0 n)->h'[j]?=H[j]?
 ref:∀j ep n,r=.aj j ep 0 n->(∃h9 n',v=.aj j h9 0 n')\/H.length<=j
theorem lI{sz:Nat}:∀{es:List PV},es.all (kK sz)=true->ao es=true
 |[],_=>rfl
 |e::es,h=>by
  rw[abZ,abb]at h;obtain⟨h1,h2⟩:=h;unfold kK at h1;simp only[abb]at h1;simp only[ao,h1.1.1,lI h2,adp]
theorem xP{v e:PV}{es:List PV}{full:Bool}{j:Nat}(o:Out 5 h v es)(hV:HV h)(hj:j<=es.length)(hn:es.length<100000000)(gK:es.all (kK 5)=true)(QV:kK 5 e=true):
  ∃rv h',jG [v,.int .i64 (j:Int),.aa full [e]] h=some (rv,h')/\LP h v 5 (es.take j++[e]++es.drop j) rv h':=by
 have he:ao (es.take j++[e]++es.drop j)=true:=by
  refine lI (sz:=5) ?_;rw[aa4]at gK ⊢
  intro x hx
  simp only[abu,aa9,abC]at hx;rcases hx with hx |hx |hx;exact gK x (abP hx);rw[hx];exact QV;exact gK x (abM hx)
 rcases o with⟨rfl,rfl⟩|⟨id,ep,rfl,e2⟩
 ·obtain rfl:j=0:=by simpa using hj
  refine⟨.aj h.length 0 0 1,h++[⟨.m,0,5,[e]⟩],?_,.inr ⟨h.length,0,rfl,by simp⟩,hV.c8 (HV.one (by simpa using he)),by simp,λj hj _=>aa3 hj,λj ep n hh=>?_⟩;simp[jG,newObj,QV]
  cases hh;exact .inr (aa5 _)
 ·have cL:=ag e2;have hl:(es.take j++[e]++es.drop j).length=es.length+1:=by simp;omega
  refine⟨.aj id (ep+1) 0 (es.length+1),h.set id ⟨.m,ep+1,5,es.take j++[e]++es.drop j⟩,?_,.inr ⟨id,ep+1,by rw[hl],aa7 cL⟩,hV.set id (by simp) he,by simp,λk hk bN=>?_,λk h9 n hh=>?_⟩
  ·have hg:getM h id ep=some ⟨.m,ep,5,es⟩:=by simp[getM,e2]
   simp only[jG,hg,ab2,acr];rw[if_pos ⟨trivial,trivial,aa5 _,by omega,by omega,hn,QV,gK,hV.closed⟩]
  exact aa8 (λhh=>bN ep es.length (by rw[hh]))
  cases hh;exact .inl ⟨ep,es.length,rfl⟩
theorem xQ{id ep j:Nat}{es:List PV}(e2:h[id]?=some ⟨.m,ep,5,es⟩)(hV:HV h)(hj:j+1<=es.length)(hn:es.length<100000000)(gK:es.all (kK 5)=true):
  ∃rv h',ly [.aj id ep 0 es.length,.int .i64 (j:Int),.int .i64 ((j:Int)+1)] h=some (rv,h')/\LP h (.aj id ep 0 es.length) 5 (es.take j++es.drop (j+1)) rv h':=by
 have cL:=ag e2
 have he:ao (es.take j++es.drop (j+1))=true:=by
  refine lI (sz:=5) ?_;rw[aa4]at gK ⊢
  intro x hx
  rcases aa9.1 hx with hx |hx;exact gK x (abP hx);exact gK x (abM hx)
 have hl:(es.take j++es.drop (j+1)).length=es.length - 1:=by simp;omega
 refine⟨.aj id (ep+1) 0 (es.length - 1),h.set id ⟨.m,ep+1,5,es.take j++es.drop (j+1)⟩,?_,.inr ⟨id,ep+1,by rw[hl],aa7 cL⟩,hV.set id (by simp) he,by simp,λk hk bN=>?_,λk h9 n hh=>?_⟩
 ·have hg:getM h id ep=some ⟨.m,ep,5,es⟩:=by simp[getM,e2]
  simp only[ly,hg,ab2,acr];rw[if_pos ⟨trivial,trivial,aa5 _,by omega,trivial,by omega,hn,gK,hV.closed⟩]
 exact aa8 (λhh=>bN ep es.length (by rw[hh]))
 cases hh;exact .inl ⟨ep,es.length,rfl⟩
end Go.Pm
namespace Go.Pm
set_option maxRecDepth 20000
def tsL:List (Option Nat):=[some (1),some (1),some (1),some (1),some (1),some (1),some (1),some (4),some (4),some (1),some (1),some (1),some (1),some (2),some (2),some (1),some (1),some (1),some (1),some (1),some (1),some (1),some (1),some (1),some (1),some (1),some (1),some (1),some (1),some (1),some (1),some (1),some (4),some (4),some (5),some (5),some (1),some (8),some (8),some (1),some (1),some (1),some (1),some (1),some (1),some (1),some (1),some (1),some (1),some (1),some (1),some (1),some (1),some (1),some (1),some (1),some (1),some (1),some (1),some (1),some (2),some (2),some (1),some (1),some (1),some (1),some (1),some (1),some (1),some (1),some (1),some (1),some (1),some (1),some (1),some (1),some (1),some (1),some (1),some (1),some (1),some (1),some (1),some (1),some (1),some (1),some (1),some (1),some (1),some (1),some (1),some (1),some (1),some (1),some (1),some (1),some (1),some (1),some (1),some (1),some (1),some (1),some (2),some (2),some (1),some (1),some (1),some (1),some (1),some (1),some (1),some (1),some (1),some (1),some (1),some (1),some (1),some (1),some (1),some (1),some (1),some (1),some (1),some (1),some (1),some (1),some (1),some (1),some (4),some (4),some (1),some (1),some (1),some (1),some (1),some (1),some (1),some (1),some (1),some (1),some (1),some (1),some (1),some (1),some (1),some (1),some (1),some (1),some (1),some (1),some (1),some (1),some (1),some (1),some (1),some (1),some (1),some (1),some (1),some (1),some (1),some (1),some (1),some (1),some (1),some (1),some (1),some (1),some (1),some (1),some (1),some (1),some (1),some (1),some (1),some (1),some (1),some (1),some (1),some (1),some (1),some (1),some (1),some (1),some (1),some (1),some (5),some (5),some (1),some (1),some (1),some (1),some (1),some (1),some (1),some (1),some (1),some (1),some (2),some (2),some (1),some (24),some (1),some (1),some (1),some (1),some (1),some (1),some (1),some (1),some (1),some (1),some (1),some (1),some (1),some (1),some (1),some (1),some (1),some (1),some (1),some (1),some (1),some (1),some (1),some (1),some (1),some (1),some (1),some (1),some (1),some (1),some (1),some (1),some (1),some (1),some (1),some (1),some (1),some (20),some (65),some (1),some (1),some (1),some (1),some (1),some (1),some (1),some (1),some (1),some (1),some (1),some (1),some (1),some (1),some (1),some (1),some (1),some (1),some (1),some (1),some (5),some (5),some (1),some (1),some (1),some (1),some (1),some (1),some (1),some (1),some (2),some (2),some (1),some (1),some (1),some (1),some (1),some (1),some (1),some (1),some (1),some (1),some (1),some (1),some (1),some (1),some (1),some (1),some (256),some (256),some (1),some (1),some (1),some (1),some (1),some (1),some (1),some (1),some (1),some (1),some (1),some (1),some (3),some (3),some (1),some (1),some (1),some (1),some (3),some (3),some (1),some (1),some (32),some (64),some (1),some (1),some (1),some (1),some (1),some (1),some (1),some (1),some (1),some (1),some (4),some (4),some (1),some (1),some (1),some (1),some (1),some (1),some (1),some (1),some (1),some (1),some (1),some (1),some (1),some (1),some (1),some (256),some (2),some (2),some (32),some (1),some (2),some (1),some (4),some (4),some (0),some (0),some (0),some (1),some (1),some (1),some (1),some (1),some (1),some (11),some (11)]
def tbL:List (Option Nat):=[some (0),some (8),some (8),some (8),some (1),some (1),some (1),some (24),some (24),some (16),some (16),some (16),some (8),some (24),some (24),some (8),some (8),some (8),some (8),some (8),some (16),some (4),some (24),some (24),some (8),some (8),some (8),some (8),some (0),some (8),some (8),some (24),some (56),some (56),some (80),some (80),some (8),some (112),some (112),some (8),some (24),some (24),some (8),some (8),some (8),some (8),some (8),some (24),some (8),some (8),some (0),some (8),some (8),some (8),some (0),some (8),some (8),some (8),some (8),some (24),some (48),some (48),some (8),some (8),some (8),some (0),some (8),some (8),some (8),some (8),some (8),some (8),some (8),some (8),some (8),some (8),some (8),some (8),some (8),some (0),some (8),some (0),some (8),some (8),some (8),some (0),some (8),some (8),some (8),some (0),some (8),some (8),some (8),some (8),some (8),some (8),some (8),some (8),some (8),some (8),some (8),some (8),some (32),some (32),some (16),some (16),some (0),some (8),some (8),some (8),some (8),some (8),some (8),some (8),some (8),some (8),some (8),some (8),some (8),some (8),some (8),some (8),some (8),some (8),some (8),some (8),some (8),some (8),some (40),some (40),some (8),some (8),some (24),some (0),some (8),some (8),some (8),some (8),some (8),some (8),some (8),some (8),some (8),some (8),some (8),some (8),some (8),some (8),some (8),some (8),some (8),some (8),some (8),some (8),some (8),some (24),some (8),some (8),some (8),some (8),some (8),some (8),some (8),some (8),some (0),some (8),some (8),some (8),some (8),some (8),some (8),some (8),some (8),some (8),some (8),some (24),some (0),some (8),some (8),some (8),some (8),some (0),some (8),some (24),some (8),some (8),some (64),some (64),some (8),some (8),some (8),some (8),some (8),some (8),some (24),some (8),some (24),some (8),some (32),some (32),some (8),some (24),some (8),some (8),some (8),some (0),some (8),some (8),some (8),some (0),some (8),some (8),some (8),some (8),some (8),some (8),some (8),some (0),some (8),some (8),some (8),some (8),some (8),some (4),some (0),some (8),some (8),some (8),some (0),some (8),some (0),some (8),some (8),some (8),some (8),some (8),some (8),some (8),some (8),some (160),some (65),some (8),some (8),some (8),some (8),some (8),some (8),some (8),some (8),some (8),some (8),some (8),some (8),some (8),some (8),some (24),some (24),some (0),some (8),some (8),some (8),some (72),some (72),some (24),some (8),some (8),some (8),some (8),some (24),some (0),some (8),some (48),some (48),some (8),some (8),some (8),some (0),some (8),some (8),some (8),some (8),some (8),some (8),some (8),some (8),some (8),some (0),some (8),some (8),some (256),some (256),some (0),some (8),some (8),some (8),some (8),some (0),some (8),some (8),some (8),some (8),some (0),some (8),some (56),some (56),some (8),some (8),some (8),some (24),some (72),some (72),some (0),some (8),some (32),some (64),some (8),some (8),some (8),some (0),some (8),some (8),some (8),some (0),some (8),some (24),some (80),some (80),some (8),some (8),some (0),some (8),some (0),some (8),some (8),some (8),some (8),some (8),some (8),some (8),some (0),some (8),some (8),some (256),some (2),some (2),some (32),some (8),some (48),some (24),some (40),some (40),some (0),some (0),some (0),some (8),some (1),some (1),some (8),some (4),some (4),some (48),some (48)]
def taL:List (Option Bool):=[some (false),some (false),some (false),some (false),some (false),some (false),some (false),some (true),some (true),some (false),some (false),some (false),some (false),some (true),some (true),some (false),some (false),some (false),some (true),some (true),some (false),some (false),some (false),some (false),some (false),some (false),some (false),some (false),some (false),some (false),some (false),some (false),some (true),some (true),some (true),some (true),some (false),some (true),some (true),some (false),some (false),some (false),some (false),some (false),some (false),some (false),some (false),some (false),some (false),some (false),some (false),some (false),some (false),some (false),some (false),some (false),some (false),some (false),some (false),some (false),some (true),some (true),some (false),some (false),some (false),some (false),some (false),some (false),some (false),some (false),some (false),some (false),some (false),some (false),some (false),some (false),some (false),some (false),some (false),some (false),some (false),some (false),some (false),some (false),some (false),some (false),some (false),some (false),some (false),some (false),some (false),some (false),some (false),some (false),some (false),some (false),some (false),some (false),some (false),some (false),some (false),some (false),some (true),some (true),some (false),some (false),some (false),some (false),some (false),some (false),some (false),some (false),some (false),some (false),some (false),some (false),some (false),some (false),some (false),some (false),some (false),some (false),some (false),some (false),some (false),some (false),some (false),some (false),some (true),some (true),some (false),some (false),some (false),some (false),some (false),some (false),some (false),some (false),some (false),some (false),some (false),some (false),some (false),some (false),some (false),some (false),some (false),some (false),some (false),some (false),some (false),some (false),some (false),some (false),some (false),some (false),some (false),some (false),some (false),some (false),some (false),some (false),some (false),some (false),some (false),some (false),some (false),some (false),some (false),some (false),some (false),some (false),some (false),some (false),some (false),some (false),some (false),some (false),some (false),some (false),some (false),some (false),some (false),some (false),some (false),some (false),some (true),some (true),some (false),some (false),some (false),some (false),some (false),some (false),some (false),some (false),some (false),some (false),some (true),some (true),some (false),some (true),some (false),some (false),some (false),some (false),some (false),some (false),some (false),some (false),some (false),some (false),some (false),some (false),some (false),some (false),some (false),some (false),some (false),some (false),some (false),some (false),some (false),some (false),some (false),some (false),some (false),some (false),some (false),some (false),some (false),some (false),some (false),some (false),some (false),some (false),some (false),some (false),some (false),some (true),some (true),some (false),some (false),some (false),some (false),some (false),some (false),some (false),some (false),some (false),some (false),some (false),some (false),some (false),some (false),some (false),some (false),some (false),some (false),some (false),some (false),some (true),some (true),some (false),some (false),some (false),some (false),some (false),some (false),some (false),some (false),some (true),some (true),some (false),some (false),some (false),some (false),some (false),some (false),some (false),some (false),some (false),some (false),some (false),some (false),some (false),some (false),some (false),some (false),some (true),some (true),some (false),some (false),some (false),some (false),some (false),some (false),some (false),some (false),some (false),some (false),some (false),some (false),some (true),some (true),some (false),some (false),some (false),some (false),some (true),some (true),some (false),some (false),some (true),some (true),some (false),some (false),some (false),some (false),some (false),some (false),some (false),some (false),some (false),some (false),some (true),some (true),some (false),some (false),some (false),some (false),some (false),some (false),some (false),some (false),some (false),some (false),some (false),some (false),some (false),some (false),some (false),some (true),some (true),some (true),some (true),some (false),some (true),some (false),some (true),some (true),some (true),some (true),some (true),some (false),some (false),some (false),some (false),some (false),some (false),some (true),some (true)]
def kdL:List (Option Kd):=[some (.other),some (.other),some (.int .i64),some (.int .i64),some (.bool),some (.int .u8),some (.int .u8),some (.st [(0,2),(1,3),(2,4),(3,6)]),some (.st [(0,2),(1,3),(2,4),(3,6)]),some (.str),some (.str),some (.str),some (.int .u64),some (.st [(0,9),(1,12)]),some (.st [(0,9),(1,12)]),some (.other),some (.other),some (.other),some (.st [(0,17)]),some (.st [(0,17)]),some (.other),some (.int .i32),some (.sl 35),some (.sl 38),some (.other),some (.other),some (.other),some (.int .i64),some (.other),some (.other),some (.other),some (.sl 33),some (.st [(0,3),(1,9),(2,3),(3,31)]),some (.st [(0,3),(1,9),(2,3),(3,31)]),some (.st [(0,31),(1,33)]),some (.st [(0,31),(1,33)]),some (.other),some (.st [(0,33),(4,33)]),some (.st [(0,33),(4,33)]),some (.other),some (.sl 41),some (.sl 5),some (.other),some (.other),some (.other),some (.other),some (.other),some (.sl 3),some (.other),some (.other),some (.other),some (.other),some (.other),some (.other),some (.other),some (.other),some (.other),some (.other),some (.other),some (.sl 9),some (.st [(0,59),(1,59)]),some (.st [(0,59),(1,59)]),some (.other),some (.other),some (.other),some (.other),some (.other),some (.other),some (.other),some (.other),some (.other),some (.other),some (.other),some (.other),some (.other),some (.other),some (.other),some (.other),some (.other),some (.other),some (.other),some (.other),some (.other),some (.other),some (.other),some (.other),some (.other),some (.other),some (.other),some (.other),some (.other),some (.other),some (.other),some (.other),some (.other),some (.mp 9 4),some (.other),some (.other),some (.other),some (.other),some (.other),some (.other),some (.st [(0,101),(1,41)]),some (.st [(0,101),(1,41)]),some (.other),some (.other),some (.other),some (.other),some (.other),some (.other),some (.other),some (.other),some (.other),some (.other),some (.other),some (.other),some (.other),some (.mp 3 3),some (.other),some (.other),some (.other),some (.other),some (.other),some (.other),some (.other),some (.other),some (.other),some (.other),some (.st [(0,9),(1,3),(2,3),(3,3)]),some (.st [(0,9),(1,3),(2,3),(3,3)]),some (.other),some (.other),some (.sl 33),some (.other),some (.other),some (.other),some (.other),some (.other),some (.other),some (.other),some (.other),some (.other),some (.other),some (.other),some (.other),some (.other),some (.other),some (.other),some (.other),some (.other),some (.other),some (.other),some (.other),some (.other),some (.other),some (.sl 129),some (.other),some (.other),some (.other),some (.other),some (.other),some (.other),some (.other),some (.other),some (.other),some (.other),some (.other),some (.other),some (.other),some (.other),some (.other),some (.other),some (.other),some (.other),some (.other),some (.sl 187),some (.other),some (.other),some (.other),some (.other),some (.other),some (.other),some (.other),some (.sl 31),some (.other),some (.other),some (.st [(0,33),(4,3)]),some (.st [(0,33),(4,3)]),some (.other),some (.other),some (.int .u64),some (.other),some (.other),some (.mp 9 3),some (.sl 199),some (.other),some (.sl 4),some (.other),some (.st [(0,47),(1,3)]),some (.st [(0,47),(1,3)]),some (.other),some (.arr 24 5),some (.int .u64),some (.other),some (.other),some (.other),some (.other),some (.other),some (.other),some (.other),some (.other),some (.other),some (.other),some (.other),some (.other),some (.other),some (.int .i64),some (.other),some (.other),some (.other),some (.other),some (.other),some (.other),some (.int .u32),some (.other),some (.other),some (.other),some (.other),some (.other),some (.other),some (.other),some (.other),some (.other),some (.other),some (.other),some (.other),some (.other),some (.other),some (.other),some (.arr 20 202),some (.arr 65 5),some (.other),some (.other),some (.other),some (.other),some (.other),some (.int .u64),some (.other),some (.other),some (.other),some (.other),some (.other),some (.other),some (.other),some (.other),some (.sl 202),some (.sl 202),some (.other),some (.other),some (.other),some (.mp 3 256),some (.st [(0,31),(1,3),(2,260),(3,260),(4,47)]),some (.st [(0,31),(1,3),(2,260),(3,260),(4,47)]),some (.sl 175),some (.other),some (.other),some (.other),some (.other),some (.sl 272),some (.other),some (.other),some (.st [(0,31),(1,47)]),some (.st [(0,31),(1,47)]),some (.other),some (.other),some (.other),some (.other),some (.other),some (.other),some (.other),some (.other),some (.other),some (.other),some (.other),some (.other),some (.other),some (.other),some (.other),some (.other),some (.arr 256 4),some (.arr 256 4),some (.other),some (.other),some (.other),some (.other),some (.other),some (.other),some (.other),some (.other),some (.other),some (.other),some (.other),some (.other),some (.st [(0,47),(1,47),(2,4)]),some (.st [(0,47),(1,47),(2,4)]),some (.other),some (.other),some (.other),some (.sl 47),some (.st [(0,31),(1,308),(2,47)]),some (.st [(0,31),(1,308),(2,47)]),some (.other),some (.other),some (.arr 32 5),some (.arr 64 5),some (.other),some (.other),some (.other),some (.other),some (.other),some (.other),some (.other),some (.other),some (.other),some (.sl 300),some (.st [(0,31),(1,324),(2,47),(3,4)]),some (.st [(0,31),(1,324),(2,47),(3,4)]),some (.other),some (.other),some (.other),some (.other),some (.other),some (.other),some (.other),some (.other),some (.other),some (.other),some (.other),some (.other),some (.other),some (.other),some (.other),some (.arr 256 5),some (.st [(0,5),(1,5)]),some (.st [(0,5),(1,5)]),some (.arr 16 344),some (.other),some (.arr 2 47),some (.sl 347),some (.st [(0,17),(1,17),(2,17),(3,9)]),some (.st [(0,17),(1,17),(2,17),(3,9)]),some (.arr 0 16),some (.st [(0,351)]),some (.st [(0,351)]),some (.other),some (.int .u8),some (.int .u8),some (.other),some (.int .i32),some (.int .i32),some (.st [(0,12),(1,12),(2,223),(3,355),(4,5),(5,5),(6,356),(7,357),(8,147),(9,358),(10,359)]),some (.st [(0,12),(1,12),(2,223),(3,355),(4,5),(5,5),(6,356),(7,357),(8,147),(9,358),(10,359)])]
def tzL:List (Option PV):=[none,some (.aI),some (.int .i64 (0)),some (.int .i64 (0)),some (.bool false),some (.int .u8 (0)),some (.int .u8 (0)),some (.agg [.int .i64 (0),.int .i64 (0),.bool false,.int .u8 (0)]),some (.agg [.int .i64 (0),.int .i64 (0),.bool false,.int .u8 (0)]),some (.str ByteArray.empty),some (.str ByteArray.empty),some (.str ByteArray.empty),some (.int .u64 (0)),some (.agg [.str ByteArray.empty,.int .u64 (0)]),some (.agg [.str ByteArray.empty,.int .u64 (0)]),some (.eJ),some (.eJ),some (.eJ),some (.agg [.eJ]),some (.agg [.eJ]),none,some (.int .i32 (0)),some (.aa true []),some (.aa true []),some (.aI),some (.aI),some (.aI),some (.int .i64 (0)),none,some (.aI),some (.aI),some (.aa true []),some (.agg [.int .i64 (0),.str ByteArray.empty,.int .i64 (0),.aa true []]),some (.agg [.int .i64 (0),.str ByteArray.empty,.int .i64 (0),.aa true []]),some (.agg [.aa true [],.int .i64 (0),.str ByteArray.empty,.int .i64 (0),.aa true []]),some (.agg [.aa true [],.int .i64 (0),.str ByteArray.empty,.int .i64 (0),.aa true []]),some (.aI),some (.agg [.int .i64 (0),.str ByteArray.empty,.int .i64 (0),.aa true [],.int .i64 (0),.str ByteArray.empty,.int .i64 (0),.aa true []]),some (.agg [.int .i64 (0),.str ByteArray.empty,.int .i64 (0),.aa true [],.int .i64 (0),.str ByteArray.empty,.int .i64 (0),.aa true []]),some (.aI),some (.aa true []),some (.aa true []),some (.aI),some (.aI),some (.aI),some (.aI),some (.aI),some (.aa true []),some (.aI),some (.aI),none,some (.aI),some (.aI),some (.aI),none,some (.aI),some (.aI),some (.aI),some (.aI),some (.aa true []),some (.agg [.aa true [],.aa true []]),some (.agg [.aa true [],.aa true []]),some (.aI),some (.aI),some (.aI),none,some (.aI),some (.aI),some (.aI),some (.aI),some (.aI),some (.aI),some (.aI),some (.aI),some (.aI),some (.aI),some (.aI),some (.aI),some (.aI),none,some (.aI),none,some (.aI),some (.aI),some (.aI),none,some (.aI),some (.aI),some (.aI),none,some (.aI),some (.aI),some (.aI),some (.aI),some (.aI),some (.gL),some (.aI),some (.aI),some (.aI),some (.aI),some (.aI),some (.eJ),some (.agg [.eJ,.aa true []]),some (.agg [.eJ,.aa true []]),none,none,none,some (.aI),some (.aI),some (.aI),some (.aI),some (.aI),some (.aI),some (.aI),some (.aI),some (.aI),some (.aI),some (.gL),some (.aI),some (.aI),some (.aI),some (.aI),some (.aI),some (.aI),some (.aI),some (.aI),some (.aI),some (.aI),some (.agg [.str ByteArray.empty,.int .i64 (0),.int .i64 (0),.int .i64 (0)]),some (.agg [.str ByteArray.empty,.int .i64 (0),.int .i64 (0),.int .i64 (0)]),some (.aI),some (.aI),some (.aa true []),none,some (.aI),some (.aI),some (.aI),some (.aI),some (.aI),some (.aI),some (.aI),some (.aI),some (.aI),some (.aI),some (.aI),some (.aI),some (.aI),some (.eJ),some (.aI),some (.aI),some (.aI),some (.aI),some (.aI),some (.aI),some (.eJ),some (.aa true []),some (.aI),some (.aI),some (.aI),some (.aI),some (.aI),some (.aI),some (.aI),some (.aI),none,some (.aI),some (.aI),some (.aI),some (.aI),some (.aI),some (.aI),some (.eJ),some (.aI),some (.aI),some (.aI),some (.aa true []),none,some (.aI),some (.aI),some (.aI),some (.aI),none,some (.aI),some (.aa true []),some (.aI),some (.aI),some (.agg [.int .i64 (0),.str ByteArray.empty,.int .i64 (0),.aa true [],.int .i64 (0)]),some (.agg [.int .i64 (0),.str ByteArray.empty,.int .i64 (0),.aa true [],.int .i64 (0)]),some (.aI),some (.aI),some (.int .u64 (0)),some (.aI),some (.aI),some (.gL),some (.aa true []),some (.aI),some (.aa true []),some (.aI),some (.agg [.aa true [],.int .i64 (0)]),some (.agg [.aa true [],.int .i64 (0)]),some (.aI),none,some (.int .u64 (0)),some (.aI),some (.aI),none,some (.aI),some (.aI),some (.aI),none,some (.aI),some (.aI),some (.aI),some (.aI),some (.aI),some (.aI),some (.int .i64 (0)),none,some (.aI),some (.aI),some (.aI),some (.aI),some (.aI),some (.int .u32 (0)),none,some (.aI),some (.aI),some (.aI),none,some (.aI),none,some (.aI),some (.aI),some (.aI),some (.aI),some (.aI),some (.aI),some (.aI),some (.aI),none,none,some (.aI),some (.aI),some (.aI),some (.aI),some (.aI),some (.int .u64 (0)),some (.aI),some (.aI),some (.aI),some (.aI),some (.aI),some (.aI),some (.eJ),some (.aI),some (.aa true []),some (.aa true []),none,some (.aI),some (.aI),some (.gL),some (.agg [.aa true [],.int .i64 (0),.gL,.gL,.aa true []]),some (.agg [.aa true [],.int .i64 (0),.gL,.gL,.aa true []]),some (.aa true []),some (.aI),some (.aI),some (.aI),some (.aI),some (.aa true []),none,some (.aI),some (.agg [.aa true [],.aa true []]),some (.agg [.aa true [],.aa true []]),some (.aI),some (.aI),some (.aI),none,some (.aI),some (.eJ),some (.aI),some (.aI),some (.aI),some (.aI),some (.aI),some (.aI),some (.eJ),none,some (.aI),some (.aI),none,none,none,some (.aI),some (.aI),some (.eJ),some (.aI),none,some (.aI),some (.aI),some (.eJ),some (.eJ),none,some (.aI),some (.agg [.aa true [],.aa true [],.bool false]),some (.agg [.aa true [],.aa true [],.bool false]),some (.aI),some (.aI),some (.aI),some (.aa true []),some (.agg [.aa true [],.aa true [],.aa true []]),some (.agg [.aa true [],.aa true [],.aa true []]),none,some (.aI),none,none,some (.aI),some (.aI),some (.aI),none,some (.aI),some (.aI),some (.aI),none,some (.aI),some (.aa true []),some (.agg [.aa true [],.aa true [],.aa true [],.bool false]),some (.agg [.aa true [],.aa true [],.aa true [],.bool false]),some (.aI),some (.aI),none,some (.aI),none,some (.aI),some (.aI),some (.aI),some (.aI),some (.aI),some (.aI),some (.aI),none,some (.aI),some (.aI),none,some (.agg [.int .u8 (0),.int .u8 (0)]),some (.agg [.int .u8 (0),.int .u8 (0)]),none,some (.aI),some (.agg [.aa true [],.aa true []]),some (.aa true []),some (.agg [.eJ,.eJ,.eJ,.str ByteArray.empty]),some (.agg [.eJ,.eJ,.eJ,.str ByteArray.empty]),some (.agg []),some (.agg []),some (.agg []),some (.aI),some (.int .u8 (0)),some (.int .u8 (0)),some (.aI),some (.int .i32 (0)),some (.int .i32 (0)),some (.agg [.int .u64 (0),.int .u64 (0),.int .u32 (0),.int .u8 (0),.int .u8 (0),.int .u8 (0),.int .u8 (0),.aI,.eJ,.int .i32 (0),.int .i32 (0)]),some (.agg [.int .u64 (0),.int .u64 (0),.int .u32 (0),.int .u8 (0),.int .u8 (0),.int .u8 (0),.int .u8 (0),.aI,.eJ,.int .i32 (0),.int .i32 (0)])]
def tN:Nat:=362
theorem aaC:(List.range tN).map (cw C.P)=tsL:=by kernel_rfl
theorem aaD:(List.range tN).map (IV C.P)=taL:=by kernel_rfl
theorem aaE:(List.range tN).map (mA C.P)=tbL:=by kernel_rfl
theorem aaF:(List.range tN).map (λt=>(C.P.underlying t).map oX)=kdL:=by kernel_rfl
theorem aaG:(List.range tN).map (λt=>if(tzL.getD t none).isSome then je C.P t else none)=tzL:=by kernel_rfl
theorem yL{α:Type}{f:Nat->Option α}{l:List (Option α)}(h:(List.range tN).map f=l)(t:Nat)(n:α)(e:(l[t]?).bind id=some n):f t=some n:=by
 subst h;rw[abm]at e
 cases hr:(List.range tN)[t]? with
 |none=>rw[hr]at e;simp at e
 |some k=>
  rw[hr]at e
  have hk:k=t:=by
   have:=List.getElem?_eq_some_iff.1 hr;obtain⟨h1,h2⟩:=this;simp at h2;exact h2.symm
  subst hk;simpa using e
def T6:kJ C.P where
 ts t:=(tsL[t]?).bind id
 ta t:=(taL[t]?).bind id
 tb t:=(tbL[t]?).bind id
 kd t:=(kdL[t]?).bind id
 tz t:=(tzL[t]?).bind id
 eA:=yL aaC
 OJ:=yL aaD
 rS:=yL aaE
 cQ:=yL aaF
 mM t n e:=by
  have:=yL aaG t n e
  split at this
  exact this
  cases this
inductive Tm where
 |mk (kind:Int) (name:ByteArray) (sort:Int) (kids:List Tm)
def Tm.kids:Tm->List Tm | .mk _ _ _ k=>k
mutual
def enc:Tm->PV
 | .mk k s o l=>.agg [.int .i64 k,.str s,.int .i64 o,.aa false (ae l)]
def ae:List Tm->List PV
 |[]=>[]
 |t::l=>enc t::ae l
end
mutual
theorem qE:∀t,aV (enc t)=true
 | .mk k s o l=>by simp[enc,aV,ao]
end
theorem fp(l:List Tm):ao (ae l)=true:=by
 induction l with
 |nil=>rfl
 |cons t l ih=>simp[ae,ao,qE,ih]
mutual
theorem wc:∀t,bW (enc t)=enc t
 | .mk k s o l=>by simp[enc,bW,aU,bg l]
theorem bg:∀l,aU (ae l)=ae l
 |[]=>rfl
 |t::l=>by simp[ae,aU,wc t,bg l]
end
theorem ak(l:List Tm):(ae l).length=l.length:=by
 induction l with
 |nil=>rfl
 |cons t l ih=>simp[ae,ih]
theorem de(l:List Tm):ae l=l.map enc:=by
 induction l with
 |nil=>rfl
 |cons t l ih=>simp[ae,ih]
theorem Sb(t:Tm):∃a b c d,enc t=.agg [a,b,c,d]:=by cases t;exact⟨_,_,_,_,by rw[enc]⟩
mutual
def az:Tm->Nat
 | .mk k s o l=>1+s.size+bF l
def bF:List Tm->Nat
 |[]=>0
 |t::l=>az t+bF l
end
theorem EM(t:Tm):0<az t:=by cases t;simp[az];omega
theorem bH(l:List Tm):l.length<=bF l:=by
 induction l with
 |nil=>simp
 |cons t l ih=>have:=EM t;simp[bF];omega
theorem bU{l:List Tm}{t:Tm}(h:t∈l):az t<=bF l:=by
 induction l with
 |nil=>cases h
 |cons u l ih=>
  simp only[bF];rcases abc.1 h with rfl |h;omega;have:=ih h;omega
theorem Tm.ind{P:Tm->Prop}(h:∀k s o l,(∀t∈l,P t)->P (.mk k s o l)):∀t,P t:=by
 intro t
 have key:∀n t,az t<=n->P t:=by
  intro n
  induction n with
  |zero=>intro t ht;have:=EM t;omega
  |succ n ih=>
   intro t ht
   obtain⟨k,s,o,l⟩:=t;refine h k s o l (λu hu=>ih u ?_);have:=bU hu;simp[az]at ht;omega
 exact key (az t) t (aa5 _)
theorem Sc{l:List Tm}{i:Nat}(hc:(i:Int)<((ae l).length:Int)):∃t a1 a2 a3 a4,t∈l/\enc t=.agg [a1,a2,a3,a4]/\(ae l)[i]?=some (.agg [a1,a2,a3,a4])/\l.drop i=t::l.drop (i+1)/\i<l.length/\l[i]?=some t:=by
 have mR:i<l.length:=by have:=ak l;omega
 obtain⟨a1,a2,a3,a4,ha⟩:=Sb l[i];refine⟨l[i],a1,a2,a3,a4,abF mR,ha,?_,acO mR,mR,aa6 mR⟩;rw[de,abm,aa6 mR,<-ha]
 rfl
theorem kg{l:List Tm}{i:Nat}(hc:¬(i:Int)<((ae l).length:Int)):l.drop i=[]:=abG (by have:=ak l;omega)
theorem bo(k:Int)(s:ByteArray)(o:Int)(l:List Tm):enc (.mk k s o l)=.agg [.int .i64 k,.str s,.int .i64 o,.aa false (ae l)]:=by rw[enc]
theorem gD{l:List Tm}{i:Nat}(hc:(i:Int)<((ae l).length:Int)):∃k s o l',.mk k s o l'∈l/\(ae l)[i]?=some (.agg [.int .i64 k,.str s,.int .i64 o,.aa false (ae l')])/\l.drop i=.mk k s o l'::l.drop (i+1)/\i<l.length/\l[i]?=some (.mk k s o l'):=by
 obtain⟨t,a1,a2,a3,a4,h1,h2,h3,h4,h5,h6⟩:=Sc hc;obtain⟨k,s,o,l'⟩:=t;rw[bo]at h2;exact⟨k,s,o,l',h1,by rw[h3,<-h2],h4,h5,h6⟩
mutual
def size:Tm->Int
 | .mk _ _ _ l=>1+dx l
def dx:List Tm->Int
 |[]=>0
 |t::l=>size t+dx l
end
mutual
theorem gN:∀t,0<size t/\size t<=(az t:Int)
 | .mk k s o l=>by
  have:=cX l;simp only[size,az];omega
theorem cX:∀l,0<=dx l/\dx l<=(bF l:Int)
 |[]=>by simp[dx,bF]
 |t::l=>by
  have h1:=gN t;have h2:=cX l;simp only[dx,bF];omega
end
def fC(a b:Int):Int:=if a<b then -1 else if b<a then 1 else 0
mutual
def aW:Tm->Tm->Int
 | .mk k s o l,.mk k' s' o' l'=>
  if fC (size (.mk k s o l)) (size (.mk k' s' o' l'))≠0 then fC (size (.mk k s o l)) (size (.mk k' s' o' l'))else
  if fC k k'≠0 then fC k k' else
  if Op.bytesLess s.toList s'.toList=true then -1 else
  if(!(Op.bytesLess s.toList s'.toList ||s.toList==s'.toList))=true then 1 else
  if fC o o'≠0 then fC o o' else
  if fC l.length l'.length≠0 then fC l.length l'.length else lX l l'
def lX:List Tm->List Tm->Int
 |[],_=>0
 |_::_,[]=>0
 |t::l,t'::l'=>if aW t t'≠0 then aW t t' else lX l l'
end
def lQ(x y:Int):Int:=if x≠0 then x else y
def eX:List UInt8->List UInt8->Int:=Lib.compareBytes
theorem OX:∀a b:List UInt8,Op.bytesLess a b=decide (eX a b<0)/\((a==b)=decide (eX a b=0))
 |[],[]=>by simp[Op.bytesLess,eX,Lib.compareBytes]
 |[],_::_=>by simp[Op.bytesLess,eX,Lib.compareBytes]
 |_::_,[]=>by simp[Op.bytesLess,eX,Lib.compareBytes]
 |a::x,b::y=>by
  obtain⟨h1,h2⟩:=OX x y;have hc:eX (a::x) (b::y)=if a<b then -1 else if b<a then 1 else eX x y:=rfl
  have key:a<b\/b<a\/a=b:=by
   rcases acE a.toNat b.toNat with h |h |h;exact .inl (acd.2 h);exact .inr (.inr (UInt8.toNat_inj.1 h));exact .inr (.inl (acd.2 h))
  have asym:∀p q:UInt8,p<q->¬q<p:=λp q h1 h2=>by
   have:=acd.1 h1;have:=acd.1 h2;omega
  have irr:∀p:UInt8,¬p<p:=λp h1=>asym p p h1 h1
  rcases key with h |h |h
  ·have bN:a≠b:=λe=>irr b (e▸h)
   rw[hc,if_pos h];simp[Op.bytesLess,h,bN]
  ·have bN:a≠b:=λe=>irr b (e▸h)
   have hn:=asym _ _ h;rw[hc,if_neg hn,if_pos h];simp[Op.bytesLess,hn,bN]
  ·subst h;rw[hc,if_neg (irr a),if_neg (irr a)];simp only[Op.bytesLess,h1,irr,decide_false,acG,BEq.rfl,aco,true_and];rw[<-h2];simp[List.cons_beq_cons]
structure R9(x y z:Int):Prop where
 e1:x=0->z=y
 e2:y=0->z=x
 lt:x<0->y<0->z<0
theorem R9.lex{x y z x' y' z':Int}(a:R9 x y z)(b:x=0->y=0->R9 x' y' z'):R9 (lQ x x') (lQ y y') (lQ z z'):=by
 obtain⟨e1,e2,lt⟩:=a;unfold lQ
 by_cases hx:x=0 <;>by_cases hy:y=0
 ·have hz:z=0:=by rw[e1 hx,hy]
  rw[if_neg (by simp[hx]),if_neg (by simp[hy]),if_neg (by simp[hz])];exact b hx hy
 ·have hz:z=y:=e1 hx;rw[if_neg (by simp[hx]),if_pos hy,hz,if_pos hy];exact⟨λ_=>rfl,λh=>absurd h hy,λ_ h=>h⟩
 ·have hz:z=x:=e2 hy;rw[if_neg (by simp[hy]:¬y≠0),if_pos hx,hz,if_pos hx];exact⟨λh=>absurd h hx,λ_=>rfl,λh _=>h⟩
 ·rw[if_pos hx,if_pos hy];refine⟨λh=>absurd h hx,λh=>absurd h hy,λh1 h2=>?_⟩;have:=lt h1 h2;rw[if_pos (by omega)];exact this
theorem qF(x y:Int):lQ (-x) (-y)=- lQ x y:=by unfold lQ;split <;>split <;>omega
theorem OY{x y:Int}:lQ x y=0↔x=0/\y=0:=by unfold lQ;split <;>omega
theorem jZ{x y:Int}(h:lQ x y=0):x=0/\y=0:=OY.1 h
theorem qd(a b c:Int):R9 (fC a b) (fC b c) (fC a c):=by
 unfold fC
 constructor <;>(repeat' split) <;>omega
theorem qe(a b:Int):fC b a=- fC a b:=by unfold fC;(repeat' split) <;>omega
theorem iX{a b:Int}(h:fC a b=0):a=b:=by unfold fC at h;(repeat' split at h) <;>omega
theorem OZ(a b:Int):fC a b=-1\/fC a b=0\/fC a b=1:=by unfold fC;(repeat' split) <;>omega
theorem iJ(a b:UInt8)(x y:List UInt8):eX (a::x) (b::y)=lQ (fC a.toNat b.toNat) (eX x y):=by
 have hc:eX (a::x) (b::y)=if a<b then -1 else if b<a then 1 else eX x y:=rfl;rw[hc]
 by_cases h1:a<b
 ·have:=acd.1 h1;have e:fC a.toNat b.toNat=-1:=by unfold fC;rw[if_pos (by omega)]
  rw[if_pos h1,e];rfl
 ·by_cases h2:b<a
  ·have:=acd.1 h2;have e:fC a.toNat b.toNat=1:=by unfold fC;rw[if_neg (by omega),if_pos (by omega)]
   rw[if_neg h1,if_pos h2,e];rfl
  ·have PL:¬a.toNat<b.toNat:=λh=>h1 (acd.2 h)
   have h2':¬b.toNat<a.toNat:=λh=>h2 (acd.2 h)
   have e:fC a.toNat b.toNat=0:=by unfold fC;rw[if_neg (by omega),if_neg (by omega)]
   rw[if_neg h1,if_neg h2,e];rfl
theorem A0:∀a b c:List UInt8,R9 (eX a b) (eX b c) (eX a c)
 |[],[],[]=>by constructor <;>decide
 |[],[],_::_=>by constructor <;>intros <;>simp_all[eX,Lib.compareBytes]
 |[],_::_,[]=>by constructor <;>intros <;>simp_all[eX,Lib.compareBytes]
 |[],b::y,c::z=>by
  have e1:eX [] (b::y)=-1:=rfl;have e2:eX [] (c::z)=-1:=rfl;rw[e1,e2]
  constructor <;>intros <;>omega
 |_::_,[],[]=>by constructor <;>intros <;>simp_all[eX,Lib.compareBytes]
 |a::x,[],c::z=>by
  have e1:eX (a::x) []=1:=rfl;have e2:eX [] (c::z)=-1:=rfl;rw[e1,e2]
  constructor <;>intros <;>omega
 |a::x,b::y,[]=>by
  have e1:eX (a::x) []=1:=rfl;have e2:eX (b::y) []=1:=rfl;rw[e1,e2]
  constructor <;>intros <;>omega
 |a::x,b::y,c::z=>by
  rw[iJ,iJ,iJ];exact(qd _ _ _).lex (λ_ _=>A0 x y z)
theorem A3:∀a b:List UInt8,eX b a=- eX a b
 |[],[]=>rfl
 |[],_::_=>rfl
 |_::_,[]=>rfl
 |a::x,b::y=>by rw[iJ,iJ,A3 x y,qe a.toNat b.toNat,qF]
theorem yJ:∀{a b:List UInt8},eX a b=0->a=b
 |[],[],_=>rfl
 |[],_::_,h=>by cases h
 |_::_,[],h=>by cases h
 |a::x,b::y,h=>by
  rw[iJ]at h;obtain⟨h1,h2⟩:=jZ h;have:=iX h1;rw[yJ h2,UInt8.toNat_inj.1 (by omega:a.toNat=b.toNat)]
def Cr(s s':ByteArray):Int:=eX s.toList s'.toList
theorem A4:∀a b:List UInt8,eX a b=-1\/eX a b=0\/eX a b=1
 |[],[]=>.inr (.inl rfl)
 |[],_::_=>.inl rfl
 |_::_,[]=>.inr (.inr rfl)
 |a::x,b::y=>by
  rw[iJ];have h1:=OZ a.toNat b.toNat;have h2:=A4 x y;unfold lQ
  split <;>omega
theorem vU{a b:ByteArray}(h:a.toList=b.toList):a=b:=by
 rw[ByteArray.toList_eq,ByteArray.toList_eq]at h
 cases a;cases b
 simp at h;subst h
 rfl
theorem lR(k s o l k' s' o' l'):aW (.mk k s o l) (.mk k' s' o' l')=lQ (fC (size (.mk k s o l)) (size (.mk k' s' o' l'))) (lQ (fC k k') (lQ (Cr s s') (lQ (fC o o') (lQ (fC l.length l'.length) (lX l l'))))):=by
 rw[aW];obtain⟨b1,b2⟩:=OX s.toList s'.toList;have b3:=A4 s.toList s'.toList;rw[b1,b2];unfold lQ Cr
 split
 rfl
 ·split
  ·rfl
  ·rcases b3 with b3 |b3 |b3
   ·rw[if_pos (by simp[b3])];simp[b3]
   ·rw[if_neg (by simp[b3]),if_neg (by simp[b3])];simp[b3]
   ·rw[if_neg (by simp[b3]),if_pos (by simp[b3])];simp[b3]
theorem lS(t t' l l'):lX (t::l) (t'::l')=lQ (aW t t') (lX l l'):=by rw[lX];rfl
theorem EF:∀{l l':List Tm},l.length=l'.length->(∀t∈l,∀t',aW t' t=- aW t t')->lX l' l=- lX l l'
 |[],[],_,_=>by simp[lX]
 |t::l,t'::l',hl,h=>by
  rw[lS,lS,h t (by simp) t',EF (by simpa using hl) (λu hu=>h u (by simp[hu])),qF]
theorem eG(t:Tm):∀t',aW t' t=- aW t t':=by
 induction t using Tm.ind with
 |h k s o l ih=>
  rintro⟨k',s',o',l'⟩;rw[lR,lR,qe (size (.mk k s o l)),qe k,show Cr s' s=- Cr s s' from A3 _ _,qe o,qe (l.length:Int)];rw[<-qF,<-qF,<-qF,<-qF]
  congr 4
  unfold lQ
  split
  rw[if_pos (by omega)]
  ·rename_i h
   rw[if_neg (by omega)];refine EF ?_ ih;have h':fC (l.length:Int) l'.length=0:=by omega
   have:=iX h';omega
theorem A5:∀{l l':List Tm},l.length=l'.length->(∀t∈l,∀t',aW t t'=0->t=t')->lX l l'=0->l=l'
 |[],[],_,_,_=>rfl
 |t::l,t'::l',hl,h,e=>by
  rw[lS]at e;obtain⟨e1,e2⟩:=jZ e;rw[h t (by simp) t' e1,A5 (by simpa using hl) (λu hu=>h u (by simp[hu])) e2]
theorem dm{t:Tm}:∀{t':Tm},aW t t'=0->t=t':=by
 induction t using Tm.ind with
 |h k s o l ih=>
  rintro⟨k',s',o',l'⟩ h;rw[lR]at h;obtain⟨_,h⟩:=jZ h;obtain⟨h1,h⟩:=jZ h;obtain⟨h2,h⟩:=jZ h;obtain⟨h3,h⟩:=jZ h;obtain⟨h4,h⟩:=jZ h;have h4':=iX h4;rw[iX h1,vU (yJ h2),iX h3,A5 (by omega) (λt ht t' e=>ih t ht e) h]
theorem cH(t:Tm):aW t t=0:=by have:=eG t t;omega
theorem EG:∀{l l' l'':List Tm},l.length=l'.length->l'.length=l''.length->(∀t∈l,∀t' V8,R9 (aW t t') (aW t' V8) (aW t V8))->R9 (lX l l') (lX l' l'') (lX l l'')
 |[],[],[],_,_,_=>by simp[lX];constructor <;>omega
 |t::l,t'::l',V8::l'',h1,h2,h=>by
  rw[lS,lS,lS];exact(h t (by simp) t' V8).lex (λ_ _=>EG (by simpa using h1) (by simpa using h2) (λu hu=>h u (by simp[hu])))
theorem O0(t:Tm):∀t' V8,R9 (aW t t') (aW t' V8) (aW t V8):=by
 induction t using Tm.ind with
 |h k s o l ih=>
  rintro⟨k',s',o',l'⟩ ⟨k2,s2,o2,l2⟩;rw[lR,lR,lR];refine(qd _ _ _).lex λ_ _=>(qd _ _ _).lex λ_ _=>(A0 _ _ _).lex λ_ _=>(qd _ _ _).lex λ_ _=>(qd _ _ _).lex λh1 h2=>?_;have PL:=iX h1;have h2':=iX h2;exact EG (by omega) (by omega) ih
theorem eD{a b c:Tm}(h1:aW a b<0)(h2:aW b c<0):aW a c<0:=(O0 a b c).lt h1 h2
abbrev Pw:=Tm×Int
def wq:Pw->PV
 |(.mk k s o l,n)=>.agg [.int .i64 k,.str s,.int .i64 o,.aa false (ae l),.int .i64 n]
def bq(l:List Pw):List PV:=l.map wq
def GU(t:Tm)(n:Int):Bool->List Pw->List Pw
 |d,[]=>if d then[]else[(t,n)]
 |d,p::l=>(if d=false/\aW t p.1<0 then[(t,n)]else[])++((if(if aW t p.1=0 then p.2+n else p.2)≠0 then[(p.1,if aW t p.1=0 then p.2+n else p.2)]else[])++GU t n (d ||decide (aW t p.1<=0)) l)
def jy(t:Tm)(n:Int):List Pw->List Pw
 |[]=>[(t,n)]
 |p::l=>if aW p.1 t<0 then p::jy t n l else if aW p.1 t=0 then(if p.2+n=0 then l else(p.1,p.2+n)::l)else(t,n)::p::l
def Bo(l:List Pw):Prop:=l.Pairwise λp q=>aW p.1 q.1<0
def Nz(l:List Pw):Prop:=∀p∈l,p.2≠0
theorem ux(t:Tm)(n:Int):∀(l:List Pw),Nz l->(∀p∈l,aW t p.1<0)->GU t n true l=l
 |[],_,_=>rfl
 |p::l,h1,h2=>by
  have e:=h2 p (by simp);have z:=h1 p (by simp);have ih:=ux t n l (λq hq=>h1 q (by simp[hq])) (λq hq=>h2 q (by simp[hq]));simp only[GU,abL,false_and,if_false,abK,ade,ih];rw[if_neg (show¬aW t p.1=0 by omega),if_pos z]
  rfl
theorem Er(t:Tm)(n:Int):∀(l:List Pw),Bo l->Nz l->GU t n false l=jy t n l
 |[],_,_=>by simp[GU,jy]
 |p::l,h1,h2=>by
  have z:=h2 p (by simp);obtain⟨s1,s2⟩:=abr.1 h1;have nz:Nz l:=λq hq=>h2 q (by simp[hq])
  have ng:=eG p.1 t;rw[GU,jy]
  by_cases c1:aW p.1 t<0
  ·rw[if_pos c1,if_neg (by omega),if_neg (show¬aW t p.1=0 by omega),if_pos z,show(false ||decide (aW t p.1<=0))=false by simp;omega,Er t n l s2 nz]
   rfl
  ·by_cases c2:aW p.1 t=0
   ·have e:=dm c2;have hd:=ux t n l nz (λq hq=>by rw[<-e];exact s1 q hq);rw[if_neg c1,if_pos c2,if_neg (by omega),if_pos (show aW t p.1=0 by omega),show(false ||decide (aW t p.1<=0))=true by simp;omega,hd]
    by_cases c3:p.2+n=0
    rw[if_pos c3,if_neg (by omega)];rfl;rw[if_neg c3,if_pos c3];rfl
   ·have hd:=ux t n l nz (λq hq=>eD (show aW t p.1<0 by omega) (s1 q hq));rw[if_neg c1,if_neg c2,if_pos ⟨rfl,by omega⟩,if_neg (show¬aW t p.1=0 by omega),if_pos z,show(false ||decide (aW t p.1<=0))=true by simp;omega,hd]
    rfl
theorem wu{t:Tm}{n:Int}:∀{l:List Pw} {p:Pw},p∈jy t n l->p.1=t\/∃q∈l,q.1=p.1
 |[],p,h=>by simp[jy]at h;exact .inl (by rw[h])
 |q::l,p,h=>by
  rw[jy]at h
  split at h
  ·rcases abc.1 h with rfl |h
   ·exact .inr ⟨p,by simp,rfl⟩
   ·rcases wu h with h |⟨r,h,e⟩
    ·exact .inl h
    ·exact .inr ⟨r,by simp[h],e⟩
  ·split at h
   ·split at h
    ·exact .inr ⟨p,by simp[h],rfl⟩
    ·rcases abc.1 h with rfl |h
     ·exact .inr ⟨q,by simp,rfl⟩
     ·exact .inr ⟨p,by simp[h],rfl⟩
   ·rcases abc.1 h with rfl |h
    ·exact .inl rfl
    ·exact .inr ⟨p,h,rfl⟩
theorem II{t:Tm}{n:Int}(hn:n≠0):∀{l:List Pw},Nz l->Nz (jy t n l)
 |[],_=>by intro p hp;simp[jy]at hp;subst hp;exact hn
 |q::l,h=>by
  have h1:Nz l:=λr hr=>h r (by simp[hr])
  rw[jy]
  split
  ·intro p hp
   rcases abc.1 hp with rfl |hp;exact h p (by simp);exact II hn h1 p hp
  ·split
   ·split
    ·exact h1
    ·intro p hp
     rcases abc.1 hp with rfl |hp
     assumption
     exact h1 p hp
   ·intro p hp
    rcases abc.1 hp with rfl |hp;exact hn;exact h p hp
theorem Es{t:Tm}{n:Int}:∀{l:List Pw},Bo l->Bo (jy t n l)
 |[],_=>by simp[jy,Bo]
 |q::l,h=>by
  obtain⟨s1,s2⟩:=abr.1 h;rw[jy];have ng:=eG q.1 t
  split
  ·rename_i c
   refine abr.2 ⟨λp hp=>?_,Es s2⟩;rcases wu hp with e |⟨r,hr,e⟩;rw[e];exact c;rw[<-e];exact s1 r hr
  ·split
   ·split
    ·exact s2
    ·exact abr.2 ⟨s1,s2⟩
   ·refine abr.2 ⟨λp hp=>?_,h⟩;have c:aW t q.1<0:=by omega
    rcases abc.1 hp with rfl |hp;exact c;exact eD c (s1 p hp)
theorem Et{t:Tm}{n:Int}:∀(l:List Pw),(jy t n l).length<=l.length+1
 |[]=>by simp[jy]
 |q::l=>by
  have:=Et (t:=t) (n:=n) l;rw[jy]
  (repeat' split) <;>simp <;>omega
def uF:List UInt8:=[109,117,108]
def mb:List UInt8:=[105,110,118]
def uG:List UInt8:=[111,110,101]
def dA:Tm->Bool
 | .mk k s o l=>decide (k=3)&& (decide (s.toList=uF)||decide (s.toList=mb)||decide (s.toList=uG))
mutual
def arity:Tm->Bool
 | .mk k s o l=>if dA (.mk k s o l)=false then true else
  if(s.toList=uF/\l.length<2)\/(s.toList=mb/\l.length≠1)\/(s.toList=uG/\l.length≠0)then false else mn l
def mn:List Tm->Bool
 |[]=>true
 |t::l=>if arity t=false then false else mn l
end
mutual
def gw(a:List Pw):Tm->Int->List Pw
 | .mk k s o l,n=>if dA (.mk k s o l)=false then jy (.mk k s o l) n a else ij a l (if s.toList=mb then -n else n)
def ij(a:List Pw):List Tm->Int->List Pw
 |[],_=>a
 |t::l,n=>ij (gw a t n) l n
end
mutual
def OI(a:List Pw):Tm->Int->List Pw
 | .mk k s o l,n=>if dA (.mk k s o l)=false then GU (.mk k s o l) n false a else yA a l (if s.toList=mb then -n else n)
def yA(a:List Pw):List Tm->Int->List Pw
 |[],_=>a
 |t::l,n=>yA (OI a t n) l n
end
mutual
theorem IJ:∀(t:Tm) (a:List Pw) (n:Int),Bo a->Nz a->n≠0->Bo (gw a t n)/\Nz (gw a t n)/\OI a t n=gw a t n
 | .mk k s o l,a,n,h1,h2,h3=>by
  rw[gw,OI]
  split
  exact⟨Es h1,II h3 h2,Er _ _ _ h1 h2⟩;exact Eu l a _ h1 h2 (by split <;>omega)
theorem Eu:∀(l:List Tm) (a:List Pw) (n:Int),Bo a->Nz a->n≠0->Bo (ij a l n)/\Nz (ij a l n)/\yA a l n=ij a l n
 |[],a,n,h1,h2,_=>by rw[ij,yA];exact⟨h1,h2,rfl⟩
 |t::l,a,n,h1,h2,h3=>by
  obtain⟨g1,g2,g3⟩:=IJ t a n h1 h2 h3;rw[ij,yA,g3];exact Eu l _ n g1 g2 h3
end
mutual
theorem yn:∀(t:Tm) (a:List Pw) (n:Int),((gw a t n).length:Int)<=a.length+size t
 | .mk k s o l,a,n=>by
  rw[gw];have:=cX l
  split
  ·have:=Et (t:=.mk k s o l) (n:=n) a;simp only[size];omega
  ·have:=AY l a (if s.toList=mb then -n else n);simp only[size];omega
theorem AY:∀(l:List Tm) (a:List Pw) (n:Int),((ij a l n).length:Int)<=a.length+dx l
 |[],a,n=>by simp[ij,dx]
 |t::l,a,n=>by
  have h1:=yn t a n;have h2:=AY l (gw a t n) n;rw[ij,dx];omega
end
def Bd(B:Int)(l:List Pw):Prop:=∀p∈l,-B<=p.2/\p.2<=B
theorem IK{B:Int}{t:Tm}{n:Int}(h1: -1<=n)(h2:n<=1)(hB:0<=B):∀{l:List Pw},Bd B l->Bd (B+1) (jy t n l)
 |[],_=>by intro p hp;simp[jy]at hp;subst hp;simp only;omega
 |q::l,h=>by
  have hl:Bd B l:=λr hr=>h r (by simp[hr])
  have yY:Bd (B+1) l:=λr hr=>by have:=hl r hr;omega
  have hq:=h q (by simp);rw[jy]
  split
  ·intro p hp
   rcases abc.1 hp with rfl |hp;omega;exact IK h1 h2 hB hl p hp
  ·split
   ·split
    ·exact yY
    ·intro p hp
     rcases abc.1 hp with rfl |hp;simp only;omega;exact yY p hp
   ·intro p hp
    rcases abc.1 hp with rfl |hp;simp only;omega;have:=h p hp;omega
mutual
theorem IL:∀(t:Tm) (a:List Pw) (n B:Int),-1<=n->n<=1->0<=B->Bd B a->Bd (B+size t) (gw a t n)
 | .mk k s o l,a,n,B,h1,h2,h3,h4=>by
  rw[gw];have:=cX l
  split
  ·intro p hp
   have:=IK h1 h2 h3 h4 p hp;simp only[size];omega
  ·intro p hp
   have:=Ew l a (if s.toList=mb then -n else n) B (by split <;>omega) (by split <;>omega) h3 h4 p hp;simp only[size];omega
theorem Ew:∀(l:List Tm) (a:List Pw) (n B:Int),-1<=n->n<=1->0<=B->Bd B a->Bd (B+dx l) (ij a l n)
 |[],a,n,B,h1,h2,h3,h4=>by rw[ij,dx];intro p hp;have:=h4 p hp;omega
 |t::l,a,n,B,h1,h2,h3,h4=>by
  have hs:=gN t;have g:=IL t a n B h1 h2 h3 h4;have g2:=Ew l (gw a t n) n (B+size t) h1 h2 (by omega) g;rw[ij,dx]
  intro p hp
  have:=g2 p hp;omega
end
def ka(c:Int):Bool:=decide ((97<=c/\c<=122)\/(65<=c/\c<=90))
def pS(c:Int):Bool:=decide (48<=c/\c<=57)
def oN(c:Int):Bool:=ka c ||pS c ||decide (c=95)||decide (c=35)
def ju:List UInt8->Bool
 |[]=>true
 |c::l=>oN c.toNat&&ju l
def BB:List UInt8->Bool
 |[]=>false
 |c::l=>decide (l.length<24)&&ka c.toNat&&ju (c::l)
def du(s:ByteArray):Bool:=BB s.toList
theorem bsize(s:ByteArray):s.toList.length=s.size:=by rw[ByteArray.toList_eq];exact ach
theorem Jj{s:ByteArray}{i:Nat}{c:UInt8}(h:s.toList[i]?=some c):s[i]?=some c:=by
 have cL:=ag h;rw[ByteArray.toList_eq,abD]at h;have Zj:i<s.size:=by rw[<-bsize];exact cL
 rw[getElem?_pos s i Zj];rw[aci Zj]at h;exact h
def node:Tm->Int
 | .mk k s o l=>if(k≠1/\k≠2/\k≠3)\/o<0\/5<o\/(k=3/\o≠0)\/(k≠3/\0<l.length)then 1 else if du s=false then 2 else if 8<l.length then 3 else 0
mutual
def nodes:Tm->Int
 | .mk k s o l=>if node (.mk k s o l)≠0 then node (.mk k s o l)else gy l
def gy:List Tm->Int
 |[]=>0
 |t::l=>if nodes t≠0 then nodes t else gy l
end
mutual
def depth:Tm->Int
 | .mk _ _ _ l=>fe l+1
def fe:List Tm->Int
 |[]=>0
 |t::l=>max (depth t) (fe l)
end
def valid(t:Tm):Int:=if nodes t≠0 then nodes t else if 400<size t\/40<depth t then 3 else 0
mutual
theorem nY:∀t,0<depth t/\depth t<=size t
 | .mk k s o l=>by have:=gP l;simp only[depth,size];omega
theorem gP:∀l,0<=fe l/\fe l<=dx l
 |[]=>by simp[fe,dx]
 |t::l=>by
  have h1:=nY t;have h2:=gP l;simp only[fe,dx];omega
end
def Zt:ByteArray:=⟨#[109,117,108]⟩
def Zu:ByteArray:=⟨#[105,110,118]⟩
def Zv:ByteArray:=⟨#[111,110,101]⟩
theorem Ly:Zt.toList=uF:=by rw[ByteArray.toList_eq];rfl
theorem Lz:Zu.toList=mb:=by rw[ByteArray.toList_eq];rfl
theorem LA:Zv.toList=uG:=by rw[ByteArray.toList_eq];rfl
theorem Fa{t:Tm}(h:dA t=false)(a:List Pw)(n:Int):gw a t n=jy t n a:=by
 obtain⟨k,s,o,l⟩:=t;rw[gw,if_pos h]
mutual
theorem CN{Q:Tm->Prop}{P:Tm->Prop}(hP:∀k s o l,Q (.mk k s o l)->dA (.mk k s o l)=false->P (.mk k s o l))(hQ:∀k s o l,Q (.mk k s o l)->∀t∈l,Q t):
  ∀(t:Tm) (a:List Pw) (n:Int),Q t->(∀p∈a,P p.1)->∀p∈gw a t n,P p.1
 | .mk k s o l,a,n,h1,h2=>by
  rw[gw]
  split
  ·rename_i hs
   intro p hp
   rcases wu hp with e |⟨q,hq,e⟩;rw[e];exact hP k s o l h1 hs;rw[<-e];exact h2 q hq
  exact zN hP hQ l a _ (hQ k s o l h1) h2
theorem zN{Q:Tm->Prop}{P:Tm->Prop}(hP:∀k s o l,Q (.mk k s o l)->dA (.mk k s o l)=false->P (.mk k s o l))(hQ:∀k s o l,Q (.mk k s o l)->∀t∈l,Q t):
  ∀(l:List Tm) (a:List Pw) (n:Int),(∀t∈l,Q t)->(∀p∈a,P p.1)->∀p∈ij a l n,P p.1
 |[],a,n,h1,h2=>by rw[ij];exact h2
 |t::l,a,n,h1,h2=>by
  rw[ij];exact zN hP hQ l _ n (λu hu=>h1 u (by simp[hu])) (CN hP hQ t a n (h1 t (by simp)) h2)
end
theorem lu:∀{l:List Tm},gy l=0->∀t∈l,nodes t=0
 |[],_,t,h=>by cases h
 |u::l,e,t,h=>by
  rw[gy]at e
  split at e
  ·rename_i hu;exact absurd e hu
  ·rename_i hu
   rcases abc.1 h with rfl |h;omega;exact lu e t h
theorem zO:∀{l:List Tm},∀t∈l,size t<=dx l
 |[],t,h=>by cases h
 |u::l,t,h=>by
  have h1:=gN u;have h2:=cX l;rw[dx];rcases abc.1 h with rfl |h;omega;have:=zO t h;omega
theorem re:∀{l:List Tm},∀t∈l,depth t<=fe l
 |[],t,h=>by cases h
 |u::l,t,h=>by
  rw[fe];rcases abc.1 h with rfl |h;omega;have:=re t h;omega
def VQ(S D:Int)(t:Tm):Prop:=nodes t=0/\size t<=S/\depth t<=D
theorem VQ.kids{S D k s o l}(h:VQ S D (.mk k s o l)):∀t∈l,VQ S D t:=by
 obtain⟨h1,h2,h3⟩:=h;rw[nodes]at h1
 split at h1
 ·rename_i hn;exact absurd h1 hn
 ·intro t ht
  have:=zO t ht;have:=re t ht;have:=cX l;simp only[size]at h2;simp only[depth]at h3;exact⟨lu h1 t ht,by omega,by omega⟩
theorem fw{t:Tm}:valid t=0↔VQ 400 40 t:=by
 unfold valid VQ
 constructor
 ·intro h
  split at h
  ·rename_i hn;exact absurd h hn
  ·rename_i hn
   split at h
   cases h
   exact⟨by omega,by omega,by omega⟩
 ·rintro⟨h1,h2,h3⟩;rw[if_neg (by omega),if_neg (by omega)]
theorem uH:∀{l:List Tm},(∀t∈l,nodes t=0)->gy l=0
 |[],_=>rfl
 |t::l,h=>by rw[gy,if_neg (by rw[h t (by simp)];simp),uH (λu hu=>h u (by simp[hu]))]
theorem CO{t:Tm}(h:dA t=false):arity t=true:=by
 obtain⟨k,s,o,l⟩:=t;rw[arity,if_pos h]
end Go.Pm
