/-
  Pm, a part. Conditions: none.
-/
import Derived.Test.YtimogkojklpdnaaGreatDoorPxAF
import Derived.Laws.Externs
import Derived.Laws.Cover3
import Derived.Test.YtimogkojklpdnaaGreatDoorRows
import Derived.WalkKit
import Derived.ProofKit
import Derived.Deep.Slices
import Derived.ChangeArms
import Derived.OpenShut
import Derived.JoinedCond
import Derived.WideKeyArgs
import Derived.Shelf.SlSortCmp.WholeK
import Derived.Lib.Overlaps
set_option linter.unusedVariables false
set_option linter.unusedSimpArgs false
set_option linter.unnecessarySimpa false
namespace Go.Pm
variable{w:World}{F:Nat->Prop}{β:List (Nat×Nat)}{h:ab}
theorem vS{C:cR}(K:gu C){run:iI}(S:ig C run){N:Nat}{ops:Array Oper}{Q:Exit->Act->World->Prop}(hd:ops.toList.all (jL N)=true)(rest:List Nat)(l2:List Oper):
  ∀(l:List Oper) (k:Nat) {w:World} {β:List (Nat×Nat)} {s s':St} {a:Act},ops.toList.drop k=l++l2->SR N w F β s a->dE C run ops l s=some s'->
   (∀a' w' β',SR N w' F β' s' a'->eg w s.h β w' s'.h β'->wpOps C.P ops Q rest a' w')->wpOps C.P ops Q (List.map (·+k) (List.range l.length)++rest) a w:=by
 intro l
 induction l with
 |nil=>
  intro k w β s s' a hl R e hQ
  simp[dE]at e;subst e;simpa using hQ a w β R (eg.refl w s.h β)
 |cons o r ih=>
  intro k w β s s' a hl R e hQ
  simp only[dE]at e
  have hk:ops[k]?=some o:=by
   rw[<-abQ];have:(ops.toList.drop k)[0]?=some o:=by rw[hl];rfl
   rwa[abS]at this
  have hr:ops.toList.drop (k+1)=r++l2:=by
   have:=congrArg (List.drop 1) hl;rw[List.drop_drop]at this;simpa using this
  have xU:List.map (·+k) (List.range (o::r).length)++rest=k::(List.map (·+(k+1)) (List.range r.length)++rest):=by
   rw[abx,adF];simp only[abD,abE,adh,abH]
   congr 2
   apply ach
   intro x _
   simp;omega
  rw[xU];simp only[wpOps,hk]
  split at e
  ·rename_i s1 he
   have XO:jL N o=true:=abk.1 hd o (by
    have:o∈ops.toList.drop k:=by rw[hl];simp
    exact ab4 this)
   have:=AW K S R XO he (Q:=Q) (next:=wpOps C.P ops Q (List.map (·+(k+1)) (List.range r.length)++rest)) (λa' w' β' R' S'=>ih (k+1) hr R' e (λa2 w2 β2 R2 S2=>hQ a2 w2 β2 R2 (S'.trans S2)))
   split
   ·rename_i hw;rw[if_pos hw]at this;exact .inl this
   ·rename_i hw;rw[if_neg hw]at this;exact this
  ·cases e
theorem CM{P:Program}{N:Nat}{ops:Array Oper}{Q:Exit->Act->World->Prop}{rest:List Nat}{k:Nat}{o:Oper}{s:St}{a:Act}{p:PV}{h':ab}(hk:ops[k]?=some o)(hg:o.guard=none)(hd:jL N o=true)(R:SR N w F β s a)
  (S:wg P 2 w F β s.h (execOp a.eval o) p h') (hK:∀a' w' β',SR N w' F β' ⟨cd s.ρ o.dst p,h'⟩ a'->eg w s.h β w' h' β'->wpOps P ops Q rest a' w'):wpOps P ops Q (k::rest) a w:=by
 simp only[wpOps,hk];have hw:Region.wanted o (yielded ops a.tmps)=true:=by simp[Region.wanted,hg]
 rw[if_pos hw]
 left
 have Iz:=iA hd R.sz;obtain⟨v,w',β',h1,h2,h3,h4,_⟩:=S
 have fin:∀u,u=v->wpOps P ops Q rest (a.put o.dst u) w':=by
  rintro u rfl;exact hK _ w' β' ⟨h3,(R.er.mono h4).put Iz h2,by rw[dQ];exact R.df,by rw[gC];exact R.sz⟩ h4
 unfold Oper.wp;rcases h1 with h1 |⟨h1,rfl⟩
 ·rw[h1];exact fin _ rfl
 ·rw[h1];exact fin _ rfl
theorem bY{C:cR}(K:gu C)(gp:∀n,ig C (fo C n)){N:Nat}{ops:Array Oper}{id:Nat}{Q:Exit->Act->World->Prop}(hd:ops.toList.all (jL N)=true){pre post:List Oper}{o:Oper}(ho:ops.toList=pre++o::post)(hg:o.guard=none)
  {s:St} {a:Act} (R:SR N w F β s a) {M M2:St->Prop} (e1:ah C ops pre s M)
  (hs:∀s1 a1 w1 β1,M s1->SR N w1 F β1 s1 a1->eg w s.h β w1 s1.h β1->∃p h',wg C.P 2 w1 F β1 s1.h (execOp a1.eval o) p h'/\ah C ops post ⟨cd s1.ρ o.dst p,h'⟩ M2)
  (hQ:∀s3 a3 w3 β3,M2 s3->SR N w3 F β3 s3 a3->eg w s.h β w3 s3.h β3->Q .normal a3 w3):(Code.region id ops false).wp C.P Q a w:=by
 refine wp_region ?_;obtain⟨s1,m1,n0,Tc⟩:=e1
 have Ze:ops.size=pre.length+(post.length+1):=by
  have:=congrArg List.length ho;simpa using this
 have xU:List.range ops.size=List.map (·+0) (List.range pre.length)++(pre.length::(List.map (·+(pre.length+1)) (List.range post.length)++[])):=by
  rw[Ze,List.range_add];simp only[acY,List.map_id',abJ]
  congr 1
  rw[adF];simp only[abD,acY,adh]
  congr 1
  apply ach
  intro x _
  simp;omega
 rw[xU];have XO:jL N o=true:=abk.1 hd o (by rw[ho];simp)
 have hk:ops[pre.length]?=some o:=by
  rw[<-abQ,ho,abt (abn _)];simp
 refine vS K (gp n0) hd _ (o::post) pre 0 (by simpa using ho) R (Tc n0 (abn _)) (λa1 w1 β1 R1 S1=>?_);obtain⟨p,h',os,e2⟩:=hs s1 a1 w1 β1 m1 R1 S1;obtain⟨s3,m3,n1,FA⟩:=e2;refine CM hk hg XO R1 os (λa2 w2 β2 R2 S2=>?_);refine vS K (gp n1) hd [] [] post (pre.length+1) ?_ R2 (FA n1 (abn _)) (λa3 w3 β3 R3 S3=>?_)
 ·have:ops.toList.drop (pre.length+1)=post:=by
   rw[ho,List.drop_append];simp
  simpa using this
 ·simp only[wpOps];exact hQ s3 a3 w3 β3 m3 R3 (S1.trans (S2.trans S3))
theorem cL{C:cR}(K:gu C)(hm:C.P.follows .mixedOrders=true)(gp:∀n,ig C (fo C n)){N:Nat}{c:Code}{s:St}{a:Act}{M:Ex->St->Prop}{Q:Exit->Act->World->Prop}(hc:codeOk N c=true)(e:Ev C c s M)(R:SR N w F β s a)
  (hQ:∀ex s' a' w' β',M ex s'->SR N w' F β' s' a'->eg w s.h β w' s'.h β'->Q (RY ex) a' w'):c.wp C.P Q a w:=by
 obtain⟨ex,s',m,n0,hn⟩:=e;exact E4 K hm (gp n0) c hc (hn n0 n0 (abn _) (abn _)) R (λa' w' β' R' S'=>hQ ex s' a' w' β' m R' S')
theorem jz{P:Program}{f:FuncId}{fn:Func}{c:Code}{args:List PV}{vs:List Value}{r:PV}{h':ab}(PG:P.funcs[f]?=some fn)(hc:fn.body=some c)(H:bm w F β h)(ha:L2 (aE w (Av F h β) β h) vs args)
  (hw:∀a,SR fn.ntmps w F β ⟨nB args,h⟩ a->c.wp P (λex a' w'=>(ex=.normal\/ex=.ret)/\∃s' β',SR fn.ntmps w' F β' s' a'/\eg w h β w' s'.h β'/\∃rs,dq P s'.h s'.ρ fn.results.toList=some rs/\
    ∀u,aE w' (Av F s'.h β') β' s'.h u (aO rs)->∃β2,aE w' (Av F h' β2) β2 h' u r/\bm w' F β2 h'/\eg w h β w' h' β2) a w):mZ P 2 w F β h f vs r h':=by
 refine calls_of_wp PG hc ?_;have hlen:=ha.1
 have R:SR fn.ntmps w F β ⟨nB args,h⟩ {tmps:=vs.toArray++Array.replicate (fn.ntmps - vs.toArray.size) undef,defers:=[]}:=by
  refine⟨H,λt=>?_,rfl,by simp;omega⟩;show aE w (Av F h β) β h ((vs.toArray++Array.replicate (fn.ntmps - vs.toArray.size) undef).getD t Go.undef) (args.getD t .undef)
  by_cases ht:t<args.length
  ·have e1:(vs.toArray++Array.replicate (fn.ntmps - vs.toArray.size) undef).getD t Go.undef=vs.getD t Go.undef:=by
    rw[acK,adk,if_pos (by simp;omega)];simp[List.getD]
   have e2:args.getD t .undef=args.getD t .any:=by simp[List.getD,ht]
   rw[e1,e2];exact ha.2 t ht
  ·have e1:(vs.toArray++Array.replicate (fn.ntmps - vs.toArray.size) undef).getD t Go.undef=Go.undef:=by
    rw[acK,adk];rw[if_neg (by simp;omega)];rw[adz]
    split <;>rfl
   have e2:args.getD t .undef=.undef:=by simp[List.getD,abC (show args.length<=t by omega)]
   rw[e1,e2];exact .undef
 refine Code.wp_mono ?_ (hw _ R);rintro ex a' w' ⟨hex,s',β',R',S',rs,hrs,pu⟩;obtain⟨u,r1,r2⟩:=vT (P:=P) R'.hr R'.er fn hrs;obtain⟨β2,f1,f2,f3⟩:=pu u r2;rcases hex with rfl |rfl
 ·exact⟨R'.df,u,r1,u,β2,rfl,f1,f2,f3,λhh=>by omega⟩
 ·exact⟨R'.df,u,r1,u,β2,rfl,f1,f2,f3,λhh=>by omega⟩
theorem bm.oV(H:bm w F β h){id:Nat}{o:aw}{bc:Nat×Nat}(eo:h[id]?=some o)(eb:β[id]?=some bc)(em:o.mu=.m)(fA:List PV)(im:Nat)(Ux:o.ep<im)(h1:fA.length<=bc.2)
  (h4:∀(i:Nat) (e:PV),fA[i]?=some e->o.es[i]?=some e\/((cells e).length=o.bM/\∀p∈cells e,p=.any)) (hz:0<o.bM:=by first |assumption |omega):
  bm w F β (h.set id {o with es:=fA,ep:=im})/\eg w h β w (h.set id {o with es:=fA,ep:=im}) β:=by
 obtain⟨T,cs,k1,k2,k3,k4,k5⟩:=(H.obj id o bc eo eb (by rw[em];simp)).c hz
 have GG:∀i:Nat,i<fA.length->i * o.bM+o.bM<=cs.size:=λi hi=>by
  have:(i+1) * o.bM<=bc.2 * o.bM:=abY _ (by omega);rw[ab9,Nat.one_mul]at this;omega
 have:=H.set eo eb em (w':=w) T cs fA im bc (abn _) k1 (λ_ _ _=>rfl) (.inl ⟨rfl,λhh=>by omega⟩) (Nat.le_of_lt Ux) rfl rfl rfl h1 k3 (λi e he=>by
  rcases h4 i e he with hh |⟨h5,h6⟩
  ·exact k5 i e hh
  ·refine⟨h5,λj p hp=>?_⟩;have hj:j<o.bM:=by have:=ag hp;omega
   have hi:=ag he;have:=GG i hi;refine⟨cs[i * o.bM+j],acz (by omega),?_⟩;rw[h6 p (aby hp)];exact .any _)
 rw[y8 eb]at this;exact this
theorem aE.oV{v:Value}{id ep n:Nat}{o:aw}{bc:Nat×Nat}(eo:h[id]?=some o)(eb:β[id]?=some bc)(em:o.mu=.m)(hv:aE w (Av F h β) β h v (.ak id ep 0 n))(he:o.ep=ep)(hn:n<=o.es.length)(fA:List PV)(im:Nat){A:Nat->Prop}:
  aE w A β (h.set id {o with es:=fA,ep:=im}) v (.ak id im 0 n):=by
 obtain⟨_,m2,m3⟩:=hv.dP;obtain⟨cap,c1,c2⟩:=m3 o bc eo eb (by rw[em];simp) he (by omega);exact .ak v id im 0 n {o with es:=fA,ep:=im} bc ⟨_,_,_,c1⟩ (abl (ag eo)) eb (by show o.mu≠.x;rw[em];simp) ⟨abn _,(m2 o eo).2⟩ (λ_ _=>⟨cap,c1,c2⟩)
end Go.Pm
namespace Go.Pm
open Go.Proofs
set_option maxRecDepth 20000
def TU:Mode->Bool
 | .pure=>true
 | .opened=>true
 |_=>false
def Y9:Mode->Bool
 | .no=>true
 | .ext _=>true
 |_=>false
def I9(C:cR)(f:FuncId):Bool:=!TU (C.mode f)||match C.P.funcs[f]? with
 |some fn=>match fn.body with
  |some c=>codeOk fn.ntmps c
  |none=>true
 |none=>true
def ES(C:cR)(f:FuncId):Bool:=Y9 (C.mode f)||match C.P.funcs[f]? with
 | some fn => fn.body.isSome && !(fn.name == "runtime.NumGoroutine")
 |none=>false
theorem V6:((List.range 437).all (I9 C))=true:=by kernel_rfl
theorem RQ:((List.range 437).all (ES C))=true:=by kernel_rfl
theorem BD{p:Nat->Bool}{n:Nat}(h:(List.range n).all p=true){f:Nat}(hf:f<n):p f=true:=abk.1 h f (adD.2 hf)
theorem ET{f:Nat}(h:437<=f):C.mode f=.no:=by
 show jP f=.no;unfold jP;have bN:∀k:Nat,k<437->¬f=k:=λk hk=>by omega
 have hl:∀l:List Nat,l.all (λk=>decide (k<437))=true->l.contains f=false:=by
  intro l hl
  cases hc:l.contains f with
  |false=>rfl
  |true=>
   have:=abk.1 hl f (by simpa using hc);have:=of_decide_eq_true this;omega
 rw[hl _ (by decide),hl _ (by decide)];simp only[abz,if_false]
 repeat' rw[if_neg (bN _ (by decide))]
 rw[if_neg (by omega:¬f<410)]
theorem pM:qD C where
 mixed:=by kernel_rfl
 Df f fn c hm hf hb:=by
  have cG:f<437:=by
   rcases ab0 f 437 with h |h
   ·exact h
   ·rw[ET h]at hm;rcases hm with hm |hm <;>cases hm
  have:=BD V6 cG;unfold I9 at this;rw[hf]at this;simp only[hb]at this;have hr:TU (C.mode f)=true:=by rcases hm with hm |hm <;>rw[hm] <;>rfl
  simpa[hr]using this
theorem Kj : ∀ f, (∀ _h : C.mode f = .no, False) → (∀ g, C.mode f ≠ .ext g) → ∃ fn, C.P.funcs[f]? = some fn ∧ fn.body.isSome = true ∧ (fn.name == "runtime.NumGoroutine") = false := by
 intro f hf bN
 have cG:f<437:=by
  rcases ab0 f 437 with h |h
  ·exact h
  ·exact(hf (ET h)).elim
 have:=BD RQ cG;unfold ES at this
 have hn:Y9 (C.mode f)=false:=by
  cases hm:C.mode f with
  |no=>exact(hf hm).elim
  |ext g=>exact(bN g hm).elim
  |_=>rfl
 rw[hn]at this;simp only[acD]at this
 split at this
 ·rename_i fn PG
  simp only[abq,acG]at this;exact⟨fn,PG,this.1,this.2⟩
 ·cases this
theorem VE:∀f g,C.mode f=.ext g->∀args r,g args=some r->∀(w:World) (A:Nat->Prop) (vs:List Value),L2 (ch w A) vs args->∃v,(callFunc f vs.toArray).run C.P w=.ok (.value v) w/\ch w A v r:=by
 intro f g hm args r hr w A vs ha
 have QW:jP f=.ext g:=hm;unfold jP at QW
 split at QW
 ·cases QW
 ·split at QW
  ·rename_i hf
   obtain rfl:=Mode.ext.inj QW;simp only at hr
   split at hr
   ·rename_i a b
    obtain rfl:=abi hr;obtain⟨hl,hh⟩:=ha
    match vs,hl with
    |[x,y],_=>
     have h0:=hh 0 (by simp);have h1:=hh 1 (by simp);simp only[adr,ads]at h0 h1
     cases h0
     cases h1
     subst hf;refine⟨_,?_,.int _ _⟩;rw[run_callFunc_extern (P:=C.P) Tryz.func194 (by kernel_rfl) (by kernel_rfl) (by kernel_rfl) (e:=Extern.BytealgCompare.compare) (by kernel_rfl)];show((Extern.BytealgCompare.compare #[.string a,.string b]).run C.P w).andThen _=_;rw[Lib.run_compareString]
     rfl
   ·cases hr
  ·repeat' split at QW
   all_goals cases QW
set_option maxRecDepth 100000
def L0:List FuncId:=[352,351,215]
noncomputable def C0:cR:=⟨C.P,λf=>if L0.contains f=true then .opened else .no⟩
theorem sL{f:FuncId}(h:L0.contains f=true):C0.mode f=.opened:=if_pos h
theorem xz(f:FuncId):C0.mode f=.opened\/C0.mode f=.no:=by
 by_cases hf:L0.contains f=true
 ·exact .inl (if_pos hf)
 ·exact .inr (if_neg hf)
theorem SX{f:FuncId}(h:C0.mode f≠.no):f∈L0:=by
 by_cases hf:L0.contains f=true
 ·simpa using hf
 ·exact(h (if_neg hf)).elim
def Mn(P:Program)(f:FuncId):Bool:=match P.funcs[f]? with
 | some fn => fn.body.isSome && !(fn.name == "runtime.NumGoroutine")
 |none=>false
theorem ZI:L0.all (Mn C0.P)=true:=by kernel_rfl
theorem K0:gu C0 where
 enters f hf _:=by
  have h:=abk.1 ZI f (SX (λh=>hf h));unfold Mn at h
  split at h
  ·rename_i fn PG
   simp only[abq,acG]at h;exact⟨fn,PG,h.1,h.2⟩
  ·cases h
 sF f g hh:=by rcases xz f with h |h <;>rw[h]at hh <;>cases hh
 cS f g hh:=by rcases xz f with h |h <;>rw[h]at hh <;>cases hh
 ext f g hh:=by rcases xz f with h |h <;>rw[h]at hh <;>cases hh
def BY(P:Program)(f:FuncId):Bool:=match P.funcs[f]? with
 |some fn=>match fn.body with
  |some c=>codeOk fn.ntmps c
  |none=>true
 |none=>true
theorem ZJ:L0.all (BY C0.P)=true:=by kernel_rfl
theorem KC0:qD C0 where
 mixed:=pM.mixed
 Df f fn c hm hf hb:=by
  have h1:BY C0.P f=true:=abk.1 ZJ f (SX (λh=>by rcases hm with hm |hm <;>rw[hm]at h <;>cases h));unfold BY at h1;rw[hf]at h1;simp only[hb]at h1;exact h1
theorem S0:∀n,ig C0 (fo C0 n):=xA K0 KC0
theorem bX:C0.P.follows .mixedOrders=true:=pM.mixed
namespace Zero
noncomputable def T6:lQ C0.P:=Go.Pm.T6
end Zero
variable{w:World}{F:Nat->Prop}{β:List (Nat×Nat)}{h:ab}
attribute [local irreducible] aD az aL aJ Ev ah aj ay aY
set_option maxHeartbeats 4000000
theorem jS{a:Act}{ρ:Nat->PV}(H:bm w F β h)(R:iz w (Av F h β) β h a ρ){t yt el:TypeId}{x:Operand}{fl:Bool}{es:List PV}(hu:C0.P.underlying t=some (.slice el))(hx:ev ρ x=.aa fl es):
  ∃bb,(bb=true->es=[])/\∀o:Oper,o.op=.binOp .eql t x (.const (.slice none 0 0)) yt->wg C0.P 2 w F β h (execOp a.eval o) (.bool bb) h:=by
 have hv:=R.ev x;rw[hx]at hv;obtain⟨ad,cap,e1,_,_⟩:=hv.fN.kG;refine⟨ad.isNone,λhb=>?_,λo ho=>⟨.bool ad.isNone,w,β,.inl ?_,.val (.bool _),H,eg.refl w h β,λ_=>dH.refl w⟩⟩
 ·have hn:ad=none:=by cases ad <;>simp_all
  subst hn;rcases hv.fN.uh with h0 |⟨b,off,FZ,Iw,pN,ev',_⟩
  ·exact h0
  ·rw[e1]at ev';cases ev'
 ·obtain⟨d,op,ty,pos,af,g⟩:=o;simp only at ho;subst ho;have h2:a.eval (.const (.slice none 0 0))=.slice none 0 0:=rfl;have g1:(eqGuard .eql t x (.const (.slice none 0 0)) (.slice ad es.length cap) (.slice none 0 0)).run C0.P w=.ok () w:=by simp[eqGuard]
  have g2:(binOp .eql t (.slice ad es.length cap) (.slice none 0 0)).run C0.P w=.ok (.bool ad.isNone) w:=by
   simp only[binOp];simp[run_equal_slice_nil w t el ad es.length cap hu]
  simp only[execOp,e1,h2,Sem.run_bind,g1,g2,Result.andThen_ok,Sem.run_pure]
theorem DB{C:cR}(T:lQ C.P){lv:Nat}{st xt el rk:TypeId}{sz gh:Nat}{z:PV}{full:Bool}(hk:T.kd st=some (.sl el))(gv:T.kd xt=some (.sl rk))(hs:T.ts el=some (sz+1))(hb:T.tb el=some gh)(hz:T.tz el=some z)
  (jo:gh<=1000) (hl:(cells z).length=sz+1) (ho:(cells z).all bH=true):bP C.P lv h st xt (.aa true []) (.aa full [])=some (.aa true [],h):=by
 unfold bP;rw[bz (T.cT _ _ hk)];simp only[T.dV _ _ hs,T.rU _ _ hb,T.nt _ _ hz,cC,bz (T.cT _ _ gv),cu];rw[if_pos ⟨by omega,by omega,⟨hl,ho⟩,rfl⟩]
 rfl
section
variable{C:cR}(T:lQ C.P)
variable{ops:Array Oper}{d:Nat}{ty:TypeId}{pos:String}{af:Array Edge}{r:List Oper}{ρ:Nat->PV}{L:List (Nat×PV)}{Q:St->Prop}
theorem R.lU{st xt el rk:TypeId}{sz gh:Nat}{z:PV}{full:Bool}{x y:Operand}(hx:cM L x=some (.aa true []))(hy:cM L y=some (.aa full []))(hk:T.kd st=some (.sl el))(gv:T.kd xt=some (.sl rk))(hs:T.ts el=some (sz+1))(hb:T.tb el=some gh)(hz:T.tz el=some z)
  (jo:gh<=1000) (hl:(cells z).length=sz+1) (ho:(cells z).all bH=true) (kk:ah C ops r ⟨al ((d,.aa true [])::L) ρ,h⟩ Q):
  ah C ops (⟨some d,.call ⟨.builtin .append,#[x,y],#[st,xt]⟩,ty,pos,af,none⟩::r) ⟨al L ρ,h⟩ Q:=by
 refine ah.fe (λrun=>?_) kk;have mK:=DB T (h:=h) (lv:=2) (full:=full) hk gv hs hb hz jo hl ho;simp only[au,bt,abD,abM,an hx,an hy,mK]
theorem R.jy{st xt el rk:TypeId}{sz gh:Nat}{z:PV}{full:Bool}{ys:List PV}{x y:Operand}(hx:cM L x=some (.aa true []))(hy:cM L y=some (.aa full ys))(hk:T.kd st=some (.sl el))(gv:T.kd xt=some (.sl rk))(hs:T.ts el=some (sz+1))(hb:T.tb el=some gh)(hz:T.tz el=some z)
  (jo:gh<=1000) (hl:(cells z).length=sz+1) (ho:(cells z).all bH=true) (AQ:dK (sz+1) ys) (bN:ys≠[]) (hn:ys.length<1000000000) (kk:ah C ops r ⟨al ((d,.ak h.length 0 0 ys.length)::L) ρ,h++[⟨.m,0,sz+1,ys⟩]⟩ Q):
  ah C ops (⟨some d,.call ⟨.builtin .append,#[x,y],#[st,xt]⟩,ty,pos,af,none⟩::r) ⟨al L ρ,h⟩ Q:=by
 refine ah.fe (λrun=>?_) kk;have mK:=gF T (h:=h) (lv:=2) (full:=full) (by decide) hk gv hs hb hz jo hl ho AQ (by cases ys with |nil=>exact absurd rfl bN |cons=>rfl) hn;simp only[au,bt,abD,abM,an hx,an hy,mK]
end
namespace Zero
theorem Ix{fl:Bool}{es:List PV}{vs:List Value}(H:bm w F β h)(ha:L2 (aE w (Av F h β) β h) vs [.aa fl es])(iK:dK 4 es)(hn:es.length<1000000000){r:PV}{h':ab}
  (hr:(es=[]/\r=.aa true []/\h'=h)\/(es≠[]/\r=.ak h.length 0 0 es.length/\h'=h++[⟨.m,0,4,es⟩])):mZ C0.P 2 w F β h 45 vs r h':=by
 refine jz (P:=C0.P) Tryz.func45 rfl H ha (λa RR=>?_);refine wp_seq ?_;refine cL K0 bX S0 (M:=λex s'=>ex=.normal/\∃ρ',s'=⟨al [(0,.aa fl es)] ρ',h⟩) rfl ?_ RR ?_
 ·rw[iB];refine wB ?_;exact⟨rfl,_,St.aU ⟨rfl,trivial⟩⟩
 rintro ex s' a1 w1 β1 ⟨rfl,ρ1,rfl⟩ R1 S1;refine wp_seq ?_;refine wp_seq ?_;apply bY K0 S0 (pre:=[_]) (post:=[]) (R:=R1) (M:=λs'=>∃ρ',s'=⟨al [(0,.aa fl es),(3,.aa fl es)] ρ',h⟩) (M2:=λs'=>∃bb ρ',s'=⟨al [(0,.aa fl es),(4,.bool bb)] ρ',h⟩/\(bb=true->es=[]))
 ·rfl
 ·rfl
 ·refine wB ?_;exact⟨_,St.aU ⟨rfl,rfl,trivial⟩⟩
 ·rintro s1 a2 w2 β2 ⟨ρ2,rfl⟩ R2 S2;obtain⟨bb,hb,os⟩:=jS (t:=31) (yt:=31) (el:=33) (x:=.tmp 3) (fl:=fl) (es:=es) R2.hr R2.er (bz (T6.cT 31 _ rfl)) (dC (L:=[(0,.aa fl es),(3,.aa fl es)]) (t:=3) rfl ρ2);refine⟨.bool bb,h,os _ rfl,ah.nil ⟨bb,al ((4,.bool bb)::[(0,.aa fl es),(3,.aa fl es)]) ρ2,?_,hb⟩⟩;show(⟨cd (al [(0,.aa fl es),(3,.aa fl es)] ρ2) (some 4) (.bool bb),h⟩:St)=_;rw[cj];exact St.aU ⟨rfl,rfl,trivial⟩
 rintro s3 a3 w3 β3 ⟨bb,ρ3,rfl,hb⟩ R3 S3
 cases bb
 ·refine cL K0 bX S0 (M:=λex s'=>ex=.normal/\∃ρ',s'=⟨al [(0,.aa fl es)] ρ',h⟩) rfl ?_ R3 ?_
  ·refine wB ?_;exact⟨rfl,_,St.aU ⟨rfl,trivial⟩⟩
  rintro ex s' a4 w4 β4 ⟨rfl,ρ4,rfl⟩ R4 S4;refine cL K0 bX S0 (M:=λex s'=>ex=.ret/\∃ρ',s'=⟨al [(2,r)] ρ',h'⟩) rfl ?_ R4 ?_
  ·refine wB ?_;rcases hr with⟨rfl,rfl,rfl⟩|⟨bN,rfl,rfl⟩
   ·apply R.lU T6;exact rfl;exact rfl;exact rfl;exact rfl;exact rfl;exact rfl;exact rfl;exact(by decide);exact rfl;exact rfl;refine wB ?_;exact⟨rfl,_,St.aU ⟨rfl,trivial⟩⟩
   ·apply R.jy T6;exact rfl;exact rfl;exact rfl;exact rfl;exact rfl;exact rfl;exact rfl;exact(by decide);exact rfl;exact rfl;exact iK;exact bN;exact hn;refine wB ?_;exact⟨rfl,_,St.aU ⟨rfl,trivial⟩⟩
  rintro ex s5 a5 w5 β5 ⟨rfl,ρ5,rfl⟩ R5 S5;refine⟨.inr rfl,_,β5,R5,((S1.trans S3).trans S4).trans S5,[r],?_,λu hu=>⟨β5,hu,R5.hr,((S1.trans S3).trans S4).trans S5⟩⟩;exact eF (L:=[(2,r)]) rfl
 ·obtain rfl:=hb rfl;rcases hr with⟨_,rfl,rfl⟩|⟨bN,_⟩
  ·refine cL K0 bX S0 (M:=λex s'=>ex=.ret/\∃ρ',s'=⟨al [(2,.aa true [])] ρ',h'⟩) rfl ?_ R3 ?_
   ·refine wB ?_;exact⟨rfl,_,St.aU ⟨rfl,trivial⟩⟩
   rintro ex s5 a5 w5 β5 ⟨rfl,ρ5,rfl⟩ R5 S5;refine⟨.inr rfl,_,β5,R5,(S1.trans S3).trans S5,[.aa true []],?_,λu hu=>⟨β5,hu,R5.hr,(S1.trans S3).trans S5⟩⟩;exact eF (L:=[(2,.aa true [])]) rfl
  ·exact absurd rfl bN
 ·rfl
theorem Iy{fl:Bool}{es:List PV}{vs:List Value}(H:bm w F β h)(ha:L2 (aE w (Av F h β) β h) vs [.aa fl es])(iK:dK 1 es)(hn:es.length<1000000000){r:PV}{h':ab}
  (hr:(es=[]/\r=.aa true []/\h'=h)\/(es≠[]/\r=.ak h.length 0 0 es.length/\h'=h++[⟨.m,0,1,es⟩])):mZ C0.P 2 w F β h 397 vs r h':=by
 refine jz (P:=C0.P) Tryz.func397 rfl H ha (λa RR=>?_);refine wp_seq ?_;refine cL K0 bX S0 (M:=λex s'=>ex=.normal/\∃ρ',s'=⟨al [(0,.aa fl es)] ρ',h⟩) rfl ?_ RR ?_
 ·rw[iB];refine wB ?_;exact⟨rfl,_,St.aU ⟨rfl,trivial⟩⟩
 rintro ex s' a1 w1 β1 ⟨rfl,ρ1,rfl⟩ R1 S1;refine wp_seq ?_;refine wp_seq ?_;apply bY K0 S0 (pre:=[_]) (post:=[]) (R:=R1) (M:=λs'=>∃ρ',s'=⟨al [(0,.aa fl es),(3,.aa fl es)] ρ',h⟩) (M2:=λs'=>∃bb ρ',s'=⟨al [(0,.aa fl es),(4,.bool bb)] ρ',h⟩/\(bb=true->es=[]))
 ·rfl
 ·rfl
 ·refine wB ?_;exact⟨_,St.aU ⟨rfl,rfl,trivial⟩⟩
 ·rintro s1 a2 w2 β2 ⟨ρ2,rfl⟩ R2 S2;obtain⟨bb,hb,os⟩:=jS (t:=263) (yt:=263) (el:=175) (x:=.tmp 3) (fl:=fl) (es:=es) R2.hr R2.er (bz (T6.cT 263 _ rfl)) (dC (L:=[(0,.aa fl es),(3,.aa fl es)]) (t:=3) rfl ρ2);refine⟨.bool bb,h,os _ rfl,ah.nil ⟨bb,al ((4,.bool bb)::[(0,.aa fl es),(3,.aa fl es)]) ρ2,?_,hb⟩⟩;show(⟨cd (al [(0,.aa fl es),(3,.aa fl es)] ρ2) (some 4) (.bool bb),h⟩:St)=_;rw[cj];exact St.aU ⟨rfl,rfl,trivial⟩
 rintro s3 a3 w3 β3 ⟨bb,ρ3,rfl,hb⟩ R3 S3
 cases bb
 ·refine cL K0 bX S0 (M:=λex s'=>ex=.normal/\∃ρ',s'=⟨al [(0,.aa fl es)] ρ',h⟩) rfl ?_ R3 ?_
  ·refine wB ?_;exact⟨rfl,_,St.aU ⟨rfl,trivial⟩⟩
  rintro ex s' a4 w4 β4 ⟨rfl,ρ4,rfl⟩ R4 S4;refine cL K0 bX S0 (M:=λex s'=>ex=.ret/\∃ρ',s'=⟨al [(2,r)] ρ',h'⟩) rfl ?_ R4 ?_
  ·refine wB ?_;rcases hr with⟨rfl,rfl,rfl⟩|⟨bN,rfl,rfl⟩
   ·apply R.lU T6;exact rfl;exact rfl;exact rfl;exact rfl;exact rfl;exact rfl;exact rfl;exact(by decide);exact rfl;exact rfl;refine wB ?_;exact⟨rfl,_,St.aU ⟨rfl,trivial⟩⟩
   ·apply R.jy T6;exact rfl;exact rfl;exact rfl;exact rfl;exact rfl;exact rfl;exact rfl;exact(by decide);exact rfl;exact rfl;exact iK;exact bN;exact hn;refine wB ?_;exact⟨rfl,_,St.aU ⟨rfl,trivial⟩⟩
  rintro ex s5 a5 w5 β5 ⟨rfl,ρ5,rfl⟩ R5 S5;refine⟨.inr rfl,_,β5,R5,((S1.trans S3).trans S4).trans S5,[r],?_,λu hu=>⟨β5,hu,R5.hr,((S1.trans S3).trans S4).trans S5⟩⟩;exact eF (L:=[(2,r)]) rfl
 ·obtain rfl:=hb rfl;rcases hr with⟨_,rfl,rfl⟩|⟨bN,_⟩
  ·refine cL K0 bX S0 (M:=λex s'=>ex=.ret/\∃ρ',s'=⟨al [(2,.aa true [])] ρ',h'⟩) rfl ?_ R3 ?_
   ·refine wB ?_;exact⟨rfl,_,St.aU ⟨rfl,trivial⟩⟩
   rintro ex s5 a5 w5 β5 ⟨rfl,ρ5,rfl⟩ R5 S5;refine⟨.inr rfl,_,β5,R5,(S1.trans S3).trans S5,[.aa true []],?_,λu hu=>⟨β5,hu,R5.hr,(S1.trans S3).trans S5⟩⟩;exact eF (L:=[(2,.aa true [])]) rfl
  ·exact absurd rfl bN
 ·rfl
end Zero
end Go.Pm
namespace Go.Pm
open Go.Proofs
attribute [local irreducible] aD az aL aJ Ev ah aj ay aY
set_option maxRecDepth 4000
set_option maxHeartbeats 8000000
theorem nO(s:ByteArray)(l:List Tm)(hl:l.length<100000000):aI C 43 [.str s,.aa false (ae l)] (enc (.mk 3 s 0 l)):=by
 refine aI.of (ay.dG Tryz.func43 rfl ?_);have cr:=ai l;have ga:=oM l;have Xe:=aZ l;have hv:=fk l;rw[bh];generalize ae l=es at cr ga Xe hv ⊢;refine wB ?_
 cases es with
 |nil=>
  apply R.lU T6;exact rfl;exact rfl;exact rfl;exact rfl;exact rfl;exact rfl;exact rfl;exact(by decide);exact rfl;exact rfl;refine wB ?_;refine R.iM T6 (n:=0) (o:=⟨.m,0,4,[.agg [.int .i64 0,.str ByteArray.empty,.int .i64 0,.aa true []]]⟩) (i:=0) (e:=.agg [.int .i64 0,.str ByteArray.empty,.int .i64 0,.aa true []]) rfl rfl rfl rfl rfl rfl rfl rfl (abn 4) ?_;refine wB ?_;exact⟨_,rfl,by simp[b9,aR]⟩
 |cons e es=>
  apply R.jy T6;exact rfl;exact rfl;exact rfl;exact rfl;exact rfl;exact rfl;exact rfl;exact(by decide);exact rfl;exact rfl;exact ga;exact(by simp);exact(by omega);refine wB ?_;refine R.iM T6 (n:=0) (o:=⟨.m,0,4,[.agg [.int .i64 0,.str ByteArray.empty,.int .i64 0,.aa true []]]⟩) (i:=0) (e:=.agg [.int .i64 0,.str ByteArray.empty,.int .i64 0,.aa true []]) rfl rfl rfl rfl rfl rfl rfl rfl (abn 4) ?_;refine wB ?_;refine⟨.agg [.int .i64 3,.str s,.int .i64 0,.aa false (e::es)],?_,by show PV.agg [.int .i64 3,.str s,.int .i64 0,.aa false (aR (e::es))]=_;rw[Xe]⟩;show ke _ (.agg [.int .i64 3,.str s,.int .i64 0,.ak 1 0 0 (e::es).length])=_;simp[ke,nw,oB,aW,getM,hv]
end Go.Pm
namespace Go.Pm
open Go.Proofs
set_option maxRecDepth 4000
set_option maxHeartbeats 8000000
def iN(l:List (List Pw)):List PV:=l.map λp=>.aa false (br p)
def jR(l:List (List Pw)):List Tm:=l.flatMap λp=>p.map (·.1)
def Tm.k:Tm->Int | .mk k _ _ _=>k
def Tm.s:Tm->ByteArray | .mk _ s _ _=>s
def Tm.o:Tm->Int | .mk _ _ o _=>o
def Tm.l:Tm->List Tm | .mk _ _ _ l=>l
theorem ao(t:Tm):enc t=.agg [.int .i64 t.k,.str t.s,.int .i64 t.o,.aa false (ae t.l)]:=by cases t;exact bh _ _ _ _
theorem zj(t:Tm)(n:Int):xv (t,n)=.agg [.int .i64 t.k,.str t.s,.int .i64 t.o,.aa false (ae t.l),.int .i64 n]:=by cases t;rfl
attribute [simp] ar aW aR b9 fk aZ ra xj rP oE
@[simp] theorem DI(t:Tm):PV.agg [.int .i64 t.k,.str t.s,.int .i64 t.o,.aa false (ae t.l)]=enc t:=(ao t).symm
@[simp] theorem LM(t:Tm)(n:Int):PV.agg [.int .i64 t.k,.str t.s,.int .i64 t.o,.aa false (ae t.l),.int .i64 n]=xv (t,n):=(zj t n).symm
theorem dy(a b:List PV):ar (a++b)=(ar a&&ar b):=by rw[bB,acj,<-bB,<-bB]
attribute [simp] dy
@[simp] theorem WA(p:Pw):aW (xv p)=true:=by obtain⟨t,n⟩:=p;rw[zj];simp
@[simp] theorem ZD(p:Pw):b9 (xv p)=xv p:=by obtain⟨t,n⟩:=p;rw[zj];simp[-LM,-DI]
@[simp] theorem Xj:br []=[]:=rfl
@[simp] theorem pY:ae []=[]:=by simp[ae]
@[simp] theorem Xk(l:List Tm):(ae l).length=l.length:=ai l
@[simp] theorem WB(l:List Pw):(br l).length=l.length:=fh l
theorem bg{l p q:List Tm}{t:Tm}(e:l=p++t::q):(ae l)[p.length]?=some (.agg [.int .i64 t.k,.str t.s,.int .i64 t.o,.aa false (ae t.l)]):=by rw[c9,e,<-ao];simp
theorem DH{l p q:List Pw}{t:Tm}{n:Int}(e:l=p++(t,n)::q):(br l)[p.length]?=some (.agg [.int .i64 t.k,.str t.s,.int .i64 t.o,.aa false (ae t.l),.int .i64 n]):=by rw[br,e,<-zj];simp
set_option maxRecDepth 100000
set_option maxHeartbeats 2000000
instance:Inhabited Tm:=⟨dM⟩
def P3:Nat->Prop:=λ_=>False
theorem HF{w:World}{a:Addr}{v:Value}(h:w.cell? a=some v):∃b off,a=⟨b,off,none⟩:=by
 obtain⟨b,off,sp⟩:=a
 cases sp with
 |none=>exact⟨b,off,rfl⟩
 |some s=>
  exfalso;unfold World.cell? at h
  split at h
  ·simp at h
  ·cases h
theorem Zk(a:Addr):a.add 0=a:=by obtain⟨b,off,sp⟩:=a;simp[Addr.add]
open Go.Proofs.YtimogkojklpdnaaGreatDoor in
theorem Fc{H E:Type}(B:E->Nat):∀(l:List E) (ds:List (DataW H)),l.length=ds.length->(∀(i:Nat) (t:E) (d:DataW H),l[i]?=some t->ds[i]?=some d->B t<=Rows.uptoBulk d)->(l.map B).sum<=Rows.uptoBulkAll ds
 |[],_,_,_=>by simp
 |t::l,[],h,_=>by simp at h
 |t::l,d::ds,h,hb=>by
  have h1:=hb 0 t d rfl rfl;have h2:=Fc B l ds (by simpa using h) (λi t' d' e1 e2=>hb (i+1) t' d' (by simpa using e1) (by simpa using e2));simp only[abD,adU,Rows.uptoBulkAll];omega
open Go.Proofs.YtimogkojklpdnaaGreatDoor in
theorem yN{H:Type}{ec:TypeId×Value->H}{w:World}{sp:Nat->Bool}{held:Bool}{ty el:TypeId}{sz:Nat}{E:Type}[Inhabited E](encE:E->PV)(B:E->Nat)(hk:C.P.underlying ty=some (.slice el))(hc:C.P.cellsOf el=sz)(ni:0<sz)(hl:∀e,(Pm.cells (encE e)).length=sz)
  (elem:∀(n:Nat) (cs:List Value) (x:DataW H×List MemPlace),DataW.trod ec C.P w 0 sp held n el cs=some x->∃e:E,cs.length=sz/\(∀j,j<sz->ch w P3 (cs.getD j undef) ((Pm.cells (encE e)).getD j .any))/\B e<=Rows.uptoBulk x.1)
  {n:Nat} {cs:List Value} {x:DataW H×List MemPlace} (h:DataW.trod ec C.P w 0 sp held n ty cs=some x):∃(c:Value) (l:List E),cs=[c]/\ch w P3 c (.aa false (l.map encE))/\(l.map B).sum+1<=Rows.uptoBulk x.1:=by
 rcases DataW.trod_slice hk h with⟨e3,rfl⟩|⟨a,len,cap,cu,rest,n2,Tq,e3,rfl,hb,hle,Cs,Zl,cr,_,_⟩
 ·exact⟨_,[],e3,.gY none 0 false (λh=>by cases h),by simp[Rows.uptoBulk]⟩
 ·subst hc
  have each:∀i,i<len->∃q:List Value×E,w.cells? 0 (a.add (i * C.P.cellsOf el)) (C.P.cellsOf el)=some q.1/\(q.1.length=C.P.cellsOf el/\∀j,j<C.P.cellsOf el->ch w P3 (q.1.getD j undef) ((Pm.cells (encE q.2)).getD j .any))/\∀y,cu[i]?=some y->B q.2<=Rows.uptoBulk y.1:=by
   intro i hi
   have h1:=cr i hi;obtain⟨y,hy⟩:∃y,cu[i]?=some y:=⟨cu[i],abo (by omega)⟩;rw[hy]at h1
   cases hc:w.cells? 0 (a.add (i * C.P.cellsOf el)) (C.P.cellsOf el)with
   |none=>rw[hc]at h1;cases h1
   |some jH=>
    rw[hc]at h1;obtain⟨t,t1,t2,t3⟩:=elem n2 jH y h1;exact⟨(jH,t),rfl,⟨t1,t2⟩,λy' hy'=>by rw[hy]at hy';obtain rfl:=abi hy';exact t3⟩
  obtain⟨q,hq⟩:=Deep.choose_lt each;have wQ:((List.range len).map λi=>(q i).2).length=len:=by simp
  have wb:∀i,i<len->((List.range len).map λi=>(q i).2)[i]?=some (q i).2:=λi hi=>by rw[abB,adP hi];rfl
  refine⟨_,(List.range len).map λi=>(q i).2,e3,?_,?_⟩
  ·by_cases h0:len=0
   ·subst h0;exact .gY (some a) cap false (λh=>by cases h)
   ·have W0:=(hq 0 (by omega)).1;obtain⟨_,dw,FE⟩:=World.cells?_some W0;have Au:=FE 0 ni;rw[ac6,Zk,Zk]at Au;obtain⟨v0,Dw⟩:∃v,(q 0).1[0]?=some v:=⟨(q 0).1[0],abo (by omega)⟩;rw[Dw]at Au;obtain⟨b,off,rfl⟩:=HF Au;have iK:(((List.range len).map λi=>(q i).2).map encE).length=len:=by simp
    have hgd:∀i,i<len->(((List.range len).map λi=>(q i).2).map encE).getD i .any=encE (q i).2:=λi hi=>by
     rw[List.getD,abB,wb i hi];rfl
    have key:ch w P3 (.slice (some ⟨b,off,none⟩) (((List.range len).map λi=>(q i).2).map encE).length cap) (.aa false (((List.range len).map λi=>(q i).2).map encE)):=by
     refine .aa b off cap (C.P.cellsOf el) false _ (λi j=>(q i).1.getD j undef) (λh=>?_) (by omega) (λh=>by cases h) (λh=>h) ni (λi hi=>?_) (λi j hi hj=>?_) (λi j hi hj=>?_)
     ·rw[h]at iK;simp at iK;omega
     ·rw[hgd i (by omega)];exact hl _
     ·obtain⟨_,dw,FE⟩:=World.cells?_some (hq i (by omega)).1;have:=FE j hj;rw[eX,eX]at this;rw[show off+(i * C.P.cellsOf el+j)=off+i * C.P.cellsOf el+j by omega,this,abo (by omega)];simp[List.getD,abo (show j<(q i).1.length by omega)]
     ·rw[hgd i (by omega)];exact(hq i (by omega)).2.1.2 j hj
    rw[iK]at key;exact key
  ·have:=Fc B ((List.range len).map λi=>(q i).2) (cu.map (·.1)) (by simp[Zl]) (λi t d e1 e2=>by
    have hi:i<len:=by have:=ag e1;rwa[wQ]at this
    rw[wb i hi]at e1;obtain rfl:=abi e1;rw[abB]at e2
    cases hy:cu[i]? with
    |none=>rw[hy]at e2;cases e2
    |some y=>
     rw[hy]at e2;obtain rfl:=abi e2;exact(hq i hi).2.2 y hy)
   simp only[Rows.uptoBulk];omega
instance:Inhabited Pw:=⟨(dM,0)⟩
theorem dH.kept{W W':World}(g:dH W W')(may:MemPlace->Prop):W.keptBut W' may:=by
 refine⟨g.os,g.output,λi hi=>?_⟩;rw[g.aU i hi]
 cases W.heap[i]? with
 |none=>rfl
 |some o=>cases o <;>simp
def wo{α:Type}(p:α->Bool)(l:List α):Int:=match l.findIdx? p with |some i=>i |none=>-1
theorem qO{α:Type}{p:α->Bool}{a q:List α}{x:α}(h:∀y∈a,p y=false)(hx:p x=true):wo p (a++x::q)=a.length:=by
 unfold wo;rw[List.findIdx?_append,adw.2 h];simp[List.findIdx?_cons,hx]
theorem lJ{α:Type}{p:α->Bool}{a:List α}(h:∀y∈a,p y=false):wo p a=-1:=by
 unfold wo;rw[adw.2 h]
theorem tf{α:Type}(p:α->Bool)(l:List α):decide (0<=wo p l)=l.any p:=by
 unfold wo
 cases h:l.findIdx? p with
 |none=>
  rw[adw]at h;have:l.any p=false:=by rw[acH];intro x hx;simp[h x hx]
  rw[this];rfl
 |some i=>
  obtain⟨h1,h2,_⟩:=List.findIdx?_eq_some_iff_getElem.1 h;have:l.any p=true:=aci.2 ⟨_,abV h1,h2⟩;rw[this];simp
@[simp] theorem Wk(l:List Pw):dK (4+1) (br l):=by
 unfold dK br;rw[List.all_map,abk];rintro⟨t,n⟩ _;simp only[Function.comp,zj]
 rfl
def vt:List Pw->Tm->Int
 |[],_=>0
 |p::l,t=>if aT p.1 t=0 then p.2 else vt l t
theorem MA{p q:List Pw}{x:Pw}{t:Tm}(h:∀y∈p,aT y.1 t≠0)(hx:aT x.1 t=0):vt (p++x::q) t=x.2:=by
 induction p with
 |nil=>rw[abT,vt,if_pos hx]
 |cons y p ih=>rw[abH,vt,if_neg (h y (by simp)),ih (λz hz=>h z (by simp[hz]))]
theorem JN{l p q:List (List Pw)}{x:List Pw}(e:l=p++x::q):(iN l)[p.length]?=some (.aa false (br x)):=by rw[iN,e];simp
@[simp] theorem Tf(l:List (List Pw)):(iN l).length=l.length:=by simp[iN]
@[simp] theorem Tg(l:List (List Pw)):ar (iN l)=true:=by induction l with |nil=>rfl |cons x l ih=>simpa[iN]using ih
@[simp] theorem Th(l:List (List Pw)):aR (iN l)=iN l:=by induction l with |nil=>rfl |cons x l ih=>simpa[iN]using ih
def fS(l:List Int):List PV:=l.map λx=>.int .i64 x
@[simp] theorem WD(l:List Int):(fS l).length=l.length:=by simp[fS]
@[simp] theorem Uj(l:List Int):ar (fS l)=true:=by induction l with |nil=>rfl |cons x l ih=>simpa[fS]using ih
@[simp] theorem Uk(l:List Int):aR (fS l)=fS l:=by induction l with |nil=>rfl |cons x l ih=>simpa[fS]using ih
def fj(t:Tm):List Tm->List Tm
 |[]=>[t]
 |x::r=>if aT t x<=0 then(if aT t x<0 then t::x::r else x::r)else x::fj t r
attribute [local irreducible] aD az aL aJ Ev ah aj ay aY
theorem MB(t:Tm)(l:List Tm)(ht:ax t<1000000000)(hb:∀x∈l,ax x<1000000000)(hl:l.length<1000000):aI C 127 [.aa false (ae l),enc t] (.aa false (ae (fj t l))):=by
 have cr:(ae l).length=l.length:=by simp
 rw[ao];refine aI.x T6 Tryz.func127 rfl ?_;refine wA ?_;refine cO.zip T6 l (λp q L H=>∃v acc d,L=[(0,.aa false (ae l)),(3,.ptr 0 0 0 0),(5,v),(6,.bool d),(7,.int .i64 p.length)]/\HV H/\H[0]?=some ⟨.m,0,4,[.agg [.int .i64 t.k,.str t.s,.int .i64 t.o,.aa false (ae t.l)]]⟩/\Out 4 H v (ae acc)/\(∀ep n,v≠.ak 0 ep 0 n)/\(acc.length<=p.length+if d then 1 else 0)/\acc++(if d then q else fj t q)=fj t l) (.nx ⟨_,[],false,rfl,HV.one rfl,rfl,.inl ⟨rfl,rfl⟩,(λ_ _ h=>by cases h),by simp,by simp⟩) ?_ ?_
 ·rintro p x q _ h ρ e ⟨v,acc,d,rfl,hH,h0,ho,Dw,FB,hg⟩;have cm:=bg e;have di:=lenE e;have rR:=xM t x ht (hb x (by rw[e];simp));rw[ao,ao]at rR;have hla:(ae acc).length=acc.length:=by simp
  have Ul:acc.length<=p.length+1:=by cases d <;>simp at FB <;>omega
  refine wA ?_;refine .p rR ?_;have sn:∀(a:List Tm) (y:Tm),ae a++[.agg [.int .i64 y.k,.str y.s,.int .i64 y.o,.aa false (ae y.l)]]=ae (a++[y]):=λa y=>by rw[<-AU,ao]
  cases d
  ·rw[if_neg (by decide)]at hg
   (repeat' (first |(refine Rn.go ?_;conv=>whnf)|refine .mk ?_ |refine .mk (λhc=>?_) λhc=>?_ |refine .lp λv H lp=>?_ |fail))
   ·obtain⟨h0',XB⟩:=lp.obj h0 Dw;have XC:=lp.hv;have lo:=lp.out;rw[sn]at lo;have aa0:(ae (acc++[t])).length=acc.length+1:=by simp
    clear lp;refine wG λv H lp=>?_;have Iu:=lp.out;rw[sn]at Iu;exact .nx ⟨_,acc++[t]++[x],true,rfl,lp.hv,(lp.obj h0' XB).1,Iu,(lp.obj h0' XB).2,by simp at FB ⊢;omega,by rw[<-hg,show fj t (x::q)=t::x::q by rw[fj,if_pos (by assumption),if_pos hc]];simp⟩
   ·have Iu:=lp.out;rw[sn]at Iu;exact .nx ⟨_,acc++[x],true,rfl,lp.hv,(lp.obj h0 Dw).1,Iu,(lp.obj h0 Dw).2,by simp at FB ⊢;omega,by rw[<-hg,show fj t (x::q)=x::q by rw[fj,if_pos (by assumption),if_neg hc]];simp⟩
   ·have Iu:=lp.out;rw[sn]at Iu;exact .nx ⟨_,acc++[x],false,rfl,lp.hv,(lp.obj h0 Dw).1,Iu,(lp.obj h0 Dw).2,by simp at FB ⊢;omega,by rw[<-hg,show fj t (x::q)=x::fj t q by rw[fj,if_neg hc]];simp⟩
  ·refine wG λv H lp=>?_;have Iu:=lp.out;rw[sn]at Iu;exact .nx ⟨_,acc++[x],true,rfl,lp.hv,(lp.obj h0 Dw).1,Iu,(lp.obj h0 Dw).2,by simp at FB ⊢;omega,by rw[<-hg];simp⟩
 ·rintro _ h ρ ⟨v,acc,d,rfl,hH,h0,ho,Dw,FB,hg⟩;have hla:(ae acc).length=acc.length:=by simp
  have Ul:acc.length<=l.length+1:=by cases d <;>simp at FB <;>omega
  have sn:∀(a:List Tm) (y:Tm),ae a++[.agg [.int .i64 y.k,.str y.s,.int .i64 y.o,.aa false (ae y.l)]]=ae (a++[y]):=λa y=>by rw[<-AU,ao]
  have fin:∀{h:ab} {v:PV} {a:List Tm},Out 4 h v (ae a)->a=fj t l->∃r1,rb h (aO [v])=some r1/\b9 r1=.aa false (ae (fj t l)):=λ{h v a} ho ha=>by
   obtain⟨r1,e1,e2⟩:=ho.ke (fk _);exact⟨r1,by rcases ho with⟨rfl,_⟩|⟨id,ep,rfl,_⟩ <;>exact e1,by rw[e2,aZ,ha]⟩
  cases d
  ·refine wG λv H lp=>?_;have Iu:=lp.out;rw[sn]at Iu;exact fin Iu (by rw[<-hg];simp[fj])
  ·refine wA ?_;exact fin ho (by rw[<-hg];simp)
end Go.Pm
namespace Go.Pm
open Go.Proofs
set_option maxRecDepth 4000
theorem Dx(t:Tm):∀l:List Tm,(fj t l).length<=l.length+1
 |[]=>by simp[fj]
 |x::r=>by
  have:=Dx t r;unfold fj
  split
  ·split <;>simp
  ·simp only[abx];omega
theorem Dy{t:Tm}{y:Tm}:∀{l:List Tm},y∈fj t l->y=t\/y∈l
 |[],h=>by simp[fj]at h;exact .inl h
 |x::r,h=>by
  unfold fj at h
  split at h
  ·split at h
   ·rcases abu.1 h with h |h
    ·exact .inl h
    ·exact .inr h
   ·exact .inr h
  ·rcases abu.1 h with h |h
   ·exact .inr (by simp[h])
   ·rcases Dy h with h |h
    ·exact .inl h
    ·exact .inr (by simp[h])
def JO(l:List (List Pw)):List Tm:=(jR l).foldl (λa t=>fj t a) []
def SmT(l:List (List Pw)):Prop:=(∀x∈l,(∀p∈x,ax p.1<100000000)/\x.length<=200)/\l.length<=1000
def rm(ts:List Tm)(a:List Tm):List Tm:=ts.foldl (λa t=>fj t a) a
theorem xN:∀(ts a:List Tm),(rm ts a).length<=a.length+ts.length
 |[],a=>by simp[rm]
 |t::ts,a=>by
  have:=xN ts (fj t a);have:=Dx t a;simp only[rm,List.foldl_cons,abx]at *;omega
theorem Dz{y:Tm}:∀{ts a:List Tm},y∈rm ts a->y∈ts\/y∈a
 |[],a,h=>.inr h
 |t::ts,a,h=>by
  rcases Dz (ts:=ts) (a:=fj t a) h with h |h
  ·exact .inl (by simp[h])
  ·rcases Dy h with h |h
   ·exact .inl (by simp[h])
   ·exact .inr h
theorem B9:∀{l:List (List Pw)},(∀x∈l,x.length<=200)->(jR l).length<=200 * l.length
 |[],_=>by simp[jR]
 |x::l,h=>by
  have h1:=B9 (l:=l) λy hy=>h y (by simp[hy])
  have h2:=h x (by simp);have h3:(jR (x::l)).length=x.length+(jR l).length:=by simp[jR]
  rw[h3,abx];omega
def inr(n:Int):Bool:=decide (-35184372088832<=n/\n<=35184372088832)
@[simp] theorem Ti(l:List (List Pw)):dK (0+1) (iN l):=by
 unfold dK;rw[abk]
 intro v hv
 obtain⟨x,_,rfl⟩:=abZ.1 hv
 rfl
def fv(l:List Tm):Prop:=l.Pairwise λp q=>aT p q<0
theorem oP(t:Tm):∀(l:List Tm) (y:Tm),y∈fj t l↔y=t\/y∈l
 |[],y=>by simp[fj]
 |x::r,y=>by
  unfold fj
  by_cases h1:aT t x<=0
  ·rw[if_pos h1]
   by_cases h2:aT t x<0
   ·rw[if_pos h2];simp
   ·rw[if_neg h2];obtain rfl:=cP (t:=t) (t':=x) (by omega);simp
  ·rw[if_neg h1,abu,oP t r y,abu]
   constructor
   ·rintro(h |h |h)
    ·exact .inr (.inl h)
    ·exact .inl h
    ·exact .inr (.inr h)
   ·rintro(h |h |h)
    ·exact .inr (.inl h)
    ·exact .inl h
    ·exact .inr (.inr h)
theorem xO{t:Tm}:∀{l:List Tm},fv l->fv (fj t l)
 |[],_=>by simp[fj,fv]
 |x::r,h=>by
  have hp:=abG.1 h;unfold fj
  by_cases h1:aT t x<=0
  ·rw[if_pos h1]
   by_cases h2:aT t x<0
   ·rw[if_pos h2];refine abG.2 ⟨λy hy=>?_,h⟩;rcases abu.1 hy with rfl |hy
    ·exact h2
    ·exact eU h2 (hp.1 y hy)
   ·rw[if_neg h2];exact h
  ·rw[if_neg h1];refine abG.2 ⟨λy hy=>?_,xO hp.2⟩;rcases(oP t r y).1 hy with rfl |hy
   ·have:=eC y x;omega
   ·exact hp.1 y hy
theorem xP:∀{ts a:List Tm},fv a->fv (rm ts a)
 |[],a,h=>h
 |t::ts,a,h=>xP (ts:=ts) (xO (t:=t) h)
theorem Ca:∀(ts a:List Tm) (y:Tm),y∈rm ts a↔y∈ts\/y∈a
 |[],a,y=>by simp[rm]
 |t::ts,a,y=>by
  have:=Ca ts (fj t a) y;rw[show rm (t::ts) a=rm ts (fj t a)from rfl,this,oP,abu]
  constructor
  ·rintro(h |h |h)
   ·exact .inl (.inr h)
   ·exact .inl (.inl h)
   ·exact .inr h
  ·rintro((h |h)|h)
   ·exact .inr (.inl h)
   ·exact .inl h
   ·exact .inr (.inr h)
theorem mL:∀{a b:List Tm},fv a->fv b->(∀y,y∈a↔y∈b)->a=b
 |[],[],_,_,_=>rfl
 |[],y::b,_,_,h=>by have:=(h y).2 (by simp);cases this
 |x::a,[],_,_,h=>by have:=(h x).1 (by simp);cases this
 |x::a,y::b,ha,hb,h=>by
  have pa:=abG.1 ha;have pb:=abG.1 hb;have irr:∀{u:Tm},¬aT u u<0:=λ{u} hh=>by rw[cq]at hh;omega
  have hxy:x=y:=by
   rcases abu.1 ((h x).1 (by simp))with e |hx
   ·exact e
   ·rcases abu.1 ((h y).2 (by simp))with e |hy
    ·exact e.symm
    ·exact(irr (eU (pb.1 x hx) (pa.1 y hy))).elim
  subst hxy
  have:a=b:=mL pa.2 pb.2 λz=>by
   constructor
   ·intro hz
    rcases abu.1 ((h z).1 (by simp[hz]))with rfl |h1
    ·exact(irr (pa.1 z hz)).elim
    ·exact h1
   ·intro hz
    rcases abu.1 ((h z).2 (by simp[hz]))with rfl |h1
    ·exact(irr (pb.1 z hz)).elim
    ·exact h1
  rw[this]
theorem MC(l:List (List Pw)):fv (JO l):=xP (ts:=jR l) (a:=[]) (by simp[fv])
theorem Qp(l:List (List Pw))(y:Tm):y∈JO l↔y∈jR l:=by
 have:=Ca (jR l) [] y;simpa[rm,JO]using this
end Go.Pm
namespace Go.Pm
structure Sy where
 n:ByteArray
 a:Int
 b:Int
 k:Int
def gd:ByteArray:=⟨#[112,97,105,114]⟩
def iP:ByteArray:=⟨#[101,110,99]⟩
def fC:ByteArray:=⟨#[97,101,110,99]⟩
def FG:ByteArray:=⟨#[112,107]⟩
def iF:ByteArray:=⟨#[115,105,103,110]⟩
def x6:ByteArray:=⟨#[104,97,115,104]⟩
def uM:ByteArray:=⟨#[120,111,114]⟩
def hC:ByteArray:=⟨#[122,101,114,111]⟩
def GW:ByteArray:=⟨#[101,120,112]⟩
def yy:ByteArray:=⟨#[109,117,108]⟩
def yz:ByteArray:=⟨#[105,110,118]⟩
def qc:ByteArray:=⟨#[111,110,101]⟩
def Ah:ByteArray:=⟨#[115,107]⟩
def sZ:ByteArray:=⟨#[115,104,107]⟩
def od:ByteArray:=⟨#[110,101,119]⟩
def YJ:ByteArray:=⟨#[102,115,116]⟩
def YK:ByteArray:=⟨#[115,110,100]⟩
def YL:ByteArray:=⟨#[100,101,99]⟩
def TG:ByteArray:=⟨#[97,100,101,99]⟩
def TH:ByteArray:=⟨#[111,112,101,110]⟩
def TI:ByteArray:=⟨#[114,101,97,100]⟩
def Ma:List Sy:=[⟨⟨#[112,97,105,114]⟩,2,2,1⟩,⟨⟨#[101,110,99]⟩,2,2,1⟩,⟨⟨#[97,101,110,99]⟩,2,2,1⟩,⟨⟨#[112,107]⟩,1,1,1⟩,⟨⟨#[115,105,103,110]⟩,2,2,1⟩,⟨⟨#[104,97,115,104]⟩,1,1,1⟩,⟨⟨#[120,111,114]⟩,2,8,1⟩,⟨⟨#[122,101,114,111]⟩,0,0,1⟩,⟨⟨#[101,120,112]⟩,2,2,1⟩,⟨⟨#[109,117,108]⟩,2,8,1⟩,⟨⟨#[105,110,118]⟩,1,1,1⟩,⟨⟨#[111,110,101]⟩,0,0,1⟩,⟨⟨#[115,107]⟩,1,1,2⟩,⟨⟨#[115,104,107]⟩,2,2,2⟩,⟨⟨#[110,101,119]⟩,1,8,2⟩,⟨⟨#[102,115,116]⟩,1,1,3⟩,⟨⟨#[115,110,100]⟩,1,1,3⟩,⟨⟨#[100,101,99]⟩,2,2,3⟩,⟨⟨#[97,100,101,99]⟩,2,2,3⟩,⟨⟨#[111,112,101,110]⟩,2,2,3⟩,⟨⟨#[114,101,97,100]⟩,1,1,3⟩]
def sy0:Sy:=⟨ByteArray.empty,0,0,0⟩
def bZ(s:ByteArray):Sy:=(Ma.find? λy=>y.n.toList==s.toList).getD sy0
def BP(y:Sy):PV:=.agg [.str y.n,.int .i64 y.a,.int .i64 y.b,.int .i64 y.k]
def eI(s n:ByteArray):Bool:=s.toList==n.toList
def eH(u:Tm):Bool:=decide (u.k≠3/\u.o=1)
def fB(s:ByteArray)(l:List Tm):Bool:=
 if eI s Ah ||eI s sZ then l.all eH
 else if eI s od then(match l with |u::_=>decide (u.k=2)|[]=>true)
 else true
mutual
def lI:Tm->Int
 | .mk k s o l=>if k≠3 then 0 else if(bZ s).k=0 then 10 else if(l.length:Int)<(bZ s).a\/(bZ s).b<l.length then 6 else if fB s l=false then 10 else si l
def si:List Tm->Int
 |[]=>0
 |t::l=>if lI t≠0 then lI t else si l
end
def gw(t:Tm):Int:=if valid t≠0 then valid t else lI t
mutual
def pre:Tm->List Tm
 | .mk k s o l=>.mk k s o l::cQ l
def cQ:List Tm->List Tm
 |[]=>[]
 |t::l=>pre t++cQ l
end
mutual
def every(p:ByteArray->Bool):Tm->Bool
 | .mk k s o l=>(decide (k≠3)||p s)&&gI p l
def gI(p:ByteArray->Bool):List Tm->Bool
 |[]=>true
 |t::l=>every p t&&gI p l
end
def nj(s:ByteArray):Bool:=eI s uM ||eI s hC ||eI s GW ||eI s yy ||eI s yz ||eI s qc
def ua(s:ByteArray):Bool:=!nj s&&decide ((bZ s).k≠3)
def kK(t:Tm):Bool:=decide (gw t=0)&&every ua t
def gb(l:List Tm):List Tm:=rm l []
def rB(n:Int)(t:Tm):List Tm:=gb ((pre t).filter λu=>decide (u.k=n))
def bu(t:Tm):List Tm:=rB 1 t
structure fV where
 kn:List Tm
 tm:Tm
structure dD where
 v:Tm
 t:Tm
def sV(d:fV):PV:=.agg [.aa false (ae d.kn),.int .i64 d.tm.k,.str d.tm.s,.int .i64 d.tm.o,.aa false (ae d.tm.l)]
def uo(b:dD):PV:=.agg [.int .i64 b.v.k,.str b.v.s,.int .i64 b.v.o,.aa false (ae b.v.l),.int .i64 b.t.k,.str b.t.s,.int .i64 b.t.o,.aa false (ae b.t.l)]
def cw(l:List fV):List PV:=l.map sV
def bD(l:List dD):List PV:=l.map uo
@[simp] theorem Uy(d:fV):aW (sV d)=true:=by simp[sV]
@[simp] theorem Uz(b:dD):aW (uo b)=true:=by simp[uo]
@[simp] theorem XU(d:fV):b9 (sV d)=sV d:=by simp[sV,b9,aR,aZ]
@[simp] theorem XV(b:dD):b9 (uo b)=uo b:=by simp[uo,b9,aR,aZ]
@[simp] theorem Qz(l:List fV):ar (cw l)=true:=by rw[bB];simp[cw]
@[simp] theorem QA(l:List dD):ar (bD l)=true:=by rw[bB];simp[bD]
@[simp] theorem UA(l:List fV):aR (cw l)=cw l:=by rw[cI];simp[cw]
@[simp] theorem UB(l:List dD):aR (bD l)=bD l:=by rw[cI];simp[bD]
@[simp] theorem jT(l:List fV):(cw l).length=l.length:=by simp[cw]
@[simp] theorem gi(l:List dD):(bD l).length=l.length:=by simp[bD]
@[simp] theorem WH:cw []=[]:=rfl
@[simp] theorem WI:bD []=[]:=rfl
theorem kZ(d:fV):sV d=.agg [.aa false (ae d.kn),.int .i64 d.tm.k,.str d.tm.s,.int .i64 d.tm.o,.aa false (ae d.tm.l)]:=rfl
theorem oW(b:dD):uo b=.agg [.int .i64 b.v.k,.str b.v.s,.int .i64 b.v.o,.aa false (ae b.v.l),.int .i64 b.t.k,.str b.t.s,.int .i64 b.t.o,.aa false (ae b.t.l)]:=rfl
theorem kJ{l p q:List fV}{d:fV}(e:l=p++d::q):(cw l)[p.length]?=some (.agg [.aa false (ae d.kn),.int .i64 d.tm.k,.str d.tm.s,.int .i64 d.tm.o,.aa false (ae d.tm.l)]):=by rw[cw,e,<-kZ];simp
theorem gH{l p q:List dD}{b:dD}(e:l=p++b::q):(bD l)[p.length]?=some (.agg [.int .i64 b.v.k,.str b.v.s,.int .i64 b.v.o,.aa false (ae b.v.l),.int .i64 b.t.k,.str b.t.s,.int .i64 b.t.o,.aa false (ae b.t.l)]):=by rw[bD,e,<-oW];simp
theorem AY{l:List dD}{i:Nat}{b:dD}(e:l[i]?=some b):(bD l)[i]?=some (.agg [.int .i64 b.v.k,.str b.v.s,.int .i64 b.v.o,.aa false (ae b.v.l),.int .i64 b.t.k,.str b.t.s,.int .i64 b.t.o,.aa false (ae b.t.l)]):=by rw[bD,abB,e,<-oW];rfl
def bF(l:List Tm)(t:Tm):Bool:=l.any λu=>decide (aT t u=0)
theorem bU{l:List Tm}{t:Tm}:bF l t=true↔t∈l:=by
 simp only[bF,aci,decide_eq_true_eq]
 constructor
 ·rintro⟨u,hu,h⟩;rw[cP h];exact hu
 ·exact λh=>⟨t,h,cq t⟩
def C8(t:Tm):Bool:=decide (t.o=1\/t.o=5)
def cx(t:Tm):Int:=if gw t≠0 then gw t else if kK t=false\/(bu t).any C8=true then 10 else if 60<size t then 3 else 0
def fW:List Tm->Int
 |[]=>0
 |t::l=>if cx t≠0 then cx t else fW l
def kept(prev:Option (List Tm))(k:List Tm):Bool:=match prev with |none=>true |some p=>p.all λt=>bF k t
def C9(bound k:List Tm):Bool:=k.all λt=>(bu t).all λx=>bF bound x
def mO:Option (List Tm)->List Tm->List fV->Int
 |_,_,[]=>0
 |prev,bound,d::l=>
  if 40<d.kn.length then 3
  else if fW (d.kn++[d.tm])≠0 then fW (d.kn++[d.tm])
  else if kept prev d.kn=false then 9
  else if C9 bound d.kn=false then 13
  else mO (some d.kn) (bound++bu d.tm) l
def nL(l:List fV):Int:=if 40<l.length then 3 else mO none [] l
def lq(x t:Tm):Bool:=decide (valid x=0/\valid t=0/\x.k=1/\(x.o=0\/(t.k≠3/\t.o=x.o)))
def vw(b:dD):Int:=if valid b.v≠0 then valid b.v else if b.v.k≠1\/aT b.v b.t=0 then 1 else if valid b.t≠0 then valid b.t else if lq b.v b.t=false then 10 else 0
def behind(prev:Option Tm)(x:Tm):Bool:=match prev with |none=>true |some p=>decide (aT p x<0)
def mP:Option Tm->List dD->Int
 |_,[]=>0
 |prev,b::l=>if vw b≠0 then vw b else if behind prev b.v=false then 5 else mP (some b.v) l
def iD(s:List dD):Int:=if 200<s.length then 3 else mP none s
def ly:List dD->Tm->Tm
 |[],x=>x
 |b::s,x=>if aT b.v x=0 then b.t else ly s x
mutual
def da(s:List dD):Tm->Tm
 | .mk k n o l=>if k=1 then ly s (.mk k n o l)else .mk k n o (cc s l)
def cc(s:List dD):List Tm->List Tm
 |[]=>[]
 |t::l=>da s t::cc s l
end
def bI(s:List dD)(t:Tm):Tm×Int:=if valid t≠0 then(dM,valid t)else if valid (da s t)≠0 then(dM,valid (da s t))else(da s t,0)
def lz(s:List dD):List Tm->Int
 |[]=>0
 |t::l=>if(bI s t).2≠0 then(bI s t).2 else lz s l
def lA(s:List dD)(d:fV):Int:=if lz s d.kn≠0 then lz s d.kn else(bI s d.tm).2
def QB(s:List dD)(d:fV):fV:=⟨cc s d.kn,da s d.tm⟩
theorem pT(t:Tm):t∈pre t:=by cases t;simp[pre]
theorem eN(s:List dD)(l:List Tm):cc s l=l.map (da s):=by
 induction l with
 |nil=>rfl
 |cons t l ih=>simp[cc,ih]
theorem gS(s:List dD)(l:List Tm):(cc s l).length=l.length:=by rw[eN];simp
open Go.Proofs
set_option maxRecDepth 100000
set_option maxHeartbeats 2000000
instance:Inhabited fV:=⟨⟨[],dM⟩⟩
instance:Inhabited dD:=⟨⟨dM,dM⟩⟩
theorem dH.grow{w w':World}(g:dH w w'):∃q os',w'=Go.Sort.grow (w.drewN q) os':=by
 refine⟨w'.drawn - w.drawn,w'.heap.extract w.heap.size w'.heap.size,?_⟩
 have hh:w'.heap=w.heap++w'.heap.extract w.heap.size w'.heap.size:=by
  apply Array.ext_getElem?
  intro i
  have hs:=g.size
  by_cases hi:i<w.heap.size
  ·rw[g.aU i hi,Array.getElem?_append_left hi]
  ·rw[Array.getElem?_append_right (by omega),Array.getElem?_extract]
   by_cases h2:i<w'.heap.size
   ·rw[if_pos (by omega)];congr 1;omega
   ·rw[if_neg (by omega),adf (by omega)]
 obtain⟨hp,tp,dr,os,out⟩:=w';have h1:=g.os;have h2:=g.tape;have h3:=g.output;have h4:=g.drawn;simp only at h1 h2 h3 h4 hh;subst h1 h2 h3;simp only[Go.Sort.grow,World.drewN];rw[<-hh]
 congr 1
 omega
section
variable{C:cR}(T:lQ C.P)
variable{ops:Array Oper}{i:Nat}{d:Nat}{ty:TypeId}{pos:String}{af:Array Edge}{r:List Oper}{ρ:Nat->PV}{L:List (Nat×PV)}{h:ab}{Q:St->Prop}
set_option maxHeartbeats 4000000
theorem um{P:Program}{t el:TypeId}{id ep len b:Nat}{o:aw}{k:IntKind}(hu:P.underlying t=some (.slice el))(hs:cA P el=some o.bM)(hg:getM h id ep=some o)(hb:b<=len)(hle:len<=o.es.length):
  cf P h t (.ak id ep 0 len) none (some (.int k (b:Int))) none=some (.ak id ep 0 b):=by
 have h1:¬((len:Int)<(b:Int)):=by omega
 simp[cf,hu,hs,hg,hle,beyond,h1,cJ,hb]
theorem qH{P:Program}{t el:TypeId}{id ep len a:Nat}{o:aw}{k:IntKind}(hu:P.underlying t=some (.slice el))(hs:cA P el=some o.bM)(hg:getM h id ep=some o)(ha:a<=len)(hle:len<=o.es.length):
  cf P h t (.ak id ep 0 len) (some (.int k (a:Int))) none none=some (if a=0 then .ak id ep 0 len else if len - a=0 then .aa false []else .ak id ep a (len - a)):=by
 simp[cf,hu,hs,hg,hle,beyond,cJ,ha]
 by_cases h0:a=0
 ·simp[h0]
 ·by_cases h1:len - a=0 <;>simp[h0,h1]
theorem MW{P:Program}{t el:TypeId}{id ep len a b:Nat}{o:aw}{k k' k2:IntKind}(hu:P.underlying t=some (.slice el))(hs:cA P el=some o.bM)(hg:getM h id ep=some o)(ha:a<=b)(hb:b<=len)(bN:a<len)(hle:len<=o.es.length):
  cf P h t (.ak id ep 0 len) (some (.int k (a:Int))) (some (.int k' (b:Int))) (some (.int k2 (len:Int)))=some .any:=by
 have h1:¬len=a:=by omega
 simp[cf,hu,hs,hg,hle,beyond,cJ,ha,hb,h1]
theorem Ad{P:Program}{t el:TypeId}{id ep len a b:Nat}{o:aw}{k k':IntKind}(hu:P.underlying t=some (.slice el))(hs:cA P el=some o.bM)(hg:getM h id ep=some o)(ha:a<=len)(hb:len<b)(hle:b<=o.es.length):
  cf P h t (.ak id ep 0 len) (some (.int k (a:Int))) (some (.int k' (b:Int))) none=some (if a=0 then .ak id ep 0 b else .ak id ep a (b - a)):=by
 have h1:(len:Int)<(b:Int):=by omega
 have h2:¬(b - a=0):=by omega
 have h3:len<=o.es.length:=by omega
 have h4:a<=b:=by omega
 simp[cf,hu,hs,hg,h3,beyond,h1,cJ,hle,h4,h2]
 by_cases h0:a=0 <;>simp[h0]
theorem pS{P:Program}{t el:TypeId}{id ep len b:Nat}{o:aw}{k':IntKind}(hu:P.underlying t=some (.slice el))(hs:cA P el=some o.bM)(hg:getM h id ep=some o)(hb:len<b)(hle:b<=o.es.length):
  cf P h t (.ak id ep 0 len) none (some (.int k' (b:Int))) none=some (.ak id ep 0 b):=by
 have h1:(len:Int)<(b:Int):=by omega
 have h3:len<=o.es.length:=by omega
 simp[cf,hu,hs,hg,h3,beyond,h1,cJ,hle]
theorem R.slice{t:TypeId}{x:Operand}{lo hi mx:Option Operand}{p q:PV}{plo phi pmx:Option PV}(hx:cM L x=some p)(h1:lo.map (ev (al L ρ))=plo)(h2:hi.map (ev (al L ρ))=phi)(h3:mx.map (ev (al L ρ))=pmx)(hs:cf C.P h t p plo phi pmx=some q)
  (kk:ah C ops r ⟨al ((d,q)::L) ρ,h⟩ Q):ah C ops (⟨some d,.slice t x lo hi mx,ty,pos,af,none⟩::r) ⟨al L ρ,h⟩ Q:=
 ah.fe (λrun=>by simp only[au,aC,an hx,h1,h2,h3,hs,abw]) kk
theorem D.slice{t:TypeId}{x:Operand}{lo hi mx:Option Operand}{p q:PV}{plo phi pmx:Option PV}(dw:aV h=true)(hx:cM L x=some p)(hv:bq (aQ h) p=true)(h1:lo.map (ev (al L ρ))=plo)(h2:hi.map (ev (al L ρ))=phi)(h3:mx.map (ev (al L ρ))=pmx)
  (v1:plo.all (bq (aQ h))=true) (v2:phi.all (bq (aQ h))=true) (v3:pmx.all (bq (aQ h))=true) (hs:cf C.P h t p plo phi pmx=some q)
  (kk:aY C ops (i+1) r ⟨⟨al ((d,q)::L) ρ,h⟩,h.length,[]⟩ Q):aY C ops i (⟨some d,.slice t x lo hi mx,ty,pos,af,none⟩::r) ⟨⟨al L ρ,h⟩,h.length,[]⟩ Q:=by
 refine aY.read rfl dw ?_ ⟨0,λn lv _ _=>by simp only[au,aC,an hx,h1,h2,h3,hs,abw]⟩ kk;rw[<-h1]at v1;rw[<-h2]at v2;rw[<-h3]at v3;rw[abk]
 intro y hy
 simp only[Op.operands]at hy
 cases lo <;>cases hi <;>cases mx <;>simp at hy v1 v2 v3 <;>rcases hy with rfl |hy <;>first
  |(rw[an hx];exact hv)
  |(simp_all;done)
  |(rcases hy with rfl |hy <;>first |assumption |(rcases hy with rfl |rfl <;>assumption)|(subst hy;assumption))
theorem xY{st xt el rk:TypeId}{sz gh id ep k:Nat}{z u:PV}{ys:List PV}{o:aw}(hk:T.kd st=some (.sl el))(gv:T.kd xt=some (.sl rk))(hs:T.ts el=some (sz+1))(hb:T.tb el=some gh)(hz:T.tz el=some z)(jo:gh<=1000)(hl:(cells z).length=sz+1)(ho:(cells z).all bH=true)
  (hu:cu h u=some ys) (hy:dK (sz+1) ys) (My:ys≠[]->iH id u=true) (hg:getM h id ep=some o) (hm:o.mu=.m) (JL:o.bM=sz+1) (hle:k+ys.length<=o.es.length):
  bP C.P 2 h st xt (.ak id ep 0 k) u=some (.ak id ep 0 (k+ys.length),h.set id {o with es:=o.es.take k++ys++o.es.drop (k+ys.length)}):=by
 unfold bP;rw[bz (T.cT _ _ hk)];simp only[T.dV _ _ hs,T.rU _ _ hb,T.nt _ _ hz,cC,bz (T.cT _ _ gv),hu];unfold dK at hy;rw[if_pos ⟨by omega,by omega,⟨hl,ho⟩,hy⟩];simp only[hg];rw[if_pos ⟨by omega,JL.symm⟩]
 cases ys with
 |nil=>
  have e1:o.es.take k++[]++o.es.drop (k+0)=o.es:=by simp
  have e2:h.set id {o with es:=o.es.take k++[]++o.es.drop (k+0)}=h:=by
   rw[e1];have h1:=(getM_some hg).1;have cG:=ag h1;rw[abo cG]at h1;have:(h[id]:aw)={o with es:=o.es}:=abi h1;rw[<-this];exact adI cG
  simp only[List.isEmpty_nil,if_true,abX,acY]at e2 ⊢;rw[e2]
 |cons y ys=>
  have bN:(y::ys).isEmpty=false:=rfl;simp only[bN,abz,if_false];rw[if_pos ⟨trivial,abn _,hm,My (by simp),hle⟩]
theorem D.xY{st xt el rk:TypeId}{sz gh id ep k L0:Nat}{own:List Nat}{z u:PV}{ys:List PV}{o:aw}{x y:Operand}(di:level ops (before ops) i=2)(hx:cM L x=some (.ak id ep 0 k))(Uv:cM L y=some u)(hk:T.kd st=some (.sl el))(gv:T.kd xt=some (.sl rk))(hs:T.ts el=some (sz+1))(hb:T.tb el=some gh)(hz:T.tz el=some z)(jo:gh<=1000)(hl:(cells z).length=sz+1)(ho:(cells z).all bH=true)
  (hu:cu h u=some ys) (hy:dK (sz+1) ys) (My:ys≠[]->iH id u=true) (hg:getM h id ep=some o) (hm:o.mu=.m) (JL:o.bM=sz+1) (hle:k+ys.length<=o.es.length)
  (kk:aY C ops (i+1) r ⟨⟨al ((d,.ak id ep 0 (k+ys.length))::L) ρ,h.set id {o with es:=o.es.take k++ys++o.es.drop (k+ys.length)}⟩,(h.set id {o with es:=o.es.take k++ys++o.es.drop (k+ys.length)}).length,[]⟩ Q):
  aY C ops i (⟨some d,.call ⟨.builtin .append,#[x,y],#[st,xt]⟩,ty,pos,af,none⟩::r) ⟨⟨al L ρ,h⟩,L0,own⟩ Q:=by
 refine aY.two rfl di ⟨0,λn _=>?_⟩ kk;have mK:=Pm.xY T hk gv hs hb hz jo hl ho hu hy My hg hm JL hle;simp only[au,bt,abD,abM,an hx,an Uv,mK]
theorem R.MX{t el:TypeId}{id ep off len:Nat}{z:PV}{o:aw}{x:Operand}(hx:cM L x=some (.ak id ep off len))(hk:T.kd t=some (.sl el))(hs:T.ts el=some o.bM)(hz:T.tz el=some z)(hl:(cells z).length=o.bM)(ho:(cells z).all bH=true)(hg:getM h id ep=some o)(hm:o.mu=.m)(hle:off+len<=o.es.length)
  (kk:ah C ops r ⟨al L ρ,h.set id {o with es:=o.es.take off++List.replicate len z++o.es.drop (off+len)}⟩ Q):ah C ops (⟨none,.call ⟨.builtin .clear,#[x],#[t]⟩,ty,pos,af,none⟩::r) ⟨al L ρ,h⟩ Q:=by
 refine ah.val (v:=.ct []) (h':=h.set id {o with es:=o.es.take off++List.replicate len z++o.es.drop (off+len)}) rfl (λrun=>?_) kk;simp only[au,bt,abD,abM,an hx,mX,bz (T.cT _ _ hk),T.dV _ _ hs,T.nt _ _ hz,hg];rw[if_pos ⟨abn _,hm,trivial,hle,hl,ho⟩]
end
attribute [local irreducible] aD az aL aJ Ev ah aj ay aY
namespace Zero
set_option maxHeartbeats 4000000
theorem Uw(N:Nat){h:ab}{id ep len k:Nat}{o:aw}(hg:getM h id ep=some o)(hm:o.mu=.m)(hz:o.bM=5)(hle:len<=o.es.length)(hk:k<len)(hn:len<100000000)(ga:(o.es.take len).all (kX 5)=true)(dw:aV h=true):
  ∃pw:List PV,pw.length=o.es.length/\pw.take (len - 1)=(o.es.take len).take k++(o.es.take len).drop (k+1)/\
   ay C0 352 [.ak id ep 0 len,.int .i64 (k:Int),.int .i64 ((k:Int)+1)] h (λr h'=>r=.ak id ep 0 (len - 1)/\h'=h.set id {o with es:=pw}):=by
 have hgs:=(getM_some hg).1;have cG:=ag hgs
 have ij:aQ h id=true:=by
  unfold aQ;rw[hgs];simp[hm]
 obtain⟨ys,pB⟩:∃ys,ys=(o.es.drop (k+1)).take (len - (k+1)):=⟨_,rfl⟩;have XR:ys.length=len - (k+1):=by rw[pB];simp;omega
 have Gj:dK 5 ys:=by
  unfold dK;rw[abk]at ga ⊢
  intro v hv
  rw[pB]at hv
  have fu:v∈o.es.take len:=by
   have:(o.es.drop (k+1)).take (len - (k+1))=(o.es.take len).drop (k+1):=by rw[adS]
   rw[this]at hv;exact ab4 hv
  have:=ga v fu;unfold kX at this;simp only[abq]at this ⊢;exact⟨this.1.2,this.2⟩
 obtain⟨dL,oU⟩:∃dL,dL=o.es.take k++ys++o.es.drop (k+ys.length):=⟨_,rfl⟩;have di:dL.length=o.es.length:=by rw[oU];simp;omega
 refine⟨dL.take (len - 1)++List.replicate 1 (.agg [.int .i64 0,.str ByteArray.empty,.int .i64 0,.aa true [],.int .i64 0])++dL.drop (len - 1+1),by simp;omega,?_,?_⟩
 ·have e1:(dL.take (len - 1)++List.replicate 1 (.agg [.int .i64 0,.str ByteArray.empty,.int .i64 0,.aa true [],.int .i64 0]:PV)++dL.drop (len - 1+1)).take (len - 1)=dL.take (len - 1):=by
   rw[abI,abW (by simp;omega),acE];congr 1;omega
  rw[e1,oU];have e2:(o.es.take k++ys).length=len - 1:=by simp;omega
  rw[abW (by omega),abO (by omega),acE,pB]
  congr 1
  ·congr 1;omega
  ·rw[adS]
 ·refine ay.dG Tryz.func352 rfl ?_;have hu:C0.P.underlying 175=some (.slice 187):=bz (T6.cT 175 _ rfl);have gM:cA C0.P 187=some o.bM:=by rw[hz];exact T6.dV 187 5 rfl
  have hsT:T6.ts 187=some o.bM:=by rw[hz];rfl
  have hj:((k:Int)+1)=((k+1:Nat):Int):=by omega
  refine wD ?_;apply R.zZ T6 (o:=o);exact rfl;exact rfl;exact hg;exact(by omega)
  skip
  apply R.slice
  ·exact rfl
  ·exact rfl
  ·exact rfl
  ·exact rfl
  ·show cf C0.P h 175 (.ak id ep 0 len) (some (.int .i64 (k:Int))) (some (.int .i64 ((k:Int)+1))) (some (.int .i64 (len:Int)))=some .any;rw[hj];exact MW hu gM hg (by omega) (by omega) (by omega) hle
  refine wF λhc=>?_;apply R.zZ T6 (o:=o);exact rfl;exact rfl;exact hg;exact(by omega);refine wD ?_;apply D.slice
  ·exact dw
  ·exact rfl
  ·exact ij
  ·exact rfl
  ·exact rfl
  ·exact rfl
  ·exact rfl
  ·exact rfl
  ·exact rfl
  ·exact um (b:=k) (k:=.i64) hu gM hg (by omega) hle
  refine wD ?_;apply D.slice
  ·exact dw
  ·exact rfl
  ·exact ij
  ·exact rfl
  ·exact rfl
  ·exact rfl
  ·exact rfl
  ·exact rfl
  ·exact rfl
  ·show cf C0.P h 175 (.ak id ep 0 len) (some (.int .i64 ((k:Int)+1))) none none=_;rw[hj];exact qH hu gM hg (by omega) hle
  rw[if_neg (by omega)];apply D.xY T6 (ys:=ys) (o:=o) (sz:=4)
  ·exact rfl
  ·exact rfl
  ·exact rfl
  ·exact rfl
  ·exact rfl
  ·exact rfl
  ·exact rfl
  ·exact rfl
  ·exact(by decide)
  ·exact rfl
  ·exact rfl
  ·split
   ·have:ys=[]:=abA (by omega);rw[this];rfl
   ·simp only[cu,hg];rw[if_pos (by omega),pB]
  ·exact Gj
  ·intro bN
   rw[if_neg (λhh=>bN (abA (by omega)))];simp[iH]
  ·exact hg
  ·exact hm
  ·exact hz
  ·omega
  have Ae:k+ys.length=len - 1:=by omega
  have AO:h.set id {o with es:=o.es.take k++ys++o.es.drop (k+ys.length)}=h.set id {o with es:=dL}:=by rw[oU]
  have Ux:=(getM_some hg).2.1;have qI:getM (h.set id {o with es:=dL}) id ep=some {o with es:=dL}:=bo (abl cG) Ux (by show o.mu≠.x;rw[hm];simp);refine aY.heap AO ?_;rw[Ae];clear AO;refine wD ?_;apply R.zZ T6 (o:={o with es:=dL});exact rfl;exact rfl;exact qI;exact(by show 0+(len - 1)<=dL.length;omega);refine wD ?_;apply R.slice
  ·exact rfl
  ·exact rfl
  ·exact rfl
  ·exact rfl
  ·exact Ad (o:={o with es:=dL}) (len:=len - 1) (a:=len - 1) (b:=len) (k:=.i64) (k':=.i64) hu gM qI (abn _) (by omega) (by show len<=dL.length;omega)
  by_cases h1:len - 1=0
  ·rw[if_pos h1];have XS:len=1:=by omega
   subst XS;apply R.MX T6 (o:={o with es:=dL}) (z:=.agg [.int .i64 0,.str ByteArray.empty,.int .i64 0,.aa true [],.int .i64 0])
   ·exact rfl
   ·exact rfl
   ·exact hsT
   ·exact rfl
   ·show 5=o.bM;omega
   ·rfl
   ·exact qI
   ·exact hm
   ·show 0+1<=dL.length;omega
   refine wD ?_;exact⟨rfl,by rw[acn]⟩
  ·rw[if_neg h1];have h2:len - (len - 1)=1:=by omega
   rw[h2];apply R.MX T6 (o:={o with es:=dL}) (z:=.agg [.int .i64 0,.str ByteArray.empty,.int .i64 0,.aa true [],.int .i64 0])
   ·exact rfl
   ·exact rfl
   ·exact hsT
   ·exact rfl
   ·show 5=o.bM;omega
   ·rfl
   ·exact qI
   ·exact hm
   ·show len - 1+1<=dL.length;omega
   refine wD ?_;exact⟨rfl,by rw[acn]⟩
theorem Gk:fL C0.P 352 lR:=by
 intro args h r h' e w F β vs H ha
 unfold lR at e
 split at e
 ·rename_i id ep len i j
  split at e
  ·rename_i o hg
   split at e
   ·rename_i hc
    obtain⟨hm,hz,hle,XT,rfl,hi,hn,ga,dw⟩:=hc;obtain⟨rfl,rfl⟩:=abv (abi e);obtain⟨k,rfl⟩:=acF XT;have hk:k<len:=by omega
    obtain⟨pw,l3,t3,f3⟩:=Uw 0 hg hm hz hle hk hn ga dw;unfold ay at f3;obtain⟨r3,h3,⟨rfl,rfl⟩,n0,Tc⟩:=f3;obtain⟨g1,g2,g3⟩:=getM_some hg;have cG:=ag g1;refine(S0 n0 _ (.inr (sL rfl)) _ h _ _ (Tc n0 (abn _)) w F β vs H ha).mono ?_;rintro en w' ⟨v,β1,rfl,q1,q2,q3,_⟩;have eo:(h.set id {o with es:=pw})[id]?=some {o with es:=pw}:=abl cG;obtain⟨bc,hb⟩:=du q2.len eo;have JL:0<({o with es:=pw}:aw).bM:=by show 0<o.bM;omega
    obtain⟨_,_,_,k2,_⟩:=(q2.obj id _ bc eo hb (by show o.mu≠.x;rw[hm];simp)).c JL;have ZY:((o.es.take len).take k++(o.es.take len).drop (k+1)).length=len - 1:=by simp;omega
    have rs:=q2.oV eo hb hm ((o.es.take len).take k++(o.es.take len).drop (k+1)) (ep+1) (by show o.ep<ep+1;omega) (by rw[ZY];simp only at k2;omega) (λi e he=>by
     left
     show pw[i]?=some e;rw[<-t3]at he;rw[abF]at he
     split at he
     ·exact he
     ·cases he)
    have eL:(h.set id {o with es:=pw}).set id {({o with es:=pw}:aw)with es:=(o.es.take len).take k++(o.es.take len).drop (k+1),ep:=ep+1}=h.set id {o with ep:=ep+1,es:=(o.es.take len).take (Int.toNat (k:Int))++(o.es.take len).drop (Int.toNat (k:Int)+1)}:=by
     rw[acn];rfl
    have vr:=aE.oV (A:=Av F (h.set id {o with ep:=ep+1,es:=(o.es.take len).take (Int.toNat (k:Int))++(o.es.take len).drop (Int.toNat (k:Int)+1)}) β1) eo hb hm q1 g2 (by show len - 1<=pw.length;omega) ((o.es.take len).take k++(o.es.take len).drop (k+1)) (ep+1);rw[eL]at rs vr;exact⟨v,β1,rfl,vr,rs.1,q3.trans rs.2,λhh=>by omega⟩
   ·cases e
  ·cases e
 ·cases e
end Zero
end Go.Pm
namespace Go.Pm
open Go.Proofs
variable{w:World}{F:Nat->Prop}{β:List (Nat×Nat)}{h:ab}
set_option maxRecDepth 100000
set_option maxHeartbeats 4000000
theorem R.D5{C:cR}(T:lQ C.P){ops:Array Oper}{d:Nat}{ty:TypeId}{pos:String}{af:Array Edge}{r:List Oper}{ρ:Nat->PV}{L:List (Nat×PV)}{Q:St->Prop}{st xt el rk:TypeId}{sz gh id ep len:Nat}{z:PV}{full:Bool}{ys:List PV}{o:aw}{x y:Operand}(hx:cM L x=some (.ak id ep 0 len))(Uv:cM L y=some (.aa full ys))(hk:T.kd st=some (.sl el))(gv:T.kd xt=some (.sl rk))(hs:T.ts el=some (sz+1))(hb:T.tb el=some gh)(hz:T.tz el=some z)(jo:gh<=1000)(hl:(cells z).length=sz+1)(ho:(cells z).all bH=true)
  (hy:dK (sz+1) ys) (bN:ys.isEmpty=false) (hn:len+ys.length<1000000000) (hg:getM h id ep=some o) (hm:o.mu=.m) (JL:o.bM=sz+1) (hle:len<=o.es.length)
  (kk:ah C ops r ⟨al ((d,.ak id (ep+1) 0 (len+ys.length))::L) ρ,h.set id {o with ep:=ep+1,es:=o.es.take len++ys}⟩ Q):
  ah C ops (⟨some d,.call ⟨.builtin .append,#[x,y],#[st,xt]⟩,ty,pos,af,none⟩::r) ⟨al L ρ,h⟩ Q:=by
 refine ah.fe (λrun=>?_) kk;have mK:=lG T (full:=full) hk gv hs hb hz jo hl ho hy bN hn hg hm JL hle;simp only[au,bt,abD,abM,an hx,an Uv,mK]
theorem Bi{P:Program}{t el:TypeId}{fl:Bool}{sz:Nat}{k:IntKind}(hu:P.underlying t=some (.slice el))(hs:cA P el=some sz):cf P h t (.aa fl []) (some (.int k 0)) none none=some (.aa fl []):=by
 simp[cf,hu,hs,cJ]
attribute [local irreducible] aD az aL aJ Ev ah aj ay aY
theorem tj{sz:Nat}{e:PV}(h:kX sz e=true):dK sz [e]:=by
 unfold kX at h;simp only[abq]at h;unfold dK;simp only[ace,acS,acN,abq];exact⟨h.1.2,h.2⟩
namespace Zero
theorem uK{h:ab}{fl:Bool}{e:PV}(he:kX 5 e=true):ay C0 351 [.aa true [],.int .i64 0,.aa fl [e]] h (λr h'=>r=.ak h.length 0 0 1/\h'=h++[⟨.m,0,5,[e]⟩]):=by
 refine ay.dG Tryz.func351 rfl ?_;have hu:C0.P.underlying 175=some (.slice 187):=bz (T6.cT 175 _ rfl);have wQ:([e]:List PV).length=1:=rfl;refine wD ?_;apply R.slice
 ·exact rfl
 ·exact rfl
 ·exact rfl
 ·exact rfl
 ·exact Bi hu (T6.dV 187 5 rfl)
 (repeat' (first |refine ah.nil ?_ |(apply R.move;exact rfl)|(apply R.assign;exact rfl)|(apply R.cmp;exact rfl;exact rfl;exact rfl;all_goals intro hc;all_goals(try(exfalso;omega)))|(apply R.rV T6;exact rfl;exact rfl)|refine Ev.seq ?_ |refine Ev.region ?_ |(apply Ev.fJ;exact rfl)|refine Ev.skip ?_ |refine aD.normal ?_ |fail))
 all_goals try(exfalso;revert hc;decide)
 all_goals(
  apply R.jy T6;exact rfl;exact rfl;exact rfl;exact rfl;exact rfl;exact rfl;exact rfl;exact(by decide);exact rfl;exact rfl;exact tj he;exact(by simp);exact(by show 1<_;decide);refine wD ?_;exact⟨rfl,rfl⟩)
theorem uL{h:ab}{fl:Bool}{e:PV}{id ep len:Nat}{o:aw}(he:kX 5 e=true)(hg:getM h id ep=some o)(hm:o.mu=.m)(hz:o.bM=5)(hle:len<=o.es.length)(hn:len<100000000):
  ay C0 351 [.ak id ep 0 len,.int .i64 (len:Int),.aa fl [e]] h (λr h'=>r=.ak id (ep+1) 0 (len+1)/\h'=h.set id {o with ep:=ep+1,es:=o.es.take len++[e]}):=by
 refine ay.dG Tryz.func351 rfl ?_;have hu:C0.P.underlying 175=some (.slice 187):=bz (T6.cT 175 _ rfl);have wQ:([e]:List PV).length=1:=rfl;have gM:cA C0.P 187=some o.bM:=by rw[hz];exact T6.dV 187 5 rfl
 refine wD ?_;apply R.slice
 ·exact rfl
 ·exact rfl
 ·exact rfl
 ·exact rfl
 ·exact qH hu gM hg (abn _) hle
 refine wF λhc=>?_
 all_goals try(exfalso;revert hc;decide)
 all_goals(
  apply R.zZ T6 (o:=o);exact rfl;exact rfl;exact hg;exact(by omega);refine wF λhc=>?_;apply R.D5 T6 (o:=o);exact rfl;exact rfl;exact rfl;exact rfl;exact rfl;exact rfl;exact rfl;exact(by decide);exact rfl;exact rfl;exact tj he;exact rfl;exact(by show len+1<_;omega);exact hg;exact hm;exact hz;exact hle;refine wD ?_;exact⟨rfl,rfl⟩)
end Zero
end Go.Pm
namespace Go.Pm
open Go.Proofs
variable{w:World}{F:Nat->Prop}{β:List (Nat×Nat)}{h:ab}
set_option maxRecDepth 100000
set_option maxHeartbeats 4000000
theorem Cu(H:bm w F β h){v:Value}{id ep off len:Nat}{o:aw}(hv:aE w (Av F h β) β h v (.ak id ep off len))(hg:getM h id ep=some o)(hle:off+len<=o.es.length):
  ∃bc:Nat×Nat,β[id]?=some bc/\∃cap,v=.slice (some ⟨bc.1,off * o.bM,none⟩) len cap/\off+cap=bc.2:=by
 obtain⟨e1,e2,e3⟩:=getM_some hg;obtain⟨bc,hb⟩:=du H.len e1;obtain⟨_,_,m3⟩:=hv.dP;exact⟨bc,hb,m3 o bc e1 hb e3 e2 hle⟩
theorem th{P:Program}{a:Act}{ρ:Nat->PV}(H:bm w F β h)(R:iz w (Av F h β) β h a ρ){t el:TypeId}{x:Operand}{id ep len:Nat}{o:aw}{bc:Nat×Nat}(hu:P.underlying t=some (.slice el))(hx:ev ρ x=.ak id ep 0 len)(hg:getM h id ep=some o)(hb:β[id]?=some bc)(hle:len<=o.es.length):
  ∀oo:Oper,oo.op=.call ⟨.builtin .cap,#[x],#[t]⟩->wg P 2 w F β h (execOp a.eval oo) (.int .i64 (bc.2:Int)) h:=by
 intro oo ho
 have hv:=R.ev x;rw[hx]at hv;obtain⟨dm,dS,cap,e1,e2⟩:=Cu H hv hg (by omega);obtain rfl:=abi (hb.symm.trans dS);have hc:cap=bc.2:=by omega
 subst hc;obtain⟨d,op,ty,pos,af,g⟩:=oo;simp only at ho;subst ho;refine⟨.int .i64 (bc.2:Int),w,β,.inl ?_,.val (.int _ _),H,eg.refl w h β,λ_=>dH.refl w⟩
 have h1:(Builtin.cap_ #[t] ty #[a.eval x]).run P w=.ok (.int .i64 (bc.2:Int)) w:=by
  simp[Builtin.cap_,e1,bQ hu,goInt]
 simp only[execOp,resolve,Sem.run_bind,Sem.run_pure,Result.andThen_ok,invoke,builtin];simp[h1]
theorem rp{P:Program}(w:World)(tS tR e:TypeId)(ht:P.underlying tS=some (.slice e))(size:Nat)(hz:∀w,(Go.sizeOf e).run P w=.ok size w)
  (a b:Addr) (la ca lb cb:Nat) (bN:a.block≠b.block) (tA tB:TypeId) (kA kB:Nat)
  (QY:w.shape? a.block=some (tA,kA)) (WW:w.shape? b.block=some (tB,kB)) (QZ:kA≠0)
  (hfa:w.frozen? b=false) (YA:w.frozen? {block:=b.block,off:=kB}=false):
  (Extern.SlicesOverlaps.overlaps #[tS,tS] #[tR] #[.slice (some a) la ca,.slice (some b) lb cb]).run P w=.ok (.bool false) w:=by
 have Uf:(a.block !=b.block)=true:=by simpa using bN
 have aac:(a.block==b.block)=false:=by simpa using bN
 conv=>lhs;arg 2;whnf
 have he:(#[tS,tS]:Array TypeId)[0]=tS:=rfl;have hbp:∀{α β:Type} (x:α) (f:α->Sem β),(pure x:Sem α).bind f=f x:=λ_ _=>rfl
 by_cases h0:la=0\/lb=0\/size=0
 ·simp[Sem.run,Sem.bind,hbp,he,ht,hz,h0]
 ·cases kA with
  |zero=>exact absurd rfl QZ
  |succ kA=>
   cases h3:w.frozen? a <;>cases h4:w.frozen? {block:=a.block,off:=kA+1} <;>
    simp[Sem.run,Sem.bind,hbp,he,ht,hz,h0,Uf,aac,frozen,noView,viewAt,mayBeOne,stringish,shape,QY,WW,hfa,YA,h3,h4]
theorem rD{P:Program}{a:Act}{ρ:Nat->PV}(H:bm w F β h)(R:iz w (Av F h β) β h a ρ){t el tR:TypeId}{sz:Nat}{x y:Operand}{f:FuncId}{fn:Func}{fl:Bool}{e1:PV}{id ep off n:Nat}{o:aw}
  (hu:P.underlying t=some (.slice el)) (hs:cA P el=some sz) (hx:ev ρ x=.aa fl [e1]) (hy:ev ρ y=.ak id ep off n) (hg:getM h id ep=some o) (hm:o.mu=.m) (hle:off+n<=o.es.length)
  (hf : P.funcs[f]? = some fn) (YD : (fn.name == "runtime.NumGoroutine") = false) (LX : fn.body.isNone = true) (hn : Extern.findNext fn = none) (he : Extern.find fn = some (Extern.SlicesOverlaps.overlaps #[t, t] #[tR])) {Bh : Array TypeId} :
  ∀oo:Oper,oo.op=.call ⟨.value (.func f),#[x,y],Bh⟩->wg P 2 w F β h (execOp a.eval oo) (.bool false) h:=by
 intro oo ho
 have VA:=R.ev x;rw[hx]at VA;have WX:=R.ev y;rw[hy]at WX;obtain⟨bc,hb,cap,ey,e2⟩:=Cu H WX hg hle;obtain⟨g1,g2,g3⟩:=getM_some hg;obtain⟨T,cs,k1,k2,k3,k4,k5⟩:=(H.obj id o bc g1 hb g3).c (WX.dP.2.1 o g1).2;rcases VA.fN.uh with h0 |⟨b,aad,FZ,Iw,pN,ex,hnA,gM,wQ,Q7,LS⟩
 ·cases h0
 have Cj:b≠bc.1:=λhh=>hnA (.inr ⟨id,o,bc,g1,hb,hm,hh.symm⟩)
 have ll:=Q7 0 0 (by simp) gM
 obtain⟨tA,kA,QY,QZ⟩:∃tA kA,w.shape? b=some (tA,kA)/\kA≠0:=by
  simp only[World.cell?]at ll
  split at ll
  ·rename_i c el0 fr hh
   split at ll
   ·cases ll
   ·refine⟨el0,c.size,by simp[World.shape?,hh],?_⟩
    intro h0
    have:=(abL.1 ll).1;omega
  ·cases ll
 have WW:w.shape? bc.1=some (T,cs.size):=by simp[World.shape?,k1]
 have hfb:∀of,w.frozen? ⟨bc.1,of,none⟩=false:=λof=>by simp[World.frozen?,k1]
 have hov:=rp (P:=P) w t tR el hu sz (λw=>cH hs w) ⟨b,aad,none⟩ ⟨bc.1,off * o.bM,none⟩ 1 FZ n cap Cj tA T kA cs.size QY WW QZ (hfb _) (hfb _);obtain⟨d,op,ty,pos,af,g⟩:=oo;simp only at ho;subst ho;refine⟨.bool false,w,β,.inl ?_,.val (.bool _),H,eg.refl w h β,λ_=>dH.refl w⟩;have hc:=run_callFunc_extern hf YD LX hn he #[a.eval x,a.eval y] w;rw[ex,ey]at hc;rw[show([e1]:List PV).length=1 from rfl]at hc;rw[hov]at hc;have hfv:a.eval (.func f)=.func (.func f) #[] #[]:=rfl;simp only[execOp,resolve,hfv,Deferred.ofValue,Sem.run_bind,Sem.run_pure,Result.andThen_ok,invoke];simp only[Array.append_empty,List.map_toArray,abD,abM,ex,ey];exact hc
theorem vH{P:Program}{a:Act}{ρ:Nat->PV}(H:bm w F β h)(R:iz w (Av F h β) β h a ρ){st xt el:TypeId}{k:IntKind}{sz gh n:Nat}{z:PV}{x y:Operand}{id ep len:Nat}{o:aw}{bc:Nat×Nat}
  (hu:P.underlying st=some (.slice el)) (PN:P.underlying xt=some (.int k)) (hs:cA P el=some sz) (ni:0<sz) (hb:mW P el=some gh) (jo:gh<=1000) (hz:jq P el=some z) (hl:(cells z).length=sz) (uI:(cells z).all bH=true)
  (hx:ev ρ x=.ak id ep 0 len) (hy:ev ρ y=.int k (n:Int)) (hg:getM h id ep=some o) (ot:β[id]?=some bc) (hle:len<=o.es.length) (gM:o.bM=sz) (nR:bc.2<len+n) (hn:len+n<1000000000):
  ∀oo:Oper,oo.op=.call ⟨.builtin .append,#[x,y],#[st,xt]⟩->wg P 2 w F β h (execOp a.eval oo) (.ak h.length 0 0 (len+n)) (h++[⟨.m,0,sz,o.es.take len++List.replicate n z⟩]):=by
 intro oo ho
 obtain⟨d,op,ty,pos,af,g⟩:=oo;simp only at ho;subst ho;have VA:=R.ev x;rw[hx]at VA;have WX:=R.ev y;rw[hy]at WX;obtain⟨dm,dS,cap,ex,e2⟩:=Cu H VA hg (by omega);obtain rfl:=abi (ot.symm.trans dS);have Cs:cap=bc.2:=by omega
 subst Cs;obtain⟨g1,g2,g3⟩:=getM_some hg;obtain⟨T,ue,k1,k2,k3,k4,k5⟩:=(H.obj id o bc g1 ot g3).c (VA.dP.2.1 o g1).2
 have main:Cn P 2 w F β h (Builtin.append_ #[st,xt] ty #[a.eval x,a.eval y]) (.ak h.length 0 0 (len+n)) (h++[⟨.m,0,sz,o.es.take len++List.replicate n z⟩]):=by
  have XR:(List.replicate n z).length=n:=acQ
  have eK:(List.replicate n z).all (λv=>decide ((Pm.cells v).length=sz)&& (Pm.cells v).all bH)=true:=by
   rw[abk]
   intro v hv
   obtain rfl:=acg hv;rw[hl,uI];simp
  have aae:cC P h z xt (.int k (n:Int))=some (List.replicate n z):=by
   simp only[cC,PN];rw[if_pos (by omega)];simp
  obtain⟨vz,z1,z2⟩:=jW (P:=P) hz;obtain⟨zb,d',a1,a2,news,a3,a4,a5,a6⟩:=ti (st:=st) (vz:=vz) H hs hb hz ni (by omega) WX aae eK;rw[XR]at a5 a6;have zsz:vz.cells.size=sz:=by rw[((z2 w (Av F h β) β h).cells uI).1];exact hl
  have iK:cu h (.ak id ep 0 len)=some ((o.es.drop 0).take len):=by simp only[cu,hg];rw[if_pos (by omega)]
  have uk:((o.es.drop 0).take len).length=len:=by simp;omega
  obtain⟨a',FZ,ev',_,cs,f1,f2⟩:=l8 (P:=P) (sz:=sz) H VA iK (λy hy=>by
   obtain⟨k,hk⟩:=aco hy;rw[abF]at hk
   split at hk
   ·simp at hk;rw[<-gM];exact(k5 k y hk).1
   ·cases hk)
  simp only[acv]at f1 uk f2;have NM:len+n<=17592186044416:=by omega
  have VB:(len+n) * gh<=17592186044416:=by
   have:(len+n) * gh<=1000000000 * 1000:=adi (by omega) jo
   omega
  obtain⟨c,c1,gp⟩:=qa (P:=P) (w:=w) (ty:=ty) (ts:=#[st,xt]) (args:=#[a.eval x,a.eval y]) (olds:=cs) (sLen:=len) (sCap:=bc.2) (base:=some ⟨bc.1,0 * o.bM,none⟩) rfl rfl (by rw[ex];rfl) rfl hu hs a1 a2 hb (by omega) z1 a5 a6 (λw' B0=>by
   have:=f2 w' B0 len (by omega);rw[abO (by rw[f1.1,uk];exact abn _)]at this;rw[<-ex];exact this) (by omega) VB NM
  have IN:=f1.append a3;have arr:cs.toArray++news.toArray++Builtin.zeroCells vz.cells (c - (len+n))=(cs++news++(Builtin.zeroCells vz.cells (c - (len+n))).toList).toArray:=by apply acT;simp
  have arrsz:c * sz<=(cs.toArray++news.toArray++Builtin.zeroCells vz.cells (c - (len+n))).size:=by
   simp only[Array.size_append,adE,size_zeroCells,zsz,f1.1,a3.1,uk,XR,<-ab9];rw[show len+n+(c - (len+n))=c by omega];exact abn _
  obtain⟨HH,S⟩:=bm.new H (w':=w.drew.alloc (.cells (cs.toArray++news.toArray++Builtin.zeroCells vz.cells (c - (len+n))) el)) el
   (cs.toArray++news.toArray++Builtin.zeroCells vz.cells (c - (len+n))) {mu:=.m,ep:=0,bM:=sz,es:=o.es.take len++List.replicate n z} c rfl rfl rfl rfl rfl (by simp;omega)
   arrsz ni (λi e he=>by
    rw[arr];exact IN.obj (rest:=(Builtin.zeroCells vz.cells (c - (len+n))).toList) i e he)
  exact⟨_,_,_,gp,H.xa,HH,S,λhh=>by omega⟩
 obtain⟨v,w',β',r1,r2,r3,r4,r5⟩:=main;refine⟨v,w',β',.inl ?_,r2,r3,r4,r5⟩;simp only[execOp,resolve,Sem.run_bind,Sem.run_pure,Result.andThen_ok,invoke,builtin];simp only[List.map_toArray,abD,abM,r1,Result.andThen_ok]
theorem bm.NN{w w':World}{F:Nat->Prop}{β:List (Nat×Nat)}{h:ab}(H:bm w F β h){id:Nat}{o:aw}{bc:Nat×Nat}(eo:h[id]?=some o)(eb:β[id]?=some bc)(em:o.mu=.m)
  (T:TypeId) (cs:Array Value) (fA:List PV) (im:Nat) (dm:Nat×Nat)
  (gM:w.heap.size<=w'.heap.size) (cm:w'.heap[dm.1]?=some (.cells cs T (0,0))) (sb:∀b,b<w.heap.size->w'.heap[b]?=w.heap[b]?)
  (Ac:w.heap.size<=dm.1) (cG:o.ep<im) (ho:w'.os=w.os) (ht:w'.tape=w.tape) (hu:w'.output=w.output)
  (h1:fA.length<=dm.2) (h2:dm.2 * o.bM<=cs.size)
  (h4:∀(i:Nat) (e:PV),fA[i]?=some e->(cells e).length=o.bM/\∀(j:Nat) (p:PV),(cells e)[j]?=some p->∃v:Value,cs[i * o.bM+j]?=some v/\aE w' (Av F (h.set id {o with es:=fA,ep:=im}) (β.set id dm)) (β.set id dm) (h.set id {o with es:=fA,ep:=im}) v p)
  (hd:w.drawn<=w'.drawn:=by first |exact abn _ |exact ade _) (hz0:0<o.bM:=by first |assumption |omega):
  bm w' F (β.set id dm) (h.set id {o with es:=fA,ep:=im})/\eg w h β w' (h.set id {o with es:=fA,ep:=im}) (β.set id dm):=by
 have hlen:=H.len;have bW:=ag eo;have Vk:0<o.bM:=hz0;have nC:(h.set id {o with es:=fA,ep:=im})[id]?=some {o with es:=fA,ep:=im}:=by simp[bW]
 have bself:(β.set id dm)[id]?=some dm:=by simp[hlen,bW]
 have kE:∀k,k≠id->(h.set id {o with es:=fA,ep:=im})[k]?=h[k]?:=λk hk=>abm (acd hk)
 have both:∀k,k≠id->(β.set id dm)[k]?=β[k]?:=λk hk=>abm (acd hk)
 have hs:eg w h β w' (h.set id {o with es:=fA,ep:=im}) (β.set id dm):=by
  refine⟨gM,by simp,λb hb hm=>sb b hb,?_,?_,?_,ho,ht,hu,hd⟩
  ·rintro b hb ⟨k,o',c',e1,e2,e3,rfl⟩
   by_cases hk:k=id
   ·subst hk;rw[bself]at e2;obtain rfl:=abi e2;omega
   ·rw[kE k hk]at e1;rw[both k hk]at e2;exact⟨k,o',c',e1,e2,e3,rfl⟩
  ·intro k o' c' e1 e2 e3
   by_cases hk:k=id
   ·subst hk;rw[eo]at e1;rw[eb]at e2;obtain rfl:=abi e1;obtain rfl:=abi e2;exact⟨_,dm,nC,bself,by rw[em];simp,⟨Nat.le_of_lt cG,λh=>h⟩,λe=>by simp at e;omega⟩
   ·exact⟨o',c',by rw[kE k hk];exact e1,by rw[both k hk];exact e2,e3,⟨abn _,λh=>h⟩,λ_=>⟨rfl,λ_=>rfl,rfl⟩⟩
  ·intro k o' e1 e2
   have hk:k≠id:=by
    rintro rfl;rw[eo]at e1;obtain rfl:=abi e1;exact e2 em
   exact⟨by rw[kE k hk];exact e1,both k hk⟩
 refine⟨⟨by simp[hlen],λb hb=>ab5 (H.fin b hb) gM,?_,?_,?_⟩,hs⟩
 ·intro k o' c' e1 e2 e3
  by_cases hk:k=id
  ·subst hk;rw[nC]at e1;rw[bself]at e2;obtain rfl:=abi e1;obtain rfl:=abi e2;exact .inl ⟨T,cs,cm,h1,h2,Vk,h4⟩
  ·rw[kE k hk]at e1;rw[both k hk]at e2;have r:=H.obj k o' c' e1 e2 e3;exact kY.mono hs (sb _ r.lt) r
 ·intro k k' o1 o2 PR GD bN e1 e2 e3 e4 m1 m2
  by_cases hk:k=id
  ·subst hk;have gv:k'≠k:=acd bN;rw[kE k' gv]at e2;rw[both k' gv]at e4;rw[bself]at e3;obtain rfl:=abi e3;have:=(H.obj k' o2 GD e2 e4 m2).lt;omega
  ·rw[kE k hk]at e1;rw[both k hk]at e3
   by_cases gv:k'=id
   ·subst gv;rw[bself]at e4;obtain rfl:=abi e4;have:=Mb.lt H ⟨k,o1,PR,e1,e3,m1,rfl⟩;omega
   ·rw[kE k' gv]at e2;rw[both k' gv]at e4;exact H.iL k k' o1 o2 PR GD bN e1 e2 e3 e4 m1 m2
 ·intro k o' c' e1 e2 e3
  by_cases hk:k=id
  ·subst hk;rw[bself]at e2;obtain rfl:=abi e2
   intro hf;have:=H.fin _ hf;omega
  ·rw[kE k hk]at e1;rw[both k hk]at e2;exact H.out k o' c' e1 e2 e3
end Go.Pm
namespace Go.Pm
open Go.Proofs
section
variable{w:World}{F:Nat->Prop}{β:List (Nat×Nat)}
variable{C:cR}(T:lQ C.P)
variable{ops:Array Oper}{i:Nat}{d:Nat}{ty:TypeId}{pos:String}{af:Array Edge}{r:List Oper}{ρ:Nat->PV}{L:List (Nat×PV)}{h:ab}{Q:St->Prop}
set_option maxRecDepth 100000
set_option maxHeartbeats 4000000
theorem cX{P:Program}{t el:TypeId}{id ep len a:Nat}{o:aw}{k:IntKind}(hu:P.underlying t=some (.slice el))(hs:cA P el=some o.bM)(hg:getM h id ep=some o)(ha:a<len)(hle:len<=o.es.length):
  cf P h t (.ak id ep 0 len) (some (.int k (a:Int))) none none=some (.ak id ep a (len - a)):=by
 rw[qH hu hs hg (by omega) hle]
 by_cases h0:a=0
 ·subst h0;simp
 ·rw[if_neg h0,if_neg (by omega)]
theorem NP{dt el:TypeId}{sz id ep off len:Nat}{u:PV}{ys:List PV}{o:aw}(hk:T.kd dt=some (.sl el))(hs:T.ts el=some sz)(hu:cu h u=some ys)(hg:getM h id ep=some o)(hm:o.mu=.m)(hz:o.bM=sz)(hle:off+len<=o.es.length)
  (hy:ys.all (λv=>decide ((cells v).length=sz))=true) (Q8:(ys.take (min ys.length len)).all (λv=>decide ((cells v).length=sz)&& (cells v).all bH)=true):
  AF C.P 2 h dt (.ak id ep off len) u=some (.int .i64 (min ys.length len:Nat),h.set id {o with es:=o.es.take off++ys.take (min ys.length len)++o.es.drop (off+min ys.length len)}):=by
 unfold AF;rw[bz (T.cT _ _ hk),hu];simp only[T.dV _ _ hs,hg];rw[if_pos ⟨abn _,hm,hz.symm,hle,hy,Q8⟩]
theorem R.copy{dt xt el:TypeId}{sz id ep off len:Nat}{u:PV}{ys:List PV}{o:aw}{x y:Operand}(hx:cM L x=some (.ak id ep off len))(Uv:cM L y=some u)(hk:T.kd dt=some (.sl el))(hs:T.ts el=some sz)(hu:cu h u=some ys)(hg:getM h id ep=some o)(hm:o.mu=.m)(hz:o.bM=sz)(hle:off+len<=o.es.length)
  (hy:ys.all (λv=>decide ((cells v).length=sz))=true) (Q8:(ys.take (min ys.length len)).all (λv=>decide ((cells v).length=sz)&& (cells v).all bH)=true)
  (kk:ah C ops r ⟨al ((d,.int .i64 (min ys.length len:Nat))::L) ρ,h.set id {o with es:=o.es.take off++ys.take (min ys.length len)++o.es.drop (off+min ys.length len)}⟩ Q):
  ah C ops (⟨some d,.call ⟨.builtin .copy,#[x,y],#[dt,xt]⟩,ty,pos,af,none⟩::r) ⟨al L ρ,h⟩ Q:=by
 refine ah.fe (λrun=>?_) kk;have mK:=NP T hk hs hu hg hm hz hle hy Q8;simp only[au,bt,abD,abM,an hx,an Uv,mK]
theorem D.copy{dt xt el:TypeId}{sz id ep off len L0:Nat}{own:List Nat}{u:PV}{ys:List PV}{o:aw}{x y:Operand}(di:level ops (before ops) i=2)(hx:cM L x=some (.ak id ep off len))(Uv:cM L y=some u)(hk:T.kd dt=some (.sl el))(hs:T.ts el=some sz)(hu:cu h u=some ys)(hg:getM h id ep=some o)(hm:o.mu=.m)(hz:o.bM=sz)(hle:off+len<=o.es.length)
  (hy:ys.all (λv=>decide ((cells v).length=sz))=true) (Q8:(ys.take (min ys.length len)).all (λv=>decide ((cells v).length=sz)&& (cells v).all bH)=true)
  (kk:aY C ops (i+1) r ⟨⟨al ((d,.int .i64 (min ys.length len:Nat))::L) ρ,h.set id {o with es:=o.es.take off++ys.take (min ys.length len)++o.es.drop (off+min ys.length len)}⟩,(h.set id {o with es:=o.es.take off++ys.take (min ys.length len)++o.es.drop (off+min ys.length len)}).length,[]⟩ Q):
  aY C ops i (⟨some d,.call ⟨.builtin .copy,#[x,y],#[dt,xt]⟩,ty,pos,af,none⟩::r) ⟨⟨al L ρ,h⟩,L0,own⟩ Q:=by
 refine aY.two rfl di ⟨0,λn _=>?_⟩ kk;have mK:=NP T hk hs hu hg hm hz hle hy Q8;simp only[au,bt,abD,abM,an hx,an Uv,mK]
end
set_option maxRecDepth 100000
set_option maxHeartbeats 4000000
def tlC:Nat->Code->Code
 |0,c=>c
 |n+1,.seq _ b=>tlC n b
 |_,c=>c
attribute [local irreducible] aD az aL aJ Ev ah aj ay aY
namespace Zero
noncomputable def NK:Code:=match Tryz.f351.body with |some c=>c |none=>.skip
theorem yn:Tryz.f351.body=some NK:=rfl
variable{w:World}{F:Nat->Prop}{β:List (Nat×Nat)}
theorem tg{h:ab}{id ep len i N:Nat}{o:aw}{fl:Bool}{e:PV}{a:Act}{Q:Exit->Act->World->Prop}(hg:getM h id ep=some o)(hz:o.bM=5)(hle:len<=o.es.length)(hi:i<len)(hn:len<100000000)(hN:N=Tryz.f351.ntmps)
  (RR:SR N w F β ⟨nB [.ak id ep 0 len,.int .i64 (i:Int),.aa fl [e]],h⟩ a)
  (k:∀a' w' β' ρ',SR N w' F β' ⟨al [(0,.ak id ep 0 len),(1,.int .i64 (i:Int)),(2,.aa fl [e]),(7,.int .i64 1),(8,.int .i64 (len:Int))] ρ',h⟩ a'->eg w h β w' h β'->(tlC 6 NK).wp C0.P Q a' w'):NK.wp C0.P Q a w:=by
 subst hN;have hu:C0.P.underlying 175=some (.slice 187):=bz (T6.cT 175 _ rfl);have gM:cA C0.P 187=some o.bM:=by rw[hz];exact T6.dV 187 5 rfl
 have wQ:([e]:List PV).length=1:=rfl;refine wp_seq ?_;refine cL K0 bX S0 (M:=λex s'=>ex=.normal/\∃ρ',s'=⟨al [(0,.ak id ep 0 len),(1,.int .i64 (i:Int)),(2,.aa fl [e])] ρ',h⟩) rfl ?_ RR ?_
 ·rw[iB];refine wD ?_;exact⟨rfl,_,St.aU ⟨rfl,rfl,rfl,trivial⟩⟩
 rintro ex s' a1 w1 β1 ⟨rfl,ρ1,rfl⟩ R1 S1;refine wp_seq ?_;refine cL K0 bX S0 (M:=λex s'=>ex=.normal/\∃ρ',s'=⟨al [(0,.ak id ep 0 len),(1,.int .i64 (i:Int)),(2,.aa fl [e])] ρ',h⟩) rfl ?_ R1 ?_
 ·refine wD ?_;apply R.slice
  ·exact rfl
  ·exact rfl
  ·exact rfl
  ·exact rfl
  ·exact cX hu gM hg hi hle
  refine wD ?_;exact⟨rfl,_,St.aU ⟨rfl,rfl,rfl,trivial⟩⟩
 rintro ex s' a2 w2 β2 ⟨rfl,ρ2,rfl⟩ R2 S2;refine wp_seq ?_;refine cL K0 bX S0 (M:=λex s'=>ex=.normal/\∃ρ',s'=⟨al [(0,.ak id ep 0 len),(1,.int .i64 (i:Int)),(2,.aa fl [e]),(7,.int .i64 1)] ρ',h⟩) rfl ?_ R2 ?_
 ·refine wD ?_;exact⟨rfl,_,St.aU ⟨rfl,rfl,rfl,rfl,trivial⟩⟩
 rintro ex s' a3 w3 β3 ⟨rfl,ρ3,rfl⟩ R3 S3;refine wp_seq ?_;refine cL K0 bX S0 (M:=λex s'=>ex=.normal/\∃ρ',s'=⟨al [(0,.ak id ep 0 len),(1,.int .i64 (i:Int)),(2,.aa fl [e]),(7,.int .i64 1)] ρ',h⟩) rfl ?_ R3 ?_
 ·refine wF λhc=>?_;exact⟨rfl,_,St.aU ⟨rfl,rfl,rfl,rfl,trivial⟩⟩
 rintro ex s' a4 w4 β4 ⟨rfl,ρ4,rfl⟩ R4 S4;refine wp_seq ?_;refine cL K0 bX S0 (M:=λex s'=>ex=.normal/\∃ρ',s'=⟨al [(0,.ak id ep 0 len),(1,.int .i64 (i:Int)),(2,.aa fl [e]),(7,.int .i64 1),(8,.int .i64 (len:Int))] ρ',h⟩) rfl ?_ R4 ?_
 ·refine wD ?_;apply R.zZ T6 (o:=o);exact rfl;exact rfl;exact hg;exact(by omega);refine wD ?_;exact⟨rfl,_,St.aU ⟨rfl,rfl,rfl,rfl,rfl,trivial⟩⟩
 rintro ex s' a5 w5 β5 ⟨rfl,ρ5,rfl⟩ R5 S5;refine wp_seq ?_;refine cL K0 bX S0 (M:=λex s'=>ex=.normal/\∃ρ',s'=⟨al [(0,.ak id ep 0 len),(1,.int .i64 (i:Int)),(2,.aa fl [e]),(7,.int .i64 1),(8,.int .i64 (len:Int))] ρ',h⟩) rfl ?_ R5 ?_
 ·refine wF λhc=>?_;exact⟨rfl,_,St.aU ⟨rfl,rfl,rfl,rfl,rfl,trivial⟩⟩
 rintro ex s' a6 w6 β6 ⟨rfl,ρ6,rfl⟩ R6 S6;exact k _ _ _ _ R6 (((((S1.trans S2).trans S3).trans S4).trans S5).trans S6)
end Zero
end Go.Pm
namespace Go.Pm
open Go.Proofs
set_option maxRecDepth 100000
set_option maxHeartbeats 4000000
theorem yp{pre:List PV}{X e:PV}{i:Nat}(hi:i<pre.length){ys dL:List PV}(pB:ys=((pre++[X]).drop i).take (pre.length+1 - i))(oU:dL=(pre++[X]).take (i+1)++ys.take (pre.length - i)++(pre++[X]).drop (i+1+(pre.length - i))):
  ys.take (pre.length - i)=pre.drop i/\dL.length=pre.length+1/\dL.take i++[e]++dL.drop (i+1)=pre.take i++[e]++pre.drop i:=by
 have h1:ys.take (pre.length - i)=pre.drop i:=by
  rw[pB,acE,acq (by omega)];rw[abW (by simp;omega)];rw[abO (by simp;omega)]
 have h2:(pre++[X]).drop (i+1+(pre.length - i))=[]:=abR (by simp;omega);have h3:dL=(pre++[X]).take (i+1)++pre.drop i:=by rw[oU,h1,h2];simp
 have h4:((pre++[X]).take (i+1)).length=i+1:=by simp;omega
 refine⟨h1,by rw[h3];simp;omega,?_⟩
 congr 1
 ·congr 1
  rw[h3,abW (by omega),acE,abW (by omega)]
  congr 1;omega
 ·rw[h3,acq (by omega),abR (by omega),abT]
attribute [local irreducible] aD az aL aJ Ev ah aj ay aY
namespace Zero
variable{w:World}{F:Nat->Prop}{β:List (Nat×Nat)}
theorem uJ{h:ab}{id ep len i:Nat}{o:aw}{fl:Bool}{e X:PV}{pre:List PV}{vs:List Value}(H:bm w F β h)(ha:L2 (aE w (Av F h β) β h) vs [.ak id ep 0 len,.int .i64 (i:Int),.aa fl [e]])
  (hg:getM h id ep=some o) (hm:o.mu=.m) (hz:o.bM=5) (iK:o.es=pre++[X]) (kH:pre.length=len) (hi:i<len) (hn:len<100000000) (ga:pre.all (kX 5)=true) (hX:(cells X).length=5) (he:kX 5 e=true) (dw:aV h=true):
  mZ C0.P 2 w F β h 351 vs (.ak id ep 0 (len+1)) (h.set id {o with es:=pre.take i++[e]++pre.drop i}):=by
 have cr:o.es.length=len+1:=by rw[iK];simp[kH]
 have hu:C0.P.underlying 175=some (.slice 187):=bz (T6.cT 175 _ rfl);have sc:cA C0.P 187=some 5:=T6.dV 187 5 rfl;have gM:cA C0.P 187=some o.bM:=by rw[hz];exact sc
 obtain⟨g1,g2,g3⟩:=getM_some hg;have cG:=ag g1;obtain⟨bc,ot⟩:=du H.len g1;obtain⟨T,cs,k1,k2,k3,k4,k5⟩:=(H.obj id o bc g1 ot g3).c (by omega);have Cs:len+1<=bc.2:=by omega
 have ij:aQ h id=true:=by unfold aQ;rw[g1];simp[hm]
 have hj:((len:Int)+1)=((len+1:Nat):Int):=by omega
 have vu:((i:Int)+1)=((i+1:Nat):Int):=by omega
 have dS:∀{w':World} {β':List (Nat×Nat)},eg w h β w' h β'->β'[id]?=some bc:=by
  intro w' β' S
  obtain⟨o',dm,f1,f2,f3,f4,f5⟩:=S.refs id o bc g1 ot g3;obtain rfl:=abi (g1.symm.trans f1);rw[f2,(f5 rfl).2.2]
 refine jz (P:=C0.P) (c:=NK) Tryz.func351 yn H ha (λa RR=>tg hg hz (by omega) hi hn rfl RR (λa1 w1 β1 ρ1 R1 S1=>?_));refine wp_seq ?_;refine wp_seq ?_;apply bY K0 S0 (pre:=[_,_,_,_]) (post:=[_]) (R:=R1) (M:=λs'=>∃ρ',s'=⟨al ((28,.int .i64 ((len:Int)+1))::(29,.ak id ep 0 len)::[(0,.ak id ep 0 len),(1,.int .i64 (i:Int)),(2,.aa fl [e]),(7,.int .i64 1),(8,.int .i64 (len:Int))]) ρ',h⟩) (M2:=λs'=>∃ρ',s'=⟨al ((31,.bool false)::[(0,.ak id ep 0 len),(1,.int .i64 (i:Int)),(2,.aa fl [e]),(7,.int .i64 1),(8,.int .i64 (len:Int))]) ρ',h⟩)
 ·rfl
 ·rfl
 ·refine wD ?_;exact⟨_,St.aU ⟨rfl,rfl,rfl,rfl,rfl,rfl,rfl,trivial⟩⟩
 ·rintro s1 a2 w2 β2 ⟨ρ2,rfl⟩ R2 S2;refine⟨.int .i64 (bc.2:Int),h,th (t:=175) (x:=.tmp 29) R2.hr R2.er hu (dC (t:=29) rfl ρ2) hg (dS (S1.trans S2)) (by omega) _ rfl,?_⟩;show ah C0 _ _ ⟨cd (al _ ρ2) (some 30) (.int .i64 (bc.2:Int)),h⟩ _;rw[cj];refine wF λhc=>?_;exact⟨_,St.aU ⟨rfl,rfl,rfl,rfl,rfl,rfl,trivial⟩⟩
 rintro s3 a3 w3 β3 ⟨ρ3,rfl⟩ R3 S3;refine cL K0 bX S0 (M:=λex s'=>ex=.normal/\∃ρ',s'=⟨al [(0,.ak id ep 0 len),(1,.int .i64 (i:Int)),(2,.aa fl [e]),(7,.int .i64 1),(8,.int .i64 (len:Int))] ρ',h⟩) rfl ?_ R3 ?_
 ·refine wD ?_;exact⟨rfl,_,St.aU ⟨rfl,rfl,rfl,rfl,rfl,trivial⟩⟩
 rintro ex s' a4 w4 β4 ⟨rfl,ρ4,rfl⟩ R4 S4;refine wp_seq ?_;refine cL K0 bX S0 (M:=λex s'=>ex=.normal/\∃ρ',s'=⟨al [(0,.ak id ep 0 (len+1)),(1,.int .i64 (i:Int)),(2,.aa fl [e]),(7,.int .i64 1)] ρ',h⟩) rfl ?_ R4 ?_
 ·refine wD ?_;apply R.slice
  ·exact rfl
  ·exact rfl
  ·exact rfl
  ·exact rfl
  ·show cf C0.P h 175 (.ak id ep 0 len) none (some (.int .i64 ((len:Int)+1))) none=_;rw[hj];exact pS hu gM hg (by omega) (by omega)
  refine wD ?_;exact⟨rfl,_,St.aU ⟨rfl,rfl,rfl,rfl,trivial⟩⟩
 rintro ex s' a5 w5 β5 ⟨rfl,ρ5,rfl⟩ R5 S5;refine wp_seq ?_;refine wp_seq ?_;apply bY K0 S0 (pre:=[_,_,_,_,_,_]) (post:=[_]) (R:=R5) (M:=λs'=>∃ρ',s'=⟨al ((61,.aa fl [e])::(66,.ak id ep (i+1) (len+1 - (i+1)))::[(0,.ak id ep 0 (len+1)),(1,.int .i64 (i:Int)),(2,.aa fl [e]),(7,.int .i64 1)]) ρ',h⟩) (M2:=λs'=>∃ρ',s'=⟨al ((68,.bool true)::[(0,.ak id ep 0 (len+1)),(1,.int .i64 (i:Int)),(2,.aa fl [e]),(7,.int .i64 1)]) ρ',h⟩)
 ·rfl
 ·rfl
 ·refine wD ?_;apply R.slice
  ·exact rfl
  ·exact rfl
  ·exact rfl
  ·exact rfl
  ·show cf C0.P h 175 (.ak id ep 0 (len+1)) (some (.int .i64 ((i:Int)+1))) none none=_;rw[vu];exact cX hu gM hg (by omega) (by omega)
  refine wD ?_;exact⟨_,St.aU ⟨rfl,rfl,rfl,rfl,rfl,rfl,trivial⟩⟩
 ·rintro s1 a6 w6 β6 ⟨ρ6,rfl⟩ R6 S6;refine⟨.bool false,h,rD (t:=175) (tR:=4) (x:=.tmp 61) (y:=.tmp 66) (f:=379) R6.hr R6.er hu sc (dC (t:=61) rfl ρ6) (dC (t:=66) rfl ρ6) hg hm (by omega) Tryz.func379 (by kernel_rfl) (by kernel_rfl) (by kernel_rfl) (by kernel_rfl) _ rfl,?_⟩;show ah C0 _ _ ⟨cd (al _ ρ6) (some 67) (.bool false),h⟩ _;rw[cj];refine wD ?_;exact⟨_,St.aU ⟨rfl,rfl,rfl,rfl,rfl,trivial⟩⟩
 rintro s7 a7 w7 β7 ⟨ρ7,rfl⟩ R7 S7;obtain⟨ys,pB⟩:∃ys,ys=((pre++[X]).drop i).take (pre.length+1 - i):=⟨_,rfl⟩;obtain⟨dL,oU⟩:∃dL,dL=(pre++[X]).take (i+1)++ys.take (pre.length - i)++(pre++[X]).drop (i+1+(pre.length - i)):=⟨_,rfl⟩;obtain⟨l1,l2,l3⟩:=yp (e:=e) (by omega) pB oU;rw[kH]at l1 l2;have XR:ys.length=len+1 - i:=by rw[pB];simp;omega
 have NO:∀v∈ys,(cells v).length=5:=by
  intro v hv
  rw[pB]at hv;have:=ab4 (ab3 hv);rcases abp.1 this with hv |hv
  ·have:=abk.1 ga v hv;unfold kX at this;simp only[abq,decide_eq_true_eq]at this;exact this.1.2
  ·obtain rfl:=abP.1 hv;exact hX
 have Ct:(cells e).length=5/\(cells e).all bH=true:=by
  unfold kX at he;simp only[abq,decide_eq_true_eq]at he;exact⟨he.1.2,he.2⟩
 have NL:min ys.length (len+1 - (i+1))=len - i:=by omega
 have AO:h.set id {o with es:=o.es.take (i+1)++ys.take (min ys.length (len+1 - (i+1)))++o.es.drop (i+1+min ys.length (len+1 - (i+1)))}=h.set id {o with es:=dL}:=by
  rw[NL,iK,oU,kH]
 have qI:getM (h.set id {o with es:=dL}) id ep=some {o with es:=dL}:=bo (abl cG) g2 (by show o.mu≠.x;rw[hm];simp);have yo:min ([e]:List PV).length (len+1 - i)=1:=by show min 1 _=1;omega
 have pu:(h.set id {o with es:=dL}).set id {({o with es:=dL}:aw)with es:=dL.take i++[e].take (min ([e]:List PV).length (len+1 - i))++dL.drop (i+min ([e]:List PV).length (len+1 - i))}=h.set id {o with es:=pre.take i++[e]++pre.drop i}:=by
  rw[acn,yo,<-l3];rfl
 refine cL K0 bX S0 (M:=λex s'=>ex=.ret/\∃ρ',s'=⟨al [(6,.ak id ep 0 (len+1))] ρ',h.set id {o with es:=pre.take i++[e]++pre.drop i}⟩) rfl ?_ R7 ?_
 ·refine wD ?_;apply D.slice
  ·exact dw
  ·exact rfl
  ·exact ij
  ·exact rfl
  ·exact rfl
  ·exact rfl
  ·exact rfl
  ·exact rfl
  ·exact rfl
  ·show cf C0.P h 175 (.ak id ep 0 (len+1)) (some (.int .i64 ((i:Int)+1))) none none=_;rw[vu];exact cX hu gM hg (by omega) (by omega)
  refine wD ?_;apply D.slice
  ·exact dw
  ·exact rfl
  ·exact ij
  ·exact rfl
  ·exact rfl
  ·exact rfl
  ·exact rfl
  ·exact rfl
  ·exact rfl
  ·exact cX hu gM hg (by omega) (by omega)
  apply D.copy T6 (ys:=ys) (o:=o) (sz:=5)
  ·exact rfl
  ·exact rfl
  ·exact rfl
  ·exact rfl
  ·exact rfl
  ·simp only[cu,hg];rw[if_pos (by omega),iK,pB,kH]
  ·exact hg
  ·exact hm
  ·exact hz
  ·omega
  ·rw[abk]
   intro v hv
   simp[NO v hv]
  ·rw[NL,l1,abk]
   intro v hv
   have:=abk.1 ga v (ab4 hv);unfold kX at this;simp only[abq]at this ⊢;exact⟨this.1.2,this.2⟩
  refine aY.heap AO ?_;refine wD ?_;apply R.slice
  ·exact rfl
  ·exact rfl
  ·exact rfl
  ·exact rfl
  ·exact cX (o:={o with es:=dL}) hu gM qI (by omega) (by show len+1<=dL.length;omega)
  refine wD ?_;apply R.copy T6 (ys:=[e]) (o:={o with es:=dL}) (sz:=5)
  ·exact rfl
  ·exact rfl
  ·exact rfl
  ·exact rfl
  ·exact rfl
  ·exact qI
  ·exact hm
  ·exact hz
  ·show i+(len+1 - i)<=dL.length;omega
  ·simp[Ct.1]
  ·simp only[yo,adq,adT,ace,acS,Ct.1,Ct.2];rfl
  refine wD ?_;exact⟨rfl,_,(congrArg (λhh=>(⟨_,hh⟩:St)) pu).trans (St.aU ⟨rfl,trivial⟩)⟩
 rintro ex s8 a8 w8 β8 ⟨rfl,ρ8,rfl⟩ R8 S8;refine⟨.inr rfl,_,β8,R8,(((((S1.trans S3).trans S4).trans S5).trans S7).trans S8),[.ak id ep 0 (len+1)],?_,λu Vz=>⟨β8,Vz,R8.hr,(((((S1.trans S3).trans S4).trans S5).trans S7).trans S8)⟩⟩
 ·exact eF (L:=[(6,.ak id ep 0 (len+1))]) rfl
 all_goals rfl
end Zero
end Go.Pm
namespace Go.Pm
open Go.Proofs
set_option maxRecDepth 100000
set_option maxHeartbeats 4000000
mutual
theorem Ki{f g:Nat->Bool}(PU:∀i,f i=true->g i=true):∀p,bq f p=true->bq g p=true
 | .int ..,_ | .bool _,_ | .str _,_ | .eE,_ | .aG,_ | .gN,_ | .aa ..,_ | .eQ _,_ | .undef,_ | .any,_=>rfl
 | .agg cs,h=>by simp only[bq]at h ⊢;exact jV PU cs h
 | .ct cs,h=>by simp only[bq]at h ⊢;exact jV PU cs h
 | .fn _ cs,h=>by simp only[bq]at h ⊢;exact jV PU cs h
 | .ou _ _ cs,h=>by simp only[bq]at h ⊢;exact jV PU cs h
 | .ak ..,h=>by simp only[bq]at h ⊢;exact PU _ h
 | .ptr ..,h=>by simp only[bq]at h ⊢;exact PU _ h
 | .cD _,h=>by simp only[bq]at h ⊢;exact PU _ h
theorem jV{f g:Nat->Bool}(PU:∀i,f i=true->g i=true):∀cs,bw f cs=true->bw g cs=true
 |[],_=>rfl
 |c::r,h=>by
  simp only[bw,abq]at h ⊢;exact⟨Ki PU c h.1,jV PU r h.2⟩
end
theorem mR{h h':ab}(hv:∀i,aQ h i=true->aQ h' i=true)(ho:∀o'∈h',o'.mu=.x\/bw (aQ h') o'.es=true\/∃o∈h,o.es=o'.es/\(o.mu=.x->o'.mu=.x))(dw:aV h=true):aV h'=true:=by
 unfold aV at dw ⊢;rw[abk]at dw ⊢
 intro o' h1
 rcases ho o' h1 with h2 |h2 |⟨o,h2,h3,h4⟩
 ·simp[h2]
 ·rw[h2];simp
 ·have:=dw o h2;simp only[abN,decide_eq_true_eq]at this ⊢;rcases this with hh |hh
  ·exact .inl (h4 hh)
  ·exact .inr (by rw[<-h3];exact jV hv _ hh)
theorem vF{h:ab}(dw:aV h=true):aV (h.map bS)=true:=by
 refine mR (h:=h) (λi hi=>?_) (λo' h1=>?_) dw
 ·unfold aQ at hi ⊢;rw[abB]
  split at hi
  ·rename_i o ho
   rw[ho];simp only[abw,decide_eq_true_eq]at hi ⊢;exact λhh=>hi ((bO o).2.2.2.1.1 hh)
  ·cases hi
 ·obtain⟨o,h2,rfl⟩:=abZ.1 h1;exact .inr (.inr ⟨o,h2,(bO o).2.2.1.symm,λhh=>(bO o).2.2.2.1.2 hh⟩)
theorem vG{h:ab}{n sz:Nat}{es:List PV}(hv:ar es=true)(dw:aV h=true):aV (h++[⟨.m,n,sz,es⟩])=true:=by
 refine mR (h:=h) (λi hi=>?_) (λo' h1=>?_) dw
 ·unfold aQ at hi ⊢
  split at hi
  ·rename_i o ho
   rw[abj (ag ho),ho];exact hi
  ·cases hi
 ·rcases abp.1 h1 with h1 |h1
  ·exact .inr (.inr ⟨o',h1,rfl,λhh=>hh⟩)
  ·obtain rfl:=abP.1 h1;exact .inr (.inl (bj _ _ hv))
theorem Bg{es:List PV}{Z e:PV}{i len:Nat}(hi:i<len)(hl:len<=es.length){mD dL ys:List PV}(h1:mD=es.take i++List.replicate (len+1 - i) Z)(h2:dL=mD.take i++[e]++mD.drop (i+1))(h3:ys=(es.drop i).take (len - i)):
  mD.length=len+1/\dL.length=len+1/\ys.length=len - i/\ys=(es.take len).drop i/\dL.take (i+1)++ys++dL.drop (i+1+(len - i))=(es.take len).take i++[e]++(es.take len).drop i:=by
 have a1:mD.length=len+1:=by rw[h1];simp;omega
 have a2:dL.length=len+1:=by rw[h2];simp;omega
 have a3:ys.length=len - i:=by rw[h3];simp;omega
 have a4:ys=(es.take len).drop i:=by rw[h3,adS]
 refine⟨a1,a2,a3,a4,?_⟩;rw[abR (by omega),abJ,a4]
 congr 1
 rw[h2,abW (by simp;omega),abO (by simp;exact Nat.min_le_left _ _)]
 congr 1
 rw[h1,abW (by simp;omega),acE,acE]
 congr 1;omega
theorem IT{h:ab}{o:aw}(hm:o.mu≠.x):getM (h++[o]) h.length o.ep=some o:=bo (by simp) rfl hm
theorem oY{h k:ab}{id ep:Nat}{o:aw}(hg:getM h id ep=some o):getM (h++k) id ep=some o:=by
 obtain⟨g1,g2,g3⟩:=getM_some hg;exact bo (by rw[abj (ag g1)];exact g1) g2 g3
theorem set_push{h:ab}{o o':aw}:(h++[o]).set h.length o'=h++[o']:=by
 rw[acA _ _ (abn _)];simp
attribute [local irreducible] aD az aL aJ Ev ah aj ay aY
namespace Zero
variable{w:World}{F:Nat->Prop}{β:List (Nat×Nat)}
theorem ym{h:ab}{id ep len i:Nat}{o:aw}{bc:Nat×Nat}{fl:Bool}{e:PV}{vs:List Value}(H:bm w F β h)(ha:L2 (aE w (Av F h β) β h) vs [.ak id ep 0 len,.int .i64 (i:Int),.aa fl [e]])
  (hg:getM h id ep=some o) (hz:o.bM=5) (hle:len<=o.es.length) (ot:β[id]?=some bc) (Cs:bc.2<len+1) (hi:i<len) (hn:len<100000000) (ga:(o.es.take len).all (kX 5)=true) (he:kX 5 e=true) (dw:aV h=true):
  mZ C0.P 2 w F β h 351 vs (.ak h.length 0 0 (len+1)) (h++[⟨.m,0,5,(o.es.take len).take i++[e]++(o.es.take len).drop i⟩]):=by
 have hu:C0.P.underlying 175=some (.slice 187):=bz (T6.cT 175 _ rfl);have sc:cA C0.P 187=some 5:=T6.dV 187 5 rfl;have gM:cA C0.P 187=some o.bM:=by rw[hz];exact sc
 obtain⟨g1,g2,g3⟩:=getM_some hg;have cG:=ag g1;have hj:((i:Int)+1)=((i+1:Nat):Int):=by omega
 have XL:((len:Int)+1 - (i:Int))=((len+1 - i:Nat):Int):=by omega
 have jJ:i+(len+1 - i)=len+1:=by omega
 have dS:∀{w':World} {β':List (Nat×Nat)},eg w h β w' h β'->β'[id]?=some bc:=by
  intro w' β' S
  obtain⟨o',dm,f1,f2,f3,f4,f5⟩:=S.refs id o bc g1 ot g3;obtain rfl:=abi (g1.symm.trans f1);rw[f2,(f5 rfl).2.2]
 obtain⟨mD,GK⟩:∃mD,mD=o.es.take i++List.replicate (len+1 - i) (.agg [.int .i64 0,.str ByteArray.empty,.int .i64 0,.aa true [],.int .i64 0]:PV):=⟨_,rfl⟩;obtain⟨dL,oU⟩:∃dL,dL=mD.take i++[e]++mD.drop (i+1):=⟨_,rfl⟩;obtain⟨ys,pB⟩:∃ys,ys=(o.es.drop i).take (len - i):=⟨_,rfl⟩;obtain⟨l1,l2,l3,l4,l5⟩:=Bg hi hle GK oU pB
 have Ct:(cells e).length=5/\(cells e).all bH=true/\aW e=true:=by
  unfold kX at he;simp only[abq,decide_eq_true_eq]at he;exact⟨he.1.2,he.2,he.1.1⟩
 have Gj:ys.all (kX 5)=true:=by
  rw[l4,abk]
  intro v hv
  exact abk.1 ga v (ab4 hv)
 have zR:ar mD=true:=by
  rw[GK,bB,acj,<-bB]
  have:ar (o.es.take i)=true:=by
   refine l6 (sz:=5) ?_;rw[abk]
   intro v hv
   refine abk.1 ga v ?_;have:o.es.take i=(o.es.take len).take i:=by rw[acE];congr 1;omega
   rw[this]at hv;exact ab3 hv
  rw[this,acs,abk]
  intro v hv
  obtain rfl:=acg hv
  rfl
 have Di:ar dL=true:=by
  rw[bB,abk]at zR ⊢
  intro v hv
  rw[oU]at hv;rcases abp.1 hv with hv |hv
  ·rcases abp.1 hv with hv |hv
   ·exact zR v (ab3 hv)
   ·obtain rfl:=abP.1 hv;exact Ct.2.2
  ·exact zR v (ab4 hv)
 have GL:aV (h++[⟨.m,0,5,dL⟩])=true:=vG Di dw;have QX:∀es,getM (h++[⟨.m,0,5,es⟩]) h.length 0=some ⟨.m,0,5,es⟩:=λes=>IT (o:=⟨.m,0,5,es⟩) (by simp)
 have YB:∀es,getM (h++[⟨.m,0,5,es⟩]) id ep=some o:=λes=>oY hg
 have ij:∀es,aQ (h++[⟨.m,0,5,es⟩]) id=true:=λes=>by unfold aQ;rw[abj cG,g1];simpa using g3
 have NJ:∀es,aQ (h++[⟨.m,0,5,es⟩]) h.length=true:=λes=>by unfold aQ;simp
 refine jz (P:=C0.P) (c:=NK) Tryz.func351 yn H ha (λa RR=>tg hg hz (by omega) hi hn rfl RR (λa1 w1 β1 ρ1 R1 S1=>?_));refine wp_seq ?_;refine wp_seq ?_;apply bY K0 S0 (pre:=[_,_,_,_]) (post:=[_]) (R:=R1) (M:=λs'=>∃ρ',s'=⟨al ((28,.int .i64 ((len:Int)+1))::(29,.ak id ep 0 len)::[(0,.ak id ep 0 len),(1,.int .i64 (i:Int)),(2,.aa fl [e]),(7,.int .i64 1),(8,.int .i64 (len:Int))]) ρ',h⟩) (M2:=λs'=>∃ρ',s'=⟨al ((31,.bool true)::[(0,.ak id ep 0 len),(1,.int .i64 (i:Int)),(2,.aa fl [e]),(7,.int .i64 1),(8,.int .i64 (len:Int))]) ρ',h⟩)
 ·rfl
 ·rfl
 ·refine wD ?_;exact⟨_,St.aU ⟨rfl,rfl,rfl,rfl,rfl,rfl,rfl,trivial⟩⟩
 ·rintro s1 a2 w2 β2 ⟨ρ2,rfl⟩ R2 S2;refine⟨.int .i64 (bc.2:Int),h,th (t:=175) (x:=.tmp 29) R2.hr R2.er hu (dC (t:=29) rfl ρ2) hg (dS (S1.trans S2)) (by omega) _ rfl,?_⟩;show ah C0 _ _ ⟨cd (al _ ρ2) (some 30) (.int .i64 (bc.2:Int)),h⟩ _;rw[cj];refine wF λhc=>?_;exact⟨_,St.aU ⟨rfl,rfl,rfl,rfl,rfl,rfl,trivial⟩⟩
 rintro s3 a3 w3 β3 ⟨ρ3,rfl⟩ R3 S3
 have Vy:a3.eval (.tmp 31)=.bool true:=by
  have:=R3.er.ev (.tmp 31);rw[show ev (al ((31,PV.bool true)::[(0,.ak id ep 0 len),(1,.int .i64 (i:Int)),(2,.aa fl [e]),(7,.int .i64 1),(8,.int .i64 (len:Int))]) ρ3) (.tmp 31)=.bool true from dC (t:=31) rfl ρ3]at this;exact this.gG
 refine wp_cond_true Vy ?_;refine wp_seq ?_;apply bY K0 S0 (pre:=[_,_,_,_,_,_,_,_]) (post:=[_]) (R:=R3) (M:=λs'=>∃ρ',s'=⟨al ((34,.ak id ep 0 i)::(39,.int .i64 ((len:Int)+1 - (i:Int)))::[(0,.ak id ep 0 len),(1,.int .i64 (i:Int)),(2,.aa fl [e]),(7,.int .i64 1),(8,.int .i64 (len:Int))]) ρ',h⟩) (M2:=λs'=>∃ρ',s'=⟨al ((9,.ak h.length 0 0 (len+1))::[(0,.ak id ep 0 len),(1,.int .i64 (i:Int)),(2,.aa fl [e]),(7,.int .i64 1),(8,.int .i64 (len:Int))]) ρ',h++[⟨.m,0,5,mD⟩]⟩)
 case ho=>rfl
 case hg=>rfl
 ·refine wD ?_;apply R.slice
  ·exact rfl
  ·exact rfl
  ·exact rfl
  ·exact rfl
  ·exact um hu gM hg (by omega) hle
  refine wD ?_;exact⟨_,St.aU ⟨rfl,rfl,rfl,rfl,rfl,rfl,rfl,trivial⟩⟩
 ·rintro s1 a4 w4 β4 ⟨ρ4,rfl⟩ R4 S4;have os:=vH (P:=C0.P) (st:=175) (xt:=3) (el:=187) (x:=.tmp 34) (y:=.tmp 39) (k:=.i64) (n:=len+1 - i) (len:=i) R4.hr R4.er hu (pK (T6.cT 3 _ rfl)) sc (by decide) (T6.rU 187 _ rfl) (by decide) (T6.nt 187 (.agg [.int .i64 0,.str ByteArray.empty,.int .i64 0,.aa true [],.int .i64 0]) rfl) rfl rfl (dC (t:=34) rfl ρ4) (by rw[<-XL];exact dC (t:=39) rfl ρ4) hg (dS ((S1.trans S3).trans S4)) (by omega) hz (by omega) (by omega);rw[jJ,<-GK]at os;refine⟨.ak h.length 0 0 (len+1),h++[⟨.m,0,5,mD⟩],os _ rfl,?_⟩;show ah C0 _ _ ⟨cd (al _ ρ4) (some 40) (.ak h.length 0 0 (len+1)),_⟩ _;rw[cj];refine wD ?_;exact⟨_,St.aU ⟨rfl,rfl,rfl,rfl,rfl,rfl,trivial⟩⟩
 rintro s5 a5 w5 β5 ⟨ρ5,rfl⟩ R5 S5;have NL:min ([e]:List PV).length (len+1 - i)=1:=by show min 1 _=1;omega
 have yo:min ys.length (len+1 - (i+1))=len - i:=by omega
 have YC:ys.take (len - i)=ys:=abO (by omega)
 have AO:(h++[⟨.m,0,5,mD⟩]:ab).set h.length {(⟨.m,0,5,mD⟩:aw)with es:=mD.take i++[e].take (min ([e]:List PV).length (len+1 - i))++mD.drop (i+min ([e]:List PV).length (len+1 - i))}=h++[⟨.m,0,5,dL⟩]:=by
  rw[NL,set_push,oU];rfl
 have hh3:(h++[⟨.m,0,5,dL⟩]:ab).set h.length {(⟨.m,0,5,dL⟩:aw)with es:=dL.take (i+1)++ys.take (min ys.length (len+1 - (i+1)))++dL.drop (i+1+min ys.length (len+1 - (i+1)))}=h++[⟨.m,0,5,(o.es.take len).take i++[e]++(o.es.take len).drop i⟩]:=by
  rw[yo,set_push,YC,l5]
 refine cL K0 bX S0 (M:=λex s'=>ex=.ret/\∃ρ',s'=⟨al [(6,.ak h.length 0 0 (len+1))] ρ',h++[⟨.m,0,5,(o.es.take len).take i++[e]++(o.es.take len).drop i⟩]⟩) rfl ?_ R5 ?_
 ·refine wD ?_;apply R.slice
  ·exact rfl
  ·exact rfl
  ·exact rfl
  ·exact rfl
  ·exact cX hu sc (QX mD) (by omega) (by show len+1<=mD.length;omega)
  refine wD ?_;apply R.copy T6 (ys:=[e]) (o:=⟨.m,0,5,mD⟩) (sz:=5)
  ·exact rfl
  ·exact rfl
  ·exact rfl
  ·exact rfl
  ·exact rfl
  ·exact QX mD
  ·exact rfl
  ·exact rfl
  ·show i+(len+1 - i)<=mD.length;omega
  ·simp[Ct.1]
  ·simp only[NL,adq,adT,ace,acS,Ct.1,Ct.2.1];rfl
  rw[AO];refine wD ?_;apply D.slice
  ·exact GL
  ·exact rfl
  ·exact NJ dL
  ·exact rfl
  ·exact rfl
  ·exact rfl
  ·exact rfl
  ·exact rfl
  ·exact rfl
  ·show cf C0.P _ 175 (.ak h.length 0 0 (len+1)) (some (.int .i64 ((i:Int)+1))) none none=_;rw[hj];exact cX hu sc (QX dL) (by omega) (by show len+1<=dL.length;omega)
  refine wD ?_;apply D.slice
  ·exact GL
  ·exact rfl
  ·exact ij dL
  ·exact rfl
  ·exact rfl
  ·exact rfl
  ·exact rfl
  ·exact rfl
  ·exact rfl
  ·exact cX hu gM (YB dL) hi hle
  apply D.copy T6 (ys:=ys) (o:=⟨.m,0,5,dL⟩) (sz:=5)
  ·exact rfl
  ·exact rfl
  ·exact rfl
  ·exact rfl
  ·exact rfl
  ·simp only[cu,YB];rw[if_pos (by omega),pB]
  ·exact QX dL
  ·exact rfl
  ·exact rfl
  ·show i+1+(len+1 - (i+1))<=dL.length;omega
  ·rw[abk]
   intro v hv
   have:=abk.1 Gj v hv;unfold kX at this;simp only[abq]at this;exact this.1.2
  ·rw[yo,YC,abk]
   intro v hv
   have:=abk.1 Gj v hv;unfold kX at this;simp only[abq]at this ⊢;exact⟨this.1.2,this.2⟩
  refine aY.heap hh3 ?_;refine wD ?_;exact⟨rfl,_,St.aU ⟨rfl,trivial⟩⟩
 rintro ex s8 a8 w8 β8 ⟨rfl,ρ8,rfl⟩ R8 S8;have SS:=(((S1.trans S3).trans S5).trans S8);refine⟨.inr rfl,_,β8,R8,SS,[.ak h.length 0 0 (len+1)],?_,λu Vz=>⟨β8,Vz,R8.hr,SS⟩⟩
 ·exact eF (L:=[(6,.ak h.length 0 0 (len+1))]) rfl
 all_goals rfl
end Zero
end Go.Pm
