/-
  A part of the library Pm (joined by program). Conditions: none.
-/
import Derived.Test.YtimogkojklpdnaaGreatDoorPzAA
import Derived.Test.YtimogkojklpdnaaGreatDoorPzAF
import Derived.Test.YtimogkojklpdnaaGreatDoorPzAB
import Derived.Test.YtimogkojklpdnaaGreatDoorPzAC
import Derived.Laws.Externs
import Derived.Laws.Cover3
import Derived.Test.YtimogkojklpdnaaGreatDoorPzAE
import Derived.Test.YtimogkojklpdnaaGreatDoorPzAD
import Derived.Test.YtimogkojklpdnaaGreatDoorRows
import Derived.WalkKit
import Derived.ProofKit
import Derived.Deep.Slices
import Derived.ChangeArms
import Derived.OpenShut
import Derived.JoinedCond
import Derived.WideKeyArgs
import Derived.Shelf.SlSortCmp.WholeK
import Derived.Lib.Overlaps
set_option linter.unusedVariables false
set_option linter.unusedSimpArgs false
set_option linter.unnecessarySimpa false
namespace Go.Pm
variable{w:World}{F:Nat->Prop}{β:List (Nat×Nat)}{h:ab}
theorem tQ{C:cK}(K:fP C){run:gU}(S:gF C run){N:Nat}{ops:Array Oper}{Q:Exit->Act->World->Prop}(hd:ops.toList.all (ji N)=true)(rest:List Nat)(l2:List Oper):
  ∀(l:List Oper) (k:Nat) {w:World} {β:List (Nat×Nat)} {s s':St} {a:Act},ops.toList.drop k=l++l2->SR N w F β s a->dw C run ops l s=some s'->
   (∀a' w' β',SR N w' F β' s' a'->dN w s.h β w' s'.h β'->wpOps C.P ops Q rest a' w')->wpOps C.P ops Q (List.map (·+k) (List.range l.length)++rest) a w:=by
 intro l
 induction l with
 |nil=>
  intro k w β s s' a hl R e hQ
  simp[dw]at e;subst e;simpa using hQ a w β R (dN.refl w s.h β)
 |cons o r ih=>
  intro k w β s s' a hl R e hQ
  simp only[dw]at e
  have hk:ops[k]?=some o:=by
   rw[<-Z1];have:(ops.toList.drop k)[0]?=some o:=by rw[hl];rfl
   rwa[Z7]at this
  have hr:ops.toList.drop (k+1)=r++l2:=by
   have:=congrArg (List.drop 1) hl;rw[List.drop_drop]at this;simpa using this
  have vD:List.map (·+k) (List.range (o::r).length)++rest=k::(List.map (·+(k+1)) (List.range r.length)++rest):=by
   rw[ZA,abE];simp only[ZN,ZS,aa5,Z3]
   congr 2
   apply aan
   intro x _
   simp;omega
  rw[vD];simp only[wpOps,hk]
  split at e
  ·rename_i s1 he
   have UA:ji N o=true:=Zw.1 hd o (by
    have:o∈ops.toList.drop k:=by rw[hl];simp
    exact aac this)
   have:=yD K S R UA he (Q:=Q) (next:=wpOps C.P ops Q (List.map (·+(k+1)) (List.range r.length)++rest)) (λa' w' β' R' S'=>ih (k+1) hr R' e (λa2 w2 β2 R2 S2=>hQ a2 w2 β2 R2 (S'.trans S2)))
   split
   ·rename_i hw;rw[if_pos hw]at this;exact .inl this
   ·rename_i hw;rw[if_neg hw]at this;exact this
  ·cases e
theorem AI{P:Program}{N:Nat}{ops:Array Oper}{Q:Exit->Act->World->Prop}{rest:List Nat}{k:Nat}{o:Oper}{s:St}{a:Act}{p:PV}{h':ab}(hk:ops[k]?=some o)(hg:o.guard=none)(hd:ji N o=true)(R:SR N w F β s a)
  (S:ud P 2 w F β s.h (execOp a.eval o) p h') (hK:∀a' w' β',SR N w' F β' ⟨bV s.ρ o.dst p,h'⟩ a'->dN w s.h β w' h' β'->wpOps P ops Q rest a' w'):wpOps P ops Q (k::rest) a w:=by
 simp only[wpOps,hk];have hw:Region.wanted o (yielded ops a.tmps)=true:=by simp[Region.wanted,hg]
 rw[if_pos hw]
 left
 have IY:=gN hd R.sz;obtain⟨v,w',β',h1,h2,h3,h4,_⟩:=S
 have fin:∀u,u=v->wpOps P ops Q rest (a.put o.dst u) w':=by
  rintro u rfl;exact hK _ w' β' ⟨h3,(R.er.mono h4).put IY h2,by rw[dH];exact R.df,by rw[fW];exact R.sz⟩ h4
 unfold Oper.wp;rcases h1 with h1 |⟨h1,rfl⟩
 ·rw[h1];exact fin _ rfl
 ·rw[h1];exact fin _ rfl
theorem bQ{C:cK}(K:fP C)(fL:∀n,gF C (eV C n)){N:Nat}{ops:Array Oper}{id:Nat}{Q:Exit->Act->World->Prop}(hd:ops.toList.all (ji N)=true){pre post:List Oper}{o:Oper}(ho:ops.toList=pre++o::post)(hg:o.guard=none)
  {s:St} {a:Act} (R:SR N w F β s a) {M M2:St->Prop} (e1:ah C ops pre s M)
  (hs:∀s1 a1 w1 β1,M s1->SR N w1 F β1 s1 a1->dN w s.h β w1 s1.h β1->∃p h',ud C.P 2 w1 F β1 s1.h (execOp a1.eval o) p h'/\ah C ops post ⟨bV s1.ρ o.dst p,h'⟩ M2)
  (hQ:∀s3 a3 w3 β3,M2 s3->SR N w3 F β3 s3 a3->dN w s.h β w3 s3.h β3->Q .normal a3 w3):(Code.region id ops false).wp C.P Q a w:=by
 refine wp_region ?_;obtain⟨s1,m1,n0,Tw⟩:=e1
 have VX:ops.size=pre.length+(post.length+1):=by
  have:=congrArg List.length ho;simpa using this
 have vD:List.range ops.size=List.map (·+0) (List.range pre.length)++(pre.length::(List.map (·+(pre.length+1)) (List.range post.length)++[])):=by
  rw[VX,List.range_add];simp only[aaX,List.map_id',ZV]
  congr 1
  rw[abE];simp only[ZN,aaX,aa5]
  congr 1
  apply aan
  intro x _
  simp;omega
 rw[vD];have UA:ji N o=true:=Zw.1 hd o (by rw[ho];simp)
 have hk:ops[pre.length]?=some o:=by
  rw[<-Z1,ho,ZI (Zz _)];simp
 refine tQ K (fL n0) hd _ (o::post) pre 0 (by simpa using ho) R (Tw n0 (Zz _)) (λa1 w1 β1 R1 S1=>?_);obtain⟨p,h',os,e2⟩:=hs s1 a1 w1 β1 m1 R1 S1;obtain⟨s3,m3,n1,Dc⟩:=e2;refine AI hk hg UA R1 os (λa2 w2 β2 R2 S2=>?_);refine tQ K (fL n1) hd [] [] post (pre.length+1) ?_ R2 (Dc n1 (Zz _)) (λa3 w3 β3 R3 S3=>?_)
 ·have:ops.toList.drop (pre.length+1)=post:=by
   rw[ho,List.drop_append];simp
  simpa using this
 ·simp only[wpOps];exact hQ s3 a3 w3 β3 m3 R3 (S1.trans (S2.trans S3))
theorem cA{C:cK}(K:fP C)(hm:C.P.follows .mixedOrders=true)(fL:∀n,gF C (eV C n)){N:Nat}{c:Code}{s:St}{a:Act}{M:Ex->St->Prop}{Q:Exit->Act->World->Prop}(hc:codeOk N c=true)(e:Ev C c s M)(R:SR N w F β s a)
  (hQ:∀ex s' a' w' β',M ex s'->SR N w' F β' s' a'->dN w s.h β w' s'.h β'->Q (OM ex) a' w'):c.wp C.P Q a w:=by
 obtain⟨ex,s',m,n0,hn⟩:=e;exact CT K hm (fL n0) c hc (hn n0 n0 (Zz _) (Zz _)) R (λa' w' β' R' S'=>hQ ex s' a' w' β' m R' S')
theorem iV{P:Program}{f:FuncId}{fn:Func}{c:Code}{args:List PV}{vs:List Value}{r:PV}{h':ab}(Mw:P.funcs[f]?=some fn)(hc:fn.body=some c)(H:aZ w F β h)(ha:L2 (aD w (Av F h β) β h) vs args)
  (hw:∀a,SR fn.ntmps w F β ⟨mi args,h⟩ a->c.wp P (λex a' w'=>(ex=.normal\/ex=.ret)/\∃s' β',SR fn.ntmps w' F β' s' a'/\dN w h β w' s'.h β'/\∃rs,db P s'.h s'.ρ fn.results.toList=some rs/\
    ∀u,aD w' (Av F s'.h β') β' s'.h u (aY rs)->∃β2,aD w' (Av F h' β2) β2 h' u r/\aZ w' F β2 h'/\dN w h β w' h' β2) a w):lW P 2 w F β h f vs r h':=by
 refine calls_of_wp Mw hc ?_;have hlen:=ha.1
 have R:SR fn.ntmps w F β ⟨mi args,h⟩ {tmps:=vs.toArray++Array.replicate (fn.ntmps - vs.toArray.size) undef,defers:=[]}:=by
  refine⟨H,λt=>?_,rfl,by simp;omega⟩;show aD w (Av F h β) β h ((vs.toArray++Array.replicate (fn.ntmps - vs.toArray.size) undef).getD t Go.undef) (args.getD t .undef)
  by_cases ht:t<args.length
  ·have e1:(vs.toArray++Array.replicate (fn.ntmps - vs.toArray.size) undef).getD t Go.undef=vs.getD t Go.undef:=by
    rw[aaJ,abj,if_pos (by simp;omega)];simp[List.getD]
   have e2:args.getD t .undef=args.getD t .any:=by simp[List.getD,ht]
   rw[e1,e2];exact ha.2 t ht
  ·have e1:(vs.toArray++Array.replicate (fn.ntmps - vs.toArray.size) undef).getD t Go.undef=Go.undef:=by
    rw[aaJ,abj];rw[if_neg (by simp;omega)];rw[abx]
    split <;>rfl
   have e2:args.getD t .undef=.undef:=by simp[List.getD,ZM (show args.length<=t by omega)]
   rw[e1,e2];exact .undef
 refine Code.wp_mono ?_ (hw _ R);rintro ex a' w' ⟨hex,s',β',R',S',rs,VY,pW⟩;obtain⟨u,r1,r2⟩:=tT (P:=P) R'.hr R'.er fn VY;obtain⟨β2,f1,f2,f3⟩:=pW u r2;rcases hex with rfl |rfl
 ·exact⟨R'.df,u,r1,u,β2,rfl,f1,f2,f3,λhh=>by omega⟩
 ·exact⟨R'.df,u,r1,u,β2,rfl,f1,f2,f3,λhh=>by omega⟩
theorem aZ.nq(H:aZ w F β h){id:Nat}{o:au}{bc:Nat×Nat}(eo:h[id]?=some o)(eb:β[id]?=some bc)(em:o.mu=.m)(fq:List PV)(gV:Nat)(QL:o.ep<gV)(h1:fq.length<=bc.2)
  (h4:∀(i:Nat) (e:PV),fq[i]?=some e->o.es[i]?=some e\/((cells e).length=o.bB/\∀p∈cells e,p=.any)) (hz:0<o.bB:=by first |assumption |omega):
  aZ w F β (h.set id {o with es:=fq,ep:=gV})/\dN w h β w (h.set id {o with es:=fq,ep:=gV}) β:=by
 obtain⟨T,cs,k1,k2,k3,k4,k5⟩:=(H.obj id o bc eo eb (by rw[em];simp)).c hz
 have Ec:∀i:Nat,i<fq.length->i * o.bB+o.bB<=cs.size:=λi hi=>by
  have:(i+1) * o.bB<=bc.2 * o.bB:=Z9 _ (by omega);rw[aag,Nat.one_mul]at this;omega
 have:=H.set eo eb em (w':=w) T cs fq gV bc (Zz _) k1 (λ_ _ _=>rfl) (.inl ⟨rfl,λhh=>by omega⟩) (Nat.le_of_lt QL) rfl rfl rfl h1 k3 (λi e he=>by
  rcases h4 i e he with hh |⟨h5,h6⟩
  ·exact k5 i e hh
  ·refine⟨h5,λj p hp=>?_⟩;have hj:j<o.bB:=by have:=ag hp;omega
   have hi:=ag he;have:=Ec i hi;refine⟨cs[i * o.bB+j],aaC (by omega),?_⟩;rw[h6 p (ZK hp)];exact .any _)
 rw[wV eb]at this;exact this
theorem aD.nq{v:Value}{id ep n:Nat}{o:au}{bc:Nat×Nat}(eo:h[id]?=some o)(eb:β[id]?=some bc)(em:o.mu=.m)(hv:aD w (Av F h β) β h v (.aj id ep 0 n))(he:o.ep=ep)(hn:n<=o.es.length)(fq:List PV)(gV:Nat){A:Nat->Prop}:
  aD w A β (h.set id {o with es:=fq,ep:=gV}) v (.aj id gV 0 n):=by
 obtain⟨_,m2,m3⟩:=hv.dG;obtain⟨cap,c1,c2⟩:=m3 o bc eo eb (by rw[em];simp) he (by omega);exact .aj v id gV 0 n {o with es:=fq,ep:=gV} bc ⟨_,_,_,c1⟩ (ZB (ag eo)) eb (by show o.mu≠.x;rw[em];simp) ⟨Zz _,(m2 o eo).2⟩ (λ_ _=>⟨cap,c1,c2⟩)
end Go.Pm
namespace Go.Pm
open Go.Proofs
set_option maxRecDepth 20000
def P7:Mode->Bool
 | .pure=>true
 | .opened=>true
 |_=>false
def VO:Mode->Bool
 | .no=>true
 | .ext _=>true
 |_=>false
def Gf(C:cK)(f:FuncId):Bool:=!P7 (C.mode f)||match C.P.funcs[f]? with
 |some fn=>match fn.body with
  |some c=>codeOk fn.ntmps c
  |none=>true
 |none=>true
def CG(C:cK)(f:FuncId):Bool:=VO (C.mode f)||match C.P.funcs[f]? with
 | some fn => fn.body.isSome && !(fn.name == "runtime.NumGoroutine")
 |none=>false
theorem SV:((List.range 437).all (Gf C))=true:=by kernel_rfl
theorem OF:((List.range 437).all (CG C))=true:=by kernel_rfl
theorem zo{p:Nat->Bool}{n:Nat}(h:(List.range n).all p=true){f:Nat}(hf:f<n):p f=true:=Zw.1 h f (abB.2 hf)
theorem CH{f:Nat}(h:437<=f):C.mode f=.no:=by
 show jo f=.no;unfold jo;have bI:∀k:Nat,k<437->¬f=k:=λk hk=>by omega
 have hl:∀l:List Nat,l.all (λk=>decide (k<437))=true->l.contains f=false:=by
  intro l hl
  cases hc:l.contains f with
  |false=>rfl
  |true=>
   have:=Zw.1 hl f (by simpa using hc);have:=of_decide_eq_true this;omega
 rw[hl _ (by decide),hl _ (by decide)];simp only[ZJ,if_false]
 repeat' rw[if_neg (bI _ (by decide))]
 rw[if_neg (by omega:¬f<410)]
theorem og:pA C where
 mixed:=by kernel_rfl
 A4 f fn c hm hf hb:=by
  have cz:f<437:=by
   rcases Z8 f 437 with h |h
   ·exact h
   ·rw[CH h]at hm;rcases hm with hm |hm <;>cases hm
  have:=zo SV cz;unfold Gf at this;rw[hf]at this;simp only[hb]at this;have hr:P7 (C.mode f)=true:=by rcases hm with hm |hm <;>rw[hm] <;>rfl
  simpa[hr]using this
theorem Hv : ∀ f, (∀ _h : C.mode f = .no, False) → (∀ g, C.mode f ≠ .ext g) → ∃ fn, C.P.funcs[f]? = some fn ∧ fn.body.isSome = true ∧ (fn.name == "runtime.NumGoroutine") = false := by
 intro f hf bI
 have cz:f<437:=by
  rcases Z8 f 437 with h |h
  ·exact h
  ·exact(hf (CH h)).elim
 have:=zo OF cz;unfold CG at this
 have hn:VO (C.mode f)=false:=by
  cases hm:C.mode f with
  |no=>exact(hf hm).elim
  |ext g=>exact(bI g hm).elim
  |_=>rfl
 rw[hn]at this;simp only[aa0]at this
 split at this
 ·rename_i fn Mw
  simp only[ZD,aaS]at this;exact⟨fn,Mw,this.1,this.2⟩
 ·cases this
theorem Si:∀f g,C.mode f=.ext g->∀args r,g args=some r->∀(w:World) (A:Nat->Prop) (vs:List Value),L2 (bY w A) vs args->∃v,(callFunc f vs.toArray).run C.P w=.ok (.value v) w/\bY w A v r:=by
 intro f g hm args r hr w A vs ha
 have NR:jo f=.ext g:=hm;unfold jo at NR
 split at NR
 ·cases NR
 ·split at NR
  ·rename_i hf
   obtain rfl:=Mode.ext.inj NR;simp only at hr
   split at hr
   ·rename_i a b
    obtain rfl:=Zu hr;obtain⟨hl,hh⟩:=ha
    match vs,hl with
    |[x,y],_=>
     have h0:=hh 0 (by simp);have h1:=hh 1 (by simp);simp only[abp,abq]at h0 h1
     cases h0
     cases h1
     subst hf;refine⟨_,?_,.int _ _⟩;rw[run_callFunc_extern (P:=C.P) Tryz.func194 (by kernel_rfl) (by kernel_rfl) (by kernel_rfl) (e:=Extern.BytealgCompare.compare) (by kernel_rfl)];show((Extern.BytealgCompare.compare #[.string a,.string b]).run C.P w).andThen _=_;rw[Lib.run_compareString]
     rfl
   ·cases hr
  ·repeat' split at NR
   all_goals cases NR
set_option maxRecDepth 100000
def L0:List FuncId:=[352,351,215]
noncomputable def C0:cK:=⟨C.P,λf=>if L0.contains f=true then .opened else .no⟩
theorem qZ{f:FuncId}(h:L0.contains f=true):C0.mode f=.opened:=if_pos h
theorem u5(f:FuncId):C0.mode f=.opened\/C0.mode f=.no:=by
 by_cases hf:L0.contains f=true
 ·exact .inl (if_pos hf)
 ·exact .inr (if_neg hf)
theorem Pj{f:FuncId}(h:C0.mode f≠.no):f∈L0:=by
 by_cases hf:L0.contains f=true
 ·simpa using hf
 ·exact(h (if_neg hf)).elim
def Jg(P:Program)(f:FuncId):Bool:=match P.funcs[f]? with
 | some fn => fn.body.isSome && !(fn.name == "runtime.NumGoroutine")
 |none=>false
theorem Xg:L0.all (Jg C0.P)=true:=by kernel_rfl
theorem K0:fP C0 where
 enters f hf _:=by
  have h:=Zw.1 Xg f (Pj (λh=>hf h));unfold Jg at h
  split at h
  ·rename_i fn Mw
   simp only[ZD,aaS]at h;exact⟨fn,Mw,h.1,h.2⟩
  ·cases h
 qU f g hh:=by rcases u5 f with h |h <;>rw[h]at hh <;>cases hh
 cu f g hh:=by rcases u5 f with h |h <;>rw[h]at hh <;>cases hh
 ext f g hh:=by rcases u5 f with h |h <;>rw[h]at hh <;>cases hh
def zL(P:Program)(f:FuncId):Bool:=match P.funcs[f]? with
 |some fn=>match fn.body with
  |some c=>codeOk fn.ntmps c
  |none=>true
 |none=>true
theorem Xh:L0.all (zL C0.P)=true:=by kernel_rfl
theorem KC0:pA C0 where
 mixed:=og.mixed
 A4 f fn c hm hf hb:=by
  have h1:zL C0.P f=true:=Zw.1 Xh f (Pj (λh=>by rcases hm with hm |hm <;>rw[hm]at h <;>cases h));unfold zL at h1;rw[hf]at h1;simp only[hb]at h1;exact h1
theorem S0:∀n,gF C0 (eV C0 n):=u6 K0 KC0
theorem bP:C0.P.follows .mixedOrders=true:=og.mixed
namespace Zero
noncomputable def T6:lz C0.P:=Go.Pm.T6
end Zero
variable{w:World}{F:Nat->Prop}{β:List (Nat×Nat)}{h:ab}
attribute [local irreducible] aE aC aI aJ Ev ah ai ay aV
set_option maxHeartbeats 4000000
theorem jr{a:Act}{ρ:Nat->PV}(H:aZ w F β h)(R:gM w (Av F h β) β h a ρ){t yt el:TypeId}{x:Operand}{fl:Bool}{es:List PV}(hu:C0.P.underlying t=some (.slice el))(hx:ev ρ x=.aa fl es):
  ∃bb,(bb=true->es=[])/\∀o:Oper,o.op=.binOp .eql t x (.const (.slice none 0 0)) yt->ud C0.P 2 w F β h (execOp a.eval o) (.bool bb) h:=by
 have hv:=R.ev x;rw[hx]at hv;obtain⟨ad,cap,e1,_,_⟩:=hv.fp.jN;refine⟨ad.isNone,λhb=>?_,λo ho=>⟨.bool ad.isNone,w,β,.inl ?_,.val (.bool _),H,dN.refl w h β,λ_=>dz.refl w⟩⟩
 ·have hn:ad=none:=by cases ad <;>simp_all
  subst hn;rcases hv.fp.sa with h0 |⟨b,off,DA,FA,oh,XF,_⟩
  ·exact h0
  ·rw[e1]at XF;cases XF
 ·obtain⟨d,op,ty,pos,af,g⟩:=o;simp only at ho;subst ho;have h2:a.eval (.const (.slice none 0 0))=.slice none 0 0:=rfl;have g1:(eqGuard .eql t x (.const (.slice none 0 0)) (.slice ad es.length cap) (.slice none 0 0)).run C0.P w=.ok () w:=by simp[eqGuard]
  have g2:(binOp .eql t (.slice ad es.length cap) (.slice none 0 0)).run C0.P w=.ok (.bool ad.isNone) w:=by
   simp only[binOp];simp[run_equal_slice_nil w t el ad es.length cap hu]
  simp only[execOp,e1,h2,Sem.run_bind,g1,g2,Result.andThen_ok,Sem.run_pure]
theorem Bl{C:cK}(T:lz C.P){lv:Nat}{st xt el pU:TypeId}{sz fX:Nat}{z:PV}{full:Bool}(hk:T.kd st=some (.sl el))(fR:T.kd xt=some (.sl pU))(hs:T.ts el=some (sz+1))(hb:T.tb el=some fX)(hz:T.tz el=some z)
  (jc:fX<=1000) (hl:(cells z).length=sz+1) (ho:(cells z).all bG=true):bL C.P lv h st xt (.aa true []) (.aa full [])=some (.aa true [],h):=by
 unfold bL;rw[bp (T.cP _ _ hk)];simp only[T.dO _ _ hs,T.rV _ _ hb,T.mO _ _ hz,cy,bp (T.cP _ _ fR),ch];rw[if_pos ⟨by omega,by omega,⟨hl,ho⟩,rfl⟩]
 rfl
section
variable{C:cK}(T:lz C.P)
variable{ops:Array Oper}{d:Nat}{ty:TypeId}{pos:String}{af:Array Edge}{r:List Oper}{ρ:Nat->PV}{L:List (Nat×PV)}{Q:St->Prop}
theorem R.kL{st xt el pU:TypeId}{sz fX:Nat}{z:PV}{full:Bool}{x y:Operand}(hx:cG L x=some (.aa true []))(hy:cG L y=some (.aa full []))(hk:T.kd st=some (.sl el))(fR:T.kd xt=some (.sl pU))(hs:T.ts el=some (sz+1))(hb:T.tb el=some fX)(hz:T.tz el=some z)
  (jc:fX<=1000) (hl:(cells z).length=sz+1) (ho:(cells z).all bG=true) (kk:ah C ops r ⟨al ((d,.aa true [])::L) ρ,h⟩ Q):
  ah C ops (⟨some d,.call ⟨.builtin .append,#[x,y],#[st,xt]⟩,ty,pos,af,none⟩::r) ⟨al L ρ,h⟩ Q:=by
 refine ah.eK (λrun=>?_) kk;have lY:=Bl T (h:=h) (lv:=2) (full:=full) hk fR hs hb hz jc hl ho;simp only[ao,bo,ZN,ZX,ak hx,ak hy,lY]
theorem R.iU{st xt el pU:TypeId}{sz fX:Nat}{z:PV}{full:Bool}{ys:List PV}{x y:Operand}(hx:cG L x=some (.aa true []))(hy:cG L y=some (.aa full ys))(hk:T.kd st=some (.sl el))(fR:T.kd xt=some (.sl pU))(hs:T.ts el=some (sz+1))(hb:T.tb el=some fX)(hz:T.tz el=some z)
  (jc:fX<=1000) (hl:(cells z).length=sz+1) (ho:(cells z).all bG=true) (yy:du (sz+1) ys) (bI:ys≠[]) (hn:ys.length<1000000000) (kk:ah C ops r ⟨al ((d,.aj h.length 0 0 ys.length)::L) ρ,h++[⟨.m,0,sz+1,ys⟩]⟩ Q):
  ah C ops (⟨some d,.call ⟨.builtin .append,#[x,y],#[st,xt]⟩,ty,pos,af,none⟩::r) ⟨al L ρ,h⟩ Q:=by
 refine ah.eK (λrun=>?_) kk;have lY:=fZ T (h:=h) (lv:=2) (full:=full) (by decide) hk fR hs hb hz jc hl ho yy (by cases ys with |nil=>exact absurd rfl bI |cons=>rfl) hn;simp only[ao,bo,ZN,ZX,ak hx,ak hy,lY]
end
namespace Zero
theorem FB{fl:Bool}{es:List PV}{vs:List Value}(H:aZ w F β h)(ha:L2 (aD w (Av F h β) β h) vs [.aa fl es])(iP:du 4 es)(hn:es.length<1000000000){r:PV}{h':ab}
  (hr:(es=[]/\r=.aa true []/\h'=h)\/(es≠[]/\r=.aj h.length 0 0 es.length/\h'=h++[⟨.m,0,4,es⟩])):lW C0.P 2 w F β h 45 vs r h':=by
 refine iV (P:=C0.P) Tryz.func45 rfl H ha (λa RR=>?_);refine wp_seq ?_;refine cA K0 bP S0 (M:=λex s'=>ex=.normal/\∃ρ',s'=⟨al [(0,.aa fl es)] ρ',h⟩) rfl ?_ RR ?_
 ·rw[gP];refine wXB ?_;exact⟨rfl,_,St.aQ ⟨rfl,trivial⟩⟩
 rintro ex s' a1 w1 β1 ⟨rfl,ρ1,rfl⟩ R1 S1;refine wp_seq ?_;refine wp_seq ?_;apply bQ K0 S0 (pre:=[_]) (post:=[]) (R:=R1) (M:=λs'=>∃ρ',s'=⟨al [(0,.aa fl es),(3,.aa fl es)] ρ',h⟩) (M2:=λs'=>∃bb ρ',s'=⟨al [(0,.aa fl es),(4,.bool bb)] ρ',h⟩/\(bb=true->es=[]))
 ·rfl
 ·rfl
 ·refine wXB ?_;exact⟨_,St.aQ ⟨rfl,rfl,trivial⟩⟩
 ·rintro s1 a2 w2 β2 ⟨ρ2,rfl⟩ R2 S2;obtain⟨bb,hb,os⟩:=jr (t:=31) (yt:=31) (el:=33) (x:=.tmp 3) (fl:=fl) (es:=es) R2.hr R2.er (bp (T6.cP 31 _ rfl)) (dq (L:=[(0,.aa fl es),(3,.aa fl es)]) (t:=3) rfl ρ2);refine⟨.bool bb,h,os _ rfl,ah.nil ⟨bb,al ((4,.bool bb)::[(0,.aa fl es),(3,.aa fl es)]) ρ2,?_,hb⟩⟩;show(⟨bV (al [(0,.aa fl es),(3,.aa fl es)] ρ2) (some 4) (.bool bb),h⟩:St)=_;rw[bZ];exact St.aQ ⟨rfl,rfl,trivial⟩
 rintro s3 a3 w3 β3 ⟨bb,ρ3,rfl,hb⟩ R3 S3
 cases bb
 ·refine cA K0 bP S0 (M:=λex s'=>ex=.normal/\∃ρ',s'=⟨al [(0,.aa fl es)] ρ',h⟩) rfl ?_ R3 ?_
  ·refine wXB ?_;exact⟨rfl,_,St.aQ ⟨rfl,trivial⟩⟩
  rintro ex s' a4 w4 β4 ⟨rfl,ρ4,rfl⟩ R4 S4;refine cA K0 bP S0 (M:=λex s'=>ex=.ret/\∃ρ',s'=⟨al [(2,r)] ρ',h'⟩) rfl ?_ R4 ?_
  ·refine wXB ?_;rcases hr with⟨rfl,rfl,rfl⟩|⟨bI,rfl,rfl⟩
   ·apply R.kL T6;exact rfl;exact rfl;exact rfl;exact rfl;exact rfl;exact rfl;exact rfl;exact(by decide);exact rfl;exact rfl;refine wXB ?_;exact⟨rfl,_,St.aQ ⟨rfl,trivial⟩⟩
   ·apply R.iU T6;exact rfl;exact rfl;exact rfl;exact rfl;exact rfl;exact rfl;exact rfl;exact(by decide);exact rfl;exact rfl;exact iP;exact bI;exact hn;refine wXB ?_;exact⟨rfl,_,St.aQ ⟨rfl,trivial⟩⟩
  rintro ex s5 a5 w5 β5 ⟨rfl,ρ5,rfl⟩ R5 S5;refine⟨.inr rfl,_,β5,R5,((S1.trans S3).trans S4).trans S5,[r],?_,λu hu=>⟨β5,hu,R5.hr,((S1.trans S3).trans S4).trans S5⟩⟩;exact ee (L:=[(2,r)]) rfl
 ·obtain rfl:=hb rfl;rcases hr with⟨_,rfl,rfl⟩|⟨bI,_⟩
  ·refine cA K0 bP S0 (M:=λex s'=>ex=.ret/\∃ρ',s'=⟨al [(2,.aa true [])] ρ',h'⟩) rfl ?_ R3 ?_
   ·refine wXB ?_;exact⟨rfl,_,St.aQ ⟨rfl,trivial⟩⟩
   rintro ex s5 a5 w5 β5 ⟨rfl,ρ5,rfl⟩ R5 S5;refine⟨.inr rfl,_,β5,R5,(S1.trans S3).trans S5,[.aa true []],?_,λu hu=>⟨β5,hu,R5.hr,(S1.trans S3).trans S5⟩⟩;exact ee (L:=[(2,.aa true [])]) rfl
  ·exact absurd rfl bI
 ·rfl
theorem FC{fl:Bool}{es:List PV}{vs:List Value}(H:aZ w F β h)(ha:L2 (aD w (Av F h β) β h) vs [.aa fl es])(iP:du 1 es)(hn:es.length<1000000000){r:PV}{h':ab}
  (hr:(es=[]/\r=.aa true []/\h'=h)\/(es≠[]/\r=.aj h.length 0 0 es.length/\h'=h++[⟨.m,0,1,es⟩])):lW C0.P 2 w F β h 397 vs r h':=by
 refine iV (P:=C0.P) Tryz.func397 rfl H ha (λa RR=>?_);refine wp_seq ?_;refine cA K0 bP S0 (M:=λex s'=>ex=.normal/\∃ρ',s'=⟨al [(0,.aa fl es)] ρ',h⟩) rfl ?_ RR ?_
 ·rw[gP];refine wXB ?_;exact⟨rfl,_,St.aQ ⟨rfl,trivial⟩⟩
 rintro ex s' a1 w1 β1 ⟨rfl,ρ1,rfl⟩ R1 S1;refine wp_seq ?_;refine wp_seq ?_;apply bQ K0 S0 (pre:=[_]) (post:=[]) (R:=R1) (M:=λs'=>∃ρ',s'=⟨al [(0,.aa fl es),(3,.aa fl es)] ρ',h⟩) (M2:=λs'=>∃bb ρ',s'=⟨al [(0,.aa fl es),(4,.bool bb)] ρ',h⟩/\(bb=true->es=[]))
 ·rfl
 ·rfl
 ·refine wXB ?_;exact⟨_,St.aQ ⟨rfl,rfl,trivial⟩⟩
 ·rintro s1 a2 w2 β2 ⟨ρ2,rfl⟩ R2 S2;obtain⟨bb,hb,os⟩:=jr (t:=263) (yt:=263) (el:=175) (x:=.tmp 3) (fl:=fl) (es:=es) R2.hr R2.er (bp (T6.cP 263 _ rfl)) (dq (L:=[(0,.aa fl es),(3,.aa fl es)]) (t:=3) rfl ρ2);refine⟨.bool bb,h,os _ rfl,ah.nil ⟨bb,al ((4,.bool bb)::[(0,.aa fl es),(3,.aa fl es)]) ρ2,?_,hb⟩⟩;show(⟨bV (al [(0,.aa fl es),(3,.aa fl es)] ρ2) (some 4) (.bool bb),h⟩:St)=_;rw[bZ];exact St.aQ ⟨rfl,rfl,trivial⟩
 rintro s3 a3 w3 β3 ⟨bb,ρ3,rfl,hb⟩ R3 S3
 cases bb
 ·refine cA K0 bP S0 (M:=λex s'=>ex=.normal/\∃ρ',s'=⟨al [(0,.aa fl es)] ρ',h⟩) rfl ?_ R3 ?_
  ·refine wXB ?_;exact⟨rfl,_,St.aQ ⟨rfl,trivial⟩⟩
  rintro ex s' a4 w4 β4 ⟨rfl,ρ4,rfl⟩ R4 S4;refine cA K0 bP S0 (M:=λex s'=>ex=.ret/\∃ρ',s'=⟨al [(2,r)] ρ',h'⟩) rfl ?_ R4 ?_
  ·refine wXB ?_;rcases hr with⟨rfl,rfl,rfl⟩|⟨bI,rfl,rfl⟩
   ·apply R.kL T6;exact rfl;exact rfl;exact rfl;exact rfl;exact rfl;exact rfl;exact rfl;exact(by decide);exact rfl;exact rfl;refine wXB ?_;exact⟨rfl,_,St.aQ ⟨rfl,trivial⟩⟩
   ·apply R.iU T6;exact rfl;exact rfl;exact rfl;exact rfl;exact rfl;exact rfl;exact rfl;exact(by decide);exact rfl;exact rfl;exact iP;exact bI;exact hn;refine wXB ?_;exact⟨rfl,_,St.aQ ⟨rfl,trivial⟩⟩
  rintro ex s5 a5 w5 β5 ⟨rfl,ρ5,rfl⟩ R5 S5;refine⟨.inr rfl,_,β5,R5,((S1.trans S3).trans S4).trans S5,[r],?_,λu hu=>⟨β5,hu,R5.hr,((S1.trans S3).trans S4).trans S5⟩⟩;exact ee (L:=[(2,r)]) rfl
 ·obtain rfl:=hb rfl;rcases hr with⟨_,rfl,rfl⟩|⟨bI,_⟩
  ·refine cA K0 bP S0 (M:=λex s'=>ex=.ret/\∃ρ',s'=⟨al [(2,.aa true [])] ρ',h'⟩) rfl ?_ R3 ?_
   ·refine wXB ?_;exact⟨rfl,_,St.aQ ⟨rfl,trivial⟩⟩
   rintro ex s5 a5 w5 β5 ⟨rfl,ρ5,rfl⟩ R5 S5;refine⟨.inr rfl,_,β5,R5,(S1.trans S3).trans S5,[.aa true []],?_,λu hu=>⟨β5,hu,R5.hr,(S1.trans S3).trans S5⟩⟩;exact ee (L:=[(2,.aa true [])]) rfl
  ·exact absurd rfl bI
 ·rfl
end Zero
end Go.Pm
namespace Go.Pm
open Go.Proofs
attribute [local irreducible] aE aC aI aJ Ev ah ai ay aV
set_option maxRecDepth 4000
set_option maxHeartbeats 8000000
theorem oJ(s:ByteArray)(l:List Tm)(hl:l.length<100000000):aO C 43 [.str s,.aa false (ae l)] (enc (.mk 3 s 0 l)):=by
 refine aO.of (ay.dC Tryz.func43 rfl ?_);have cT:=an l;have fQ:=nh l;have T0:=ba l;have hv:=eR l;rw[bj];generalize ae l=es at cT fQ T0 hv ⊢;refine wXB ?_
 cases es with
 |nil=>
  apply R.kL T6;exact rfl;exact rfl;exact rfl;exact rfl;exact rfl;exact rfl;exact rfl;exact(by decide);exact rfl;exact rfl;refine wXB ?_;refine R.hZ T6 (n:=0) (o:=⟨.m,0,4,[.agg [.int .i64 0,.str ByteArray.empty,.int .i64 0,.aa true []]]⟩) (i:=0) (e:=.agg [.int .i64 0,.str ByteArray.empty,.int .i64 0,.aa true []]) rfl rfl rfl rfl rfl rfl rfl rfl (Zz 4) ?_;refine wXB ?_;exact⟨_,rfl,by simp[b9,aU]⟩
 |cons e es=>
  apply R.iU T6;exact rfl;exact rfl;exact rfl;exact rfl;exact rfl;exact rfl;exact rfl;exact(by decide);exact rfl;exact rfl;exact fQ;exact(by simp);exact(by omega);refine wXB ?_;refine R.hZ T6 (n:=0) (o:=⟨.m,0,4,[.agg [.int .i64 0,.str ByteArray.empty,.int .i64 0,.aa true []]]⟩) (i:=0) (e:=.agg [.int .i64 0,.str ByteArray.empty,.int .i64 0,.aa true []]) rfl rfl rfl rfl rfl rfl rfl rfl (Zz 4) ?_;refine wXB ?_;refine⟨.agg [.int .i64 3,.str s,.int .i64 0,.aa false (e::es)],?_,by show PV.agg [.int .i64 3,.str s,.int .i64 0,.aa false (aU (e::es))]=_;rw[T0]⟩;show ly _ (.agg [.int .i64 3,.str s,.int .i64 0,.aj 1 0 0 (e::es).length])=_;simp[ly,nW,qi,aW,getM,hv]
end Go.Pm
namespace Go.Pm
open Go.Proofs
set_option maxRecDepth 4000
set_option maxHeartbeats 8000000
theorem xb:∀{l:List Pw} {pr:Option Tm},ka pr l=0->Bd 1000 l/\(∀p∈l,valid p.1=0/\de p.1=false)/\Nz l/\zJ l/\(∀q,pr=some q->∀p∈l,aT q p.1<0)
 |[],_,_=>⟨(λp hp=>by cases hp),(λp hp=>by cases hp),(λp hp=>by cases hp),by simp[zJ],(λ_ _ p hp=>by cases hp)⟩
 |p::l,pr,h=>by
  rw[nB]at h
  by_cases h1:valid p.1=0
  ·rw[if_neg (by omega)]at h
   by_cases h2:de p.1=true
   ·rw[if_pos h2]at h;cases h
   ·rw[if_neg h2]at h
    by_cases h3:p.2=0\/p.2< -1000\/1000<p.2
    ·rw[if_pos h3]at h;cases h
    ·rw[if_neg h3]at h
     have main:ka (some p.1) l=0/\(∀q,pr=some q->aT q p.1<0):=by
      cases pr with
      |none=>
       simp only[ZJ,if_false]at h;exact⟨h,λq hq=>by cases hq⟩
      |some q=>
       simp only at h
       split at h
       ·cases h
       ·rename_i h4
        refine⟨h,λq' hq=>?_⟩
        cases hq
        have:¬0<=aT q p.1:=λhh=>h4 (decide_eq_true hh)
        omega
     obtain⟨b1,b2,b3,b4,b5⟩:=xb main.1;refine⟨λx hx=>?_,λx hx=>?_,λx hx=>?_,ZQ.2 ⟨λx hx=>b5 p.1 rfl x hx,b4⟩,λq hq x hx=>?_⟩
     ·rcases ZF.1 hx with rfl |hx
      ·omega
      ·exact b1 x hx
     ·rcases ZF.1 hx with rfl |hx
      ·exact⟨h1,by simpa using h2⟩
      ·exact b2 x hx
     ·rcases ZF.1 hx with rfl |hx
      ·omega
      ·exact b3 x hx
     ·rcases ZF.1 hx with rfl |hx
      ·exact main.2 q hq
      ·exact dM (main.2 q hq) (b5 p.1 rfl x hx)
  ·rw[if_pos h1]at h;exact absurd h h1
theorem CB{l:List Pw}(h:lf l=0):l.length<=200/\Bd 1000 l/\(∀p∈l,valid p.1=0/\de p.1=false)/\Nz l/\zJ l:=by
 unfold lf at h
 split at h
 ·cases h
 ·obtain⟨b1,b2,b3,b4,_⟩:=xb h;exact⟨by omega,b1,b2,b3,b4⟩
def h9(l:List (List Pw)):List PV:=l.map λp=>.aa false (bh p)
def jq(l:List (List Pw)):List Tm:=l.flatMap λp=>p.map (·.1)
def Tm.k:Tm->Int | .mk k _ _ _=>k
def Tm.s:Tm->ByteArray | .mk _ s _ _=>s
def Tm.o:Tm->Int | .mk _ _ o _=>o
def Tm.l:Tm->List Tm | .mk _ _ _ l=>l
theorem aw(t:Tm):enc t=.agg [.int .i64 t.k,.str t.s,.int .i64 t.o,.aa false (ae t.l)]:=by cases t;exact bj _ _ _ _
theorem xa(t:Tm)(n:Int):uY (t,n)=.agg [.int .i64 t.k,.str t.s,.int .i64 t.o,.aa false (ae t.l),.int .i64 n]:=by cases t;rfl
attribute [simp] ar aW aU b9 eR ba pO uO qm mY
@[simp] theorem Br(t:Tm):PV.agg [.int .i64 t.k,.str t.s,.int .i64 t.o,.aa false (ae t.l)]=enc t:=(aw t).symm
@[simp] theorem IU(t:Tm)(n:Int):PV.agg [.int .i64 t.k,.str t.s,.int .i64 t.o,.aa false (ae t.l),.int .i64 n]=uY (t,n):=(xa t n).symm
theorem dj(a b:List PV):ar (a++b)=(ar a&&ar b):=by rw[bt,aaI,<-bt,<-bt]
attribute [simp] dj
@[simp] theorem Tt(p:Pw):aW (uY p)=true:=by obtain⟨t,n⟩:=p;rw[xa];simp
@[simp] theorem Wm(p:Pw):b9 (uY p)=uY p:=by obtain⟨t,n⟩:=p;rw[xa];simp[-IU,-Br]
@[simp] theorem T4:bh []=[]:=rfl
@[simp] theorem oI:ae []=[]:=by simp[ae]
@[simp] theorem T5(l:List Tm):(ae l).length=l.length:=an l
@[simp] theorem Tu(l:List Pw):(bh l).length=l.length:=eO l
theorem bS{l p q:List Tm}{t:Tm}(e:l=p++t::q):(ae l)[p.length]?=some (.agg [.int .i64 t.k,.str t.s,.int .i64 t.o,.aa false (ae t.l)]):=by rw[cU,e,<-aw];simp
theorem Bq{l p q:List Pw}{t:Tm}{n:Int}(e:l=p++(t,n)::q):(bh l)[p.length]?=some (.agg [.int .i64 t.k,.str t.s,.int .i64 t.o,.aa false (ae t.l),.int .i64 n]):=by rw[bh,e,<-xa];simp
set_option maxRecDepth 100000
set_option maxHeartbeats 2000000
instance:Inhabited Tm:=⟨eL⟩
def Lh:Nat->Prop:=λ_=>False
theorem EV{w:World}{a:Addr}{v:Value}(h:w.cell? a=some v):∃b off,a=⟨b,off,none⟩:=by
 obtain⟨b,off,sp⟩:=a
 cases sp with
 |none=>exact⟨b,off,rfl⟩
 |some s=>
  exfalso;unfold World.cell? at h
  split at h
  ·simp at h
  ·cases h
theorem VZ(a:Addr):a.add 0=a:=by obtain⟨b,off,sp⟩:=a;simp[Addr.add]
open Go.Proofs.YtimogkojklpdnaaGreatDoor in
theorem CU{H E:Type}(B:E->Nat):∀(l:List E) (ds:List (DataW H)),l.length=ds.length->(∀(i:Nat) (t:E) (d:DataW H),l[i]?=some t->ds[i]?=some d->B t<=Rows.uptoBulk d)->(l.map B).sum<=Rows.uptoBulkAll ds
 |[],_,_,_=>by simp
 |t::l,[],h,_=>by simp at h
 |t::l,d::ds,h,hb=>by
  have h1:=hb 0 t d rfl rfl;have h2:=CU B l ds (by simpa using h) (λi t' d' e1 e2=>hb (i+1) t' d' (by simpa using e1) (by simpa using e2));simp only[ZN,abU,Rows.uptoBulkAll];omega
open Go.Proofs.YtimogkojklpdnaaGreatDoor in
theorem wJ{H:Type}{ec:TypeId×Value->H}{w:World}{sp:Nat->Bool}{held:Bool}{ty el:TypeId}{sz:Nat}{E:Type}[Inhabited E](encE:E->PV)(B:E->Nat)(hk:C.P.underlying ty=some (.slice el))(hc:C.P.cellsOf el=sz)(nA:0<sz)(hl:∀e,(Pm.cells (encE e)).length=sz)
  (elem:∀(n:Nat) (cs:List Value) (x:DataW H×List MemPlace),DataW.trod ec C.P w 0 sp held n el cs=some x->∃e:E,cs.length=sz/\(∀j,j<sz->bY w Lh (cs.getD j undef) ((Pm.cells (encE e)).getD j .any))/\B e<=Rows.uptoBulk x.1)
  {n:Nat} {cs:List Value} {x:DataW H×List MemPlace} (h:DataW.trod ec C.P w 0 sp held n ty cs=some x):∃(c:Value) (l:List E),cs=[c]/\bY w Lh c (.aa false (l.map encE))/\(l.map B).sum+1<=Rows.uptoBulk x.1:=by
 rcases DataW.trod_slice hk h with⟨e3,rfl⟩|⟨a,len,cap,ch,rest,n2,PD,e3,rfl,hb,hle,Ai,V0,cT,_,_⟩
 ·exact⟨_,[],e3,.gA none 0 false (λh=>by cases h),by simp[Rows.uptoBulk]⟩
 ·subst hc
  have each:∀i,i<len->∃q:List Value×E,w.cells? 0 (a.add (i * C.P.cellsOf el)) (C.P.cellsOf el)=some q.1/\(q.1.length=C.P.cellsOf el/\∀j,j<C.P.cellsOf el->bY w Lh (q.1.getD j undef) ((Pm.cells (encE q.2)).getD j .any))/\∀y,ch[i]?=some y->B q.2<=Rows.uptoBulk y.1:=by
   intro i hi
   have h1:=cT i hi;obtain⟨y,hy⟩:∃y,ch[i]?=some y:=⟨ch[i],Zy (by omega)⟩;rw[hy]at h1
   cases hc:w.cells? 0 (a.add (i * C.P.cellsOf el)) (C.P.cellsOf el)with
   |none=>rw[hc]at h1;cases h1
   |some jd=>
    rw[hc]at h1;obtain⟨t,t1,t2,t3⟩:=elem n2 jd y h1;exact⟨(jd,t),rfl,⟨t1,t2⟩,λy' hy'=>by rw[hy]at hy';obtain rfl:=Zu hy';exact t3⟩
  obtain⟨q,hq⟩:=Deep.choose_lt each;have xD:((List.range len).map λi=>(q i).2).length=len:=by simp
  have ua:∀i,i<len->((List.range len).map λi=>(q i).2)[i]?=some (q i).2:=λi hi=>by rw[ZP,abP hi];rfl
  refine⟨_,(List.range len).map λi=>(q i).2,e3,?_,?_⟩
  ·by_cases h0:len=0
   ·subst h0;exact .gA (some a) cap false (λh=>by cases h)
   ·have TS:=(hq 0 (by omega)).1;obtain⟨_,di,Df⟩:=World.cells?_some TS;have CE:=Df 0 nA;rw[aa7,VZ,VZ]at CE;obtain⟨v0,Bg⟩:∃v,(q 0).1[0]?=some v:=⟨(q 0).1[0],Zy (by omega)⟩;rw[Bg]at CE;obtain⟨b,off,rfl⟩:=EV CE;have iP:(((List.range len).map λi=>(q i).2).map encE).length=len:=by simp
    have hgd:∀i,i<len->(((List.range len).map λi=>(q i).2).map encE).getD i .any=encE (q i).2:=λi hi=>by
     rw[List.getD,ZP,ua i hi];rfl
    have key:bY w Lh (.slice (some ⟨b,off,none⟩) (((List.range len).map λi=>(q i).2).map encE).length cap) (.aa false (((List.range len).map λi=>(q i).2).map encE)):=by
     refine .aa b off cap (C.P.cellsOf el) false _ (λi j=>(q i).1.getD j undef) (λh=>?_) (by omega) (λh=>by cases h) (λh=>h) nA (λi hi=>?_) (λi j hi hj=>?_) (λi j hi hj=>?_)
     ·rw[h]at iP;simp at iP;omega
     ·rw[hgd i (by omega)];exact hl _
     ·obtain⟨_,di,Df⟩:=World.cells?_some (hq i (by omega)).1;have:=Df j hj;rw[eH,eH]at this;rw[show off+(i * C.P.cellsOf el+j)=off+i * C.P.cellsOf el+j by omega,this,Zy (by omega)];simp[List.getD,Zy (show j<(q i).1.length by omega)]
     ·rw[hgd i (by omega)];exact(hq i (by omega)).2.1.2 j hj
    rw[iP]at key;exact key
  ·have:=CU B ((List.range len).map λi=>(q i).2) (ch.map (·.1)) (by simp[V0]) (λi t d e1 e2=>by
    have hi:i<len:=by have:=ag e1;rwa[xD]at this
    rw[ua i hi]at e1;obtain rfl:=Zu e1;rw[ZP]at e2
    cases hy:ch[i]? with
    |none=>rw[hy]at e2;cases e2
    |some y=>
     rw[hy]at e2;obtain rfl:=Zu e2;exact(hq i hi).2.2 y hy)
   simp only[Rows.uptoBulk];omega
instance:Inhabited Pw:=⟨(eL,0)⟩
theorem dz.kept{W W':World}(g:dz W W')(may:MemPlace->Prop):W.keptBut W' may:=by
 refine⟨g.os,g.output,λi hi=>?_⟩;rw[g.aQ i hi]
 cases W.heap[i]? with
 |none=>rfl
 |some o=>cases o <;>simp
end Go.Pm
namespace Go.Pm
structure MI(a:List Pw)(k:Nat):Prop where
 AU:zJ a
 nz:Nz a
 bd:Bd (1000+1000 * (k:Int)) a
 len:a.length<=200+k
theorem MI.of{a:List Pw}(h:lf a=0):MI a 0:=by
 obtain⟨h1,h2,h3,h4,h5⟩:=CB h;exact⟨h5,h4,λp hp=>by have:=h2 p hp;omega,by omega⟩
open Go.Proofs
set_option maxRecDepth 4000
def ug{α:Type}(p:α->Bool)(l:List α):Int:=match l.findIdx? p with |some i=>i |none=>-1
theorem pI{α:Type}{p:α->Bool}{a q:List α}{x:α}(h:∀y∈a,p y=false)(hx:p x=true):ug p (a++x::q)=a.length:=by
 unfold ug;rw[List.findIdx?_append,abu.2 h];simp[List.findIdx?_cons,hx]
theorem kq{α:Type}{p:α->Bool}{a:List α}(h:∀y∈a,p y=false):ug p a=-1:=by
 unfold ug;rw[abu.2 h]
theorem rn{α:Type}(p:α->Bool)(l:List α):decide (0<=ug p l)=l.any p:=by
 unfold ug
 cases h:l.findIdx? p with
 |none=>
  rw[abu]at h;have:l.any p=false:=by rw[aaU];intro x hx;simp[h x hx]
  rw[this];rfl
 |some i=>
  obtain⟨h1,h2,_⟩:=List.findIdx?_eq_some_iff_getElem.1 h;have:l.any p=true:=aau.2 ⟨_,Z2 h1,h2⟩;rw[this];simp
@[simp] theorem Tb(l:List Pw):du (4+1) (bh l):=by
 unfold du bh;rw[List.all_map,Zw];rintro⟨t,n⟩ _;simp only[Function.comp,xa]
 rfl
def te:List Pw->Tm->Int
 |[],_=>0
 |p::l,t=>if aT p.1 t=0 then p.2 else te l t
theorem Jr{p q:List Pw}{x:Pw}{t:Tm}(h:∀y∈p,aT y.1 t≠0)(hx:aT x.1 t=0):te (p++x::q) t=x.2:=by
 induction p with
 |nil=>rw[aad,te,if_pos hx]
 |cons y p ih=>rw[Z3,te,if_neg (h y (by simp)),ih (λz hz=>h z (by simp[hz]))]
theorem GQ{l p q:List (List Pw)}{x:List Pw}(e:l=p++x::q):(h9 l)[p.length]?=some (.aa false (bh x)):=by rw[h9,e];simp
@[simp] theorem Pt(l:List (List Pw)):(h9 l).length=l.length:=by simp[h9]
@[simp] theorem Pu(l:List (List Pw)):ar (h9 l)=true:=by induction l with |nil=>rfl |cons x l ih=>simpa[h9]using ih
@[simp] theorem Pv(l:List (List Pw)):aU (h9 l)=h9 l:=by induction l with |nil=>rfl |cons x l ih=>simpa[h9]using ih
def fw(l:List Int):List PV:=l.map λx=>.int .i64 x
@[simp] theorem Tx(l:List Int):(fw l).length=l.length:=by simp[fw]
@[simp] theorem Qx(l:List Int):ar (fw l)=true:=by induction l with |nil=>rfl |cons x l ih=>simpa[fw]using ih
@[simp] theorem Qy(l:List Int):aU (fw l)=fw l:=by induction l with |nil=>rfl |cons x l ih=>simpa[fw]using ih
def eQ(t:Tm):List Tm->List Tm
 |[]=>[t]
 |x::r=>if aT t x<=0 then(if aT t x<0 then t::x::r else x::r)else x::eQ t r
attribute [local irreducible] aE aC aI aJ Ev ah ai ay aV
theorem Js(t:Tm)(l:List Tm)(ht:ax t<1000000000)(hb:∀x∈l,ax x<1000000000)(hl:l.length<1000000):aO C 127 [.aa false (ae l),enc t] (.aa false (ae (eQ t l))):=by
 have cT:(ae l).length=l.length:=by simp
 rw[aw];refine aO.x T6 Tryz.func127 rfl ?_;refine wXA ?_;refine eJ.zip T6 l (λp q L H=>∃v acc d,L=[(0,.aa false (ae l)),(3,.ptr 0 0 0 0),(5,v),(6,.bool d),(7,.int .i64 p.length)]/\HV H/\H[0]?=some ⟨.m,0,4,[.agg [.int .i64 t.k,.str t.s,.int .i64 t.o,.aa false (ae t.l)]]⟩/\Out 4 H v (ae acc)/\(∀ep n,v≠.aj 0 ep 0 n)/\(acc.length<=p.length+if d then 1 else 0)/\acc++(if d then q else eQ t q)=eQ t l) (.nx ⟨_,[],false,rfl,HV.one rfl,rfl,.inl ⟨rfl,rfl⟩,(λ_ _ h=>by cases h),by simp,by simp⟩) ?_ ?_
 ·rintro p x q _ h ρ e ⟨v,acc,d,rfl,hH,h0,ho,Bg,Dz,hg⟩;have cV:=bS e;have cH:=congrArg List.length e;simp only[Zx,ZA]at cH;have qo:=Jt t x ht (hb x (by rw[e];simp));rw[aw,aw]at qo;have hla:(ae acc).length=acc.length:=by simp
  have Qz:acc.length<=p.length+1:=by cases d <;>simp at Dz <;>omega
  refine wXA ?_;refine .p qo ?_;have sn:∀(a:List Tm) (y:Tm),ae a++[.agg [.int .i64 y.k,.str y.s,.int .i64 y.o,.aa false (ae y.l)]]=ae (a++[y]):=λa y=>by rw[<-yB,aw]
  cases d
  ·rw[if_neg (by decide)]at hg
   (repeat' (first |(refine Rn.go ?_;conv=>whnf)|refine .mk ?_ |refine .mk (λhc=>?_) λhc=>?_ |refine .lp λv H lp=>?_ |fail))
   ·obtain⟨h0',Up⟩:=lp.obj h0 Bg;have Wv:=lp.hv;have lo:=lp.out;rw[sn]at lo;have Zc:(ae (acc++[t])).length=acc.length+1:=by simp
    clear lp;refine wXH λv H lp=>?_;have Fw:=lp.out;rw[sn]at Fw;exact .nx ⟨_,acc++[t]++[x],true,rfl,lp.hv,(lp.obj h0' Up).1,Fw,(lp.obj h0' Up).2,by simp at Dz ⊢;omega,by rw[<-hg,show eQ t (x::q)=t::x::q by rw[eQ,if_pos (by assumption),if_pos hc]];simp⟩
   ·have Fw:=lp.out;rw[sn]at Fw;exact .nx ⟨_,acc++[x],true,rfl,lp.hv,(lp.obj h0 Bg).1,Fw,(lp.obj h0 Bg).2,by simp at Dz ⊢;omega,by rw[<-hg,show eQ t (x::q)=x::q by rw[eQ,if_pos (by assumption),if_neg hc]];simp⟩
   ·have Fw:=lp.out;rw[sn]at Fw;exact .nx ⟨_,acc++[x],false,rfl,lp.hv,(lp.obj h0 Bg).1,Fw,(lp.obj h0 Bg).2,by simp at Dz ⊢;omega,by rw[<-hg,show eQ t (x::q)=x::eQ t q by rw[eQ,if_neg hc]];simp⟩
  ·refine wXH λv H lp=>?_;have Fw:=lp.out;rw[sn]at Fw;exact .nx ⟨_,acc++[x],true,rfl,lp.hv,(lp.obj h0 Bg).1,Fw,(lp.obj h0 Bg).2,by simp at Dz ⊢;omega,by rw[<-hg];simp⟩
 ·rintro _ h ρ ⟨v,acc,d,rfl,hH,h0,ho,Bg,Dz,hg⟩;have hla:(ae acc).length=acc.length:=by simp
  have Qz:acc.length<=l.length+1:=by cases d <;>simp at Dz <;>omega
  have sn:∀(a:List Tm) (y:Tm),ae a++[.agg [.int .i64 y.k,.str y.s,.int .i64 y.o,.aa false (ae y.l)]]=ae (a++[y]):=λa y=>by rw[<-yB,aw]
  have fin:∀{h:ab} {v:PV} {a:List Tm},Out 4 h v (ae a)->a=eQ t l->∃r1,rb h (aY [v])=some r1/\b9 r1=.aa false (ae (eQ t l)):=λ{h v a} ho ha=>by
   obtain⟨r1,e1,e2⟩:=ho.ly (eR _);exact⟨r1,by rcases ho with⟨rfl,_⟩|⟨id,ep,rfl,_⟩ <;>exact e1,by rw[e2,ba,ha]⟩
  cases d
  ·refine wXH λv H lp=>?_;have Fw:=lp.out;rw[sn]at Fw;exact fin Fw (by rw[<-hg];simp[eQ])
  ·refine wXA ?_;exact fin ho (by rw[<-hg];simp)
end Go.Pm
namespace Go.Pm
open Go.Proofs
set_option maxRecDepth 4000
theorem Bh(t:Tm):∀l:List Tm,(eQ t l).length<=l.length+1
 |[]=>by simp[eQ]
 |x::r=>by
  have:=Bh t r;unfold eQ
  split
  ·split <;>simp
  ·simp only[ZA];omega
theorem Bi{t:Tm}{y:Tm}:∀{l:List Tm},y∈eQ t l->y=t\/y∈l
 |[],h=>by simp[eQ]at h;exact .inl h
 |x::r,h=>by
  unfold eQ at h
  split at h
  ·split at h
   ·rcases ZF.1 h with h |h
    ·exact .inl h
    ·exact .inr h
   ·exact .inr h
  ·rcases ZF.1 h with h |h
   ·exact .inr (by simp[h])
   ·rcases Bi h with h |h
    ·exact .inl h
    ·exact .inr (by simp[h])
def GR(l:List (List Pw)):List Tm:=(jq l).foldl (λa t=>eQ t a) []
def SmT(l:List (List Pw)):Prop:=(∀x∈l,(∀p∈x,ax p.1<100000000)/\x.length<=200)/\l.length<=1000
def pV(ts:List Tm)(a:List Tm):List Tm:=ts.foldl (λa t=>eQ t a) a
theorem vt:∀(ts a:List Tm),(pV ts a).length<=a.length+ts.length
 |[],a=>by simp[pV]
 |t::ts,a=>by
  have:=vt ts (eQ t a);have:=Bh t a;simp only[pV,List.foldl_cons,ZA]at *;omega
theorem Bj{y:Tm}:∀{ts a:List Tm},y∈pV ts a->y∈ts\/y∈a
 |[],a,h=>.inr h
 |t::ts,a,h=>by
  rcases Bj (ts:=ts) (a:=eQ t a) h with h |h
  ·exact .inl (by simp[h])
  ·rcases Bi h with h |h
   ·exact .inl (by simp[h])
   ·exact .inr h
theorem zQ:∀{l:List (List Pw)},(∀x∈l,x.length<=200)->(jq l).length<=200 * l.length
 |[],_=>by simp[jq]
 |x::l,h=>by
  have h1:=zQ (l:=l) λy hy=>h y (by simp[hy])
  have h2:=h x (by simp);have h3:(jq (x::l)).length=x.length+(jq l).length:=by simp[jq]
  rw[h3,ZA];omega
def inr(n:Int):Bool:=decide (-35184372088832<=n/\n<=35184372088832)
@[simp] theorem Px(l:List (List Pw)):du (0+1) (h9 l):=by
 unfold du;rw[Zw]
 intro v hv
 obtain⟨x,_,rfl⟩:=Z0.1 hv
 rfl
def fK(l:List Tm):Prop:=l.Pairwise λp q=>aT p q<0
theorem nj(t:Tm):∀(l:List Tm) (y:Tm),y∈eQ t l↔y=t\/y∈l
 |[],y=>by simp[eQ]
 |x::r,y=>by
  unfold eQ
  by_cases h1:aT t x<=0
  ·rw[if_pos h1]
   by_cases h2:aT t x<0
   ·rw[if_pos h2];simp
   ·rw[if_neg h2];obtain rfl:=dn (t:=t) (t':=x) (by omega);simp
  ·rw[if_neg h1,ZF,nj t r y,ZF]
   constructor
   ·rintro(h |h |h)
    ·exact .inr (.inl h)
    ·exact .inl h
    ·exact .inr (.inr h)
   ·rintro(h |h |h)
    ·exact .inr (.inl h)
    ·exact .inl h
    ·exact .inr (.inr h)
theorem vu{t:Tm}:∀{l:List Tm},fK l->fK (eQ t l)
 |[],_=>by simp[eQ,fK]
 |x::r,h=>by
  have hp:=ZQ.1 h;unfold eQ
  by_cases h1:aT t x<=0
  ·rw[if_pos h1]
   by_cases h2:aT t x<0
   ·rw[if_pos h2];refine ZQ.2 ⟨λy hy=>?_,h⟩;rcases ZF.1 hy with rfl |hy
    ·exact h2
    ·exact dM h2 (hp.1 y hy)
   ·rw[if_neg h2];exact h
  ·rw[if_neg h1];refine ZQ.2 ⟨λy hy=>?_,vu hp.2⟩;rcases(nj t r y).1 hy with rfl |hy
   ·have:=dU y x;omega
   ·exact hp.1 y hy
theorem vv:∀{ts a:List Tm},fK a->fK (pV ts a)
 |[],a,h=>h
 |t::ts,a,h=>vv (ts:=ts) (vu (t:=t) h)
theorem zR:∀(ts a:List Tm) (y:Tm),y∈pV ts a↔y∈ts\/y∈a
 |[],a,y=>by simp[pV]
 |t::ts,a,y=>by
  have:=zR ts (eQ t a) y;rw[show pV (t::ts) a=pV ts (eQ t a)from rfl,this,nj,ZF]
  constructor
  ·rintro(h |h |h)
   ·exact .inl (.inr h)
   ·exact .inl (.inl h)
   ·exact .inr h
  ·rintro((h |h)|h)
   ·exact .inr (.inl h)
   ·exact .inl h
   ·exact .inr (.inr h)
theorem nk:∀{a b:List Tm},fK a->fK b->(∀y,y∈a↔y∈b)->a=b
 |[],[],_,_,_=>rfl
 |[],y::b,_,_,h=>by have:=(h y).2 (by simp);cases this
 |x::a,[],_,_,h=>by have:=(h x).1 (by simp);cases this
 |x::a,y::b,ha,hb,h=>by
  have pa:=ZQ.1 ha;have pb:=ZQ.1 hb;have irr:∀{u:Tm},¬aT u u<0:=λ{u} hh=>by rw[cX]at hh;omega
  have hxy:x=y:=by
   rcases ZF.1 ((h x).1 (by simp))with e |hx
   ·exact e
   ·rcases ZF.1 ((h y).2 (by simp))with e |hy
    ·exact e.symm
    ·exact(irr (dM (pb.1 x hx) (pa.1 y hy))).elim
  subst hxy
  have:a=b:=nk pa.2 pb.2 λz=>by
   constructor
   ·intro hz
    rcases ZF.1 ((h z).1 (by simp[hz]))with rfl |h1
    ·exact(irr (pa.1 z hz)).elim
    ·exact h1
   ·intro hz
    rcases ZF.1 ((h z).2 (by simp[hz]))with rfl |h1
    ·exact(irr (pb.1 z hz)).elim
    ·exact h1
  rw[this]
theorem Ju(l:List (List Pw)):fK (GR l):=vv (ts:=jq l) (a:=[]) (by simp[fK])
theorem Nj(l:List (List Pw))(y:Tm):y∈GR l↔y∈jq l:=by
 have:=zR (jq l) [] y;simpa[pV,GR]using this
end Go.Pm
namespace Go.Pm
structure Sy where
 n:ByteArray
 a:Int
 b:Int
 k:Int
def jP:ByteArray:=⟨#[112,97,105,114]⟩
def jt:ByteArray:=⟨#[101,110,99]⟩
def fH:ByteArray:=⟨#[97,101,110,99]⟩
def He:ByteArray:=⟨#[112,107]⟩
def mJ:ByteArray:=⟨#[115,105,103,110]⟩
def vP:ByteArray:=⟨#[104,97,115,104]⟩
def wo:ByteArray:=⟨#[120,111,114]⟩
def jj:ByteArray:=⟨#[122,101,114,111]⟩
def KQ:ByteArray:=⟨#[101,120,112]⟩
def Am:ByteArray:=⟨#[109,117,108]⟩
def An:ByteArray:=⟨#[105,110,118]⟩
def sG:ByteArray:=⟨#[111,110,101]⟩
def D5:ByteArray:=⟨#[115,107]⟩
def BC:ByteArray:=⟨#[115,104,107]⟩
def L4:ByteArray:=⟨#[110,101,119]⟩
def Vo:ByteArray:=⟨#[102,115,116]⟩
def Vp:ByteArray:=⟨#[115,110,100]⟩
def Vq:ByteArray:=⟨#[100,101,99]⟩
def PR:ByteArray:=⟨#[97,100,101,99]⟩
def PS:ByteArray:=⟨#[111,112,101,110]⟩
def PT:ByteArray:=⟨#[114,101,97,100]⟩
def Tg:List Sy:=[⟨⟨#[112,97,105,114]⟩,2,2,1⟩,⟨⟨#[101,110,99]⟩,2,2,1⟩,⟨⟨#[97,101,110,99]⟩,2,2,1⟩,⟨⟨#[112,107]⟩,1,1,1⟩,⟨⟨#[115,105,103,110]⟩,2,2,1⟩,⟨⟨#[104,97,115,104]⟩,1,1,1⟩,⟨⟨#[120,111,114]⟩,2,8,1⟩,⟨⟨#[122,101,114,111]⟩,0,0,1⟩,⟨⟨#[101,120,112]⟩,2,2,1⟩,⟨⟨#[109,117,108]⟩,2,8,1⟩,⟨⟨#[105,110,118]⟩,1,1,1⟩,⟨⟨#[111,110,101]⟩,0,0,1⟩,⟨⟨#[115,107]⟩,1,1,2⟩,⟨⟨#[115,104,107]⟩,2,2,2⟩,⟨⟨#[110,101,119]⟩,1,8,2⟩,⟨⟨#[102,115,116]⟩,1,1,3⟩,⟨⟨#[115,110,100]⟩,1,1,3⟩,⟨⟨#[100,101,99]⟩,2,2,3⟩,⟨⟨#[97,100,101,99]⟩,2,2,3⟩,⟨⟨#[111,112,101,110]⟩,2,2,3⟩,⟨⟨#[114,101,97,100]⟩,1,1,3⟩]
def sy0:Sy:=⟨ByteArray.empty,0,0,0⟩
def cJ(s:ByteArray):Sy:=(Tg.find? λy=>y.n.toList==s.toList).getD sy0
def zz(y:Sy):PV:=.agg [.str y.n,.int .i64 y.a,.int .i64 y.b,.int .i64 y.k]
def gI(s n:ByteArray):Bool:=s.toList==n.toList
def im(u:Tm):Bool:=decide (u.k≠3/\u.o=1)
def fN(s:ByteArray)(l:List Tm):Bool:=
 if gI s D5 ||gI s BC then l.all im
 else if gI s L4 then(match l with |u::_=>decide (u.k=2)|[]=>true)
 else true
mutual
def nP:Tm->Int
 | .mk k s o l=>if k≠3 then 0 else if(cJ s).k=0 then 10 else if(l.length:Int)<(cJ s).a\/(cJ s).b<l.length then 6 else if fN s l=false then 10 else rE l
def rE:List Tm->Int
 |[]=>0
 |t::l=>if nP t≠0 then nP t else rE l
end
def km(t:Tm):Int:=if valid t≠0 then valid t else nP t
mutual
def pre:Tm->List Tm
 | .mk k s o l=>.mk k s o l::cZ l
def cZ:List Tm->List Tm
 |[]=>[]
 |t::l=>pre t++cZ l
end
mutual
def every(p:ByteArray->Bool):Tm->Bool
 | .mk k s o l=>(decide (k≠3)||p s)&&ic p l
def ic(p:ByteArray->Bool):List Tm->Bool
 |[]=>true
 |t::l=>every p t&&ic p l
end
def uh(s:ByteArray):Bool:=gI s wo ||gI s jj ||gI s KQ ||gI s Am ||gI s An ||gI s sG
def AV(s:ByteArray):Bool:=!uh s&&decide ((cJ s).k≠3)
def ri(t:Tm):Bool:=decide (km t=0)&&every AV t
def kS(l:List Tm):List Tm:=pV l []
def qb(n:Int)(t:Tm):List Tm:=kS ((pre t).filter λu=>decide (u.k=n))
def bF(t:Tm):List Tm:=qb 1 t
structure fg where
 kn:List Tm
 tm:Tm
structure cY where
 v:Tm
 t:Tm
def vI(d:fg):PV:=.agg [.aa false (ae d.kn),.int .i64 d.tm.k,.str d.tm.s,.int .i64 d.tm.o,.aa false (ae d.tm.l)]
def ue(b:cY):PV:=.agg [.int .i64 b.v.k,.str b.v.s,.int .i64 b.v.o,.aa false (ae b.v.l),.int .i64 b.t.k,.str b.t.s,.int .i64 b.t.o,.aa false (ae b.t.l)]
def bW(l:List fg):List PV:=l.map vI
def bE(l:List cY):List PV:=l.map ue
@[simp] theorem QM(d:fg):aW (vI d)=true:=by simp[vI]
@[simp] theorem QN(b:cY):aW (ue b)=true:=by simp[ue]
@[simp] theorem UH(d:fg):b9 (vI d)=vI d:=by simp[vI,b9,aU,ba]
@[simp] theorem UI(b:cY):b9 (ue b)=ue b:=by simp[ue,b9,aU,ba]
@[simp] theorem Nu(l:List fg):ar (bW l)=true:=by rw[bt];simp[bW]
@[simp] theorem Nv(l:List cY):ar (bE l)=true:=by rw[bt];simp[bE]
@[simp] theorem QO(l:List fg):aU (bW l)=bW l:=by rw[cE];simp[bW]
@[simp] theorem QP(l:List cY):aU (bE l)=bE l:=by rw[cE];simp[bE]
@[simp] theorem gq(l:List fg):(bW l).length=l.length:=by simp[bW]
@[simp] theorem fu(l:List cY):(bE l).length=l.length:=by simp[bE]
@[simp] theorem TA:bW []=[]:=rfl
@[simp] theorem TC:bE []=[]:=rfl
theorem qx(d:fg):vI d=.agg [.aa false (ae d.kn),.int .i64 d.tm.k,.str d.tm.s,.int .i64 d.tm.o,.aa false (ae d.tm.l)]:=rfl
theorem qy(b:cY):ue b=.agg [.int .i64 b.v.k,.str b.v.s,.int .i64 b.v.o,.aa false (ae b.v.l),.int .i64 b.t.k,.str b.t.s,.int .i64 b.t.o,.aa false (ae b.t.l)]:=rfl
theorem my{l p q:List fg}{d:fg}(e:l=p++d::q):(bW l)[p.length]?=some (.agg [.aa false (ae d.kn),.int .i64 d.tm.k,.str d.tm.s,.int .i64 d.tm.o,.aa false (ae d.tm.l)]):=by rw[bW,e,<-qx];simp
theorem mz{l p q:List cY}{b:cY}(e:l=p++b::q):(bE l)[p.length]?=some (.agg [.int .i64 b.v.k,.str b.v.s,.int .i64 b.v.o,.aa false (ae b.v.l),.int .i64 b.t.k,.str b.t.s,.int .i64 b.t.o,.aa false (ae b.t.l)]):=by rw[bE,e,<-qy];simp
theorem yE{l:List cY}{i:Nat}{b:cY}(e:l[i]?=some b):(bE l)[i]?=some (.agg [.int .i64 b.v.k,.str b.v.s,.int .i64 b.v.o,.aa false (ae b.v.l),.int .i64 b.t.k,.str b.t.s,.int .i64 b.t.o,.aa false (ae b.t.l)]):=by rw[bE,ZP,e,<-qy];rfl
def cI(l:List Tm)(t:Tm):Bool:=l.any λu=>decide (aT t u=0)
theorem dI{l:List Tm}{t:Tm}:cI l t=true↔t∈l:=by
 simp only[cI,aau,decide_eq_true_eq]
 constructor
 ·rintro⟨u,hu,h⟩;rw[dn h];exact hu
 ·exact λh=>⟨t,h,cX t⟩
def Nw(t:Tm):Bool:=decide (t.o=1\/t.o=5)
def eg(t:Tm):Int:=if km t≠0 then km t else if ri t=false\/(bF t).any Nw=true then 10 else if 60<size t then 3 else 0
def gW:List Tm->Int
 |[]=>0
 |t::l=>if eg t≠0 then eg t else gW l
def kept(prev:Option (List Tm))(k:List Tm):Bool:=match prev with |none=>true |some p=>p.all λt=>cI k t
def JN(bound k:List Tm):Bool:=k.all λt=>(bF t).all λx=>cI bound x
def ti:Option (List Tm)->List Tm->List fg->Int
 |_,_,[]=>0
 |prev,bound,d::l=>
  if 40<d.kn.length then 3
  else if gW (d.kn++[d.tm])≠0 then gW (d.kn++[d.tm])
  else if kept prev d.kn=false then 9
  else if JN bound d.kn=false then 13
  else ti (some d.kn) (bound++bF d.tm) l
def nr(l:List fg):Int:=if 40<l.length then 3 else ti none [] l
def kO(x t:Tm):Bool:=decide (valid x=0/\valid t=0/\x.k=1/\(x.o=0\/(t.k≠3/\t.o=x.o)))
def Di(b:cY):Int:=if valid b.v≠0 then valid b.v else if b.v.k≠1\/aT b.v b.t=0 then 1 else if valid b.t≠0 then valid b.t else if kO b.v b.t=false then 10 else 0
def behind(prev:Option Tm)(x:Tm):Bool:=match prev with |none=>true |some p=>decide (aT p x<0)
def qa:Option Tm->List cY->Int
 |_,[]=>0
 |prev,b::l=>if Di b≠0 then Di b else if behind prev b.v=false then 5 else qa (some b.v) l
def j9(s:List cY):Int:=if 200<s.length then 3 else qa none s
def kQ:List cY->Tm->Tm
 |[],x=>x
 |b::s,x=>if aT b.v x=0 then b.t else kQ s x
mutual
def cF(s:List cY):Tm->Tm
 | .mk k n o l=>if k=1 then kQ s (.mk k n o l)else .mk k n o (cj s l)
def cj(s:List cY):List Tm->List Tm
 |[]=>[]
 |t::l=>cF s t::cj s l
end
def bR(s:List cY)(t:Tm):Tm×Int:=if valid t≠0 then(eL,valid t)else if valid (cF s t)≠0 then(eL,valid (cF s t))else(cF s t,0)
def iW(s:List cY):List Tm->Int
 |[]=>0
 |t::l=>if(bR s t).2≠0 then(bR s t).2 else iW s l
def jg(s:List cY)(d:fg):Int:=if iW s d.kn≠0 then iW s d.kn else(bR s d.tm).2
def js(s:List cY)(d:fg):fg:=⟨cj s d.kn,cF s d.tm⟩
def nI(s:List cY):List fg->Int
 |[]=>0
 |d::l=>if jg s d≠0 then jg s d else nI s l
def instE(l:List fg)(s:List cY):Int:=if nr l≠0 then nr l else if j9 s≠0 then j9 s else if nI s l≠0 then nI s l else nr (l.map (js s))
def instL(l:List fg)(s:List cY):List fg:=if instE l s≠0 then[]else l.map (js s)
theorem oC(t:Tm):t∈pre t:=by cases t;simp[pre]
theorem cQ(s:List cY)(l:List Tm):cj s l=l.map (cF s):=by
 induction l with
 |nil=>rfl
 |cons t l ih=>simp[cj,ih]
theorem mA(s:List cY)(l:List Tm):(cj s l).length=l.length:=by rw[cQ];simp
open Go.Proofs
set_option maxRecDepth 100000
set_option maxHeartbeats 2000000
instance:Inhabited fg:=⟨⟨[],eL⟩⟩
instance:Inhabited cY:=⟨⟨eL,eL⟩⟩
theorem dz.grow{w w':World}(g:dz w w'):∃q os',w'=Go.Sort.grow (w.drewN q) os':=by
 refine⟨w'.drawn - w.drawn,w'.heap.extract w.heap.size w'.heap.size,?_⟩
 have hh:w'.heap=w.heap++w'.heap.extract w.heap.size w'.heap.size:=by
  apply Array.ext_getElem?
  intro i
  have hs:=g.size
  by_cases hi:i<w.heap.size
  ·rw[g.aQ i hi,Array.getElem?_append_left hi]
  ·rw[Array.getElem?_append_right (by omega),Array.getElem?_extract]
   by_cases h2:i<w'.heap.size
   ·rw[if_pos (by omega)];congr 1;omega
   ·rw[if_neg (by omega),abe (by omega)]
 obtain⟨hp,tp,dr,os,out⟩:=w';have h1:=g.os;have h2:=g.tape;have h3:=g.output;have h4:=g.drawn;simp only at h1 h2 h3 h4 hh;subst h1 h2 h3;simp only[Go.Sort.grow,World.drewN];rw[<-hh]
 congr 1
 omega
section
variable{C:cK}(T:lz C.P)
variable{ops:Array Oper}{i:Nat}{d:Nat}{ty:TypeId}{pos:String}{af:Array Edge}{r:List Oper}{ρ:Nat->PV}{L:List (Nat×PV)}{h:ab}{Q:St->Prop}
set_option maxHeartbeats 4000000
theorem sc{P:Program}{t el:TypeId}{id ep len b:Nat}{o:au}{k:IntKind}(hu:P.underlying t=some (.slice el))(hs:cg P el=some o.bB)(hg:getM h id ep=some o)(hb:b<=len)(hle:len<=o.es.length):
  bX P h t (.aj id ep 0 len) none (some (.int k (b:Int))) none=some (.aj id ep 0 b):=by
 have h1:¬((len:Int)<(b:Int)):=by omega
 simp[bX,hu,hs,hg,hle,beyond,h1,cx,hb]
theorem pE{P:Program}{t el:TypeId}{id ep len a:Nat}{o:au}{k:IntKind}(hu:P.underlying t=some (.slice el))(hs:cg P el=some o.bB)(hg:getM h id ep=some o)(ha:a<=len)(hle:len<=o.es.length):
  bX P h t (.aj id ep 0 len) (some (.int k (a:Int))) none none=some (if a=0 then .aj id ep 0 len else if len - a=0 then .aa false []else .aj id ep a (len - a)):=by
 simp[bX,hu,hs,hg,hle,beyond,cx,ha]
 by_cases h0:a=0
 ·simp[h0]
 ·by_cases h1:len - a=0 <;>simp[h0,h1]
theorem JL{P:Program}{t el:TypeId}{id ep len a b:Nat}{o:au}{k k' k2:IntKind}(hu:P.underlying t=some (.slice el))(hs:cg P el=some o.bB)(hg:getM h id ep=some o)(ha:a<=b)(hb:b<=len)(bI:a<len)(hle:len<=o.es.length):
  bX P h t (.aj id ep 0 len) (some (.int k (a:Int))) (some (.int k' (b:Int))) (some (.int k2 (len:Int)))=some .any:=by
 have h1:¬len=a:=by omega
 simp[bX,hu,hs,hg,hle,beyond,cx,ha,hb,h1]
theorem x0{P:Program}{t el:TypeId}{id ep len a b:Nat}{o:au}{k k':IntKind}(hu:P.underlying t=some (.slice el))(hs:cg P el=some o.bB)(hg:getM h id ep=some o)(ha:a<=len)(hb:len<b)(hle:b<=o.es.length):
  bX P h t (.aj id ep 0 len) (some (.int k (a:Int))) (some (.int k' (b:Int))) none=some (if a=0 then .aj id ep 0 b else .aj id ep a (b - a)):=by
 have h1:(len:Int)<(b:Int):=by omega
 have h2:¬(b - a=0):=by omega
 have h3:len<=o.es.length:=by omega
 have h4:a<=b:=by omega
 simp[bX,hu,hs,hg,h3,beyond,h1,cx,hle,h4,h2]
 by_cases h0:a=0 <;>simp[h0]
theorem oB{P:Program}{t el:TypeId}{id ep len b:Nat}{o:au}{k':IntKind}(hu:P.underlying t=some (.slice el))(hs:cg P el=some o.bB)(hg:getM h id ep=some o)(hb:len<b)(hle:b<=o.es.length):
  bX P h t (.aj id ep 0 len) none (some (.int k' (b:Int))) none=some (.aj id ep 0 b):=by
 have h1:(len:Int)<(b:Int):=by omega
 have h3:len<=o.es.length:=by omega
 simp[bX,hu,hs,hg,h3,beyond,h1,cx,hle]
theorem R.slice{t:TypeId}{x:Operand}{lo hi mx:Option Operand}{p q:PV}{plo phi pmx:Option PV}(hx:cG L x=some p)(h1:lo.map (ev (al L ρ))=plo)(h2:hi.map (ev (al L ρ))=phi)(h3:mx.map (ev (al L ρ))=pmx)(hs:bX C.P h t p plo phi pmx=some q)
  (kk:ah C ops r ⟨al ((d,q)::L) ρ,h⟩ Q):ah C ops (⟨some d,.slice t x lo hi mx,ty,pos,af,none⟩::r) ⟨al L ρ,h⟩ Q:=
 ah.eK (λrun=>by simp only[ao,az,ak hx,h1,h2,h3,hs,ZH]) kk
theorem D.slice{t:TypeId}{x:Operand}{lo hi mx:Option Operand}{p q:PV}{plo phi pmx:Option PV}(di:aR h=true)(hx:cG L x=some p)(hv:br (aL h) p=true)(h1:lo.map (ev (al L ρ))=plo)(h2:hi.map (ev (al L ρ))=phi)(h3:mx.map (ev (al L ρ))=pmx)
  (v1:plo.all (br (aL h))=true) (v2:phi.all (br (aL h))=true) (v3:pmx.all (br (aL h))=true) (hs:bX C.P h t p plo phi pmx=some q)
  (kk:aV C ops (i+1) r ⟨⟨al ((d,q)::L) ρ,h⟩,h.length,[]⟩ Q):aV C ops i (⟨some d,.slice t x lo hi mx,ty,pos,af,none⟩::r) ⟨⟨al L ρ,h⟩,h.length,[]⟩ Q:=by
 refine aV.read rfl di ?_ ⟨0,λn lv _ _=>by simp only[ao,az,ak hx,h1,h2,h3,hs,ZH]⟩ kk;rw[<-h1]at v1;rw[<-h2]at v2;rw[<-h3]at v3;rw[Zw]
 intro y hy
 simp only[Op.operands]at hy
 cases lo <;>cases hi <;>cases mx <;>simp at hy v1 v2 v3 <;>rcases hy with rfl |hy <;>first
  |(rw[ak hx];exact hv)
  |(simp_all;done)
  |(rcases hy with rfl |hy <;>first |assumption |(rcases hy with rfl |rfl <;>assumption)|(subst hy;assumption))
theorem vH{st xt el pU:TypeId}{sz fX id ep k:Nat}{z u:PV}{ys:List PV}{o:au}(hk:T.kd st=some (.sl el))(fR:T.kd xt=some (.sl pU))(hs:T.ts el=some (sz+1))(hb:T.tb el=some fX)(hz:T.tz el=some z)(jc:fX<=1000)(hl:(cells z).length=sz+1)(ho:(cells z).all bG=true)
  (hu:ch h u=some ys) (hy:du (sz+1) ys) (Nh:ys≠[]->jD id u=true) (hg:getM h id ep=some o) (hm:o.mu=.m) (GO:o.bB=sz+1) (hle:k+ys.length<=o.es.length):
  bL C.P 2 h st xt (.aj id ep 0 k) u=some (.aj id ep 0 (k+ys.length),h.set id {o with es:=o.es.take k++ys++o.es.drop (k+ys.length)}):=by
 unfold bL;rw[bp (T.cP _ _ hk)];simp only[T.dO _ _ hs,T.rV _ _ hb,T.mO _ _ hz,cy,bp (T.cP _ _ fR),hu];unfold du at hy;rw[if_pos ⟨by omega,by omega,⟨hl,ho⟩,hy⟩];simp only[hg];rw[if_pos ⟨by omega,GO.symm⟩]
 cases ys with
 |nil=>
  have e1:o.es.take k++[]++o.es.drop (k+0)=o.es:=by simp
  have e2:h.set id {o with es:=o.es.take k++[]++o.es.drop (k+0)}=h:=by
   rw[e1];have h1:=(getM_some hg).1;have cz:=ag h1;rw[Zy cz]at h1;have:(h[id]:au)={o with es:=o.es}:=Zu h1;rw[<-this];exact abI cz
  simp only[List.isEmpty_nil,if_true,Z',aaX]at e2 ⊢;rw[e2]
 |cons y ys=>
  have bI:(y::ys).isEmpty=false:=rfl;simp only[bI,ZJ,if_false];rw[if_pos ⟨trivial,Zz _,hm,Nh (by simp),hle⟩]
theorem D.vH{st xt el pU:TypeId}{sz fX id ep k L0:Nat}{own:List Nat}{z u:PV}{ys:List PV}{o:au}{x y:Operand}(cH:level ops (before ops) i=2)(hx:cG L x=some (.aj id ep 0 k))(QJ:cG L y=some u)(hk:T.kd st=some (.sl el))(fR:T.kd xt=some (.sl pU))(hs:T.ts el=some (sz+1))(hb:T.tb el=some fX)(hz:T.tz el=some z)(jc:fX<=1000)(hl:(cells z).length=sz+1)(ho:(cells z).all bG=true)
  (hu:ch h u=some ys) (hy:du (sz+1) ys) (Nh:ys≠[]->jD id u=true) (hg:getM h id ep=some o) (hm:o.mu=.m) (GO:o.bB=sz+1) (hle:k+ys.length<=o.es.length)
  (kk:aV C ops (i+1) r ⟨⟨al ((d,.aj id ep 0 (k+ys.length))::L) ρ,h.set id {o with es:=o.es.take k++ys++o.es.drop (k+ys.length)}⟩,(h.set id {o with es:=o.es.take k++ys++o.es.drop (k+ys.length)}).length,[]⟩ Q):
  aV C ops i (⟨some d,.call ⟨.builtin .append,#[x,y],#[st,xt]⟩,ty,pos,af,none⟩::r) ⟨⟨al L ρ,h⟩,L0,own⟩ Q:=by
 refine aV.two rfl cH ⟨0,λn _=>?_⟩ kk;have lY:=Pm.vH T hk fR hs hb hz jc hl ho hu hy Nh hg hm GO hle;simp only[ao,bo,ZN,ZX,ak hx,ak QJ,lY]
theorem R.JM{t el:TypeId}{id ep off len:Nat}{z:PV}{o:au}{x:Operand}(hx:cG L x=some (.aj id ep off len))(hk:T.kd t=some (.sl el))(hs:T.ts el=some o.bB)(hz:T.tz el=some z)(hl:(cells z).length=o.bB)(ho:(cells z).all bG=true)(hg:getM h id ep=some o)(hm:o.mu=.m)(hle:off+len<=o.es.length)
  (kk:ah C ops r ⟨al L ρ,h.set id {o with es:=o.es.take off++List.replicate len z++o.es.drop (off+len)}⟩ Q):ah C ops (⟨none,.call ⟨.builtin .clear,#[x],#[t]⟩,ty,pos,af,none⟩::r) ⟨al L ρ,h⟩ Q:=by
 refine ah.val (v:=.cm []) (h':=h.set id {o with es:=o.es.take off++List.replicate len z++o.es.drop (off+len)}) rfl (λrun=>?_) kk;simp only[ao,bo,ZN,ZX,ak hx,lU,bp (T.cP _ _ hk),T.dO _ _ hs,T.mO _ _ hz,hg];rw[if_pos ⟨Zz _,hm,trivial,hle,hl,ho⟩]
end
attribute [local irreducible] aE aC aI aJ Ev ah ai ay aV
namespace Zero
set_option maxHeartbeats 4000000
theorem QK(N:Nat){h:ab}{id ep len k:Nat}{o:au}(hg:getM h id ep=some o)(hm:o.mu=.m)(hz:o.bB=5)(hle:len<=o.es.length)(hk:k<len)(hn:len<100000000)(fQ:(o.es.take len).all (jT 5)=true)(di:aR h=true):
  ∃nO:List PV,nO.length=o.es.length/\nO.take (len - 1)=(o.es.take len).take k++(o.es.take len).drop (k+1)/\
   ay C0 352 [.aj id ep 0 len,.int .i64 (k:Int),.int .i64 ((k:Int)+1)] h (λr h'=>r=.aj id ep 0 (len - 1)/\h'=h.set id {o with es:=nO}):=by
 have WD:=(getM_some hg).1;have cz:=ag WD
 have ia:aL h id=true:=by
  unfold aL;rw[WD];simp[hm]
 obtain⟨ys,nR⟩:∃ys,ys=(o.es.drop (k+1)).take (len - (k+1)):=⟨_,rfl⟩;have UE:ys.length=len - (k+1):=by rw[nR];simp;omega
 have DT:du 5 ys:=by
  unfold du;rw[Zw]at fQ ⊢
  intro v hv
  rw[nR]at hv
  have eW:v∈o.es.take len:=by
   have:(o.es.drop (k+1)).take (len - (k+1))=(o.es.take len).drop (k+1):=by rw[abS]
   rw[this]at hv;exact aac hv
  have:=fQ v eW;unfold jT at this;simp only[ZD]at this ⊢;exact⟨this.1.2,this.2⟩
 obtain⟨dD,np⟩:∃dD,dD=o.es.take k++ys++o.es.drop (k+ys.length):=⟨_,rfl⟩;have cH:dD.length=o.es.length:=by rw[np];simp;omega
 refine⟨dD.take (len - 1)++List.replicate 1 (.agg [.int .i64 0,.str ByteArray.empty,.int .i64 0,.aa true [],.int .i64 0])++dD.drop (len - 1+1),by simp;omega,?_,?_⟩
 ·have e1:(dD.take (len - 1)++List.replicate 1 (.agg [.int .i64 0,.str ByteArray.empty,.int .i64 0,.aa true [],.int .i64 0]:PV)++dD.drop (len - 1+1)).take (len - 1)=dD.take (len - 1):=by
   rw[ZZ,Z6 (by simp;omega),aaF];congr 1;omega
  rw[e1,np];have e2:(o.es.take k++ys).length=len - 1:=by simp;omega
  rw[Z6 (by omega),ZW (by omega),aaF,nR]
  congr 1
  ·congr 1;omega
  ·rw[abS]
 ·refine ay.dC Tryz.func352 rfl ?_;have hu:C0.P.underlying 175=some (.slice 187):=bp (T6.cP 175 _ rfl);have gm:cg C0.P 187=some o.bB:=by rw[hz];exact T6.dO 187 5 rfl
  have hsT:T6.ts 187=some o.bB:=by rw[hz];rfl
  have hj:((k:Int)+1)=((k+1:Nat):Int):=by omega
  refine wXD ?_;apply R.xU T6 (o:=o);exact rfl;exact rfl;exact hg;exact(by omega)
  skip
  apply R.slice
  ·exact rfl
  ·exact rfl
  ·exact rfl
  ·exact rfl
  ·show bX C0.P h 175 (.aj id ep 0 len) (some (.int .i64 (k:Int))) (some (.int .i64 ((k:Int)+1))) (some (.int .i64 (len:Int)))=some .any;rw[hj];exact JL hu gm hg (by omega) (by omega) (by omega) hle
  refine wXF λhc=>?_;apply R.xU T6 (o:=o);exact rfl;exact rfl;exact hg;exact(by omega);refine wXD ?_;apply D.slice
  ·exact di
  ·exact rfl
  ·exact ia
  ·exact rfl
  ·exact rfl
  ·exact rfl
  ·exact rfl
  ·exact rfl
  ·exact rfl
  ·exact sc (b:=k) (k:=.i64) hu gm hg (by omega) hle
  refine wXD ?_;apply D.slice
  ·exact di
  ·exact rfl
  ·exact ia
  ·exact rfl
  ·exact rfl
  ·exact rfl
  ·exact rfl
  ·exact rfl
  ·exact rfl
  ·show bX C0.P h 175 (.aj id ep 0 len) (some (.int .i64 ((k:Int)+1))) none none=_;rw[hj];exact pE hu gm hg (by omega) hle
  rw[if_neg (by omega)];apply D.vH T6 (ys:=ys) (o:=o) (sz:=4)
  ·exact rfl
  ·exact rfl
  ·exact rfl
  ·exact rfl
  ·exact rfl
  ·exact rfl
  ·exact rfl
  ·exact rfl
  ·exact(by decide)
  ·exact rfl
  ·exact rfl
  ·split
   ·have:ys=[]:=ZL (by omega);rw[this];rfl
   ·simp only[ch,hg];rw[if_pos (by omega),nR]
  ·exact DT
  ·intro bI
   rw[if_neg (λhh=>bI (ZL (by omega)))];simp[jD]
  ·exact hg
  ·exact hm
  ·exact hz
  ·omega
  have FG:k+ys.length=len - 1:=by omega
  have yw:h.set id {o with es:=o.es.take k++ys++o.es.drop (k+ys.length)}=h.set id {o with es:=dD}:=by rw[np]
  have QL:=(getM_some hg).2.1;have uA:getM (h.set id {o with es:=dD}) id ep=some {o with es:=dD}:=bg (ZB cz) QL (by show o.mu≠.x;rw[hm];simp);refine aV.heap yw ?_;rw[FG];clear yw;refine wXD ?_;apply R.xU T6 (o:={o with es:=dD});exact rfl;exact rfl;exact uA;exact(by show 0+(len - 1)<=dD.length;omega);refine wXD ?_;apply R.slice
  ·exact rfl
  ·exact rfl
  ·exact rfl
  ·exact rfl
  ·exact x0 (o:={o with es:=dD}) (len:=len - 1) (a:=len - 1) (b:=len) (k:=.i64) (k':=.i64) hu gm uA (Zz _) (by omega) (by show len<=dD.length;omega)
  by_cases h1:len - 1=0
  ·rw[if_pos h1];have UF:len=1:=by omega
   subst UF;apply R.JM T6 (o:={o with es:=dD}) (z:=.agg [.int .i64 0,.str ByteArray.empty,.int .i64 0,.aa true [],.int .i64 0])
   ·exact rfl
   ·exact rfl
   ·exact hsT
   ·exact rfl
   ·show 5=o.bB;omega
   ·rfl
   ·exact uA
   ·exact hm
   ·show 0+1<=dD.length;omega
   refine wXD ?_;exact⟨rfl,by rw[aar]⟩
  ·rw[if_neg h1];have h2:len - (len - 1)=1:=by omega
   rw[h2];apply R.JM T6 (o:={o with es:=dD}) (z:=.agg [.int .i64 0,.str ByteArray.empty,.int .i64 0,.aa true [],.int .i64 0])
   ·exact rfl
   ·exact rfl
   ·exact hsT
   ·exact rfl
   ·show 5=o.bB;omega
   ·rfl
   ·exact uA
   ·exact hm
   ·show len - 1+1<=dD.length;omega
   refine wXD ?_;exact⟨rfl,by rw[aar]⟩
theorem DU:fm C0.P 352 kF:=by
 intro args h r h' e w F β vs H ha
 unfold kF at e
 split at e
 ·rename_i id ep len i j
  split at e
  ·rename_i o hg
   split at e
   ·rename_i hc
    obtain⟨hm,hz,hle,UG,rfl,hi,hn,fQ,di⟩:=hc;obtain⟨rfl,rfl⟩:=ZG (Zu e);obtain⟨k,rfl⟩:=aaG UG;have hk:k<len:=by omega
    obtain⟨nO,l3,t3,f3⟩:=QK 0 hg hm hz hle hk hn fQ di;unfold ay at f3;obtain⟨r3,h3,⟨rfl,rfl⟩,n0,Tw⟩:=f3;obtain⟨g1,g2,g3⟩:=getM_some hg;have cz:=ag g1;refine(S0 n0 _ (.inr (qZ rfl)) _ h _ _ (Tw n0 (Zz _)) w F β vs H ha).mono ?_;rintro en w' ⟨v,β1,rfl,q1,q2,q3,_⟩;have eo:(h.set id {o with es:=nO})[id]?=some {o with es:=nO}:=ZB cz;obtain⟨bc,hb⟩:=dg q2.len eo;have GO:0<({o with es:=nO}:au).bB:=by show 0<o.bB;omega
    obtain⟨_,_,_,k2,_⟩:=(q2.obj id _ bc eo hb (by show o.mu≠.x;rw[hm];simp)).c GO;have XM:((o.es.take len).take k++(o.es.take len).drop (k+1)).length=len - 1:=by simp;omega
    have rs:=q2.nq eo hb hm ((o.es.take len).take k++(o.es.take len).drop (k+1)) (ep+1) (by show o.ep<ep+1;omega) (by rw[XM];simp only at k2;omega) (λi e he=>by
     left
     show nO[i]?=some e;rw[<-t3]at he;rw[ZO]at he
     split at he
     ·exact he
     ·cases he)
    have j8:(h.set id {o with es:=nO}).set id {({o with es:=nO}:au)with es:=(o.es.take len).take k++(o.es.take len).drop (k+1),ep:=ep+1}=h.set id {o with ep:=ep+1,es:=(o.es.take len).take (Int.toNat (k:Int))++(o.es.take len).drop (Int.toNat (k:Int)+1)}:=by
     rw[aar];rfl
    have vr:=aD.nq (A:=Av F (h.set id {o with ep:=ep+1,es:=(o.es.take len).take (Int.toNat (k:Int))++(o.es.take len).drop (Int.toNat (k:Int)+1)}) β1) eo hb hm q1 g2 (by show len - 1<=nO.length;omega) ((o.es.take len).take k++(o.es.take len).drop (k+1)) (ep+1);rw[j8]at rs vr;exact⟨v,β1,rfl,vr,rs.1,q3.trans rs.2,λhh=>by omega⟩
   ·cases e
  ·cases e
 ·cases e
end Zero
end Go.Pm
namespace Go.Pm
open Go.Proofs
variable{w:World}{F:Nat->Prop}{β:List (Nat×Nat)}{h:ab}
set_option maxRecDepth 100000
set_option maxHeartbeats 4000000
theorem R.BS{C:cK}(T:lz C.P){ops:Array Oper}{d:Nat}{ty:TypeId}{pos:String}{af:Array Edge}{r:List Oper}{ρ:Nat->PV}{L:List (Nat×PV)}{Q:St->Prop}{st xt el pU:TypeId}{sz fX id ep len:Nat}{z:PV}{full:Bool}{ys:List PV}{o:au}{x y:Operand}(hx:cG L x=some (.aj id ep 0 len))(QJ:cG L y=some (.aa full ys))(hk:T.kd st=some (.sl el))(fR:T.kd xt=some (.sl pU))(hs:T.ts el=some (sz+1))(hb:T.tb el=some fX)(hz:T.tz el=some z)(jc:fX<=1000)(hl:(cells z).length=sz+1)(ho:(cells z).all bG=true)
  (hy:du (sz+1) ys) (bI:ys.isEmpty=false) (hn:len+ys.length<1000000000) (hg:getM h id ep=some o) (hm:o.mu=.m) (GO:o.bB=sz+1) (hle:len<=o.es.length)
  (kk:ah C ops r ⟨al ((d,.aj id (ep+1) 0 (len+ys.length))::L) ρ,h.set id {o with ep:=ep+1,es:=o.es.take len++ys}⟩ Q):
  ah C ops (⟨some d,.call ⟨.builtin .append,#[x,y],#[st,xt]⟩,ty,pos,af,none⟩::r) ⟨al L ρ,h⟩ Q:=by
 refine ah.eK (λrun=>?_) kk;have lY:=kg T (full:=full) hk fR hs hb hz jc hl ho hy bI hn hg hm GO hle;simp only[ao,bo,ZN,ZX,ak hx,ak QJ,lY]
theorem yV{P:Program}{t el:TypeId}{fl:Bool}{sz:Nat}{k:IntKind}(hu:P.underlying t=some (.slice el))(hs:cg P el=some sz):bX P h t (.aa fl []) (some (.int k 0)) none none=some (.aa fl []):=by
 simp[bX,hu,hs,cx]
attribute [local irreducible] aE aC aI aJ Ev ah ai ay aV
theorem ru{sz:Nat}{e:PV}(h:jT sz e=true):du sz [e]:=by
 unfold jT at h;simp only[ZD]at h;unfold du;simp only[aaq,aaW,aa9,ZD];exact⟨h.1.2,h.2⟩
namespace Zero
theorem sD{h:ab}{fl:Bool}{e:PV}(he:jT 5 e=true):ay C0 351 [.aa true [],.int .i64 0,.aa fl [e]] h (λr h'=>r=.aj h.length 0 0 1/\h'=h++[⟨.m,0,5,[e]⟩]):=by
 refine ay.dC Tryz.func351 rfl ?_;have hu:C0.P.underlying 175=some (.slice 187):=bp (T6.cP 175 _ rfl);have xD:([e]:List PV).length=1:=rfl;refine wXD ?_;apply R.slice
 ·exact rfl
 ·exact rfl
 ·exact rfl
 ·exact rfl
 ·exact yV hu (T6.dO 187 5 rfl)
 refine wXN (λhc hc=>?_) λhc hc=>?_
 all_goals try(exfalso;revert hc;decide)
 all_goals(
  apply R.iU T6;exact rfl;exact rfl;exact rfl;exact rfl;exact rfl;exact rfl;exact rfl;exact(by decide);exact rfl;exact rfl;exact ru he;exact(by simp);exact(by show 1<_;decide);refine wXD ?_;exact⟨rfl,rfl⟩)
theorem sF{h:ab}{fl:Bool}{e:PV}{id ep len:Nat}{o:au}(he:jT 5 e=true)(hg:getM h id ep=some o)(hm:o.mu=.m)(hz:o.bB=5)(hle:len<=o.es.length)(hn:len<100000000):
  ay C0 351 [.aj id ep 0 len,.int .i64 (len:Int),.aa fl [e]] h (λr h'=>r=.aj id (ep+1) 0 (len+1)/\h'=h.set id {o with ep:=ep+1,es:=o.es.take len++[e]}):=by
 refine ay.dC Tryz.func351 rfl ?_;have hu:C0.P.underlying 175=some (.slice 187):=bp (T6.cP 175 _ rfl);have xD:([e]:List PV).length=1:=rfl;have gm:cg C0.P 187=some o.bB:=by rw[hz];exact T6.dO 187 5 rfl
 refine wXD ?_;apply R.slice
 ·exact rfl
 ·exact rfl
 ·exact rfl
 ·exact rfl
 ·exact pE hu gm hg (Zz _) hle
 refine wXF λhc=>?_
 all_goals try(exfalso;revert hc;decide)
 all_goals(
  apply R.xU T6 (o:=o);exact rfl;exact rfl;exact hg;exact(by omega);refine wXF λhc=>?_;apply R.BS T6 (o:=o);exact rfl;exact rfl;exact rfl;exact rfl;exact rfl;exact rfl;exact rfl;exact(by decide);exact rfl;exact rfl;exact ru he;exact rfl;exact(by show len+1<_;omega);exact hg;exact hm;exact hz;exact hle;refine wXD ?_;exact⟨rfl,rfl⟩)
end Zero
end Go.Pm
namespace Go.Pm
open Go.Proofs
variable{w:World}{F:Nat->Prop}{β:List (Nat×Nat)}{h:ab}
set_option maxRecDepth 100000
set_option maxHeartbeats 4000000
theorem Ak(H:aZ w F β h){v:Value}{id ep off len:Nat}{o:au}(hv:aD w (Av F h β) β h v (.aj id ep off len))(hg:getM h id ep=some o)(hle:off+len<=o.es.length):
  ∃bc:Nat×Nat,β[id]?=some bc/\∃cap,v=.slice (some ⟨bc.1,off * o.bB,none⟩) len cap/\off+cap=bc.2:=by
 obtain⟨e1,e2,e3⟩:=getM_some hg;obtain⟨bc,hb⟩:=dg H.len e1;obtain⟨_,_,m3⟩:=hv.dG;exact⟨bc,hb,m3 o bc e1 hb e3 e2 hle⟩
theorem rq{P:Program}{a:Act}{ρ:Nat->PV}(H:aZ w F β h)(R:gM w (Av F h β) β h a ρ){t el:TypeId}{x:Operand}{id ep len:Nat}{o:au}{bc:Nat×Nat}(hu:P.underlying t=some (.slice el))(hx:ev ρ x=.aj id ep 0 len)(hg:getM h id ep=some o)(hb:β[id]?=some bc)(hle:len<=o.es.length):
  ∀oo:Oper,oo.op=.call ⟨.builtin .cap,#[x],#[t]⟩->ud P 2 w F β h (execOp a.eval oo) (.int .i64 (bc.2:Int)) h:=by
 intro oo ho
 have hv:=R.ev x;rw[hx]at hv;obtain⟨c8,dK,cap,e1,e2⟩:=Ak H hv hg (by omega);obtain rfl:=Zu (hb.symm.trans dK);have hc:cap=bc.2:=by omega
 subst hc;obtain⟨d,op,ty,pos,af,g⟩:=oo;simp only at ho;subst ho;refine⟨.int .i64 (bc.2:Int),w,β,.inl ?_,.val (.int _ _),H,dN.refl w h β,λ_=>dz.refl w⟩
 have h1:(Builtin.cap_ #[t] ty #[a.eval x]).run P w=.ok (.int .i64 (bc.2:Int)) w:=by
  simp[Builtin.cap_,e1,bH hu,goInt]
 simp only[execOp,resolve,Sem.run_bind,Sem.run_pure,Result.andThen_ok,invoke,builtin];simp[h1]
theorem pX{P:Program}(w:World)(tS tR e:TypeId)(ht:P.underlying tS=some (.slice e))(size:Nat)(hz:∀w,(Go.sizeOf e).run P w=.ok size w)
  (a b:Addr) (la ca lb cb:Nat) (bI:a.block≠b.block) (tA tB:TypeId) (kA kB:Nat)
  (Yl:w.shape? a.block=some (tA,kA)) (Ym:w.shape? b.block=some (tB,kB)) (NV:kA≠0)
  (Yn:w.frozen? b=false) (Ve:w.frozen? {block:=b.block,off:=kB}=false):
  (Extern.SlicesOverlaps.overlaps #[tS,tS] #[tR] #[.slice (some a) la ca,.slice (some b) lb cb]).run P w=.ok (.bool false) w:=by
 have Qt:(a.block !=b.block)=true:=by simpa using bI
 have Yo:(a.block==b.block)=false:=by simpa using bI
 conv=>lhs;arg 2;whnf
 have he:(#[tS,tS]:Array TypeId)[0]=tS:=rfl;have hbp:∀{α β:Type} (x:α) (f:α->Sem β),(pure x:Sem α).bind f=f x:=λ_ _=>rfl
 by_cases h0:la=0\/lb=0\/size=0
 ·simp[Sem.run,Sem.bind,hbp,he,ht,hz,h0]
 ·cases kA with
  |zero=>exact absurd rfl NV
  |succ kA=>
   cases h3:w.frozen? a <;>cases h4:w.frozen? {block:=a.block,off:=kA+1} <;>
    simp[Sem.run,Sem.bind,hbp,he,ht,hz,h0,Qt,Yo,frozen,noView,viewAt,mayBeOne,stringish,shape,Yl,Ym,Yn,Ve,h3,h4]
theorem qd{P:Program}{a:Act}{ρ:Nat->PV}(H:aZ w F β h)(R:gM w (Av F h β) β h a ρ){t el tR:TypeId}{sz:Nat}{x y:Operand}{f:FuncId}{fn:Func}{fl:Bool}{e1:PV}{id ep off n:Nat}{o:au}
  (hu:P.underlying t=some (.slice el)) (hs:cg P el=some sz) (hx:ev ρ x=.aa fl [e1]) (hy:ev ρ y=.aj id ep off n) (hg:getM h id ep=some o) (hm:o.mu=.m) (hle:off+n<=o.es.length)
  (hf : P.funcs[f]? = some fn) (Vh : (fn.name == "runtime.NumGoroutine") = false) (MK : fn.body.isNone = true) (hn : Extern.findNext fn = none) (he : Extern.find fn = some (Extern.SlicesOverlaps.overlaps #[t, t] #[tR])) {yU : Array TypeId} :
  ∀oo:Oper,oo.op=.call ⟨.value (.func f),#[x,y],yU⟩->ud P 2 w F β h (execOp a.eval oo) (.bool false) h:=by
 intro oo ho
 have Sc:=R.ev x;rw[hx]at Sc;have TP:=R.ev y;rw[hy]at TP;obtain⟨bc,hb,cap,ey,e2⟩:=Ak H TP hg hle;obtain⟨g1,g2,g3⟩:=getM_some hg;obtain⟨T,cs,k1,k2,k3,k4,k5⟩:=(H.obj id o bc g1 hb g3).c (TP.dG.2.1 o g1).2;rcases Sc.fp.sa with h0 |⟨b,Yp,DA,FA,oh,ex,hnA,gm,xD,Se,I1⟩
 ·cases h0
 have FY:b≠bc.1:=λhh=>hnA (.inr ⟨id,o,bc,g1,hb,hm,hh.symm⟩)
 have j0:=Se 0 0 (by simp) gm
 obtain⟨tA,kA,Yl,NV⟩:∃tA kA,w.shape? b=some (tA,kA)/\kA≠0:=by
  simp only[World.cell?]at j0
  split at j0
  ·rename_i c el0 fr hh
   split at j0
   ·cases j0
   ·refine⟨el0,c.size,by simp[World.shape?,hh],?_⟩
    intro h0
    have:=(ZT.1 j0).1;omega
  ·cases j0
 have Ym:w.shape? bc.1=some (T,cs.size):=by simp[World.shape?,k1]
 have WN:∀of,w.frozen? ⟨bc.1,of,none⟩=false:=λof=>by simp[World.frozen?,k1]
 have hov:=pX (P:=P) w t tR el hu sz (λw=>cw hs w) ⟨b,Yp,none⟩ ⟨bc.1,off * o.bB,none⟩ 1 DA n cap FY tA T kA cs.size Yl Ym NV (WN _) (WN _);obtain⟨d,op,ty,pos,af,g⟩:=oo;simp only at ho;subst ho;refine⟨.bool false,w,β,.inl ?_,.val (.bool _),H,dN.refl w h β,λ_=>dz.refl w⟩;have hc:=run_callFunc_extern hf Vh MK hn he #[a.eval x,a.eval y] w;rw[ex,ey]at hc;rw[show([e1]:List PV).length=1 from rfl]at hc;rw[hov]at hc;have Yq:a.eval (.func f)=.func (.func f) #[] #[]:=rfl;simp only[execOp,resolve,Yq,Deferred.ofValue,Sem.run_bind,Sem.run_pure,Result.andThen_ok,invoke];simp only[Array.append_empty,List.map_toArray,ZN,ZX,ex,ey];exact hc
theorem tE{P:Program}{a:Act}{ρ:Nat->PV}(H:aZ w F β h)(R:gM w (Av F h β) β h a ρ){st xt el:TypeId}{k:IntKind}{sz fX n:Nat}{z:PV}{x y:Operand}{id ep len:Nat}{o:au}{bc:Nat×Nat}
  (hu:P.underlying st=some (.slice el)) (ME:P.underlying xt=some (.int k)) (hs:cg P el=some sz) (nA:0<sz) (hb:lT P el=some fX) (jc:fX<=1000) (hz:iL P el=some z) (hl:(cells z).length=sz) (sA:(cells z).all bG=true)
  (hx:ev ρ x=.aj id ep 0 len) (hy:ev ρ y=.int k (n:Int)) (hg:getM h id ep=some o) (mQ:β[id]?=some bc) (hle:len<=o.es.length) (gm:o.bB=sz) (mD:bc.2<len+n) (hn:len+n<1000000000):
  ∀oo:Oper,oo.op=.call ⟨.builtin .append,#[x,y],#[st,xt]⟩->ud P 2 w F β h (execOp a.eval oo) (.aj h.length 0 0 (len+n)) (h++[⟨.m,0,sz,o.es.take len++List.replicate n z⟩]):=by
 intro oo ho
 obtain⟨d,op,ty,pos,af,g⟩:=oo;simp only at ho;subst ho;have Sc:=R.ev x;rw[hx]at Sc;have TP:=R.ev y;rw[hy]at TP;obtain⟨c8,dK,cap,ex,e2⟩:=Ak H Sc hg (by omega);obtain rfl:=Zu (mQ.symm.trans dK);have Ai:cap=bc.2:=by omega
 subst Ai;obtain⟨g1,g2,g3⟩:=getM_some hg;obtain⟨T,rY,k1,k2,k3,k4,k5⟩:=(H.obj id o bc g1 mQ g3).c (Sc.dG.2.1 o g1).2
 have main:Aa P 2 w F β h (Builtin.append_ #[st,xt] ty #[a.eval x,a.eval y]) (.aj h.length 0 0 (len+n)) (h++[⟨.m,0,sz,o.es.take len++List.replicate n z⟩]):=by
  have UE:(List.replicate n z).length=n:=aaN
  have eA:(List.replicate n z).all (λv=>decide ((Pm.cells v).length=sz)&& (Pm.cells v).all bG)=true:=by
   rw[Zw]
   intro v hv
   obtain rfl:=aam hv;rw[hl,sA];simp
  have Yr:cy P h z xt (.int k (n:Int))=some (List.replicate n z):=by
   simp only[cy,ME];rw[if_pos (by omega)];simp
  obtain⟨vz,z1,z2⟩:=jy (P:=P) hz;obtain⟨zb,d',a1,a2,news,a3,a4,a5,a6⟩:=rr (st:=st) (vz:=vz) H hs hb hz nA (by omega) TP Yr eA;rw[UE]at a5 a6;have zsz:vz.cells.size=sz:=by rw[((z2 w (Av F h β) β h).cells sA).1];exact hl
  have iP:ch h (.aj id ep 0 len)=some ((o.es.drop 0).take len):=by simp only[ch,hg];rw[if_pos (by omega)]
  have DS:((o.es.drop 0).take len).length=len:=by simp;omega
  obtain⟨a',DA,XF,_,cs,f1,f2⟩:=kX (P:=P) (sz:=sz) H Sc iP (λy hy=>by
   obtain⟨k,hk⟩:=aas hy;rw[ZO]at hk
   split at hk
   ·simp at hk;rw[<-gm];exact(k5 k y hk).1
   ·cases hk)
  simp only[aaA]at f1 DS f2;have Kx:len+n<=17592186044416:=by omega
  have Sf:(len+n) * fX<=17592186044416:=by
   have:(len+n) * fX<=1000000000 * 1000:=abC (by omega) jc
   omega
  obtain⟨c,c1,fL⟩:=oQ (P:=P) (w:=w) (ty:=ty) (ts:=#[st,xt]) (args:=#[a.eval x,a.eval y]) (olds:=cs) (sLen:=len) (sCap:=bc.2) (base:=some ⟨bc.1,0 * o.bB,none⟩) rfl rfl (by rw[ex];rfl) rfl hu hs a1 a2 hb (by omega) z1 a5 a6 (λw' Dt=>by
   have:=f2 w' Dt len (by omega);rw[ZW (by rw[f1.1,DS];exact Zz _)]at this;rw[<-ex];exact this) (by omega) Sf Kx
  have I3:=f1.append a3;have arr:cs.toArray++news.toArray++Builtin.zeroCells vz.cells (c - (len+n))=(cs++news++(Builtin.zeroCells vz.cells (c - (len+n))).toList).toArray:=by apply aaR;simp
  have arrsz:c * sz<=(cs.toArray++news.toArray++Builtin.zeroCells vz.cells (c - (len+n))).size:=by
   simp only[Array.size_append,abD,size_zeroCells,zsz,f1.1,a3.1,DS,UE,<-aag];rw[show len+n+(c - (len+n))=c by omega];exact Zz _
  obtain⟨HH,S⟩:=aZ.new H (w':=w.drew.alloc (.cells (cs.toArray++news.toArray++Builtin.zeroCells vz.cells (c - (len+n))) el)) el
   (cs.toArray++news.toArray++Builtin.zeroCells vz.cells (c - (len+n))) {mu:=.m,ep:=0,bB:=sz,es:=o.es.take len++List.replicate n z} c rfl rfl rfl rfl rfl (by simp;omega)
   arrsz nA (λi e he=>by
    rw[arr];exact I3.obj (rest:=(Builtin.zeroCells vz.cells (c - (len+n))).toList) i e he)
  exact⟨_,_,_,fL,H.uH,HH,S,λhh=>by omega⟩
 obtain⟨v,w',β',r1,r2,r3,r4,r5⟩:=main;refine⟨v,w',β',.inl ?_,r2,r3,r4,r5⟩;simp only[execOp,resolve,Sem.run_bind,Sem.run_pure,Result.andThen_ok,invoke,builtin];simp only[List.map_toArray,ZN,ZX,r1,Result.andThen_ok]
theorem aZ.Ky{w w':World}{F:Nat->Prop}{β:List (Nat×Nat)}{h:ab}(H:aZ w F β h){id:Nat}{o:au}{bc:Nat×Nat}(eo:h[id]?=some o)(eb:β[id]?=some bc)(em:o.mu=.m)
  (T:TypeId) (cs:Array Value) (fq:List PV) (gV:Nat) (c8:Nat×Nat)
  (gm:w.heap.size<=w'.heap.size) (cV:w'.heap[c8.1]?=some (.cells cs T (0,0))) (qC:∀b,b<w.heap.size->w'.heap[b]?=w.heap[b]?)
  (Bo:w.heap.size<=c8.1) (cz:o.ep<gV) (ho:w'.os=w.os) (ht:w'.tape=w.tape) (hu:w'.output=w.output)
  (h1:fq.length<=c8.2) (h2:c8.2 * o.bB<=cs.size)
  (h4:∀(i:Nat) (e:PV),fq[i]?=some e->(cells e).length=o.bB/\∀(j:Nat) (p:PV),(cells e)[j]?=some p->∃v:Value,cs[i * o.bB+j]?=some v/\aD w' (Av F (h.set id {o with es:=fq,ep:=gV}) (β.set id c8)) (β.set id c8) (h.set id {o with es:=fq,ep:=gV}) v p)
  (hd:w.drawn<=w'.drawn:=by first |exact Zz _ |exact abd _) (X9:0<o.bB:=by first |assumption |omega):
  aZ w' F (β.set id c8) (h.set id {o with es:=fq,ep:=gV})/\dN w h β w' (h.set id {o with es:=fq,ep:=gV}) (β.set id c8):=by
 have hlen:=H.len;have bT:=ag eo;have RK:0<o.bB:=X9;have mj:(h.set id {o with es:=fq,ep:=gV})[id]?=some {o with es:=fq,ep:=gV}:=by simp[bT]
 have bself:(β.set id c8)[id]?=some c8:=by simp[hlen,bT]
 have jL:∀k,k≠id->(h.set id {o with es:=fq,ep:=gV})[k]?=h[k]?:=λk hk=>ZC (aak hk)
 have both:∀k,k≠id->(β.set id c8)[k]?=β[k]?:=λk hk=>ZC (aak hk)
 have hs:dN w h β w' (h.set id {o with es:=fq,ep:=gV}) (β.set id c8):=by
  refine⟨gm,by simp,λb hb hm=>qC b hb,?_,?_,?_,ho,ht,hu,hd⟩
  ·rintro b hb ⟨k,o',c',e1,e2,e3,rfl⟩
   by_cases hk:k=id
   ·subst hk;rw[bself]at e2;obtain rfl:=Zu e2;omega
   ·rw[jL k hk]at e1;rw[both k hk]at e2;exact⟨k,o',c',e1,e2,e3,rfl⟩
  ·intro k o' c' e1 e2 e3
   by_cases hk:k=id
   ·subst hk;rw[eo]at e1;rw[eb]at e2;obtain rfl:=Zu e1;obtain rfl:=Zu e2;exact⟨_,c8,mj,bself,by rw[em];simp,⟨Nat.le_of_lt cz,λh=>h⟩,λe=>by simp at e;omega⟩
   ·exact⟨o',c',by rw[jL k hk];exact e1,by rw[both k hk];exact e2,e3,⟨Zz _,λh=>h⟩,λ_=>⟨rfl,λ_=>rfl,rfl⟩⟩
  ·intro k o' e1 e2
   have hk:k≠id:=by
    rintro rfl;rw[eo]at e1;obtain rfl:=Zu e1;exact e2 em
   exact⟨by rw[jL k hk];exact e1,both k hk⟩
 refine⟨⟨by simp[hlen],λb hb=>aaf (H.fin b hb) gm,?_,?_,?_⟩,hs⟩
 ·intro k o' c' e1 e2 e3
  by_cases hk:k=id
  ·subst hk;rw[mj]at e1;rw[bself]at e2;obtain rfl:=Zu e1;obtain rfl:=Zu e2;exact .inl ⟨T,cs,cV,h1,h2,RK,h4⟩
  ·rw[jL k hk]at e1;rw[both k hk]at e2;have r:=H.obj k o' c' e1 e2 e3;exact jU.mono hs (qC _ r.lt) r
 ·intro k k' o1 o2 MF Ea bI e1 e2 e3 e4 m1 m2
  by_cases hk:k=id
  ·subst hk;have fR:k'≠k:=aak bI;rw[jL k' fR]at e2;rw[both k' fR]at e4;rw[bself]at e3;obtain rfl:=Zu e3;have:=(H.obj k' o2 Ea e2 e4 m2).lt;omega
  ·rw[jL k hk]at e1;rw[both k hk]at e3
   by_cases fR:k'=id
   ·subst fR;rw[bself]at e4;obtain rfl:=Zu e4;have:=Mb.lt H ⟨k,o1,MF,e1,e3,m1,rfl⟩;omega
   ·rw[jL k' fR]at e2;rw[both k' fR]at e4;exact H.hC k k' o1 o2 MF Ea bI e1 e2 e3 e4 m1 m2
 ·intro k o' c' e1 e2 e3
  by_cases hk:k=id
  ·subst hk;rw[bself]at e2;obtain rfl:=Zu e2
   intro hf;have:=H.fin _ hf;omega
  ·rw[jL k hk]at e1;rw[both k hk]at e2;exact H.out k o' c' e1 e2 e3
end Go.Pm
namespace Go.Pm
open Go.Proofs
section
variable{w:World}{F:Nat->Prop}{β:List (Nat×Nat)}
variable{C:cK}(T:lz C.P)
variable{ops:Array Oper}{i:Nat}{d:Nat}{ty:TypeId}{pos:String}{af:Array Edge}{r:List Oper}{ρ:Nat->PV}{L:List (Nat×PV)}{h:ab}{Q:St->Prop}
set_option maxRecDepth 100000
set_option maxHeartbeats 4000000
theorem cN{P:Program}{t el:TypeId}{id ep len a:Nat}{o:au}{k:IntKind}(hu:P.underlying t=some (.slice el))(hs:cg P el=some o.bB)(hg:getM h id ep=some o)(ha:a<len)(hle:len<=o.es.length):
  bX P h t (.aj id ep 0 len) (some (.int k (a:Int))) none none=some (.aj id ep a (len - a)):=by
 rw[pE hu hs hg (by omega) hle]
 by_cases h0:a=0
 ·subst h0;simp
 ·rw[if_neg h0,if_neg (by omega)]
theorem KA{dt el:TypeId}{sz id ep off len:Nat}{u:PV}{ys:List PV}{o:au}(hk:T.kd dt=some (.sl el))(hs:T.ts el=some sz)(hu:ch h u=some ys)(hg:getM h id ep=some o)(hm:o.mu=.m)(hz:o.bB=sz)(hle:off+len<=o.es.length)
  (hy:ys.all (λv=>decide ((cells v).length=sz))=true) (NW:(ys.take (min ys.length len)).all (λv=>decide ((cells v).length=sz)&& (cells v).all bG)=true):
  yk C.P 2 h dt (.aj id ep off len) u=some (.int .i64 (min ys.length len:Nat),h.set id {o with es:=o.es.take off++ys.take (min ys.length len)++o.es.drop (off+min ys.length len)}):=by
 unfold yk;rw[bp (T.cP _ _ hk),hu];simp only[T.dO _ _ hs,hg];rw[if_pos ⟨Zz _,hm,hz.symm,hle,hy,NW⟩]
theorem R.copy{dt xt el:TypeId}{sz id ep off len:Nat}{u:PV}{ys:List PV}{o:au}{x y:Operand}(hx:cG L x=some (.aj id ep off len))(QJ:cG L y=some u)(hk:T.kd dt=some (.sl el))(hs:T.ts el=some sz)(hu:ch h u=some ys)(hg:getM h id ep=some o)(hm:o.mu=.m)(hz:o.bB=sz)(hle:off+len<=o.es.length)
  (hy:ys.all (λv=>decide ((cells v).length=sz))=true) (NW:(ys.take (min ys.length len)).all (λv=>decide ((cells v).length=sz)&& (cells v).all bG)=true)
  (kk:ah C ops r ⟨al ((d,.int .i64 (min ys.length len:Nat))::L) ρ,h.set id {o with es:=o.es.take off++ys.take (min ys.length len)++o.es.drop (off+min ys.length len)}⟩ Q):
  ah C ops (⟨some d,.call ⟨.builtin .copy,#[x,y],#[dt,xt]⟩,ty,pos,af,none⟩::r) ⟨al L ρ,h⟩ Q:=by
 refine ah.eK (λrun=>?_) kk;have lY:=KA T hk hs hu hg hm hz hle hy NW;simp only[ao,bo,ZN,ZX,ak hx,ak QJ,lY]
theorem D.copy{dt xt el:TypeId}{sz id ep off len L0:Nat}{own:List Nat}{u:PV}{ys:List PV}{o:au}{x y:Operand}(cH:level ops (before ops) i=2)(hx:cG L x=some (.aj id ep off len))(QJ:cG L y=some u)(hk:T.kd dt=some (.sl el))(hs:T.ts el=some sz)(hu:ch h u=some ys)(hg:getM h id ep=some o)(hm:o.mu=.m)(hz:o.bB=sz)(hle:off+len<=o.es.length)
  (hy:ys.all (λv=>decide ((cells v).length=sz))=true) (NW:(ys.take (min ys.length len)).all (λv=>decide ((cells v).length=sz)&& (cells v).all bG)=true)
  (kk:aV C ops (i+1) r ⟨⟨al ((d,.int .i64 (min ys.length len:Nat))::L) ρ,h.set id {o with es:=o.es.take off++ys.take (min ys.length len)++o.es.drop (off+min ys.length len)}⟩,(h.set id {o with es:=o.es.take off++ys.take (min ys.length len)++o.es.drop (off+min ys.length len)}).length,[]⟩ Q):
  aV C ops i (⟨some d,.call ⟨.builtin .copy,#[x,y],#[dt,xt]⟩,ty,pos,af,none⟩::r) ⟨⟨al L ρ,h⟩,L0,own⟩ Q:=by
 refine aV.two rfl cH ⟨0,λn _=>?_⟩ kk;have lY:=KA T hk hs hu hg hm hz hle hy NW;simp only[ao,bo,ZN,ZX,ak hx,ak QJ,lY]
end
set_option maxRecDepth 100000
set_option maxHeartbeats 4000000
def Ys:Nat->Code->Code
 |0,c=>c
 |n+1,.seq _ b=>Ys n b
 |_,c=>c
attribute [local irreducible] aE aC aI aJ Ev ah ai ay aV
namespace Zero
noncomputable def Kv:Code:=match Tryz.f351.body with |some c=>c |none=>.skip
theorem wb:Tryz.f351.body=some Kv:=rfl
variable{w:World}{F:Nat->Prop}{β:List (Nat×Nat)}
theorem rp{h:ab}{id ep len i N:Nat}{o:au}{fl:Bool}{e:PV}{a:Act}{Q:Exit->Act->World->Prop}(hg:getM h id ep=some o)(hz:o.bB=5)(hle:len<=o.es.length)(hi:i<len)(hn:len<100000000)(hN:N=Tryz.f351.ntmps)
  (RR:SR N w F β ⟨mi [.aj id ep 0 len,.int .i64 (i:Int),.aa fl [e]],h⟩ a)
  (k:∀a' w' β' ρ',SR N w' F β' ⟨al [(0,.aj id ep 0 len),(1,.int .i64 (i:Int)),(2,.aa fl [e]),(7,.int .i64 1),(8,.int .i64 (len:Int))] ρ',h⟩ a'->dN w h β w' h β'->(Ys 6 Kv).wp C0.P Q a' w'):Kv.wp C0.P Q a w:=by
 subst hN;have hu:C0.P.underlying 175=some (.slice 187):=bp (T6.cP 175 _ rfl);have gm:cg C0.P 187=some o.bB:=by rw[hz];exact T6.dO 187 5 rfl
 have xD:([e]:List PV).length=1:=rfl;refine wp_seq ?_;refine cA K0 bP S0 (M:=λex s'=>ex=.normal/\∃ρ',s'=⟨al [(0,.aj id ep 0 len),(1,.int .i64 (i:Int)),(2,.aa fl [e])] ρ',h⟩) rfl ?_ RR ?_
 ·rw[gP];refine wXD ?_;exact⟨rfl,_,St.aQ ⟨rfl,rfl,rfl,trivial⟩⟩
 rintro ex s' a1 w1 β1 ⟨rfl,ρ1,rfl⟩ R1 S1;refine wp_seq ?_;refine cA K0 bP S0 (M:=λex s'=>ex=.normal/\∃ρ',s'=⟨al [(0,.aj id ep 0 len),(1,.int .i64 (i:Int)),(2,.aa fl [e])] ρ',h⟩) rfl ?_ R1 ?_
 ·refine wXD ?_;apply R.slice
  ·exact rfl
  ·exact rfl
  ·exact rfl
  ·exact rfl
  ·exact cN hu gm hg hi hle
  refine wXD ?_;exact⟨rfl,_,St.aQ ⟨rfl,rfl,rfl,trivial⟩⟩
 rintro ex s' a2 w2 β2 ⟨rfl,ρ2,rfl⟩ R2 S2;refine wp_seq ?_;refine cA K0 bP S0 (M:=λex s'=>ex=.normal/\∃ρ',s'=⟨al [(0,.aj id ep 0 len),(1,.int .i64 (i:Int)),(2,.aa fl [e]),(7,.int .i64 1)] ρ',h⟩) rfl ?_ R2 ?_
 ·refine wXD ?_;exact⟨rfl,_,St.aQ ⟨rfl,rfl,rfl,rfl,trivial⟩⟩
 rintro ex s' a3 w3 β3 ⟨rfl,ρ3,rfl⟩ R3 S3;refine wp_seq ?_;refine cA K0 bP S0 (M:=λex s'=>ex=.normal/\∃ρ',s'=⟨al [(0,.aj id ep 0 len),(1,.int .i64 (i:Int)),(2,.aa fl [e]),(7,.int .i64 1)] ρ',h⟩) rfl ?_ R3 ?_
 ·refine wXF λhc=>?_;exact⟨rfl,_,St.aQ ⟨rfl,rfl,rfl,rfl,trivial⟩⟩
 rintro ex s' a4 w4 β4 ⟨rfl,ρ4,rfl⟩ R4 S4;refine wp_seq ?_;refine cA K0 bP S0 (M:=λex s'=>ex=.normal/\∃ρ',s'=⟨al [(0,.aj id ep 0 len),(1,.int .i64 (i:Int)),(2,.aa fl [e]),(7,.int .i64 1),(8,.int .i64 (len:Int))] ρ',h⟩) rfl ?_ R4 ?_
 ·refine wXD ?_;apply R.xU T6 (o:=o);exact rfl;exact rfl;exact hg;exact(by omega);refine wXD ?_;exact⟨rfl,_,St.aQ ⟨rfl,rfl,rfl,rfl,rfl,trivial⟩⟩
 rintro ex s' a5 w5 β5 ⟨rfl,ρ5,rfl⟩ R5 S5;refine wp_seq ?_;refine cA K0 bP S0 (M:=λex s'=>ex=.normal/\∃ρ',s'=⟨al [(0,.aj id ep 0 len),(1,.int .i64 (i:Int)),(2,.aa fl [e]),(7,.int .i64 1),(8,.int .i64 (len:Int))] ρ',h⟩) rfl ?_ R5 ?_
 ·refine wXF λhc=>?_;exact⟨rfl,_,St.aQ ⟨rfl,rfl,rfl,rfl,rfl,trivial⟩⟩
 rintro ex s' a6 w6 β6 ⟨rfl,ρ6,rfl⟩ R6 S6;exact k _ _ _ _ R6 (((((S1.trans S2).trans S3).trans S4).trans S5).trans S6)
end Zero
end Go.Pm
namespace Go.Pm
open Go.Proofs
set_option maxRecDepth 100000
set_option maxHeartbeats 4000000
theorem we{pre:List PV}{X e:PV}{i:Nat}(hi:i<pre.length){ys dD:List PV}(nR:ys=((pre++[X]).drop i).take (pre.length+1 - i))(np:dD=(pre++[X]).take (i+1)++ys.take (pre.length - i)++(pre++[X]).drop (i+1+(pre.length - i))):
  ys.take (pre.length - i)=pre.drop i/\dD.length=pre.length+1/\dD.take i++[e]++dD.drop (i+1)=pre.take i++[e]++pre.drop i:=by
 have h1:ys.take (pre.length - i)=pre.drop i:=by
  rw[nR,aaF,aav (by omega)];rw[Z6 (by simp;omega)];rw[ZW (by simp;omega)]
 have h2:(pre++[X]).drop (i+1+(pre.length - i))=[]:=Z5 (by simp;omega);have h3:dD=(pre++[X]).take (i+1)++pre.drop i:=by rw[np,h1,h2];simp
 have h4:((pre++[X]).take (i+1)).length=i+1:=by simp;omega
 refine⟨h1,by rw[h3];simp;omega,?_⟩
 congr 1
 ·congr 1
  rw[h3,Z6 (by omega),aaF,Z6 (by omega)]
  congr 1;omega
 ·rw[h3,aav (by omega),Z5 (by omega),aad]
attribute [local irreducible] aE aC aI aJ Ev ah ai ay aV
namespace Zero
variable{w:World}{F:Nat->Prop}{β:List (Nat×Nat)}
theorem sB{h:ab}{id ep len i:Nat}{o:au}{fl:Bool}{e X:PV}{pre:List PV}{vs:List Value}(H:aZ w F β h)(ha:L2 (aD w (Av F h β) β h) vs [.aj id ep 0 len,.int .i64 (i:Int),.aa fl [e]])
  (hg:getM h id ep=some o) (hm:o.mu=.m) (hz:o.bB=5) (iP:o.es=pre++[X]) (nS:pre.length=len) (hi:i<len) (hn:len<100000000) (fQ:pre.all (jT 5)=true) (hX:(cells X).length=5) (he:jT 5 e=true) (di:aR h=true):
  lW C0.P 2 w F β h 351 vs (.aj id ep 0 (len+1)) (h.set id {o with es:=pre.take i++[e]++pre.drop i}):=by
 have cT:o.es.length=len+1:=by rw[iP];simp[nS]
 have hu:C0.P.underlying 175=some (.slice 187):=bp (T6.cP 175 _ rfl);have qF:cg C0.P 187=some 5:=T6.dO 187 5 rfl;have gm:cg C0.P 187=some o.bB:=by rw[hz];exact qF
 obtain⟨g1,g2,g3⟩:=getM_some hg;have cz:=ag g1;obtain⟨bc,mQ⟩:=dg H.len g1;obtain⟨T,cs,k1,k2,k3,k4,k5⟩:=(H.obj id o bc g1 mQ g3).c (by omega);have Ai:len+1<=bc.2:=by omega
 have ia:aL h id=true:=by unfold aL;rw[g1];simp[hm]
 have hj:((len:Int)+1)=((len+1:Nat):Int):=by omega
 have tf:((i:Int)+1)=((i+1:Nat):Int):=by omega
 have dK:∀{w':World} {β':List (Nat×Nat)},dN w h β w' h β'->β'[id]?=some bc:=by
  intro w' β' S
  obtain⟨o',c8,f1,f2,f3,f4,f5⟩:=S.refs id o bc g1 mQ g3;obtain rfl:=Zu (g1.symm.trans f1);rw[f2,(f5 rfl).2.2]
 refine iV (P:=C0.P) (c:=Kv) Tryz.func351 wb H ha (λa RR=>rp hg hz (by omega) hi hn rfl RR (λa1 w1 β1 ρ1 R1 S1=>?_));refine wp_seq ?_;refine wp_seq ?_;apply bQ K0 S0 (pre:=[_,_,_,_]) (post:=[_]) (R:=R1) (M:=λs'=>∃ρ',s'=⟨al ((28,.int .i64 ((len:Int)+1))::(29,.aj id ep 0 len)::[(0,.aj id ep 0 len),(1,.int .i64 (i:Int)),(2,.aa fl [e]),(7,.int .i64 1),(8,.int .i64 (len:Int))]) ρ',h⟩) (M2:=λs'=>∃ρ',s'=⟨al ((31,.bool false)::[(0,.aj id ep 0 len),(1,.int .i64 (i:Int)),(2,.aa fl [e]),(7,.int .i64 1),(8,.int .i64 (len:Int))]) ρ',h⟩)
 ·rfl
 ·rfl
 ·refine wXD ?_;exact⟨_,St.aQ ⟨rfl,rfl,rfl,rfl,rfl,rfl,rfl,trivial⟩⟩
 ·rintro s1 a2 w2 β2 ⟨ρ2,rfl⟩ R2 S2;refine⟨.int .i64 (bc.2:Int),h,rq (t:=175) (x:=.tmp 29) R2.hr R2.er hu (dq (t:=29) rfl ρ2) hg (dK (S1.trans S2)) (by omega) _ rfl,?_⟩;show ah C0 _ _ ⟨bV (al _ ρ2) (some 30) (.int .i64 (bc.2:Int)),h⟩ _;rw[bZ];refine wXF λhc=>?_;exact⟨_,St.aQ ⟨rfl,rfl,rfl,rfl,rfl,rfl,trivial⟩⟩
 rintro s3 a3 w3 β3 ⟨ρ3,rfl⟩ R3 S3;refine cA K0 bP S0 (M:=λex s'=>ex=.normal/\∃ρ',s'=⟨al [(0,.aj id ep 0 len),(1,.int .i64 (i:Int)),(2,.aa fl [e]),(7,.int .i64 1),(8,.int .i64 (len:Int))] ρ',h⟩) rfl ?_ R3 ?_
 ·refine wXD ?_;exact⟨rfl,_,St.aQ ⟨rfl,rfl,rfl,rfl,rfl,trivial⟩⟩
 rintro ex s' a4 w4 β4 ⟨rfl,ρ4,rfl⟩ R4 S4;refine wp_seq ?_;refine cA K0 bP S0 (M:=λex s'=>ex=.normal/\∃ρ',s'=⟨al [(0,.aj id ep 0 (len+1)),(1,.int .i64 (i:Int)),(2,.aa fl [e]),(7,.int .i64 1)] ρ',h⟩) rfl ?_ R4 ?_
 ·refine wXD ?_;apply R.slice
  ·exact rfl
  ·exact rfl
  ·exact rfl
  ·exact rfl
  ·show bX C0.P h 175 (.aj id ep 0 len) none (some (.int .i64 ((len:Int)+1))) none=_;rw[hj];exact oB hu gm hg (by omega) (by omega)
  refine wXD ?_;exact⟨rfl,_,St.aQ ⟨rfl,rfl,rfl,rfl,trivial⟩⟩
 rintro ex s' a5 w5 β5 ⟨rfl,ρ5,rfl⟩ R5 S5;refine wp_seq ?_;refine wp_seq ?_;apply bQ K0 S0 (pre:=[_,_,_,_,_,_]) (post:=[_]) (R:=R5) (M:=λs'=>∃ρ',s'=⟨al ((61,.aa fl [e])::(66,.aj id ep (i+1) (len+1 - (i+1)))::[(0,.aj id ep 0 (len+1)),(1,.int .i64 (i:Int)),(2,.aa fl [e]),(7,.int .i64 1)]) ρ',h⟩) (M2:=λs'=>∃ρ',s'=⟨al ((68,.bool true)::[(0,.aj id ep 0 (len+1)),(1,.int .i64 (i:Int)),(2,.aa fl [e]),(7,.int .i64 1)]) ρ',h⟩)
 ·rfl
 ·rfl
 ·refine wXD ?_;apply R.slice
  ·exact rfl
  ·exact rfl
  ·exact rfl
  ·exact rfl
  ·show bX C0.P h 175 (.aj id ep 0 (len+1)) (some (.int .i64 ((i:Int)+1))) none none=_;rw[tf];exact cN hu gm hg (by omega) (by omega)
  refine wXD ?_;exact⟨_,St.aQ ⟨rfl,rfl,rfl,rfl,rfl,rfl,trivial⟩⟩
 ·rintro s1 a6 w6 β6 ⟨ρ6,rfl⟩ R6 S6;refine⟨.bool false,h,qd (t:=175) (tR:=4) (x:=.tmp 61) (y:=.tmp 66) (f:=379) R6.hr R6.er hu qF (dq (t:=61) rfl ρ6) (dq (t:=66) rfl ρ6) hg hm (by omega) Tryz.func379 (by kernel_rfl) (by kernel_rfl) (by kernel_rfl) (by kernel_rfl) _ rfl,?_⟩;show ah C0 _ _ ⟨bV (al _ ρ6) (some 67) (.bool false),h⟩ _;rw[bZ];refine wXD ?_;exact⟨_,St.aQ ⟨rfl,rfl,rfl,rfl,rfl,trivial⟩⟩
 rintro s7 a7 w7 β7 ⟨ρ7,rfl⟩ R7 S7;obtain⟨ys,nR⟩:∃ys,ys=((pre++[X]).drop i).take (pre.length+1 - i):=⟨_,rfl⟩;obtain⟨dD,np⟩:∃dD,dD=(pre++[X]).take (i+1)++ys.take (pre.length - i)++(pre++[X]).drop (i+1+(pre.length - i)):=⟨_,rfl⟩;obtain⟨l1,l2,l3⟩:=we (e:=e) (by omega) nR np;rw[nS]at l1 l2;have UE:ys.length=len+1 - i:=by rw[nR];simp;omega
 have Kz:∀v∈ys,(cells v).length=5:=by
  intro v hv
  rw[nR]at hv;have:=aac (aae hv);rcases ZE.1 this with hv |hv
  ·have:=Zw.1 fQ v hv;unfold jT at this;simp only[ZD,decide_eq_true_eq]at this;exact this.1.2
  ·obtain rfl:=ZY.1 hv;exact hX
 have Aj:(cells e).length=5/\(cells e).all bG=true:=by
  unfold jT at he;simp only[ZD,decide_eq_true_eq]at he;exact⟨he.1.2,he.2⟩
 have Kw:min ys.length (len+1 - (i+1))=len - i:=by omega
 have yw:h.set id {o with es:=o.es.take (i+1)++ys.take (min ys.length (len+1 - (i+1)))++o.es.drop (i+1+min ys.length (len+1 - (i+1)))}=h.set id {o with es:=dD}:=by
  rw[Kw,iP,np,nS]
 have uA:getM (h.set id {o with es:=dD}) id ep=some {o with es:=dD}:=bg (ZB cz) g2 (by show o.mu≠.x;rw[hm];simp);have wc:min ([e]:List PV).length (len+1 - i)=1:=by show min 1 _=1;omega
 have pW:(h.set id {o with es:=dD}).set id {({o with es:=dD}:au)with es:=dD.take i++[e].take (min ([e]:List PV).length (len+1 - i))++dD.drop (i+min ([e]:List PV).length (len+1 - i))}=h.set id {o with es:=pre.take i++[e]++pre.drop i}:=by
  rw[aar,wc,<-l3];rfl
 refine cA K0 bP S0 (M:=λex s'=>ex=.ret/\∃ρ',s'=⟨al [(6,.aj id ep 0 (len+1))] ρ',h.set id {o with es:=pre.take i++[e]++pre.drop i}⟩) rfl ?_ R7 ?_
 ·refine wXD ?_;apply D.slice
  ·exact di
  ·exact rfl
  ·exact ia
  ·exact rfl
  ·exact rfl
  ·exact rfl
  ·exact rfl
  ·exact rfl
  ·exact rfl
  ·show bX C0.P h 175 (.aj id ep 0 (len+1)) (some (.int .i64 ((i:Int)+1))) none none=_;rw[tf];exact cN hu gm hg (by omega) (by omega)
  refine wXD ?_;apply D.slice
  ·exact di
  ·exact rfl
  ·exact ia
  ·exact rfl
  ·exact rfl
  ·exact rfl
  ·exact rfl
  ·exact rfl
  ·exact rfl
  ·exact cN hu gm hg (by omega) (by omega)
  apply D.copy T6 (ys:=ys) (o:=o) (sz:=5)
  ·exact rfl
  ·exact rfl
  ·exact rfl
  ·exact rfl
  ·exact rfl
  ·simp only[ch,hg];rw[if_pos (by omega),iP,nR,nS]
  ·exact hg
  ·exact hm
  ·exact hz
  ·omega
  ·rw[Zw]
   intro v hv
   simp[Kz v hv]
  ·rw[Kw,l1,Zw]
   intro v hv
   have:=Zw.1 fQ v (aac hv);unfold jT at this;simp only[ZD]at this ⊢;exact⟨this.1.2,this.2⟩
  refine aV.heap yw ?_;refine wXD ?_;apply R.slice
  ·exact rfl
  ·exact rfl
  ·exact rfl
  ·exact rfl
  ·exact cN (o:={o with es:=dD}) hu gm uA (by omega) (by show len+1<=dD.length;omega)
  refine wXD ?_;apply R.copy T6 (ys:=[e]) (o:={o with es:=dD}) (sz:=5)
  ·exact rfl
  ·exact rfl
  ·exact rfl
  ·exact rfl
  ·exact rfl
  ·exact uA
  ·exact hm
  ·exact hz
  ·show i+(len+1 - i)<=dD.length;omega
  ·simp[Aj.1]
  ·simp only[wc,abo,abT,aaq,aaW,Aj.1,Aj.2];rfl
  refine wXD ?_;exact⟨rfl,_,(congrArg (λhh=>(⟨_,hh⟩:St)) pW).trans (St.aQ ⟨rfl,trivial⟩)⟩
 rintro ex s8 a8 w8 β8 ⟨rfl,ρ8,rfl⟩ R8 S8;refine⟨.inr rfl,_,β8,R8,(((((S1.trans S3).trans S4).trans S5).trans S7).trans S8),[.aj id ep 0 (len+1)],?_,λu Sb=>⟨β8,Sb,R8.hr,(((((S1.trans S3).trans S4).trans S5).trans S7).trans S8)⟩⟩
 ·exact ee (L:=[(6,.aj id ep 0 (len+1))]) rfl
 all_goals rfl
end Zero
end Go.Pm
namespace Go.Pm
open Go.Proofs
set_option maxRecDepth 100000
set_option maxHeartbeats 4000000
mutual
theorem Hu{f g:Nat->Bool}(MJ:∀i,f i=true->g i=true):∀p,br f p=true->br g p=true
 | .int ..,_ | .bool _,_ | .str _,_ | .dW,_ | .aG,_ | .gf,_ | .aa ..,_ | .eC _,_ | .undef,_ | .any,_=>rfl
 | .agg cs,h=>by simp only[br]at h ⊢;exact jx MJ cs h
 | .cm cs,h=>by simp only[br]at h ⊢;exact jx MJ cs h
 | .fn _ cs,h=>by simp only[br]at h ⊢;exact jx MJ cs h
 | .mR _ _ cs,h=>by simp only[br]at h ⊢;exact jx MJ cs h
 | .aj ..,h=>by simp only[br]at h ⊢;exact MJ _ h
 | .ptr ..,h=>by simp only[br]at h ⊢;exact MJ _ h
 | .cB _,h=>by simp only[br]at h ⊢;exact MJ _ h
theorem jx{f g:Nat->Bool}(MJ:∀i,f i=true->g i=true):∀cs,bw f cs=true->bw g cs=true
 |[],_=>rfl
 |c::r,h=>by
  simp only[bw,ZD]at h ⊢;exact⟨Hu MJ c h.1,jx MJ r h.2⟩
end
theorem lO{h h':ab}(hv:∀i,aL h i=true->aL h' i=true)(ho:∀o'∈h',o'.mu=.x\/bw (aL h') o'.es=true\/∃o∈h,o.es=o'.es/\(o.mu=.x->o'.mu=.x))(di:aR h=true):aR h'=true:=by
 unfold aR at di ⊢;rw[Zw]at di ⊢
 intro o' h1
 rcases ho o' h1 with h2 |h2 |⟨o,h2,h3,h4⟩
 ·simp[h2]
 ·rw[h2];simp
 ·have:=di o h2;simp only[ZU,decide_eq_true_eq]at this ⊢;rcases this with hh |hh
  ·exact .inl (h4 hh)
  ·exact .inr (by rw[<-h3];exact jx hv _ hh)
theorem tC{h:ab}(di:aR h=true):aR (h.map bM)=true:=by
 refine lO (h:=h) (λi hi=>?_) (λo' h1=>?_) di
 ·unfold aL at hi ⊢;rw[ZP]
  split at hi
  ·rename_i o ho
   rw[ho];simp only[ZH,decide_eq_true_eq]at hi ⊢;exact λhh=>hi ((bC o).2.2.2.1.1 hh)
  ·cases hi
 ·obtain⟨o,h2,rfl⟩:=Z0.1 h1;exact .inr (.inr ⟨o,h2,(bC o).2.2.1.symm,λhh=>(bC o).2.2.2.1.2 hh⟩)
theorem tD{h:ab}{n sz:Nat}{es:List PV}(hv:ar es=true)(di:aR h=true):aR (h++[⟨.m,n,sz,es⟩])=true:=by
 refine lO (h:=h) (λi hi=>?_) (λo' h1=>?_) di
 ·unfold aL at hi ⊢
  split at hi
  ·rename_i o ho
   rw[Zv (ag ho),ho];exact hi
  ·cases hi
 ·rcases ZE.1 h1 with h1 |h1
  ·exact .inr (.inr ⟨o',h1,rfl,λhh=>hh⟩)
  ·obtain rfl:=ZY.1 h1;exact .inr (.inl (bq _ _ hv))
theorem yT{es:List PV}{Z e:PV}{i len:Nat}(hi:i<len)(hl:len<=es.length){lC dD ys:List PV}(h1:lC=es.take i++List.replicate (len+1 - i) Z)(h2:dD=lC.take i++[e]++lC.drop (i+1))(h3:ys=(es.drop i).take (len - i)):
  lC.length=len+1/\dD.length=len+1/\ys.length=len - i/\ys=(es.take len).drop i/\dD.take (i+1)++ys++dD.drop (i+1+(len - i))=(es.take len).take i++[e]++(es.take len).drop i:=by
 have a1:lC.length=len+1:=by rw[h1];simp;omega
 have a2:dD.length=len+1:=by rw[h2];simp;omega
 have a3:ys.length=len - i:=by rw[h3];simp;omega
 have a4:ys=(es.take len).drop i:=by rw[h3,abS]
 refine⟨a1,a2,a3,a4,?_⟩;rw[Z5 (by omega),ZV,a4]
 congr 1
 rw[h2,Z6 (by simp;omega),ZW (by simp;exact Nat.min_le_left _ _)]
 congr 1
 rw[h1,Z6 (by simp;omega),aaF,aaF]
 congr 1;omega
theorem FX{h:ab}{o:au}(hm:o.mu≠.x):getM (h++[o]) h.length o.ep=some o:=bg (by simp) rfl hm
theorem nw{h k:ab}{id ep:Nat}{o:au}(hg:getM h id ep=some o):getM (h++k) id ep=some o:=by
 obtain⟨g1,g2,g3⟩:=getM_some hg;exact bg (by rw[Zv (ag g1)];exact g1) g2 g3
theorem set_push{h:ab}{o o':au}:(h++[o]).set h.length o'=h++[o']:=by
 rw[aaO _ _ (Zz _)];simp
attribute [local irreducible] aE aC aI aJ Ev ah ai ay aV
namespace Zero
variable{w:World}{F:Nat->Prop}{β:List (Nat×Nat)}
theorem wa{h:ab}{id ep len i:Nat}{o:au}{bc:Nat×Nat}{fl:Bool}{e:PV}{vs:List Value}(H:aZ w F β h)(ha:L2 (aD w (Av F h β) β h) vs [.aj id ep 0 len,.int .i64 (i:Int),.aa fl [e]])
  (hg:getM h id ep=some o) (hz:o.bB=5) (hle:len<=o.es.length) (mQ:β[id]?=some bc) (Ai:bc.2<len+1) (hi:i<len) (hn:len<100000000) (fQ:(o.es.take len).all (jT 5)=true) (he:jT 5 e=true) (di:aR h=true):
  lW C0.P 2 w F β h 351 vs (.aj h.length 0 0 (len+1)) (h++[⟨.m,0,5,(o.es.take len).take i++[e]++(o.es.take len).drop i⟩]):=by
 have hu:C0.P.underlying 175=some (.slice 187):=bp (T6.cP 175 _ rfl);have qF:cg C0.P 187=some 5:=T6.dO 187 5 rfl;have gm:cg C0.P 187=some o.bB:=by rw[hz];exact qF
 obtain⟨g1,g2,g3⟩:=getM_some hg;have cz:=ag g1;have hj:((i:Int)+1)=((i+1:Nat):Int):=by omega
 have Ux:((len:Int)+1 - (i:Int))=((len+1 - i:Nat):Int):=by omega
 have kG:i+(len+1 - i)=len+1:=by omega
 have dK:∀{w':World} {β':List (Nat×Nat)},dN w h β w' h β'->β'[id]?=some bc:=by
  intro w' β' S
  obtain⟨o',c8,f1,f2,f3,f4,f5⟩:=S.refs id o bc g1 mQ g3;obtain rfl:=Zu (g1.symm.trans f1);rw[f2,(f5 rfl).2.2]
 obtain⟨lC,Eg⟩:∃lC,lC=o.es.take i++List.replicate (len+1 - i) (.agg [.int .i64 0,.str ByteArray.empty,.int .i64 0,.aa true [],.int .i64 0]:PV):=⟨_,rfl⟩;obtain⟨dD,np⟩:∃dD,dD=lC.take i++[e]++lC.drop (i+1):=⟨_,rfl⟩;obtain⟨ys,nR⟩:∃ys,ys=(o.es.drop i).take (len - i):=⟨_,rfl⟩;obtain⟨l1,l2,l3,l4,l5⟩:=yT hi hle Eg np nR
 have Aj:(cells e).length=5/\(cells e).all bG=true/\aW e=true:=by
  unfold jT at he;simp only[ZD,decide_eq_true_eq]at he;exact⟨he.1.2,he.2,he.1.1⟩
 have DT:ys.all (jT 5)=true:=by
  rw[l4,Zw]
  intro v hv
  exact Zw.1 fQ v (aac hv)
 have xL:ar lC=true:=by
  rw[Eg,bt,aaI,<-bt]
  have:ar (o.es.take i)=true:=by
   refine kW (sz:=5) ?_;rw[Zw]
   intro v hv
   refine Zw.1 fQ v ?_;have:o.es.take i=(o.es.take len).take i:=by rw[aaF];congr 1;omega
   rw[this]at hv;exact aae hv
  rw[this,aaE,Zw]
  intro v hv
  obtain rfl:=aam hv
  rfl
 have A6:ar dD=true:=by
  rw[bt,Zw]at xL ⊢
  intro v hv
  rw[np]at hv;rcases ZE.1 hv with hv |hv
  ·rcases ZE.1 hv with hv |hv
   ·exact xL v (aae hv)
   ·obtain rfl:=ZY.1 hv;exact Aj.2.2
  ·exact xL v (aac hv)
 have Eh:aR (h++[⟨.m,0,5,dD⟩])=true:=tD A6 di;have NU:∀es,getM (h++[⟨.m,0,5,es⟩]) h.length 0=some ⟨.m,0,5,es⟩:=λes=>FX (o:=⟨.m,0,5,es⟩) (by simp)
 have Vf:∀es,getM (h++[⟨.m,0,5,es⟩]) id ep=some o:=λes=>nw hg
 have ia:∀es,aL (h++[⟨.m,0,5,es⟩]) id=true:=λes=>by unfold aL;rw[Zv cz,g1];simpa using g3
 have Ku:∀es,aL (h++[⟨.m,0,5,es⟩]) h.length=true:=λes=>by unfold aL;simp
 refine iV (P:=C0.P) (c:=Kv) Tryz.func351 wb H ha (λa RR=>rp hg hz (by omega) hi hn rfl RR (λa1 w1 β1 ρ1 R1 S1=>?_));refine wp_seq ?_;refine wp_seq ?_;apply bQ K0 S0 (pre:=[_,_,_,_]) (post:=[_]) (R:=R1) (M:=λs'=>∃ρ',s'=⟨al ((28,.int .i64 ((len:Int)+1))::(29,.aj id ep 0 len)::[(0,.aj id ep 0 len),(1,.int .i64 (i:Int)),(2,.aa fl [e]),(7,.int .i64 1),(8,.int .i64 (len:Int))]) ρ',h⟩) (M2:=λs'=>∃ρ',s'=⟨al ((31,.bool true)::[(0,.aj id ep 0 len),(1,.int .i64 (i:Int)),(2,.aa fl [e]),(7,.int .i64 1),(8,.int .i64 (len:Int))]) ρ',h⟩)
 ·rfl
 ·rfl
 ·refine wXD ?_;exact⟨_,St.aQ ⟨rfl,rfl,rfl,rfl,rfl,rfl,rfl,trivial⟩⟩
 ·rintro s1 a2 w2 β2 ⟨ρ2,rfl⟩ R2 S2;refine⟨.int .i64 (bc.2:Int),h,rq (t:=175) (x:=.tmp 29) R2.hr R2.er hu (dq (t:=29) rfl ρ2) hg (dK (S1.trans S2)) (by omega) _ rfl,?_⟩;show ah C0 _ _ ⟨bV (al _ ρ2) (some 30) (.int .i64 (bc.2:Int)),h⟩ _;rw[bZ];refine wXF λhc=>?_;exact⟨_,St.aQ ⟨rfl,rfl,rfl,rfl,rfl,rfl,trivial⟩⟩
 rintro s3 a3 w3 β3 ⟨ρ3,rfl⟩ R3 S3
 have Sa:a3.eval (.tmp 31)=.bool true:=by
  have:=R3.er.ev (.tmp 31);rw[show ev (al ((31,PV.bool true)::[(0,.aj id ep 0 len),(1,.int .i64 (i:Int)),(2,.aa fl [e]),(7,.int .i64 1),(8,.int .i64 (len:Int))]) ρ3) (.tmp 31)=.bool true from dq (t:=31) rfl ρ3]at this;exact this.ga
 refine wp_cond_true Sa ?_;refine wp_seq ?_;apply bQ K0 S0 (pre:=[_,_,_,_,_,_,_,_]) (post:=[_]) (R:=R3) (M:=λs'=>∃ρ',s'=⟨al ((34,.aj id ep 0 i)::(39,.int .i64 ((len:Int)+1 - (i:Int)))::[(0,.aj id ep 0 len),(1,.int .i64 (i:Int)),(2,.aa fl [e]),(7,.int .i64 1),(8,.int .i64 (len:Int))]) ρ',h⟩) (M2:=λs'=>∃ρ',s'=⟨al ((9,.aj h.length 0 0 (len+1))::[(0,.aj id ep 0 len),(1,.int .i64 (i:Int)),(2,.aa fl [e]),(7,.int .i64 1),(8,.int .i64 (len:Int))]) ρ',h++[⟨.m,0,5,lC⟩]⟩)
 case ho=>rfl
 case hg=>rfl
 ·refine wXD ?_;apply R.slice
  ·exact rfl
  ·exact rfl
  ·exact rfl
  ·exact rfl
  ·exact sc hu gm hg (by omega) hle
  refine wXD ?_;exact⟨_,St.aQ ⟨rfl,rfl,rfl,rfl,rfl,rfl,rfl,trivial⟩⟩
 ·rintro s1 a4 w4 β4 ⟨ρ4,rfl⟩ R4 S4;have os:=tE (P:=C0.P) (st:=175) (xt:=3) (el:=187) (x:=.tmp 34) (y:=.tmp 39) (k:=.i64) (n:=len+1 - i) (len:=i) R4.hr R4.er hu (m' (T6.cP 3 _ rfl)) qF (by decide) (T6.rV 187 _ rfl) (by decide) (T6.mO 187 (.agg [.int .i64 0,.str ByteArray.empty,.int .i64 0,.aa true [],.int .i64 0]) rfl) rfl rfl (dq (t:=34) rfl ρ4) (by rw[<-Ux];exact dq (t:=39) rfl ρ4) hg (dK ((S1.trans S3).trans S4)) (by omega) hz (by omega) (by omega);rw[kG,<-Eg]at os;refine⟨.aj h.length 0 0 (len+1),h++[⟨.m,0,5,lC⟩],os _ rfl,?_⟩;show ah C0 _ _ ⟨bV (al _ ρ4) (some 40) (.aj h.length 0 0 (len+1)),_⟩ _;rw[bZ];refine wXD ?_;exact⟨_,St.aQ ⟨rfl,rfl,rfl,rfl,rfl,rfl,trivial⟩⟩
 rintro s5 a5 w5 β5 ⟨ρ5,rfl⟩ R5 S5;have Kw:min ([e]:List PV).length (len+1 - i)=1:=by show min 1 _=1;omega
 have wc:min ys.length (len+1 - (i+1))=len - i:=by omega
 have Vg:ys.take (len - i)=ys:=ZW (by omega)
 have yw:(h++[⟨.m,0,5,lC⟩]:ab).set h.length {(⟨.m,0,5,lC⟩:au)with es:=lC.take i++[e].take (min ([e]:List PV).length (len+1 - i))++lC.drop (i+min ([e]:List PV).length (len+1 - i))}=h++[⟨.m,0,5,dD⟩]:=by
  rw[Kw,set_push,np];rfl
 have Yk:(h++[⟨.m,0,5,dD⟩]:ab).set h.length {(⟨.m,0,5,dD⟩:au)with es:=dD.take (i+1)++ys.take (min ys.length (len+1 - (i+1)))++dD.drop (i+1+min ys.length (len+1 - (i+1)))}=h++[⟨.m,0,5,(o.es.take len).take i++[e]++(o.es.take len).drop i⟩]:=by
  rw[wc,set_push,Vg,l5]
 refine cA K0 bP S0 (M:=λex s'=>ex=.ret/\∃ρ',s'=⟨al [(6,.aj h.length 0 0 (len+1))] ρ',h++[⟨.m,0,5,(o.es.take len).take i++[e]++(o.es.take len).drop i⟩]⟩) rfl ?_ R5 ?_
 ·refine wXD ?_;apply R.slice
  ·exact rfl
  ·exact rfl
  ·exact rfl
  ·exact rfl
  ·exact cN hu qF (NU lC) (by omega) (by show len+1<=lC.length;omega)
  refine wXD ?_;apply R.copy T6 (ys:=[e]) (o:=⟨.m,0,5,lC⟩) (sz:=5)
  ·exact rfl
  ·exact rfl
  ·exact rfl
  ·exact rfl
  ·exact rfl
  ·exact NU lC
  ·exact rfl
  ·exact rfl
  ·show i+(len+1 - i)<=lC.length;omega
  ·simp[Aj.1]
  ·simp only[Kw,abo,abT,aaq,aaW,Aj.1,Aj.2.1];rfl
  rw[yw];refine wXD ?_;apply D.slice
  ·exact Eh
  ·exact rfl
  ·exact Ku dD
  ·exact rfl
  ·exact rfl
  ·exact rfl
  ·exact rfl
  ·exact rfl
  ·exact rfl
  ·show bX C0.P _ 175 (.aj h.length 0 0 (len+1)) (some (.int .i64 ((i:Int)+1))) none none=_;rw[hj];exact cN hu qF (NU dD) (by omega) (by show len+1<=dD.length;omega)
  refine wXD ?_;apply D.slice
  ·exact Eh
  ·exact rfl
  ·exact ia dD
  ·exact rfl
  ·exact rfl
  ·exact rfl
  ·exact rfl
  ·exact rfl
  ·exact rfl
  ·exact cN hu gm (Vf dD) hi hle
  apply D.copy T6 (ys:=ys) (o:=⟨.m,0,5,dD⟩) (sz:=5)
  ·exact rfl
  ·exact rfl
  ·exact rfl
  ·exact rfl
  ·exact rfl
  ·simp only[ch,Vf];rw[if_pos (by omega),nR]
  ·exact NU dD
  ·exact rfl
  ·exact rfl
  ·show i+1+(len+1 - (i+1))<=dD.length;omega
  ·rw[Zw]
   intro v hv
   have:=Zw.1 DT v hv;unfold jT at this;simp only[ZD]at this;exact this.1.2
  ·rw[wc,Vg,Zw]
   intro v hv
   have:=Zw.1 DT v hv;unfold jT at this;simp only[ZD]at this ⊢;exact⟨this.1.2,this.2⟩
  refine aV.heap Yk ?_;refine wXD ?_;exact⟨rfl,_,St.aQ ⟨rfl,trivial⟩⟩
 rintro ex s8 a8 w8 β8 ⟨rfl,ρ8,rfl⟩ R8 S8;have SS:=(((S1.trans S3).trans S5).trans S8);refine⟨.inr rfl,_,β8,R8,SS,[.aj h.length 0 0 (len+1)],?_,λu Sb=>⟨β8,Sb,R8.hr,SS⟩⟩
 ·exact ee (L:=[(6,.aj h.length 0 0 (len+1))]) rfl
 all_goals rfl
end Zero
end Go.Pm
