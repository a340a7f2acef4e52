/-
  A part of the library Pm (joined by program). Conditions: none.
-/
import Derived.Test.YtimogkojklpdnaaGreatDoorPyAA
import Derived.Test.YtimogkojklpdnaaGreatDoorPyAF
import Derived.Test.YtimogkojklpdnaaGreatDoorPyAB
import Derived.Test.YtimogkojklpdnaaGreatDoorPyAC
import Derived.Laws.Externs
import Derived.Laws.Cover3
import Derived.Test.YtimogkojklpdnaaGreatDoorPyAE
import Derived.Test.YtimogkojklpdnaaGreatDoorPyAD
import Derived.Test.YtimogkojklpdnaaGreatDoorRows
import Derived.WalkKit
import Derived.ProofKit
import Derived.Deep.Slices
import Derived.ChangeArms
import Derived.OpenShut
import Derived.JoinedCond
import Derived.WideKeyArgs
import Derived.Shelf.SlSortCmp.WholeK
import Derived.Lib.Overlaps
set_option linter.unusedVariables false
set_option linter.unusedSimpArgs false
set_option linter.unnecessarySimpa false
namespace Go.Pm
variable{w:World}{F:Nat->Prop}{β:List (Nat×Nat)}{h:ab}
theorem uz{C:cP}(K:fT C){run:hZ}(S:gL C run){N:Nat}{ops:Array Oper}{Q:Exit->Act->World->Prop}(hd:ops.toList.all (jv N)=true)(rest:List Nat)(l2:List Oper):
  ∀(l:List Oper) (k:Nat) {w:World} {β:List (Nat×Nat)} {s s':St} {a:Act},ops.toList.drop k=l++l2->SR N w F β s a->dC C run ops l s=some s'->
   (∀a' w' β',SR N w' F β' s' a'->dS w s.h β w' s'.h β'->wpOps C.P ops Q rest a' w')->wpOps C.P ops Q (List.map (·+k) (List.range l.length)++rest) a w:=by
 intro l
 induction l with
 |nil=>
  intro k w β s s' a hl R e hQ
  simp[dC]at e;subst e;simpa using hQ a w β R (dS.refl w s.h β)
 |cons o r ih=>
  intro k w β s s' a hl R e hQ
  simp only[dC]at e
  have hk:ops[k]?=some o:=by
   rw[<-aaw];have:(ops.toList.drop k)[0]?=some o:=by rw[hl];rfl
   rwa[aaB]at this
  have hr:ops.toList.drop (k+1)=r++l2:=by
   have:=congrArg (List.drop 1) hl;rw[List.drop_drop]at this;simpa using this
  have wj:List.map (·+k) (List.range (o::r).length)++rest=k::(List.map (·+(k+1)) (List.range r.length)++rest):=by
   rw[Z4,aca];simp only[aah,aan,ab4,aau]
   congr 2
   apply aba
   intro x _
   simp;omega
  rw[wj];simp only[wpOps,hk]
  split at e
  ·rename_i s1 he
   have Vu:jv N o=true:=Z1.1 hd o (by
    have:o∈ops.toList.drop k:=by rw[hl];simp
    exact aaI this)
   have:=zl K S R Vu he (Q:=Q) (next:=wpOps C.P ops Q (List.map (·+(k+1)) (List.range r.length)++rest)) (λa' w' β' R' S'=>ih (k+1) hr R' e (λa2 w2 β2 R2 S2=>hQ a2 w2 β2 R2 (S'.trans S2)))
   split
   ·rename_i hw;rw[if_pos hw]at this;exact .inl this
   ·rename_i hw;rw[if_neg hw]at this;exact this
  ·cases e
theorem Bk{P:Program}{N:Nat}{ops:Array Oper}{Q:Exit->Act->World->Prop}{rest:List Nat}{k:Nat}{o:Oper}{s:St}{a:Act}{p:PV}{h':ab}(hk:ops[k]?=some o)(hg:o.guard=none)(hd:jv N o=true)(R:SR N w F β s a)
  (S:uN P 2 w F β s.h (execOp a.eval o) p h') (hK:∀a' w' β',SR N w' F β' ⟨b9 s.ρ o.dst p,h'⟩ a'->dS w s.h β w' h' β'->wpOps P ops Q rest a' w'):wpOps P ops Q (k::rest) a w:=by
 simp only[wpOps,hk];have hw:Region.wanted o (yielded ops a.tmps)=true:=by simp[Region.wanted,hg]
 rw[if_pos hw]
 left
 have DT:=gS hd R.sz;obtain⟨v,w',β',h1,h2,h3,h4,_⟩:=S
 have fin:∀u,u=v->wpOps P ops Q rest (a.put o.dst u) w':=by
  rintro u rfl;exact hK _ w' β' ⟨h3,(R.er.mono h4).put DT h2,by rw[dM];exact R.df,by rw[fY];exact R.sz⟩ h4
 unfold Oper.wp;rcases h1 with h1 |⟨h1,rfl⟩
 ·rw[h1];exact fin _ rfl
 ·rw[h1];exact fin _ rfl
theorem bY{C:cP}(K:fT C)(fP:∀n,gL C (fe C n)){N:Nat}{ops:Array Oper}{id:Nat}{Q:Exit->Act->World->Prop}(hd:ops.toList.all (jv N)=true){pre post:List Oper}{o:Oper}(ho:ops.toList=pre++o::post)(hg:o.guard=none)
  {s:St} {a:Act} (R:SR N w F β s a) {M M2:St->Prop} (e1:ah C ops pre s M)
  (hs:∀s1 a1 w1 β1,M s1->SR N w1 F β1 s1 a1->dS w s.h β w1 s1.h β1->∃p h',uN C.P 2 w1 F β1 s1.h (execOp a1.eval o) p h'/\ah C ops post ⟨b9 s1.ρ o.dst p,h'⟩ M2)
  (hQ:∀s3 a3 w3 β3,M2 s3->SR N w3 F β3 s3 a3->dS w s.h β w3 s3.h β3->Q .normal a3 w3):(Code.region id ops false).wp C.P Q a w:=by
 refine wp_region ?_;obtain⟨s1,m1,n0,Uo⟩:=e1
 have W1:ops.size=pre.length+(post.length+1):=by
  have:=congrArg List.length ho;simpa using this
 have wj:List.range ops.size=List.map (·+0) (List.range pre.length)++(pre.length::(List.map (·+(pre.length+1)) (List.range post.length)++[])):=by
  rw[W1,List.range_add];simp only[abx,List.map_id',aao]
  congr 1
  rw[aca];simp only[aah,abx,ab4]
  congr 1
  apply aba
  intro x _
  simp;omega
 rw[wj];have Vu:jv N o=true:=Z1.1 hd o (by rw[ho];simp)
 have hk:ops[pre.length]?=some o:=by
  rw[<-aaw,ho,aac (Z5 _)];simp
 refine uz K (fP n0) hd _ (o::post) pre 0 (by simpa using ho) R (Uo n0 (Z5 _)) (λa1 w1 β1 R1 S1=>?_);obtain⟨p,h',os,e2⟩:=hs s1 a1 w1 β1 m1 R1 S1;obtain⟨s3,m3,n1,yj⟩:=e2;refine Bk hk hg Vu R1 os (λa2 w2 β2 R2 S2=>?_);refine uz K (fP n1) hd [] [] post (pre.length+1) ?_ R2 (yj n1 (Z5 _)) (λa3 w3 β3 R3 S3=>?_)
 ·have:ops.toList.drop (pre.length+1)=post:=by
   rw[ho,List.drop_append];simp
  simpa using this
 ·simp only[wpOps];exact hQ s3 a3 w3 β3 m3 R3 (S1.trans (S2.trans S3))
theorem cJ{C:cP}(K:fT C)(hm:C.P.follows .mixedOrders=true)(fP:∀n,gL C (fe C n)){N:Nat}{c:Code}{s:St}{a:Act}{M:Ex->St->Prop}{Q:Exit->Act->World->Prop}(hc:codeOk N c=true)(e:Ev C c s M)(R:SR N w F β s a)
  (hQ:∀ex s' a' w' β',M ex s'->SR N w' F β' s' a'->dS w s.h β w' s'.h β'->Q (PB ex) a' w'):c.wp C.P Q a w:=by
 obtain⟨ex,s',m,n0,hn⟩:=e;exact Dx K hm (fP n0) c hc (hn n0 n0 (Z5 _) (Z5 _)) R (λa' w' β' R' S'=>hQ ex s' a' w' β' m R' S')
theorem ja{P:Program}{f:FuncId}{fn:Func}{c:Code}{args:List PV}{vs:List Value}{r:PV}{h':ab}(Nt:P.funcs[f]?=some fn)(hc:fn.body=some c)(H:aZ w F β h)(ha:L2 (aD w (Av F h β) β h) vs args)
  (hw:∀a,SR fn.ntmps w F β ⟨my args,h⟩ a->c.wp P (λex a' w'=>(ex=.normal\/ex=.ret)/\∃s' β',SR fn.ntmps w' F β' s' a'/\dS w h β w' s'.h β'/\∃rs,dj P s'.h s'.ρ fn.results.toList=some rs/\
    ∀u,aD w' (Av F s'.h β') β' s'.h u (aY rs)->∃β2,aD w' (Av F h' β2) β2 h' u r/\aZ w' F β2 h'/\dS w h β w' h' β2) a w):mh P 2 w F β h f vs r h':=by
 refine calls_of_wp Nt hc ?_;have hlen:=ha.1
 have R:SR fn.ntmps w F β ⟨my args,h⟩ {tmps:=vs.toArray++Array.replicate (fn.ntmps - vs.toArray.size) undef,defers:=[]}:=by
  refine⟨H,λt=>?_,rfl,by simp;omega⟩;show aD w (Av F h β) β h ((vs.toArray++Array.replicate (fn.ntmps - vs.toArray.size) undef).getD t Go.undef) (args.getD t .undef)
  by_cases ht:t<args.length
  ·have e1:(vs.toArray++Array.replicate (fn.ntmps - vs.toArray.size) undef).getD t Go.undef=vs.getD t Go.undef:=by
    rw[abk,abQ,if_pos (by simp;omega)];simp[List.getD]
   have e2:args.getD t .undef=args.getD t .any:=by simp[List.getD,ht]
   rw[e1,e2];exact ha.2 t ht
  ·have e1:(vs.toArray++Array.replicate (fn.ntmps - vs.toArray.size) undef).getD t Go.undef=Go.undef:=by
    rw[abk,abQ];rw[if_neg (by simp;omega)];rw[ab5]
    split <;>rfl
   have e2:args.getD t .undef=.undef:=by simp[List.getD,aag (show args.length<=t by omega)]
   rw[e1,e2];exact .undef
 refine Code.wp_mono ?_ (hw _ R);rintro ex a' w' ⟨hex,s',β',R',S',rs,W2,qn⟩;obtain⟨u,r1,r2⟩:=uA (P:=P) R'.hr R'.er fn W2;obtain⟨β2,f1,f2,f3⟩:=qn u r2;rcases hex with rfl |rfl
 ·exact⟨R'.df,u,r1,u,β2,rfl,f1,f2,f3,λhh=>by omega⟩
 ·exact⟨R'.df,u,r1,u,β2,rfl,f1,f2,f3,λhh=>by omega⟩
theorem aZ.nK(H:aZ w F β h){id:Nat}{o:au}{bc:Nat×Nat}(eo:h[id]?=some o)(eb:β[id]?=some bc)(em:o.mu=.m)(eT:List PV)(h9:Nat)(RN:o.ep<h9)(h1:eT.length<=bc.2)
  (h4:∀(i:Nat) (e:PV),eT[i]?=some e->o.es[i]?=some e\/((cells e).length=o.bC/\∀p∈cells e,p=.any)) (hz:0<o.bC:=by first |assumption |omega):
  aZ w F β (h.set id {o with es:=eT,ep:=h9})/\dS w h β w (h.set id {o with es:=eT,ep:=h9}) β:=by
 obtain⟨T,cs,k1,k2,k3,k4,k5⟩:=(H.obj id o bc eo eb (by rw[em];simp)).c hz
 have ET:∀i:Nat,i<eT.length->i * o.bC+o.bC<=cs.size:=λi hi=>by
  have:(i+1) * o.bC<=bc.2 * o.bC:=aaC _ (by omega);rw[aaO,Nat.one_mul]at this;omega
 have:=H.set eo eb em (w':=w) T cs eT h9 bc (Z5 _) k1 (λ_ _ _=>rfl) (.inl ⟨rfl,λhh=>by omega⟩) (Nat.le_of_lt RN) rfl rfl rfl h1 k3 (λi e he=>by
  rcases h4 i e he with hh |⟨h5,h6⟩
  ·exact k5 i e hh
  ·refine⟨h5,λj p hp=>?_⟩;have hj:j<o.bC:=by have:=ag hp;omega
   have hi:=ag he;have:=ET i hi;refine⟨cs[i * o.bC+j],abb (by omega),?_⟩;rw[h6 p (aae hp)];exact .any _)
 rw[xL eb]at this;exact this
theorem aD.nK{v:Value}{id ep n:Nat}{o:au}{bc:Nat×Nat}(eo:h[id]?=some o)(eb:β[id]?=some bc)(em:o.mu=.m)(hv:aD w (Av F h β) β h v (.ak id ep 0 n))(he:o.ep=ep)(hn:n<=o.es.length)(eT:List PV)(h9:Nat){A:Nat->Prop}:
  aD w A β (h.set id {o with es:=eT,ep:=h9}) v (.ak id h9 0 n):=by
 obtain⟨_,m2,m3⟩:=hv.dL;obtain⟨cap,c1,c2⟩:=m3 o bc eo eb (by rw[em];simp) he (by omega);exact .ak v id h9 0 n {o with es:=eT,ep:=h9} bc ⟨_,_,_,c1⟩ (Z6 (ag eo)) eb (by show o.mu≠.x;rw[em];simp) ⟨Z5 _,(m2 o eo).2⟩ (λ_ _=>⟨cap,c1,c2⟩)
end Go.Pm
namespace Go.Pm
open Go.Proofs
set_option maxRecDepth 20000
def QV:Mode->Bool
 | .pure=>true
 | .opened=>true
 |_=>false
def WT:Mode->Bool
 | .no=>true
 | .ext _=>true
 |_=>false
def GX(C:cP)(f:FuncId):Bool:=!QV (C.mode f)||match C.P.funcs[f]? with
 |some fn=>match fn.body with
  |some c=>codeOk fn.ntmps c
  |none=>true
 |none=>true
def Dk(C:cP)(f:FuncId):Bool:=WT (C.mode f)||match C.P.funcs[f]? with
 | some fn => fn.body.isSome && !(fn.name == "runtime.NumGoroutine")
 |none=>false
theorem TX:((List.range 437).all (GX C))=true:=by kernel_rfl
theorem Pt:((List.range 437).all (Dk C))=true:=by kernel_rfl
theorem z8{p:Nat->Bool}{n:Nat}(h:(List.range n).all p=true){f:Nat}(hf:f<n):p f=true:=Z1.1 h f (abN.2 hf)
theorem Dl{f:Nat}(h:437<=f):C.mode f=.no:=by
 show jB f=.no;unfold jB;have bJ:∀k:Nat,k<437->¬f=k:=λk hk=>by omega
 have hl:∀l:List Nat,l.all (λk=>decide (k<437))=true->l.contains f=false:=by
  intro l hl
  cases hc:l.contains f with
  |false=>rfl
  |true=>
   have:=Z1.1 hl f (by simpa using hc);have:=of_decide_eq_true this;omega
 rw[hl _ (by decide),hl _ (by decide)];simp only[aad,if_false]
 repeat' rw[if_neg (bJ _ (by decide))]
 rw[if_neg (by omega:¬f<410)]
theorem oH:pR C where
 mixed:=by kernel_rfl
 BH f fn c hm hf hb:=by
  have cI:f<437:=by
   rcases aaD f 437 with h |h
   ·exact h
   ·rw[Dl h]at hm;rcases hm with hm |hm <;>cases hm
  have:=z8 TX cI;unfold GX at this;rw[hf]at this;simp only[hb]at this;have hr:QV (C.mode f)=true:=by rcases hm with hm |hm <;>rw[hm] <;>rfl
  simpa[hr]using this
theorem Iu : ∀ f, (∀ _h : C.mode f = .no, False) → (∀ g, C.mode f ≠ .ext g) → ∃ fn, C.P.funcs[f]? = some fn ∧ fn.body.isSome = true ∧ (fn.name == "runtime.NumGoroutine") = false := by
 intro f hf bJ
 have cI:f<437:=by
  rcases aaD f 437 with h |h
  ·exact h
  ·exact(hf (Dl h)).elim
 have:=z8 Pt cI;unfold Dk at this
 have hn:WT (C.mode f)=false:=by
  cases hm:C.mode f with
  |no=>exact(hf hm).elim
  |ext g=>exact(bJ g hm).elim
  |_=>rfl
 rw[hn]at this;simp only[abA]at this
 split at this
 ·rename_i fn Nt
  simp only[Z9,abh]at this;exact⟨fn,Nt,this.1,this.2⟩
 ·cases this
theorem Tx:∀f g,C.mode f=.ext g->∀args r,g args=some r->∀(w:World) (A:Nat->Prop) (vs:List Value),L2 (cj w A) vs args->∃v,(callFunc f vs.toArray).run C.P w=.ok (.value v) w/\cj w A v r:=by
 intro f g hm args r hr w A vs ha
 have OH:jB f=.ext g:=hm;unfold jB at OH
 split at OH
 ·cases OH
 ·split at OH
  ·rename_i hf
   obtain rfl:=Mode.ext.inj OH;simp only at hr
   split at hr
   ·rename_i a b
    obtain rfl:=ZZ hr;obtain⟨hl,hh⟩:=ha
    match vs,hl with
    |[x,y],_=>
     have h0:=hh 0 (by simp);have h1:=hh 1 (by simp);simp only[abW,abX]at h0 h1
     cases h0
     cases h1
     subst hf;refine⟨_,?_,.int _ _⟩;rw[run_callFunc_extern (P:=C.P) Tryz.func194 (by kernel_rfl) (by kernel_rfl) (by kernel_rfl) (e:=Extern.BytealgCompare.compare) (by kernel_rfl)];show((Extern.BytealgCompare.compare #[.string a,.string b]).run C.P w).andThen _=_;rw[Lib.run_compareString]
     rfl
   ·cases hr
  ·repeat' split at OH
   all_goals cases OH
set_option maxRecDepth 100000
def L0:List FuncId:=[352,351,215]
noncomputable def C0:cP:=⟨C.P,λf=>if L0.contains f=true then .opened else .no⟩
theorem rF{f:FuncId}(h:L0.contains f=true):C0.mode f=.opened:=if_pos h
theorem vN(f:FuncId):C0.mode f=.opened\/C0.mode f=.no:=by
 by_cases hf:L0.contains f=true
 ·exact .inl (if_pos hf)
 ·exact .inr (if_neg hf)
theorem Qc{f:FuncId}(h:C0.mode f≠.no):f∈L0:=by
 by_cases hf:L0.contains f=true
 ·simpa using hf
 ·exact(h (if_neg hf)).elim
def JV(P:Program)(f:FuncId):Bool:=match P.funcs[f]? with
 | some fn => fn.body.isSome && !(fn.name == "runtime.NumGoroutine")
 |none=>false
theorem Yp:L0.all (JV C0.P)=true:=by kernel_rfl
theorem K0:fT C0 where
 enters f hf _:=by
  have h:=Z1.1 Yp f (Qc (λh=>hf h));unfold JV at h
  split at h
  ·rename_i fn Nt
   simp only[Z9,abh]at h;exact⟨fn,Nt,h.1,h.2⟩
  ·cases h
 rA f g hh:=by rcases vN f with h |h <;>rw[h]at hh <;>cases hh
 cz f g hh:=by rcases vN f with h |h <;>rw[h]at hh <;>cases hh
 ext f g hh:=by rcases vN f with h |h <;>rw[h]at hh <;>cases hh
def Au(P:Program)(f:FuncId):Bool:=match P.funcs[f]? with
 |some fn=>match fn.body with
  |some c=>codeOk fn.ntmps c
  |none=>true
 |none=>true
theorem Yq:L0.all (Au C0.P)=true:=by kernel_rfl
theorem KC0:pR C0 where
 mixed:=oH.mixed
 BH f fn c hm hf hb:=by
  have h1:Au C0.P f=true:=Z1.1 Yq f (Qc (λh=>by rcases hm with hm |hm <;>rw[hm]at h <;>cases h));unfold Au at h1;rw[hf]at h1;simp only[hb]at h1;exact h1
theorem S0:∀n,gL C0 (fe C0 n):=vO K0 KC0
theorem bX:C0.P.follows .mixedOrders=true:=oH.mixed
namespace Zero
noncomputable def T6:lL C0.P:=Go.Pm.T6
end Zero
variable{w:World}{F:Nat->Prop}{β:List (Nat×Nat)}{h:ab}
attribute [local irreducible] aE az aI aJ Ev ah ai ax aW
set_option maxHeartbeats 4000000
theorem jE{a:Act}{ρ:Nat->PV}(H:aZ w F β h)(R:gR w (Av F h β) β h a ρ){t yt el:TypeId}{x:Operand}{fl:Bool}{es:List PV}(hu:C0.P.underlying t=some (.slice el))(hx:ev ρ x=.aa fl es):
  ∃bb,(bb=true->es=[])/\∀o:Oper,o.op=.binOp .eql t x (.const (.slice none 0 0)) yt->uN C0.P 2 w F β h (execOp a.eval o) (.bool bb) h:=by
 have hv:=R.ev x;rw[hx]at hv;obtain⟨ad,cap,e1,_,_⟩:=hv.fv.jY;refine⟨ad.isNone,λhb=>?_,λo ho=>⟨.bool ad.isNone,w,β,.inl ?_,.val (.bool _),H,dS.refl w h β,λ_=>dF.refl w⟩⟩
 ·have hn:ad=none:=by cases ad <;>simp_all
  subst hn;rcases hv.fv.sO with h0 |⟨b,off,Ea,Ge,oI,ev',_⟩
  ·exact h0
  ·rw[e1]at ev';cases ev'
 ·obtain⟨d,op,ty,pos,af,g⟩:=o;simp only at ho;subst ho;have h2:a.eval (.const (.slice none 0 0))=.slice none 0 0:=rfl;have g1:(eqGuard .eql t x (.const (.slice none 0 0)) (.slice ad es.length cap) (.slice none 0 0)).run C0.P w=.ok () w:=by simp[eqGuard]
  have g2:(binOp .eql t (.slice ad es.length cap) (.slice none 0 0)).run C0.P w=.ok (.bool ad.isNone) w:=by
   simp only[binOp];simp[run_equal_slice_nil w t el ad es.length cap hu]
  simp only[execOp,e1,h2,Sem.run_bind,g1,g2,Result.andThen_ok,Sem.run_pure]
theorem BW{C:cP}(T:lL C.P){lv:Nat}{st xt el ql:TypeId}{sz fZ:Nat}{z:PV}{full:Bool}(hk:T.kd st=some (.sl el))(fB:T.kd xt=some (.sl ql))(hs:T.ts el=some (sz+1))(hb:T.tb el=some fZ)(hz:T.tz el=some z)
  (jn:fZ<=1000) (hl:(cells z).length=sz+1) (ho:(cells z).all bI=true):bQ C.P lv h st xt (.aa true []) (.aa full [])=some (.aa true [],h):=by
 unfold bQ;rw[bp (T.cU _ _ hk)];simp only[T.dT _ _ hs,T.rI _ _ hb,T.na _ _ hz,cG,bp (T.cU _ _ fB),cw];rw[if_pos ⟨by omega,by omega,⟨hl,ho⟩,rfl⟩]
 rfl
section
variable{C:cP}(T:lL C.P)
variable{ops:Array Oper}{d:Nat}{ty:TypeId}{pos:String}{af:Array Edge}{r:List Oper}{ρ:Nat->PV}{L:List (Nat×PV)}{Q:St->Prop}
theorem R.kZ{st xt el ql:TypeId}{sz fZ:Nat}{z:PV}{full:Bool}{x y:Operand}(hx:cM L x=some (.aa true []))(hy:cM L y=some (.aa full []))(hk:T.kd st=some (.sl el))(fB:T.kd xt=some (.sl ql))(hs:T.ts el=some (sz+1))(hb:T.tb el=some fZ)(hz:T.tz el=some z)
  (jn:fZ<=1000) (hl:(cells z).length=sz+1) (ho:(cells z).all bI=true) (kk:ah C ops r ⟨al ((d,.aa true [])::L) ρ,h⟩ Q):
  ah C ops (⟨some d,.call ⟨.builtin .append,#[x,y],#[st,xt]⟩,ty,pos,af,none⟩::r) ⟨al L ρ,h⟩ Q:=by
 refine ah.eR (λrun=>?_) kk;have mq:=BW T (h:=h) (lv:=2) (full:=full) hk fB hs hb hz jn hl ho;simp only[ar,bo,aah,aas,an hx,an hy,mq]
theorem R.iZ{st xt el ql:TypeId}{sz fZ:Nat}{z:PV}{full:Bool}{ys:List PV}{x y:Operand}(hx:cM L x=some (.aa true []))(hy:cM L y=some (.aa full ys))(hk:T.kd st=some (.sl el))(fB:T.kd xt=some (.sl ql))(hs:T.ts el=some (sz+1))(hb:T.tb el=some fZ)(hz:T.tz el=some z)
  (jn:fZ<=1000) (hl:(cells z).length=sz+1) (ho:(cells z).all bI=true) (zf:dB (sz+1) ys) (bJ:ys≠[]) (hn:ys.length<1000000000) (kk:ah C ops r ⟨al ((d,.ak h.length 0 0 ys.length)::L) ρ,h++[⟨.m,0,sz+1,ys⟩]⟩ Q):
  ah C ops (⟨some d,.call ⟨.builtin .append,#[x,y],#[st,xt]⟩,ty,pos,af,none⟩::r) ⟨al L ρ,h⟩ Q:=by
 refine ah.eR (λrun=>?_) kk;have mq:=gb T (h:=h) (lv:=2) (full:=full) (by decide) hk fB hs hb hz jn hl ho zf (by cases ys with |nil=>exact absurd rfl bJ |cons=>rfl) hn;simp only[ar,bo,aah,aas,an hx,an hy,mq]
end
namespace Zero
theorem Gf{fl:Bool}{es:List PV}{vs:List Value}(H:aZ w F β h)(ha:L2 (aD w (Av F h β) β h) vs [.aa fl es])(iU:dB 4 es)(hn:es.length<1000000000){r:PV}{h':ab}
  (hr:(es=[]/\r=.aa true []/\h'=h)\/(es≠[]/\r=.ak h.length 0 0 es.length/\h'=h++[⟨.m,0,4,es⟩])):mh C0.P 2 w F β h 45 vs r h':=by
 refine ja (P:=C0.P) Tryz.func45 rfl H ha (λa RR=>?_);refine wp_seq ?_;refine cJ K0 bX S0 (M:=λex s'=>ex=.normal/\∃ρ',s'=⟨al [(0,.aa fl es)] ρ',h⟩) rfl ?_ RR ?_
 ·rw[gU];refine wXB ?_;exact⟨rfl,_,St.aR ⟨rfl,trivial⟩⟩
 rintro ex s' a1 w1 β1 ⟨rfl,ρ1,rfl⟩ R1 S1;refine wp_seq ?_;refine wp_seq ?_;apply bY K0 S0 (pre:=[_]) (post:=[]) (R:=R1) (M:=λs'=>∃ρ',s'=⟨al [(0,.aa fl es),(3,.aa fl es)] ρ',h⟩) (M2:=λs'=>∃bb ρ',s'=⟨al [(0,.aa fl es),(4,.bool bb)] ρ',h⟩/\(bb=true->es=[]))
 ·rfl
 ·rfl
 ·refine wXB ?_;exact⟨_,St.aR ⟨rfl,rfl,trivial⟩⟩
 ·rintro s1 a2 w2 β2 ⟨ρ2,rfl⟩ R2 S2;obtain⟨bb,hb,os⟩:=jE (t:=31) (yt:=31) (el:=33) (x:=.tmp 3) (fl:=fl) (es:=es) R2.hr R2.er (bp (T6.cU 31 _ rfl)) (dz (L:=[(0,.aa fl es),(3,.aa fl es)]) (t:=3) rfl ρ2);refine⟨.bool bb,h,os _ rfl,ah.nil ⟨bb,al ((4,.bool bb)::[(0,.aa fl es),(3,.aa fl es)]) ρ2,?_,hb⟩⟩;show(⟨b9 (al [(0,.aa fl es),(3,.aa fl es)] ρ2) (some 4) (.bool bb),h⟩:St)=_;rw[ck];exact St.aR ⟨rfl,rfl,trivial⟩
 rintro s3 a3 w3 β3 ⟨bb,ρ3,rfl,hb⟩ R3 S3
 cases bb
 ·refine cJ K0 bX S0 (M:=λex s'=>ex=.normal/\∃ρ',s'=⟨al [(0,.aa fl es)] ρ',h⟩) rfl ?_ R3 ?_
  ·refine wXB ?_;exact⟨rfl,_,St.aR ⟨rfl,trivial⟩⟩
  rintro ex s' a4 w4 β4 ⟨rfl,ρ4,rfl⟩ R4 S4;refine cJ K0 bX S0 (M:=λex s'=>ex=.ret/\∃ρ',s'=⟨al [(2,r)] ρ',h'⟩) rfl ?_ R4 ?_
  ·refine wXB ?_;rcases hr with⟨rfl,rfl,rfl⟩|⟨bJ,rfl,rfl⟩
   ·apply R.kZ T6;exact rfl;exact rfl;exact rfl;exact rfl;exact rfl;exact rfl;exact rfl;exact(by decide);exact rfl;exact rfl;refine wXB ?_;exact⟨rfl,_,St.aR ⟨rfl,trivial⟩⟩
   ·apply R.iZ T6;exact rfl;exact rfl;exact rfl;exact rfl;exact rfl;exact rfl;exact rfl;exact(by decide);exact rfl;exact rfl;exact iU;exact bJ;exact hn;refine wXB ?_;exact⟨rfl,_,St.aR ⟨rfl,trivial⟩⟩
  rintro ex s5 a5 w5 β5 ⟨rfl,ρ5,rfl⟩ R5 S5;refine⟨.inr rfl,_,β5,R5,((S1.trans S3).trans S4).trans S5,[r],?_,λu hu=>⟨β5,hu,R5.hr,((S1.trans S3).trans S4).trans S5⟩⟩;exact eA (L:=[(2,r)]) rfl
 ·obtain rfl:=hb rfl;rcases hr with⟨_,rfl,rfl⟩|⟨bJ,_⟩
  ·refine cJ K0 bX S0 (M:=λex s'=>ex=.ret/\∃ρ',s'=⟨al [(2,.aa true [])] ρ',h'⟩) rfl ?_ R3 ?_
   ·refine wXB ?_;exact⟨rfl,_,St.aR ⟨rfl,trivial⟩⟩
   rintro ex s5 a5 w5 β5 ⟨rfl,ρ5,rfl⟩ R5 S5;refine⟨.inr rfl,_,β5,R5,(S1.trans S3).trans S5,[.aa true []],?_,λu hu=>⟨β5,hu,R5.hr,(S1.trans S3).trans S5⟩⟩;exact eA (L:=[(2,.aa true [])]) rfl
  ·exact absurd rfl bJ
 ·rfl
theorem Gg{fl:Bool}{es:List PV}{vs:List Value}(H:aZ w F β h)(ha:L2 (aD w (Av F h β) β h) vs [.aa fl es])(iU:dB 1 es)(hn:es.length<1000000000){r:PV}{h':ab}
  (hr:(es=[]/\r=.aa true []/\h'=h)\/(es≠[]/\r=.ak h.length 0 0 es.length/\h'=h++[⟨.m,0,1,es⟩])):mh C0.P 2 w F β h 397 vs r h':=by
 refine ja (P:=C0.P) Tryz.func397 rfl H ha (λa RR=>?_);refine wp_seq ?_;refine cJ K0 bX S0 (M:=λex s'=>ex=.normal/\∃ρ',s'=⟨al [(0,.aa fl es)] ρ',h⟩) rfl ?_ RR ?_
 ·rw[gU];refine wXB ?_;exact⟨rfl,_,St.aR ⟨rfl,trivial⟩⟩
 rintro ex s' a1 w1 β1 ⟨rfl,ρ1,rfl⟩ R1 S1;refine wp_seq ?_;refine wp_seq ?_;apply bY K0 S0 (pre:=[_]) (post:=[]) (R:=R1) (M:=λs'=>∃ρ',s'=⟨al [(0,.aa fl es),(3,.aa fl es)] ρ',h⟩) (M2:=λs'=>∃bb ρ',s'=⟨al [(0,.aa fl es),(4,.bool bb)] ρ',h⟩/\(bb=true->es=[]))
 ·rfl
 ·rfl
 ·refine wXB ?_;exact⟨_,St.aR ⟨rfl,rfl,trivial⟩⟩
 ·rintro s1 a2 w2 β2 ⟨ρ2,rfl⟩ R2 S2;obtain⟨bb,hb,os⟩:=jE (t:=263) (yt:=263) (el:=175) (x:=.tmp 3) (fl:=fl) (es:=es) R2.hr R2.er (bp (T6.cU 263 _ rfl)) (dz (L:=[(0,.aa fl es),(3,.aa fl es)]) (t:=3) rfl ρ2);refine⟨.bool bb,h,os _ rfl,ah.nil ⟨bb,al ((4,.bool bb)::[(0,.aa fl es),(3,.aa fl es)]) ρ2,?_,hb⟩⟩;show(⟨b9 (al [(0,.aa fl es),(3,.aa fl es)] ρ2) (some 4) (.bool bb),h⟩:St)=_;rw[ck];exact St.aR ⟨rfl,rfl,trivial⟩
 rintro s3 a3 w3 β3 ⟨bb,ρ3,rfl,hb⟩ R3 S3
 cases bb
 ·refine cJ K0 bX S0 (M:=λex s'=>ex=.normal/\∃ρ',s'=⟨al [(0,.aa fl es)] ρ',h⟩) rfl ?_ R3 ?_
  ·refine wXB ?_;exact⟨rfl,_,St.aR ⟨rfl,trivial⟩⟩
  rintro ex s' a4 w4 β4 ⟨rfl,ρ4,rfl⟩ R4 S4;refine cJ K0 bX S0 (M:=λex s'=>ex=.ret/\∃ρ',s'=⟨al [(2,r)] ρ',h'⟩) rfl ?_ R4 ?_
  ·refine wXB ?_;rcases hr with⟨rfl,rfl,rfl⟩|⟨bJ,rfl,rfl⟩
   ·apply R.kZ T6;exact rfl;exact rfl;exact rfl;exact rfl;exact rfl;exact rfl;exact rfl;exact(by decide);exact rfl;exact rfl;refine wXB ?_;exact⟨rfl,_,St.aR ⟨rfl,trivial⟩⟩
   ·apply R.iZ T6;exact rfl;exact rfl;exact rfl;exact rfl;exact rfl;exact rfl;exact rfl;exact(by decide);exact rfl;exact rfl;exact iU;exact bJ;exact hn;refine wXB ?_;exact⟨rfl,_,St.aR ⟨rfl,trivial⟩⟩
  rintro ex s5 a5 w5 β5 ⟨rfl,ρ5,rfl⟩ R5 S5;refine⟨.inr rfl,_,β5,R5,((S1.trans S3).trans S4).trans S5,[r],?_,λu hu=>⟨β5,hu,R5.hr,((S1.trans S3).trans S4).trans S5⟩⟩;exact eA (L:=[(2,r)]) rfl
 ·obtain rfl:=hb rfl;rcases hr with⟨_,rfl,rfl⟩|⟨bJ,_⟩
  ·refine cJ K0 bX S0 (M:=λex s'=>ex=.ret/\∃ρ',s'=⟨al [(2,.aa true [])] ρ',h'⟩) rfl ?_ R3 ?_
   ·refine wXB ?_;exact⟨rfl,_,St.aR ⟨rfl,trivial⟩⟩
   rintro ex s5 a5 w5 β5 ⟨rfl,ρ5,rfl⟩ R5 S5;refine⟨.inr rfl,_,β5,R5,(S1.trans S3).trans S5,[.aa true []],?_,λu hu=>⟨β5,hu,R5.hr,(S1.trans S3).trans S5⟩⟩;exact eA (L:=[(2,.aa true [])]) rfl
  ·exact absurd rfl bJ
 ·rfl
end Zero
end Go.Pm
namespace Go.Pm
open Go.Proofs
attribute [local irreducible] aE az aI aJ Ev ah ai ax aW
set_option maxRecDepth 4000
set_option maxHeartbeats 8000000
theorem o9(s:ByteArray)(l:List Tm)(hl:l.length<100000000):aO C 43 [.str s,.aa false (ae l)] (enc (.mk 3 s 0 l)):=by
 refine aO.of (ax.dJ Tryz.func43 rfl ?_);have cX:=aj l;have fN:=nC l;have OR:=ba l;have hv:=fa l;rw[bj];generalize ae l=es at cX fN OR hv ⊢;refine wXB ?_
 cases es with
 |nil=>
  apply R.kZ T6;exact rfl;exact rfl;exact rfl;exact rfl;exact rfl;exact rfl;exact rfl;exact(by decide);exact rfl;exact rfl;refine wXB ?_;refine R.ij T6 (n:=0) (o:=⟨.m,0,4,[.agg [.int .i64 0,.str ByteArray.empty,.int .i64 0,.aa true []]]⟩) (i:=0) (e:=.agg [.int .i64 0,.str ByteArray.empty,.int .i64 0,.aa true []]) rfl rfl rfl rfl rfl rfl rfl rfl (Z5 4) ?_;refine wXB ?_;exact⟨_,rfl,by simp[cf,aQ]⟩
 |cons e es=>
  apply R.iZ T6;exact rfl;exact rfl;exact rfl;exact rfl;exact rfl;exact rfl;exact rfl;exact(by decide);exact rfl;exact rfl;exact fN;exact(by simp);exact(by omega);refine wXB ?_;refine R.ij T6 (n:=0) (o:=⟨.m,0,4,[.agg [.int .i64 0,.str ByteArray.empty,.int .i64 0,.aa true []]]⟩) (i:=0) (e:=.agg [.int .i64 0,.str ByteArray.empty,.int .i64 0,.aa true []]) rfl rfl rfl rfl rfl rfl rfl rfl (Z5 4) ?_;refine wXB ?_;refine⟨.agg [.int .i64 3,.str s,.int .i64 0,.aa false (e::es)],?_,by show PV.agg [.int .i64 3,.str s,.int .i64 0,.aa false (aQ (e::es))]=_;rw[OR]⟩;show j' _ (.agg [.int .i64 3,.str s,.int .i64 0,.ak 1 0 0 (e::es).length])=_;simp[j',oz,qs,aV,getM,hv]
end Go.Pm
namespace Go.Pm
open Go.Proofs
set_option maxRecDepth 4000
set_option maxHeartbeats 8000000
theorem xS:∀{l:List Pw} {pr:Option Tm},kF pr l=0->Bd 1000 l/\(∀p∈l,valid p.1=0/\dm p.1=false)/\Nz l/\As l/\(∀q,pr=some q->∀p∈l,aU q p.1<0)
 |[],_,_=>⟨(λp hp=>by cases hp),(λp hp=>by cases hp),(λp hp=>by cases hp),by simp[As],(λ_ _ p hp=>by cases hp)⟩
 |p::l,pr,h=>by
  rw[nR]at h
  by_cases h1:valid p.1=0
  ·rw[if_neg (by omega)]at h
   by_cases h2:dm p.1=true
   ·rw[if_pos h2]at h;cases h
   ·rw[if_neg h2]at h
    by_cases h3:p.2=0\/p.2< -1000\/1000<p.2
    ·rw[if_pos h3]at h;cases h
    ·rw[if_neg h3]at h
     have main:kF (some p.1) l=0/\(∀q,pr=some q->aU q p.1<0):=by
      cases pr with
      |none=>
       simp only[aad,if_false]at h;exact⟨h,λq hq=>by cases hq⟩
      |some q=>
       simp only at h
       split at h
       ·cases h
       ·rename_i h4
        refine⟨h,λq' hq=>?_⟩
        cases hq
        have:¬0<=aU q p.1:=λhh=>h4 (decide_eq_true hh)
        omega
     obtain⟨b1,b2,b3,b4,b5⟩:=xS main.1;refine⟨λx hx=>?_,λx hx=>?_,λx hx=>?_,aal.2 ⟨λx hx=>b5 p.1 rfl x hx,b4⟩,λq hq x hx=>?_⟩
     ·rcases Z'.1 hx with rfl |hx
      ·omega
      ·exact b1 x hx
     ·rcases Z'.1 hx with rfl |hx
      ·exact⟨h1,by simpa using h2⟩
      ·exact b2 x hx
     ·rcases Z'.1 hx with rfl |hx
      ·omega
      ·exact b3 x hx
     ·rcases Z'.1 hx with rfl |hx
      ·exact main.2 q hq
      ·exact dR (main.2 q hq) (b5 p.1 rfl x hx)
  ·rw[if_pos h1]at h;exact absurd h h1
theorem De{l:List Pw}(h:lC l=0):l.length<=200/\Bd 1000 l/\(∀p∈l,valid p.1=0/\dm p.1=false)/\Nz l/\As l:=by
 unfold lC at h
 split at h
 ·cases h
 ·obtain⟨b1,b2,b3,b4,_⟩:=xS h;exact⟨by omega,b1,b2,b3,b4⟩
def il(l:List (List Pw)):List PV:=l.map λp=>.aa false (bh p)
def jD(l:List (List Pw)):List Tm:=l.flatMap λp=>p.map (·.1)
def Tm.k:Tm->Int | .mk k _ _ _=>k
def Tm.s:Tm->ByteArray | .mk _ s _ _=>s
def Tm.o:Tm->Int | .mk _ _ o _=>o
def Tm.l:Tm->List Tm | .mk _ _ _ l=>l
theorem aw(t:Tm):enc t=.agg [.int .i64 t.k,.str t.s,.int .i64 t.o,.aa false (ae t.l)]:=by cases t;exact bj _ _ _ _
theorem xR(t:Tm)(n:Int):vL (t,n)=.agg [.int .i64 t.k,.str t.s,.int .i64 t.o,.aa false (ae t.l),.int .i64 n]:=by cases t;rfl
attribute [simp] ao aV aQ cf fa ba qf vB qJ nu
@[simp] theorem B1(t:Tm):PV.agg [.int .i64 t.k,.str t.s,.int .i64 t.o,.aa false (ae t.l)]=enc t:=(aw t).symm
@[simp] theorem JC(t:Tm)(n:Int):PV.agg [.int .i64 t.k,.str t.s,.int .i64 t.o,.aa false (ae t.l),.int .i64 n]=vL (t,n):=(xR t n).symm
theorem du(a b:List PV):ao (a++b)=(ao a&&ao b):=by rw[bu,abj,<-bu,<-bu]
attribute [simp] du
@[simp] theorem Uj(p:Pw):aV (vL p)=true:=by obtain⟨t,n⟩:=p;rw[xR];simp
@[simp] theorem Xq(p:Pw):cf (vL p)=vL p:=by obtain⟨t,n⟩:=p;rw[xR];simp[-JC,-B1]
@[simp] theorem UZ:bh []=[]:=rfl
@[simp] theorem o8:ae []=[]:=by simp[ae]
@[simp] theorem U0(l:List Tm):(ae l).length=l.length:=aj l
@[simp] theorem Uk(l:List Pw):(bh l).length=l.length:=eX l
theorem bW{l p q:List Tm}{t:Tm}(e:l=p++t::q):(ae l)[p.length]?=some (.agg [.int .i64 t.k,.str t.s,.int .i64 t.o,.aa false (ae t.l)]):=by rw[cZ,e,<-aw];simp
theorem B0{l p q:List Pw}{t:Tm}{n:Int}(e:l=p++(t,n)::q):(bh l)[p.length]?=some (.agg [.int .i64 t.k,.str t.s,.int .i64 t.o,.aa false (ae t.l),.int .i64 n]):=by rw[bh,e,<-xR];simp
set_option maxRecDepth 100000
set_option maxHeartbeats 2000000
instance:Inhabited Tm:=⟨eU⟩
def NP:Nat->Prop:=λ_=>False
theorem FC{w:World}{a:Addr}{v:Value}(h:w.cell? a=some v):∃b off,a=⟨b,off,none⟩:=by
 obtain⟨b,off,sp⟩:=a
 cases sp with
 |none=>exact⟨b,off,rfl⟩
 |some s=>
  exfalso;unfold World.cell? at h
  split at h
  ·simp at h
  ·cases h
theorem W3(a:Addr):a.add 0=a:=by obtain⟨b,off,sp⟩:=a;simp[Addr.add]
open Go.Proofs.YtimogkojklpdnaaGreatDoor in
theorem Dy{H E:Type}(B:E->Nat):∀(l:List E) (ds:List (DataW H)),l.length=ds.length->(∀(i:Nat) (t:E) (d:DataW H),l[i]?=some t->ds[i]?=some d->B t<=Rows.uptoBulk d)->(l.map B).sum<=Rows.uptoBulkAll ds
 |[],_,_,_=>by simp
 |t::l,[],h,_=>by simp at h
 |t::l,d::ds,h,hb=>by
  have h1:=hb 0 t d rfl rfl;have h2:=Dy B l ds (by simpa using h) (λi t' d' e1 e2=>hb (i+1) t' d' (by simpa using e1) (by simpa using e2));simp only[aah,acu,Rows.uptoBulkAll];omega
open Go.Proofs.YtimogkojklpdnaaGreatDoor in
theorem xz{H:Type}{ec:TypeId×Value->H}{w:World}{sp:Nat->Bool}{held:Bool}{ty el:TypeId}{sz:Nat}{E:Type}[Inhabited E](encE:E->PV)(B:E->Nat)(hk:C.P.underlying ty=some (.slice el))(hc:C.P.cellsOf el=sz)(nQ:0<sz)(hl:∀e,(Pm.cells (encE e)).length=sz)
  (elem:∀(n:Nat) (cs:List Value) (x:DataW H×List MemPlace),DataW.trod ec C.P w 0 sp held n el cs=some x->∃e:E,cs.length=sz/\(∀j,j<sz->cj w NP (cs.getD j undef) ((Pm.cells (encE e)).getD j .any))/\B e<=Rows.uptoBulk x.1)
  {n:Nat} {cs:List Value} {x:DataW H×List MemPlace} (h:DataW.trod ec C.P w 0 sp held n ty cs=some x):∃(c:Value) (l:List E),cs=[c]/\cj w NP c (.aa false (l.map encE))/\(l.map B).sum+1<=Rows.uptoBulk x.1:=by
 rcases DataW.trod_slice hk h with⟨e3,rfl⟩|⟨a,len,cap,cw,rest,n2,Ku,e3,rfl,hb,hle,AW,W4,cX,_,_⟩
 ·exact⟨_,[],e3,.gF none 0 false (λh=>by cases h),by simp[Rows.uptoBulk]⟩
 ·subst hc
  have each:∀i,i<len->∃q:List Value×E,w.cells? 0 (a.add (i * C.P.cellsOf el)) (C.P.cellsOf el)=some q.1/\(q.1.length=C.P.cellsOf el/\∀j,j<C.P.cellsOf el->cj w NP (q.1.getD j undef) ((Pm.cells (encE q.2)).getD j .any))/\∀y,cw[i]?=some y->B q.2<=Rows.uptoBulk y.1:=by
   intro i hi
   have h1:=cX i hi;obtain⟨y,hy⟩:∃y,cw[i]?=some y:=⟨cw[i],Z3 (by omega)⟩;rw[hy]at h1
   cases hc:w.cells? 0 (a.add (i * C.P.cellsOf el)) (C.P.cellsOf el)with
   |none=>rw[hc]at h1;cases h1
   |some jo=>
    rw[hc]at h1;obtain⟨t,t1,t2,t3⟩:=elem n2 jo y h1;exact⟨(jo,t),rfl,⟨t1,t2⟩,λy' hy'=>by rw[hy]at hy';obtain rfl:=ZZ hy';exact t3⟩
  obtain⟨q,hq⟩:=Deep.choose_lt each;have yg:((List.range len).map λi=>(q i).2).length=len:=by simp
  have uI:∀i,i<len->((List.range len).map λi=>(q i).2)[i]?=some (q i).2:=λi hi=>by rw[aaj,acn hi];rfl
  refine⟨_,(List.range len).map λi=>(q i).2,e3,?_,?_⟩
  ·by_cases h0:len=0
   ·subst h0;exact .gF (some a) cap false (λh=>by cases h)
   ·have UO:=(hq 0 (by omega)).1;obtain⟨_,dp,DS⟩:=World.cells?_some UO;have Di:=DS 0 nQ;rw[abD,W3,W3]at Di;obtain⟨v0,Bw⟩:∃v,(q 0).1[0]?=some v:=⟨(q 0).1[0],Z3 (by omega)⟩;rw[Bw]at Di;obtain⟨b,off,rfl⟩:=FC Di;have iU:(((List.range len).map λi=>(q i).2).map encE).length=len:=by simp
    have hgd:∀i,i<len->(((List.range len).map λi=>(q i).2).map encE).getD i .any=encE (q i).2:=λi hi=>by
     rw[List.getD,aaj,uI i hi];rfl
    have key:cj w NP (.slice (some ⟨b,off,none⟩) (((List.range len).map λi=>(q i).2).map encE).length cap) (.aa false (((List.range len).map λi=>(q i).2).map encE)):=by
     refine .aa b off cap (C.P.cellsOf el) false _ (λi j=>(q i).1.getD j undef) (λh=>?_) (by omega) (λh=>by cases h) (λh=>h) nQ (λi hi=>?_) (λi j hi hj=>?_) (λi j hi hj=>?_)
     ·rw[h]at iU;simp at iU;omega
     ·rw[hgd i (by omega)];exact hl _
     ·obtain⟨_,dp,DS⟩:=World.cells?_some (hq i (by omega)).1;have:=DS j hj;rw[eP,eP]at this;rw[show off+(i * C.P.cellsOf el+j)=off+i * C.P.cellsOf el+j by omega,this,Z3 (by omega)];simp[List.getD,Z3 (show j<(q i).1.length by omega)]
     ·rw[hgd i (by omega)];exact(hq i (by omega)).2.1.2 j hj
    rw[iU]at key;exact key
  ·have:=Dy B ((List.range len).map λi=>(q i).2) (cw.map (·.1)) (by simp[W4]) (λi t d e1 e2=>by
    have hi:i<len:=by have:=ag e1;rwa[yg]at this
    rw[uI i hi]at e1;obtain rfl:=ZZ e1;rw[aaj]at e2
    cases hy:cw[i]? with
    |none=>rw[hy]at e2;cases e2
    |some y=>
     rw[hy]at e2;obtain rfl:=ZZ e2;exact(hq i hi).2.2 y hy)
   simp only[Rows.uptoBulk];omega
instance:Inhabited Pw:=⟨(eU,0)⟩
theorem dF.kept{W W':World}(g:dF W W')(may:MemPlace->Prop):W.keptBut W' may:=by
 refine⟨g.os,g.output,λi hi=>?_⟩;rw[g.aR i hi]
 cases W.heap[i]? with
 |none=>rfl
 |some o=>cases o <;>simp
end Go.Pm
namespace Go.Pm
structure MI(a:List Pw)(k:Nat):Prop where
 Bx:As a
 nz:Nz a
 bd:Bd (1000+1000 * (k:Int)) a
 len:a.length<=200+k
theorem MI.of{a:List Pw}(h:lC a=0):MI a 0:=by
 obtain⟨h1,h2,h3,h4,h5⟩:=De h;exact⟨h5,h4,λp hp=>by have:=h2 p hp;omega,by omega⟩
open Go.Proofs
set_option maxRecDepth 4000
def uQ{α:Type}(p:α->Bool)(l:List α):Int:=match l.findIdx? p with |some i=>i |none=>-1
theorem p8{α:Type}{p:α->Bool}{a q:List α}{x:α}(h:∀y∈a,p y=false)(hx:p x=true):uQ p (a++x::q)=a.length:=by
 unfold uQ;rw[List.findIdx?_append,ab1.2 h];simp[List.findIdx?_cons,hx]
theorem kM{α:Type}{p:α->Bool}{a:List α}(h:∀y∈a,p y=false):uQ p a=-1:=by
 unfold uQ;rw[ab1.2 h]
theorem rU{α:Type}(p:α->Bool)(l:List α):decide (0<=uQ p l)=l.any p:=by
 unfold uQ
 cases h:l.findIdx? p with
 |none=>
  rw[ab1]at h;have:l.any p=false:=by rw[abt];intro x hx;simp[h x hx]
  rw[this];rfl
 |some i=>
  obtain⟨h1,h2,_⟩:=List.findIdx?_eq_some_iff_getElem.1 h;have:l.any p=true:=aa8.2 ⟨_,aay h1,h2⟩;rw[this];simp
@[simp] theorem T3(l:List Pw):dB (4+1) (bh l):=by
 unfold dB bh;rw[List.all_map,Z1];rintro⟨t,n⟩ _;simp only[Function.comp,xR]
 rfl
def tX:List Pw->Tm->Int
 |[],_=>0
 |p::l,t=>if aU p.1 t=0 then p.2 else tX l t
theorem J8{p q:List Pw}{x:Pw}{t:Tm}(h:∀y∈p,aU y.1 t≠0)(hx:aU x.1 t=0):tX (p++x::q) t=x.2:=by
 induction p with
 |nil=>rw[aaL,tX,if_pos hx]
 |cons y p ih=>rw[aau,tX,if_neg (h y (by simp)),ih (λz hz=>h z (by simp[hz]))]
theorem HD{l p q:List (List Pw)}{x:List Pw}(e:l=p++x::q):(il l)[p.length]?=some (.aa false (bh x)):=by rw[il,e];simp
@[simp] theorem Qj(l:List (List Pw)):(il l).length=l.length:=by simp[il]
@[simp] theorem Qk(l:List (List Pw)):ao (il l)=true:=by induction l with |nil=>rfl |cons x l ih=>simpa[il]using ih
@[simp] theorem Ql(l:List (List Pw)):aQ (il l)=il l:=by induction l with |nil=>rfl |cons x l ih=>simpa[il]using ih
def fD(l:List Int):List PV:=l.map λx=>.int .i64 x
@[simp] theorem Uq(l:List Int):(fD l).length=l.length:=by simp[fD]
@[simp] theorem Rx(l:List Int):ao (fD l)=true:=by induction l with |nil=>rfl |cons x l ih=>simpa[fD]using ih
@[simp] theorem Ry(l:List Int):aQ (fD l)=fD l:=by induction l with |nil=>rfl |cons x l ih=>simpa[fD]using ih
def eZ(t:Tm):List Tm->List Tm
 |[]=>[t]
 |x::r=>if aU t x<=0 then(if aU t x<0 then t::x::r else x::r)else x::eZ t r
attribute [local irreducible] aE az aI aJ Ev ah ai ax aW
theorem J9(t:Tm)(l:List Tm)(ht:ay t<1000000000)(hb:∀x∈l,ay x<1000000000)(hl:l.length<1000000):aO C 127 [.aa false (ae l),enc t] (.aa false (ae (eZ t l))):=by
 have cX:(ae l).length=l.length:=by simp
 rw[aw];refine aO.x T6 Tryz.func127 rfl ?_;refine wXA ?_;refine eD.zip T6 l (λp q L H=>∃v acc d,L=[(0,.aa false (ae l)),(3,.ptr 0 0 0 0),(5,v),(6,.bool d),(7,.int .i64 p.length)]/\HV H/\H[0]?=some ⟨.m,0,4,[.agg [.int .i64 t.k,.str t.s,.int .i64 t.o,.aa false (ae t.l)]]⟩/\Out 4 H v (ae acc)/\(∀ep n,v≠.ak 0 ep 0 n)/\(acc.length<=p.length+if d then 1 else 0)/\acc++(if d then q else eZ t q)=eZ t l) (.nx ⟨_,[],false,rfl,HV.one rfl,rfl,.inl ⟨rfl,rfl⟩,(λ_ _ h=>by cases h),by simp,by simp⟩) ?_ ?_
 ·rintro p x q _ h ρ e ⟨v,acc,d,rfl,hH,h0,ho,Bw,D9,hg⟩;have cY:=bW e;have cE:=congrArg List.length e;simp only[Z2,Z4]at cE;have qL:=J' t x ht (hb x (by rw[e];simp));rw[aw,aw]at qL;have hla:(ae acc).length=acc.length:=by simp
  have Rz:acc.length<=p.length+1:=by cases d <;>simp at D9 <;>omega
  refine wXA ?_;refine .p qL ?_;have sn:∀(a:List Tm) (y:Tm),ae a++[.agg [.int .i64 y.k,.str y.s,.int .i64 y.o,.aa false (ae y.l)]]=ae (a++[y]):=λa y=>by rw[<-zj,aw]
  cases d
  ·rw[if_neg (by decide)]at hg
   (repeat' (first |(refine Rn.go ?_;conv=>whnf)|refine .mk ?_ |refine .mk (λhc=>?_) λhc=>?_ |refine .lp λv H lp=>?_ |fail))
   ·obtain⟨h0',Vj⟩:=lp.obj h0 Bw;have Xy:=lp.hv;have lo:=lp.out;rw[sn]at lo;have ZJ:(ae (acc++[t])).length=acc.length+1:=by simp
    clear lp;refine wXG λv H lp=>?_;have Gb:=lp.out;rw[sn]at Gb;exact .nx ⟨_,acc++[t]++[x],true,rfl,lp.hv,(lp.obj h0' Vj).1,Gb,(lp.obj h0' Vj).2,by simp at D9 ⊢;omega,by rw[<-hg,show eZ t (x::q)=t::x::q by rw[eZ,if_pos (by assumption),if_pos hc]];simp⟩
   ·have Gb:=lp.out;rw[sn]at Gb;exact .nx ⟨_,acc++[x],true,rfl,lp.hv,(lp.obj h0 Bw).1,Gb,(lp.obj h0 Bw).2,by simp at D9 ⊢;omega,by rw[<-hg,show eZ t (x::q)=x::q by rw[eZ,if_pos (by assumption),if_neg hc]];simp⟩
   ·have Gb:=lp.out;rw[sn]at Gb;exact .nx ⟨_,acc++[x],false,rfl,lp.hv,(lp.obj h0 Bw).1,Gb,(lp.obj h0 Bw).2,by simp at D9 ⊢;omega,by rw[<-hg,show eZ t (x::q)=x::eZ t q by rw[eZ,if_neg hc]];simp⟩
  ·refine wXG λv H lp=>?_;have Gb:=lp.out;rw[sn]at Gb;exact .nx ⟨_,acc++[x],true,rfl,lp.hv,(lp.obj h0 Bw).1,Gb,(lp.obj h0 Bw).2,by simp at D9 ⊢;omega,by rw[<-hg];simp⟩
 ·rintro _ h ρ ⟨v,acc,d,rfl,hH,h0,ho,Bw,D9,hg⟩;have hla:(ae acc).length=acc.length:=by simp
  have Rz:acc.length<=l.length+1:=by cases d <;>simp at D9 <;>omega
  have sn:∀(a:List Tm) (y:Tm),ae a++[.agg [.int .i64 y.k,.str y.s,.int .i64 y.o,.aa false (ae y.l)]]=ae (a++[y]):=λa y=>by rw[<-zj,aw]
  have fin:∀{h:ab} {v:PV} {a:List Tm},Out 4 h v (ae a)->a=eZ t l->∃r1,rb h (aY [v])=some r1/\cf r1=.aa false (ae (eZ t l)):=λ{h v a} ho ha=>by
   obtain⟨r1,e1,e2⟩:=ho.j' (fa _);exact⟨r1,by rcases ho with⟨rfl,_⟩|⟨id,ep,rfl,_⟩ <;>exact e1,by rw[e2,ba,ha]⟩
  cases d
  ·refine wXG λv H lp=>?_;have Gb:=lp.out;rw[sn]at Gb;exact fin Gb (by rw[<-hg];simp[eZ])
  ·refine wXA ?_;exact fin ho (by rw[<-hg];simp)
end Go.Pm
namespace Go.Pm
open Go.Proofs
set_option maxRecDepth 4000
theorem BS(t:Tm):∀l:List Tm,(eZ t l).length<=l.length+1
 |[]=>by simp[eZ]
 |x::r=>by
  have:=BS t r;unfold eZ
  split
  ·split <;>simp
  ·simp only[Z4];omega
theorem BT{t:Tm}{y:Tm}:∀{l:List Tm},y∈eZ t l->y=t\/y∈l
 |[],h=>by simp[eZ]at h;exact .inl h
 |x::r,h=>by
  unfold eZ at h
  split at h
  ·split at h
   ·rcases Z'.1 h with h |h
    ·exact .inl h
    ·exact .inr h
   ·exact .inr h
  ·rcases Z'.1 h with h |h
   ·exact .inr (by simp[h])
   ·rcases BT h with h |h
    ·exact .inl h
    ·exact .inr (by simp[h])
def HE(l:List (List Pw)):List Tm:=(jD l).foldl (λa t=>eZ t a) []
def SmT(l:List (List Pw)):Prop:=(∀x∈l,(∀p∈x,ay p.1<100000000)/\x.length<=200)/\l.length<=1000
def qm(ts:List Tm)(a:List Tm):List Tm:=ts.foldl (λa t=>eZ t a) a
theorem vZ:∀(ts a:List Tm),(qm ts a).length<=a.length+ts.length
 |[],a=>by simp[qm]
 |t::ts,a=>by
  have:=vZ ts (eZ t a);have:=BS t a;simp only[qm,List.foldl_cons,Z4]at *;omega
theorem BU{y:Tm}:∀{ts a:List Tm},y∈qm ts a->y∈ts\/y∈a
 |[],a,h=>.inr h
 |t::ts,a,h=>by
  rcases BU (ts:=ts) (a:=eZ t a) h with h |h
  ·exact .inl (by simp[h])
  ·rcases BT h with h |h
   ·exact .inl (by simp[h])
   ·exact .inr h
theorem AA:∀{l:List (List Pw)},(∀x∈l,x.length<=200)->(jD l).length<=200 * l.length
 |[],_=>by simp[jD]
 |x::l,h=>by
  have h1:=AA (l:=l) λy hy=>h y (by simp[hy])
  have h2:=h x (by simp);have h3:(jD (x::l)).length=x.length+(jD l).length:=by simp[jD]
  rw[h3,Z4];omega
def inr(n:Int):Bool:=decide (-35184372088832<=n/\n<=35184372088832)
@[simp] theorem Qm(l:List (List Pw)):dB (0+1) (il l):=by
 unfold dB;rw[Z1]
 intro v hv
 obtain⟨x,_,rfl⟩:=aak.1 hv
 rfl
def fO(l:List Tm):Prop:=l.Pairwise λp q=>aU p q<0
theorem nE(t:Tm):∀(l:List Tm) (y:Tm),y∈eZ t l↔y=t\/y∈l
 |[],y=>by simp[eZ]
 |x::r,y=>by
  unfold eZ
  by_cases h1:aU t x<=0
  ·rw[if_pos h1]
   by_cases h2:aU t x<0
   ·rw[if_pos h2];simp
   ·rw[if_neg h2];obtain rfl:=dx (t:=t) (t':=x) (by omega);simp
  ·rw[if_neg h1,Z',nE t r y,Z']
   constructor
   ·rintro(h |h |h)
    ·exact .inr (.inl h)
    ·exact .inl h
    ·exact .inr (.inr h)
   ·rintro(h |h |h)
    ·exact .inr (.inl h)
    ·exact .inl h
    ·exact .inr (.inr h)
theorem v7{t:Tm}:∀{l:List Tm},fO l->fO (eZ t l)
 |[],_=>by simp[eZ,fO]
 |x::r,h=>by
  have hp:=aal.1 h;unfold eZ
  by_cases h1:aU t x<=0
  ·rw[if_pos h1]
   by_cases h2:aU t x<0
   ·rw[if_pos h2];refine aal.2 ⟨λy hy=>?_,h⟩;rcases Z'.1 hy with rfl |hy
    ·exact h2
    ·exact dR h2 (hp.1 y hy)
   ·rw[if_neg h2];exact h
  ·rw[if_neg h1];refine aal.2 ⟨λy hy=>?_,v7 hp.2⟩;rcases(nE t r y).1 hy with rfl |hy
   ·have:=ee y x;omega
   ·exact hp.1 y hy
theorem v8:∀{ts a:List Tm},fO a->fO (qm ts a)
 |[],a,h=>h
 |t::ts,a,h=>v8 (ts:=ts) (v7 (t:=t) h)
theorem AB:∀(ts a:List Tm) (y:Tm),y∈qm ts a↔y∈ts\/y∈a
 |[],a,y=>by simp[qm]
 |t::ts,a,y=>by
  have:=AB ts (eZ t a) y;rw[show qm (t::ts) a=qm ts (eZ t a)from rfl,this,nE,Z']
  constructor
  ·rintro(h |h |h)
   ·exact .inl (.inr h)
   ·exact .inl (.inl h)
   ·exact .inr h
  ·rintro((h |h)|h)
   ·exact .inr (.inl h)
   ·exact .inl h
   ·exact .inr (.inr h)
theorem nF:∀{a b:List Tm},fO a->fO b->(∀y,y∈a↔y∈b)->a=b
 |[],[],_,_,_=>rfl
 |[],y::b,_,_,h=>by have:=(h y).2 (by simp);cases this
 |x::a,[],_,_,h=>by have:=(h x).1 (by simp);cases this
 |x::a,y::b,ha,hb,h=>by
  have pa:=aal.1 ha;have pb:=aal.1 hb;have irr:∀{u:Tm},¬aU u u<0:=λ{u} hh=>by rw[dI]at hh;omega
  have hxy:x=y:=by
   rcases Z'.1 ((h x).1 (by simp))with e |hx
   ·exact e
   ·rcases Z'.1 ((h y).2 (by simp))with e |hy
    ·exact e.symm
    ·exact(irr (dR (pb.1 x hx) (pa.1 y hy))).elim
  subst hxy
  have:a=b:=nF pa.2 pb.2 λz=>by
   constructor
   ·intro hz
    rcases Z'.1 ((h z).1 (by simp[hz]))with rfl |h1
    ·exact(irr (pa.1 z hz)).elim
    ·exact h1
   ·intro hz
    rcases Z'.1 ((h z).2 (by simp[hz]))with rfl |h1
    ·exact(irr (pb.1 z hz)).elim
    ·exact h1
  rw[this]
theorem Ka(l:List (List Pw)):fO (HE l):=v8 (ts:=jD l) (a:=[]) (by simp[fO])
theorem Ob(l:List (List Pw))(y:Tm):y∈HE l↔y∈jD l:=by
 have:=AB (jD l) [] y;simpa[qm,HE]using this
end Go.Pm
namespace Go.Pm
structure Sy where
 n:ByteArray
 a:Int
 b:Int
 k:Int
def j3:ByteArray:=⟨#[112,97,105,114]⟩
def jG:ByteArray:=⟨#[101,110,99]⟩
def fK:ByteArray:=⟨#[97,101,110,99]⟩
def H6:ByteArray:=⟨#[112,107]⟩
def mV:ByteArray:=⟨#[115,105,103,110]⟩
def wB:ByteArray:=⟨#[104,97,115,104]⟩
def xj:ByteArray:=⟨#[120,111,114]⟩
def jx:ByteArray:=⟨#[122,101,114,111]⟩
def LV:ByteArray:=⟨#[101,120,112]⟩
def AZ:ByteArray:=⟨#[109,117,108]⟩
def A0:ByteArray:=⟨#[105,110,118]⟩
def tE:ByteArray:=⟨#[111,110,101]⟩
def EJ:ByteArray:=⟨#[115,107]⟩
def Ch:ByteArray:=⟨#[115,104,107]⟩
def MX:ByteArray:=⟨#[110,101,119]⟩
def Wp:ByteArray:=⟨#[102,115,116]⟩
def Ws:ByteArray:=⟨#[115,110,100]⟩
def Wt:ByteArray:=⟨#[100,101,99]⟩
def QI:ByteArray:=⟨#[97,100,101,99]⟩
def QJ:ByteArray:=⟨#[111,112,101,110]⟩
def QK:ByteArray:=⟨#[114,101,97,100]⟩
def T9:List Sy:=[⟨⟨#[112,97,105,114]⟩,2,2,1⟩,⟨⟨#[101,110,99]⟩,2,2,1⟩,⟨⟨#[97,101,110,99]⟩,2,2,1⟩,⟨⟨#[112,107]⟩,1,1,1⟩,⟨⟨#[115,105,103,110]⟩,2,2,1⟩,⟨⟨#[104,97,115,104]⟩,1,1,1⟩,⟨⟨#[120,111,114]⟩,2,8,1⟩,⟨⟨#[122,101,114,111]⟩,0,0,1⟩,⟨⟨#[101,120,112]⟩,2,2,1⟩,⟨⟨#[109,117,108]⟩,2,8,1⟩,⟨⟨#[105,110,118]⟩,1,1,1⟩,⟨⟨#[111,110,101]⟩,0,0,1⟩,⟨⟨#[115,107]⟩,1,1,2⟩,⟨⟨#[115,104,107]⟩,2,2,2⟩,⟨⟨#[110,101,119]⟩,1,8,2⟩,⟨⟨#[102,115,116]⟩,1,1,3⟩,⟨⟨#[115,110,100]⟩,1,1,3⟩,⟨⟨#[100,101,99]⟩,2,2,3⟩,⟨⟨#[97,100,101,99]⟩,2,2,3⟩,⟨⟨#[111,112,101,110]⟩,2,2,3⟩,⟨⟨#[114,101,97,100]⟩,1,1,3⟩]
def sy0:Sy:=⟨ByteArray.empty,0,0,0⟩
def cO(s:ByteArray):Sy:=(T9.find? λy=>y.n.toList==s.toList).getD sy0
def Ai(y:Sy):PV:=.agg [.str y.n,.int .i64 y.a,.int .i64 y.b,.int .i64 y.k]
def gO(s n:ByteArray):Bool:=s.toList==n.toList
def iA(u:Tm):Bool:=decide (u.k≠3/\u.o=1)
def fR(s:ByteArray)(l:List Tm):Bool:=
 if gO s EJ ||gO s Ch then l.all iA
 else if gO s MX then(match l with |u::_=>decide (u.k=2)|[]=>true)
 else true
mutual
def od:Tm->Int
 | .mk k s o l=>if k≠3 then 0 else if(cO s).k=0 then 10 else if(l.length:Int)<(cO s).a\/(cO s).b<l.length then 6 else if fR s l=false then 10 else si l
def si:List Tm->Int
 |[]=>0
 |t::l=>if od t≠0 then od t else si l
end
def ky(t:Tm):Int:=if valid t≠0 then valid t else od t
mutual
def pre:Tm->List Tm
 | .mk k s o l=>.mk k s o l::ch l
def ch:List Tm->List Tm
 |[]=>[]
 |t::l=>pre t++ch l
end
mutual
def every(p:ByteArray->Bool):Tm->Bool
 | .mk k s o l=>(decide (k≠3)||p s)&&iq p l
def iq(p:ByteArray->Bool):List Tm->Bool
 |[]=>true
 |t::l=>every p t&&iq p l
end
def uR(s:ByteArray):Bool:=gO s xj ||gO s jx ||gO s LV ||gO s AZ ||gO s A0 ||gO s tE
def Bz(s:ByteArray):Bool:=!uR s&&decide ((cO s).k≠3)
def rQ(t:Tm):Bool:=decide (ky t=0)&&every Bz t
def jb(l:List Tm):List Tm:=qm l []
def qw(n:Int)(t:Tm):List Tm:=jb ((pre t).filter λu=>decide (u.k=n))
def bV(t:Tm):List Tm:=qw 1 t
structure eE where
 kn:List Tm
 tm:Tm
structure c9 where
 v:Tm
 t:Tm
def rP(d:eE):PV:=.agg [.aa false (ae d.kn),.int .i64 d.tm.k,.str d.tm.s,.int .i64 d.tm.o,.aa false (ae d.tm.l)]
def sT(b:c9):PV:=.agg [.int .i64 b.v.k,.str b.v.s,.int .i64 b.v.o,.aa false (ae b.v.l),.int .i64 b.t.k,.str b.t.s,.int .i64 b.t.o,.aa false (ae b.t.l)]
def bA(l:List eE):List PV:=l.map rP
def bM(l:List c9):List PV:=l.map sT
@[simp] theorem RO(d:eE):aV (rP d)=true:=by simp[rP]
@[simp] theorem RP(b:c9):aV (sT b)=true:=by simp[sT]
@[simp] theorem VB(d:eE):cf (rP d)=rP d:=by simp[rP,cf,aQ,ba]
@[simp] theorem VC(b:c9):cf (sT b)=sT b:=by simp[sT,cf,aQ,ba]
@[simp] theorem Oj(l:List eE):ao (bA l)=true:=by rw[bu];simp[bA]
@[simp] theorem Ol(l:List c9):ao (bM l)=true:=by rw[bu];simp[bM]
@[simp] theorem RQ(l:List eE):aQ (bA l)=bA l:=by rw[cL];simp[bA]
@[simp] theorem RS(l:List c9):aQ (bM l)=bM l:=by rw[cL];simp[bM]
@[simp] theorem fL(l:List eE):(bA l).length=l.length:=by simp[bA]
@[simp] theorem jF(l:List c9):(bM l).length=l.length:=by simp[bM]
@[simp] theorem Ut:bA []=[]:=rfl
@[simp] theorem Uu:bM []=[]:=rfl
theorem qS(d:eE):rP d=.agg [.aa false (ae d.kn),.int .i64 d.tm.k,.str d.tm.s,.int .i64 d.tm.o,.aa false (ae d.tm.l)]:=rfl
theorem qT(b:c9):sT b=.agg [.int .i64 b.v.k,.str b.v.s,.int .i64 b.v.o,.aa false (ae b.v.l),.int .i64 b.t.k,.str b.t.s,.int .i64 b.t.o,.aa false (ae b.t.l)]:=rfl
theorem jZ{l p q:List eE}{d:eE}(e:l=p++d::q):(bA l)[p.length]?=some (.agg [.aa false (ae d.kn),.int .i64 d.tm.k,.str d.tm.s,.int .i64 d.tm.o,.aa false (ae d.tm.l)]):=by rw[bA,e,<-qS];simp
theorem oT{l p q:List c9}{b:c9}(e:l=p++b::q):(bM l)[p.length]?=some (.agg [.int .i64 b.v.k,.str b.v.s,.int .i64 b.v.o,.aa false (ae b.v.l),.int .i64 b.t.k,.str b.t.s,.int .i64 b.t.o,.aa false (ae b.t.l)]):=by rw[bM,e,<-qT];simp
theorem zm{l:List c9}{i:Nat}{b:c9}(e:l[i]?=some b):(bM l)[i]?=some (.agg [.int .i64 b.v.k,.str b.v.s,.int .i64 b.v.o,.aa false (ae b.v.l),.int .i64 b.t.k,.str b.t.s,.int .i64 b.t.o,.aa false (ae b.t.l)]):=by rw[bM,aaj,e,<-qT];rfl
def cN(l:List Tm)(t:Tm):Bool:=l.any λu=>decide (aU t u=0)
theorem da{l:List Tm}{t:Tm}:cN l t=true↔t∈l:=by
 simp only[cN,aa8,decide_eq_true_eq]
 constructor
 ·rintro⟨u,hu,h⟩;rw[dx h];exact hu
 ·exact λh=>⟨t,h,dI t⟩
def Om(t:Tm):Bool:=decide (t.o=1\/t.o=5)
def eB(t:Tm):Int:=if ky t≠0 then ky t else if rQ t=false\/(bV t).any Om=true then 10 else if 60<size t then 3 else 0
def ia:List Tm->Int
 |[]=>0
 |t::l=>if eB t≠0 then eB t else ia l
def kept(prev:Option (List Tm))(k:List Tm):Bool:=match prev with |none=>true |some p=>p.all λt=>cN k t
def Kx(bound k:List Tm):Bool:=k.all λt=>(bV t).all λx=>cN bound x
def lX:Option (List Tm)->List Tm->List eE->Int
 |_,_,[]=>0
 |prev,bound,d::l=>
  if 40<d.kn.length then 3
  else if ia (d.kn++[d.tm])≠0 then ia (d.kn++[d.tm])
  else if kept prev d.kn=false then 9
  else if Kx bound d.kn=false then 13
  else lX (some d.kn) (bound++bV d.tm) l
def nL(l:List eE):Int:=if 40<l.length then 3 else lX none [] l
def lc(x t:Tm):Bool:=decide (valid x=0/\valid t=0/\x.k=1/\(x.o=0\/(t.k≠3/\t.o=x.o)))
def By(b:c9):Int:=if valid b.v≠0 then valid b.v else if b.v.k≠1\/aU b.v b.t=0 then 1 else if valid b.t≠0 then valid b.t else if lc b.v b.t=false then 10 else 0
def behind(prev:Option Tm)(x:Tm):Bool:=match prev with |none=>true |some p=>decide (aU p x<0)
def nV:Option Tm->List c9->Int
 |_,[]=>0
 |prev,b::l=>if By b≠0 then By b else if behind prev b.v=false then 5 else nV (some b.v) l
def lN(s:List c9):Int:=if 200<s.length then 3 else nV none s
def lO:List c9->Tm->Tm
 |[],x=>x
 |b::s,x=>if aU b.v x=0 then b.t else lO s x
mutual
def bw(s:List c9):Tm->Tm
 | .mk k n o l=>if k=1 then lO s (.mk k n o l)else .mk k n o (bG s l)
def bG(s:List c9):List Tm->List Tm
 |[]=>[]
 |t::l=>bw s t::bG s l
end
def b8(s:List c9)(t:Tm):Tm×Int:=if valid t≠0 then(eU,valid t)else if valid (bw s t)≠0 then(eU,valid (bw s t))else(bw s t,0)
def js(s:List c9):List Tm->Int
 |[]=>0
 |t::l=>if(b8 s t).2≠0 then(b8 s t).2 else js s l
def qU(s:List c9)(d:eE):Int:=if js s d.kn≠0 then js s d.kn else(b8 s d.tm).2
def RT(s:List c9)(d:eE):eE:=⟨bG s d.kn,bw s d.tm⟩
theorem gf(t:Tm):t∈pre t:=by cases t;simp[pre]
theorem bN(s:List c9)(l:List Tm):bG s l=l.map (bw s):=by
 induction l with
 |nil=>rfl
 |cons t l ih=>simp[bG,ih]
theorem gy(s:List c9)(l:List Tm):(bG s l).length=l.length:=by rw[bN];simp
open Go.Proofs
set_option maxRecDepth 100000
set_option maxHeartbeats 2000000
instance:Inhabited eE:=⟨⟨[],eU⟩⟩
instance:Inhabited c9:=⟨⟨eU,eU⟩⟩
theorem dF.grow{w w':World}(g:dF w w'):∃q os',w'=Go.Sort.grow (w.drewN q) os':=by
 refine⟨w'.drawn - w.drawn,w'.heap.extract w.heap.size w'.heap.size,?_⟩
 have hh:w'.heap=w.heap++w'.heap.extract w.heap.size w'.heap.size:=by
  apply Array.ext_getElem?
  intro i
  have hs:=g.size
  by_cases hi:i<w.heap.size
  ·rw[g.aR i hi,Array.getElem?_append_left hi]
  ·rw[Array.getElem?_append_right (by omega),Array.getElem?_extract]
   by_cases h2:i<w'.heap.size
   ·rw[if_pos (by omega)];congr 1;omega
   ·rw[if_neg (by omega),abJ (by omega)]
 obtain⟨hp,tp,dr,os,out⟩:=w';have h1:=g.os;have h2:=g.tape;have h3:=g.output;have h4:=g.drawn;simp only at h1 h2 h3 h4 hh;subst h1 h2 h3;simp only[Go.Sort.grow,World.drewN];rw[<-hh]
 congr 1
 omega
section
variable{C:cP}(T:lL C.P)
variable{ops:Array Oper}{i:Nat}{d:Nat}{ty:TypeId}{pos:String}{af:Array Edge}{r:List Oper}{ρ:Nat->PV}{L:List (Nat×PV)}{h:ab}{Q:St->Prop}
set_option maxHeartbeats 4000000
theorem sS{P:Program}{t el:TypeId}{id ep len b:Nat}{o:au}{k:IntKind}(hu:P.underlying t=some (.slice el))(hs:cu P el=some o.bC)(hg:getM h id ep=some o)(hb:b<=len)(hle:len<=o.es.length):
  cg P h t (.ak id ep 0 len) none (some (.int k (b:Int))) none=some (.ak id ep 0 b):=by
 have h1:¬((len:Int)<(b:Int)):=by omega
 simp[cg,hu,hs,hg,hle,beyond,h1,cF,hb]
theorem pW{P:Program}{t el:TypeId}{id ep len a:Nat}{o:au}{k:IntKind}(hu:P.underlying t=some (.slice el))(hs:cu P el=some o.bC)(hg:getM h id ep=some o)(ha:a<=len)(hle:len<=o.es.length):
  cg P h t (.ak id ep 0 len) (some (.int k (a:Int))) none none=some (if a=0 then .ak id ep 0 len else if len - a=0 then .aa false []else .ak id ep a (len - a)):=by
 simp[cg,hu,hs,hg,hle,beyond,cF,ha]
 by_cases h0:a=0
 ·simp[h0]
 ·by_cases h1:len - a=0 <;>simp[h0,h1]
theorem Kv{P:Program}{t el:TypeId}{id ep len a b:Nat}{o:au}{k k' k2:IntKind}(hu:P.underlying t=some (.slice el))(hs:cu P el=some o.bC)(hg:getM h id ep=some o)(ha:a<=b)(hb:b<=len)(bJ:a<len)(hle:len<=o.es.length):
  cg P h t (.ak id ep 0 len) (some (.int k (a:Int))) (some (.int k' (b:Int))) (some (.int k2 (len:Int)))=some .any:=by
 have h1:¬len=a:=by omega
 simp[cg,hu,hs,hg,hle,beyond,cF,ha,hb,h1]
theorem yE{P:Program}{t el:TypeId}{id ep len a b:Nat}{o:au}{k k':IntKind}(hu:P.underlying t=some (.slice el))(hs:cu P el=some o.bC)(hg:getM h id ep=some o)(ha:a<=len)(hb:len<b)(hle:b<=o.es.length):
  cg P h t (.ak id ep 0 len) (some (.int k (a:Int))) (some (.int k' (b:Int))) none=some (if a=0 then .ak id ep 0 b else .ak id ep a (b - a)):=by
 have h1:(len:Int)<(b:Int):=by omega
 have h2:¬(b - a=0):=by omega
 have h3:len<=o.es.length:=by omega
 have h4:a<=b:=by omega
 simp[cg,hu,hs,hg,h3,beyond,h1,cF,hle,h4,h2]
 by_cases h0:a=0 <;>simp[h0]
theorem oS{P:Program}{t el:TypeId}{id ep len b:Nat}{o:au}{k':IntKind}(hu:P.underlying t=some (.slice el))(hs:cu P el=some o.bC)(hg:getM h id ep=some o)(hb:len<b)(hle:b<=o.es.length):
  cg P h t (.ak id ep 0 len) none (some (.int k' (b:Int))) none=some (.ak id ep 0 b):=by
 have h1:(len:Int)<(b:Int):=by omega
 have h3:len<=o.es.length:=by omega
 simp[cg,hu,hs,hg,h3,beyond,h1,cF,hle]
theorem R.slice{t:TypeId}{x:Operand}{lo hi mx:Option Operand}{p q:PV}{plo phi pmx:Option PV}(hx:cM L x=some p)(h1:lo.map (ev (al L ρ))=plo)(h2:hi.map (ev (al L ρ))=phi)(h3:mx.map (ev (al L ρ))=pmx)(hs:cg C.P h t p plo phi pmx=some q)
  (kk:ah C ops r ⟨al ((d,q)::L) ρ,h⟩ Q):ah C ops (⟨some d,.slice t x lo hi mx,ty,pos,af,none⟩::r) ⟨al L ρ,h⟩ Q:=
 ah.eR (λrun=>by simp only[ar,aC,an hx,h1,h2,h3,hs,aab]) kk
theorem D.slice{t:TypeId}{x:Operand}{lo hi mx:Option Operand}{p q:PV}{plo phi pmx:Option PV}(dp:aT h=true)(hx:cM L x=some p)(hv:bt (aL h) p=true)(h1:lo.map (ev (al L ρ))=plo)(h2:hi.map (ev (al L ρ))=phi)(h3:mx.map (ev (al L ρ))=pmx)
  (v1:plo.all (bt (aL h))=true) (v2:phi.all (bt (aL h))=true) (v3:pmx.all (bt (aL h))=true) (hs:cg C.P h t p plo phi pmx=some q)
  (kk:aW C ops (i+1) r ⟨⟨al ((d,q)::L) ρ,h⟩,h.length,[]⟩ Q):aW C ops i (⟨some d,.slice t x lo hi mx,ty,pos,af,none⟩::r) ⟨⟨al L ρ,h⟩,h.length,[]⟩ Q:=by
 refine aW.read rfl dp ?_ ⟨0,λn lv _ _=>by simp only[ar,aC,an hx,h1,h2,h3,hs,aab]⟩ kk;rw[<-h1]at v1;rw[<-h2]at v2;rw[<-h3]at v3;rw[Z1]
 intro y hy
 simp only[Op.operands]at hy
 cases lo <;>cases hi <;>cases mx <;>simp at hy v1 v2 v3 <;>rcases hy with rfl |hy <;>first
  |(rw[an hx];exact hv)
  |(simp_all;done)
  |(rcases hy with rfl |hy <;>first |assumption |(rcases hy with rfl |rfl <;>assumption)|(subst hy;assumption))
theorem wq{st xt el ql:TypeId}{sz fZ id ep k:Nat}{z u:PV}{ys:List PV}{o:au}(hk:T.kd st=some (.sl el))(fB:T.kd xt=some (.sl ql))(hs:T.ts el=some (sz+1))(hb:T.tb el=some fZ)(hz:T.tz el=some z)(jn:fZ<=1000)(hl:(cells z).length=sz+1)(ho:(cells z).all bI=true)
  (hu:cw h u=some ys) (hy:dB (sz+1) ys) (N':ys≠[]->jQ id u=true) (hg:getM h id ep=some o) (hm:o.mu=.m) (sM:o.bC=sz+1) (hle:k+ys.length<=o.es.length):
  bQ C.P 2 h st xt (.ak id ep 0 k) u=some (.ak id ep 0 (k+ys.length),h.set id {o with es:=o.es.take k++ys++o.es.drop (k+ys.length)}):=by
 unfold bQ;rw[bp (T.cU _ _ hk)];simp only[T.dT _ _ hs,T.rI _ _ hb,T.na _ _ hz,cG,bp (T.cU _ _ fB),hu];unfold dB at hy;rw[if_pos ⟨by omega,by omega,⟨hl,ho⟩,hy⟩];simp only[hg];rw[if_pos ⟨by omega,sM.symm⟩]
 cases ys with
 |nil=>
  have e1:o.es.take k++[]++o.es.drop (k+0)=o.es:=by simp
  have e2:h.set id {o with es:=o.es.take k++[]++o.es.drop (k+0)}=h:=by
   rw[e1];have h1:=(getM_some hg).1;have cI:=ag h1;rw[Z3 cI]at h1;have:(h[id]:au)={o with es:=o.es}:=ZZ h1;rw[<-this];exact acf cI
  simp only[List.isEmpty_nil,if_true,aaE,abx]at e2 ⊢;rw[e2]
 |cons y ys=>
  have bJ:(y::ys).isEmpty=false:=rfl;simp only[bJ,aad,if_false];rw[if_pos ⟨trivial,Z5 _,hm,N' (by simp),hle⟩]
theorem D.wq{st xt el ql:TypeId}{sz fZ id ep k L0:Nat}{own:List Nat}{z u:PV}{ys:List PV}{o:au}{x y:Operand}(cE:level ops (before ops) i=2)(hx:cM L x=some (.ak id ep 0 k))(RK:cM L y=some u)(hk:T.kd st=some (.sl el))(fB:T.kd xt=some (.sl ql))(hs:T.ts el=some (sz+1))(hb:T.tb el=some fZ)(hz:T.tz el=some z)(jn:fZ<=1000)(hl:(cells z).length=sz+1)(ho:(cells z).all bI=true)
  (hu:cw h u=some ys) (hy:dB (sz+1) ys) (N':ys≠[]->jQ id u=true) (hg:getM h id ep=some o) (hm:o.mu=.m) (sM:o.bC=sz+1) (hle:k+ys.length<=o.es.length)
  (kk:aW C ops (i+1) r ⟨⟨al ((d,.ak id ep 0 (k+ys.length))::L) ρ,h.set id {o with es:=o.es.take k++ys++o.es.drop (k+ys.length)}⟩,(h.set id {o with es:=o.es.take k++ys++o.es.drop (k+ys.length)}).length,[]⟩ Q):
  aW C ops i (⟨some d,.call ⟨.builtin .append,#[x,y],#[st,xt]⟩,ty,pos,af,none⟩::r) ⟨⟨al L ρ,h⟩,L0,own⟩ Q:=by
 refine aW.two rfl cE ⟨0,λn _=>?_⟩ kk;have mq:=Pm.wq T hk fB hs hb hz jn hl ho hu hy N' hg hm sM hle;simp only[ar,bo,aah,aas,an hx,an RK,mq]
theorem R.Kw{t el:TypeId}{id ep off len:Nat}{z:PV}{o:au}{x:Operand}(hx:cM L x=some (.ak id ep off len))(hk:T.kd t=some (.sl el))(hs:T.ts el=some o.bC)(hz:T.tz el=some z)(hl:(cells z).length=o.bC)(ho:(cells z).all bI=true)(hg:getM h id ep=some o)(hm:o.mu=.m)(hle:off+len<=o.es.length)
  (kk:ah C ops r ⟨al L ρ,h.set id {o with es:=o.es.take off++List.replicate len z++o.es.drop (off+len)}⟩ Q):ah C ops (⟨none,.call ⟨.builtin .clear,#[x],#[t]⟩,ty,pos,af,none⟩::r) ⟨al L ρ,h⟩ Q:=by
 refine ah.val (v:=.cx []) (h':=h.set id {o with es:=o.es.take off++List.replicate len z++o.es.drop (off+len)}) rfl (λrun=>?_) kk;simp only[ar,bo,aah,aas,an hx,mf,bp (T.cU _ _ hk),T.dT _ _ hs,T.na _ _ hz,hg];rw[if_pos ⟨Z5 _,hm,trivial,hle,hl,ho⟩]
end
attribute [local irreducible] aE az aI aJ Ev ah ai ax aW
namespace Zero
set_option maxHeartbeats 4000000
theorem RM(N:Nat){h:ab}{id ep len k:Nat}{o:au}(hg:getM h id ep=some o)(hm:o.mu=.m)(hz:o.bC=5)(hle:len<=o.es.length)(hk:k<len)(hn:len<100000000)(fN:(o.es.take len).all (kc 5)=true)(dp:aT h=true):
  ∃oc:List PV,oc.length=o.es.length/\oc.take (len - 1)=(o.es.take len).take k++(o.es.take len).drop (k+1)/\
   ax C0 352 [.ak id ep 0 len,.int .i64 (k:Int),.int .i64 ((k:Int)+1)] h (λr h'=>r=.ak id ep 0 (len - 1)/\h'=h.set id {o with es:=oc}):=by
 have XG:=(getM_some hg).1;have cI:=ag XG
 have im:aL h id=true:=by
  unfold aL;rw[XG];simp[hm]
 obtain⟨ys,oh⟩:∃ys,ys=(o.es.drop (k+1)).take (len - (k+1)):=⟨_,rfl⟩;have Vy:ys.length=len - (k+1):=by rw[oh];simp;omega
 have Ez:dB 5 ys:=by
  unfold dB;rw[Z1]at fN ⊢
  intro v hv
  rw[oh]at hv
  have ez:v∈o.es.take len:=by
   have:(o.es.drop (k+1)).take (len - (k+1))=(o.es.take len).drop (k+1):=by rw[acq]
   rw[this]at hv;exact aaI hv
  have:=fN v ez;unfold kc at this;simp only[Z9]at this ⊢;exact⟨this.1.2,this.2⟩
 obtain⟨dA,nJ⟩:∃dA,dA=o.es.take k++ys++o.es.drop (k+ys.length):=⟨_,rfl⟩;have cE:dA.length=o.es.length:=by rw[nJ];simp;omega
 refine⟨dA.take (len - 1)++List.replicate 1 (.agg [.int .i64 0,.str ByteArray.empty,.int .i64 0,.aa true [],.int .i64 0])++dA.drop (len - 1+1),by simp;omega,?_,?_⟩
 ·have e1:(dA.take (len - 1)++List.replicate 1 (.agg [.int .i64 0,.str ByteArray.empty,.int .i64 0,.aa true [],.int .i64 0]:PV)++dA.drop (len - 1+1)).take (len - 1)=dA.take (len - 1):=by
   rw[aat,aaA (by simp;omega),abe];congr 1;omega
  rw[e1,nJ];have e2:(o.es.take k++ys).length=len - 1:=by simp;omega
  rw[aaA (by omega),aar (by omega),abe,oh]
  congr 1
  ·congr 1;omega
  ·rw[acq]
 ·refine ax.dJ Tryz.func352 rfl ?_;have hu:C0.P.underlying 175=some (.slice 187):=bp (T6.cU 175 _ rfl);have gv:cu C0.P 187=some o.bC:=by rw[hz];exact T6.dT 187 5 rfl
  have hsT:T6.ts 187=some o.bC:=by rw[hz];rfl
  have hj:((k:Int)+1)=((k+1:Nat):Int):=by omega
  refine wXD ?_;apply R.yB T6 (o:=o);exact rfl;exact rfl;exact hg;exact(by omega)
  skip
  apply R.slice
  ·exact rfl
  ·exact rfl
  ·exact rfl
  ·exact rfl
  ·show cg C0.P h 175 (.ak id ep 0 len) (some (.int .i64 (k:Int))) (some (.int .i64 ((k:Int)+1))) (some (.int .i64 (len:Int)))=some .any;rw[hj];exact Kv hu gv hg (by omega) (by omega) (by omega) hle
  refine wXF λhc=>?_;apply R.yB T6 (o:=o);exact rfl;exact rfl;exact hg;exact(by omega);refine wXD ?_;apply D.slice
  ·exact dp
  ·exact rfl
  ·exact im
  ·exact rfl
  ·exact rfl
  ·exact rfl
  ·exact rfl
  ·exact rfl
  ·exact rfl
  ·exact sS (b:=k) (k:=.i64) hu gv hg (by omega) hle
  refine wXD ?_;apply D.slice
  ·exact dp
  ·exact rfl
  ·exact im
  ·exact rfl
  ·exact rfl
  ·exact rfl
  ·exact rfl
  ·exact rfl
  ·exact rfl
  ·show cg C0.P h 175 (.ak id ep 0 len) (some (.int .i64 ((k:Int)+1))) none none=_;rw[hj];exact pW hu gv hg (by omega) hle
  rw[if_neg (by omega)];apply D.wq T6 (ys:=ys) (o:=o) (sz:=4)
  ·exact rfl
  ·exact rfl
  ·exact rfl
  ·exact rfl
  ·exact rfl
  ·exact rfl
  ·exact rfl
  ·exact rfl
  ·exact(by decide)
  ·exact rfl
  ·exact rfl
  ·split
   ·have:ys=[]:=aaf (by omega);rw[this];rfl
   ·simp only[cw,hg];rw[if_pos (by omega),oh]
  ·exact Ez
  ·intro bJ
   rw[if_neg (λhh=>bJ (aaf (by omega)))];simp[jQ]
  ·exact hg
  ·exact hm
  ·exact hz
  ·omega
  have AE:k+ys.length=len - 1:=by omega
  have zd:h.set id {o with es:=o.es.take k++ys++o.es.drop (k+ys.length)}=h.set id {o with es:=dA}:=by rw[nJ]
  have RN:=(getM_some hg).2.1;have ve:getM (h.set id {o with es:=dA}) id ep=some {o with es:=dA}:=bg (Z6 cI) RN (by show o.mu≠.x;rw[hm];simp);refine aW.heap zd ?_;rw[AE];clear zd;refine wXD ?_;apply R.yB T6 (o:={o with es:=dA});exact rfl;exact rfl;exact ve;exact(by show 0+(len - 1)<=dA.length;omega);refine wXD ?_;apply R.slice
  ·exact rfl
  ·exact rfl
  ·exact rfl
  ·exact rfl
  ·exact yE (o:={o with es:=dA}) (len:=len - 1) (a:=len - 1) (b:=len) (k:=.i64) (k':=.i64) hu gv ve (Z5 _) (by omega) (by show len<=dA.length;omega)
  by_cases h1:len - 1=0
  ·rw[if_pos h1];have Vz:len=1:=by omega
   subst Vz;apply R.Kw T6 (o:={o with es:=dA}) (z:=.agg [.int .i64 0,.str ByteArray.empty,.int .i64 0,.aa true [],.int .i64 0])
   ·exact rfl
   ·exact rfl
   ·exact hsT
   ·exact rfl
   ·show 5=o.bC;omega
   ·rfl
   ·exact ve
   ·exact hm
   ·show 0+1<=dA.length;omega
   refine wXD ?_;exact⟨rfl,by rw[aaY]⟩
  ·rw[if_neg h1];have h2:len - (len - 1)=1:=by omega
   rw[h2];apply R.Kw T6 (o:={o with es:=dA}) (z:=.agg [.int .i64 0,.str ByteArray.empty,.int .i64 0,.aa true [],.int .i64 0])
   ·exact rfl
   ·exact rfl
   ·exact hsT
   ·exact rfl
   ·show 5=o.bC;omega
   ·rfl
   ·exact ve
   ·exact hm
   ·show len - 1+1<=dA.length;omega
   refine wXD ?_;exact⟨rfl,by rw[aaY]⟩
theorem EA:fq C0.P 352 kU:=by
 intro args h r h' e w F β vs H ha
 unfold kU at e
 split at e
 ·rename_i id ep len i j
  split at e
  ·rename_i o hg
   split at e
   ·rename_i hc
    obtain⟨hm,hz,hle,VA,rfl,hi,hn,fN,dp⟩:=hc;obtain⟨rfl,rfl⟩:=aaa (ZZ e);obtain⟨k,rfl⟩:=abg VA;have hk:k<len:=by omega
    obtain⟨oc,l3,t3,f3⟩:=RM 0 hg hm hz hle hk hn fN dp;unfold ax at f3;obtain⟨r3,h3,⟨rfl,rfl⟩,n0,Uo⟩:=f3;obtain⟨g1,g2,g3⟩:=getM_some hg;have cI:=ag g1;refine(S0 n0 _ (.inr (rF rfl)) _ h _ _ (Uo n0 (Z5 _)) w F β vs H ha).mono ?_;rintro en w' ⟨v,β1,rfl,q1,q2,q3,_⟩;have eo:(h.set id {o with es:=oc})[id]?=some {o with es:=oc}:=Z6 cI;obtain⟨bc,hb⟩:=dn q2.len eo;have sM:0<({o with es:=oc}:au).bC:=by show 0<o.bC;omega
    obtain⟨_,_,_,k2,_⟩:=(q2.obj id _ bc eo hb (by show o.mu≠.x;rw[hm];simp)).c sM;have YM:((o.es.take len).take k++(o.es.take len).drop (k+1)).length=len - 1:=by simp;omega
    have rs:=q2.nK eo hb hm ((o.es.take len).take k++(o.es.take len).drop (k+1)) (ep+1) (by show o.ep<ep+1;omega) (by rw[YM];simp only at k2;omega) (λi e he=>by
     left
     show oc[i]?=some e;rw[<-t3]at he;rw[aai]at he
     split at he
     ·exact he
     ·cases he)
    have kC:(h.set id {o with es:=oc}).set id {({o with es:=oc}:au)with es:=(o.es.take len).take k++(o.es.take len).drop (k+1),ep:=ep+1}=h.set id {o with ep:=ep+1,es:=(o.es.take len).take (Int.toNat (k:Int))++(o.es.take len).drop (Int.toNat (k:Int)+1)}:=by
     rw[aaY];rfl
    have vr:=aD.nK (A:=Av F (h.set id {o with ep:=ep+1,es:=(o.es.take len).take (Int.toNat (k:Int))++(o.es.take len).drop (Int.toNat (k:Int)+1)}) β1) eo hb hm q1 g2 (by show len - 1<=oc.length;omega) ((o.es.take len).take k++(o.es.take len).drop (k+1)) (ep+1);rw[kC]at rs vr;exact⟨v,β1,rfl,vr,rs.1,q3.trans rs.2,λhh=>by omega⟩
   ·cases e
  ·cases e
 ·cases e
end Zero
end Go.Pm
namespace Go.Pm
open Go.Proofs
variable{w:World}{F:Nat->Prop}{β:List (Nat×Nat)}{h:ab}
set_option maxRecDepth 100000
set_option maxHeartbeats 4000000
theorem R.CF{C:cP}(T:lL C.P){ops:Array Oper}{d:Nat}{ty:TypeId}{pos:String}{af:Array Edge}{r:List Oper}{ρ:Nat->PV}{L:List (Nat×PV)}{Q:St->Prop}{st xt el ql:TypeId}{sz fZ id ep len:Nat}{z:PV}{full:Bool}{ys:List PV}{o:au}{x y:Operand}(hx:cM L x=some (.ak id ep 0 len))(RK:cM L y=some (.aa full ys))(hk:T.kd st=some (.sl el))(fB:T.kd xt=some (.sl ql))(hs:T.ts el=some (sz+1))(hb:T.tb el=some fZ)(hz:T.tz el=some z)(jn:fZ<=1000)(hl:(cells z).length=sz+1)(ho:(cells z).all bI=true)
  (hy:dB (sz+1) ys) (bJ:ys.isEmpty=false) (hn:len+ys.length<1000000000) (hg:getM h id ep=some o) (hm:o.mu=.m) (sM:o.bC=sz+1) (hle:len<=o.es.length)
  (kk:ah C ops r ⟨al ((d,.ak id (ep+1) 0 (len+ys.length))::L) ρ,h.set id {o with ep:=ep+1,es:=o.es.take len++ys}⟩ Q):
  ah C ops (⟨some d,.call ⟨.builtin .append,#[x,y],#[st,xt]⟩,ty,pos,af,none⟩::r) ⟨al L ρ,h⟩ Q:=by
 refine ah.eR (λrun=>?_) kk;have mq:=kK T (full:=full) hk fB hs hb hz jn hl ho hy bJ hn hg hm sM hle;simp only[ar,bo,aah,aas,an hx,an RK,mq]
theorem zN{P:Program}{t el:TypeId}{fl:Bool}{sz:Nat}{k:IntKind}(hu:P.underlying t=some (.slice el))(hs:cu P el=some sz):cg P h t (.aa fl []) (some (.int k 0)) none none=some (.aa fl []):=by
 simp[cg,hu,hs,cF]
attribute [local irreducible] aE az aI aJ Ev ah ai ax aW
theorem sc{sz:Nat}{e:PV}(h:kc sz e=true):dB sz [e]:=by
 unfold kc at h;simp only[Z9]at h;unfold dB;simp only[aaX,abw,abv,Z9];exact⟨h.1.2,h.2⟩
namespace Zero
theorem tC{h:ab}{fl:Bool}{e:PV}(he:kc 5 e=true):ax C0 351 [.aa true [],.int .i64 0,.aa fl [e]] h (λr h'=>r=.ak h.length 0 0 1/\h'=h++[⟨.m,0,5,[e]⟩]):=by
 refine ax.dJ Tryz.func351 rfl ?_;have hu:C0.P.underlying 175=some (.slice 187):=bp (T6.cU 175 _ rfl);have yg:([e]:List PV).length=1:=rfl;refine wXD ?_;apply R.slice
 ·exact rfl
 ·exact rfl
 ·exact rfl
 ·exact rfl
 ·exact zN hu (T6.dT 187 5 rfl)
 refine wXN (λhc hc=>?_) λhc hc=>?_
 all_goals try(exfalso;revert hc;decide)
 all_goals(
  apply R.iZ T6;exact rfl;exact rfl;exact rfl;exact rfl;exact rfl;exact rfl;exact rfl;exact(by decide);exact rfl;exact rfl;exact sc he;exact(by simp);exact(by show 1<_;decide);refine wXD ?_;exact⟨rfl,rfl⟩)
theorem tD{h:ab}{fl:Bool}{e:PV}{id ep len:Nat}{o:au}(he:kc 5 e=true)(hg:getM h id ep=some o)(hm:o.mu=.m)(hz:o.bC=5)(hle:len<=o.es.length)(hn:len<100000000):
  ax C0 351 [.ak id ep 0 len,.int .i64 (len:Int),.aa fl [e]] h (λr h'=>r=.ak id (ep+1) 0 (len+1)/\h'=h.set id {o with ep:=ep+1,es:=o.es.take len++[e]}):=by
 refine ax.dJ Tryz.func351 rfl ?_;have hu:C0.P.underlying 175=some (.slice 187):=bp (T6.cU 175 _ rfl);have yg:([e]:List PV).length=1:=rfl;have gv:cu C0.P 187=some o.bC:=by rw[hz];exact T6.dT 187 5 rfl
 refine wXD ?_;apply R.slice
 ·exact rfl
 ·exact rfl
 ·exact rfl
 ·exact rfl
 ·exact pW hu gv hg (Z5 _) hle
 refine wXF λhc=>?_
 all_goals try(exfalso;revert hc;decide)
 all_goals(
  apply R.yB T6 (o:=o);exact rfl;exact rfl;exact hg;exact(by omega);refine wXF λhc=>?_;apply R.CF T6 (o:=o);exact rfl;exact rfl;exact rfl;exact rfl;exact rfl;exact rfl;exact rfl;exact(by decide);exact rfl;exact rfl;exact sc he;exact rfl;exact(by show len+1<_;omega);exact hg;exact hm;exact hz;exact hle;refine wXD ?_;exact⟨rfl,rfl⟩)
end Zero
end Go.Pm
namespace Go.Pm
open Go.Proofs
variable{w:World}{F:Nat->Prop}{β:List (Nat×Nat)}{h:ab}
set_option maxRecDepth 100000
set_option maxHeartbeats 4000000
theorem AY(H:aZ w F β h){v:Value}{id ep off len:Nat}{o:au}(hv:aD w (Av F h β) β h v (.ak id ep off len))(hg:getM h id ep=some o)(hle:off+len<=o.es.length):
  ∃bc:Nat×Nat,β[id]?=some bc/\∃cap,v=.slice (some ⟨bc.1,off * o.bC,none⟩) len cap/\off+cap=bc.2:=by
 obtain⟨e1,e2,e3⟩:=getM_some hg;obtain⟨bc,hb⟩:=dn H.len e1;obtain⟨_,_,m3⟩:=hv.dL;exact⟨bc,hb,m3 o bc e1 hb e3 e2 hle⟩
theorem sa{P:Program}{a:Act}{ρ:Nat->PV}(H:aZ w F β h)(R:gR w (Av F h β) β h a ρ){t el:TypeId}{x:Operand}{id ep len:Nat}{o:au}{bc:Nat×Nat}(hu:P.underlying t=some (.slice el))(hx:ev ρ x=.ak id ep 0 len)(hg:getM h id ep=some o)(hb:β[id]?=some bc)(hle:len<=o.es.length):
  ∀oo:Oper,oo.op=.call ⟨.builtin .cap,#[x],#[t]⟩->uN P 2 w F β h (execOp a.eval oo) (.int .i64 (bc.2:Int)) h:=by
 intro oo ho
 have hv:=R.ev x;rw[hx]at hv;obtain⟨de,dO,cap,e1,e2⟩:=AY H hv hg (by omega);obtain rfl:=ZZ (hb.symm.trans dO);have hc:cap=bc.2:=by omega
 subst hc;obtain⟨d,op,ty,pos,af,g⟩:=oo;simp only at ho;subst ho;refine⟨.int .i64 (bc.2:Int),w,β,.inl ?_,.val (.int _ _),H,dS.refl w h β,λ_=>dF.refl w⟩
 have h1:(Builtin.cap_ #[t] ty #[a.eval x]).run P w=.ok (.int .i64 (bc.2:Int)) w:=by
  simp[Builtin.cap_,e1,bL hu,goInt]
 simp only[execOp,resolve,Sem.run_bind,Sem.run_pure,Result.andThen_ok,invoke,builtin];simp[h1]
theorem qo{P:Program}(w:World)(tS tR e:TypeId)(ht:P.underlying tS=some (.slice e))(size:Nat)(hz:∀w,(Go.sizeOf e).run P w=.ok size w)
  (a b:Addr) (la ca lb cb:Nat) (bJ:a.block≠b.block) (tA tB:TypeId) (kA kB:Nat)
  (hsa:w.shape? a.block=some (tA,kA)) (hsb:w.shape? b.block=some (tB,kB)) (OU:kA≠0)
  (UJ:w.frozen? b=false) (Wa:w.frozen? {block:=b.block,off:=kB}=false):
  (Extern.SlicesOverlaps.overlaps #[tS,tS] #[tR] #[.slice (some a) la ca,.slice (some b) lb cb]).run P w=.ok (.bool false) w:=by
 have Rq:(a.block !=b.block)=true:=by simpa using bJ
 have Y0:(a.block==b.block)=false:=by simpa using bJ
 conv=>lhs;arg 2;whnf
 have he:(#[tS,tS]:Array TypeId)[0]=tS:=rfl;have hbp:∀{α β:Type} (x:α) (f:α->Sem β),(pure x:Sem α).bind f=f x:=λ_ _=>rfl
 by_cases h0:la=0\/lb=0\/size=0
 ·simp[Sem.run,Sem.bind,hbp,he,ht,hz,h0]
 ·cases kA with
  |zero=>exact absurd rfl OU
  |succ kA=>
   cases h3:w.frozen? a <;>cases h4:w.frozen? {block:=a.block,off:=kA+1} <;>
    simp[Sem.run,Sem.bind,hbp,he,ht,hz,h0,Rq,Y0,frozen,noView,viewAt,mayBeOne,stringish,shape,hsa,hsb,UJ,Wa,h3,h4]
theorem qB{P:Program}{a:Act}{ρ:Nat->PV}(H:aZ w F β h)(R:gR w (Av F h β) β h a ρ){t el tR:TypeId}{sz:Nat}{x y:Operand}{f:FuncId}{fn:Func}{fl:Bool}{e1:PV}{id ep off n:Nat}{o:au}
  (hu:P.underlying t=some (.slice el)) (hs:cu P el=some sz) (hx:ev ρ x=.aa fl [e1]) (hy:ev ρ y=.ak id ep off n) (hg:getM h id ep=some o) (hm:o.mu=.m) (hle:off+n<=o.es.length)
  (hf : P.funcs[f]? = some fn) (Wi : (fn.name == "runtime.NumGoroutine") = false) (QG : fn.body.isNone = true) (hn : Extern.findNext fn = none) (he : Extern.find fn = some (Extern.SlicesOverlaps.overlaps #[t, t] #[tR])) {zM : Array TypeId} :
  ∀oo:Oper,oo.op=.call ⟨.value (.func f),#[x,y],zM⟩->uN P 2 w F β h (execOp a.eval oo) (.bool false) h:=by
 intro oo ho
 have Ts:=R.ev x;rw[hx]at Ts;have UL:=R.ev y;rw[hy]at UL;obtain⟨bc,hb,cap,ey,e2⟩:=AY H UL hg hle;obtain⟨g1,g2,g3⟩:=getM_some hg;obtain⟨T,cs,k1,k2,k3,k4,k5⟩:=(H.obj id o bc g1 hb g3).c (UL.dL.2.1 o g1).2;rcases Ts.fv.sO with h0 |⟨b,Y1,Ea,Ge,oI,ex,hnA,gv,yg,Tt,JG⟩
 ·cases h0
 have DX:b≠bc.1:=λhh=>hnA (.inr ⟨id,o,bc,g1,hb,hm,hh.symm⟩)
 have kr:=Tt 0 0 (by simp) gv
 obtain⟨tA,kA,hsa,OU⟩:∃tA kA,w.shape? b=some (tA,kA)/\kA≠0:=by
  simp only[World.cell?]at kr
  split at kr
  ·rename_i c el0 fr hh
   split at kr
   ·cases kr
   ·refine⟨el0,c.size,by simp[World.shape?,hh],?_⟩
    intro h0
    have:=(aap.1 kr).1;omega
  ·cases kr
 have hsb:w.shape? bc.1=some (T,cs.size):=by simp[World.shape?,k1]
 have XQ:∀of,w.frozen? ⟨bc.1,of,none⟩=false:=λof=>by simp[World.frozen?,k1]
 have hov:=qo (P:=P) w t tR el hu sz (λw=>cD hs w) ⟨b,Y1,none⟩ ⟨bc.1,off * o.bC,none⟩ 1 Ea n cap DX tA T kA cs.size hsa hsb OU (XQ _) (XQ _);obtain⟨d,op,ty,pos,af,g⟩:=oo;simp only at ho;subst ho;refine⟨.bool false,w,β,.inl ?_,.val (.bool _),H,dS.refl w h β,λ_=>dF.refl w⟩;have hc:=run_callFunc_extern hf Wi QG hn he #[a.eval x,a.eval y] w;rw[ex,ey]at hc;rw[show([e1]:List PV).length=1 from rfl]at hc;rw[hov]at hc;have hfv:a.eval (.func f)=.func (.func f) #[] #[]:=rfl;simp only[execOp,resolve,hfv,Deferred.ofValue,Sem.run_bind,Sem.run_pure,Result.andThen_ok,invoke];simp only[Array.append_empty,List.map_toArray,aah,aas,ex,ey];exact hc
theorem uj{P:Program}{a:Act}{ρ:Nat->PV}(H:aZ w F β h)(R:gR w (Av F h β) β h a ρ){st xt el:TypeId}{k:IntKind}{sz fZ n:Nat}{z:PV}{x y:Operand}{id ep len:Nat}{o:au}{bc:Nat×Nat}
  (hu:P.underlying st=some (.slice el)) (ND:P.underlying xt=some (.int k)) (hs:cu P el=some sz) (nQ:0<sz) (hb:mb P el=some fZ) (jn:fZ<=1000) (hz:iQ P el=some z) (hl:(cells z).length=sz) (tv:(cells z).all bI=true)
  (hx:ev ρ x=.ak id ep 0 len) (hy:ev ρ y=.int k (n:Int)) (hg:getM h id ep=some o) (nh:β[id]?=some bc) (hle:len<=o.es.length) (gv:o.bC=sz) (mP:bc.2<len+n) (hn:len+n<1000000000):
  ∀oo:Oper,oo.op=.call ⟨.builtin .append,#[x,y],#[st,xt]⟩->uN P 2 w F β h (execOp a.eval oo) (.ak h.length 0 0 (len+n)) (h++[⟨.m,0,sz,o.es.take len++List.replicate n z⟩]):=by
 intro oo ho
 obtain⟨d,op,ty,pos,af,g⟩:=oo;simp only at ho;subst ho;have Ts:=R.ev x;rw[hx]at Ts;have UL:=R.ev y;rw[hy]at UL;obtain⟨de,dO,cap,ex,e2⟩:=AY H Ts hg (by omega);obtain rfl:=ZZ (nh.symm.trans dO);have AW:cap=bc.2:=by omega
 subst AW;obtain⟨g1,g2,g3⟩:=getM_some hg;obtain⟨T,sJ,k1,k2,k3,k4,k5⟩:=(H.obj id o bc g1 nh g3).c (Ts.dL.2.1 o g1).2
 have main:AN P 2 w F β h (Builtin.append_ #[st,xt] ty #[a.eval x,a.eval y]) (.ak h.length 0 0 (len+n)) (h++[⟨.m,0,sz,o.es.take len++List.replicate n z⟩]):=by
  have Vy:(List.replicate n z).length=n:=abo
  have eF:(List.replicate n z).all (λv=>decide ((Pm.cells v).length=sz)&& (Pm.cells v).all bI)=true:=by
   rw[Z1]
   intro v hv
   obtain rfl:=aaT hv;rw[hl,tv];simp
  have Y2:cG P h z xt (.int k (n:Int))=some (List.replicate n z):=by
   simp only[cG,ND];rw[if_pos (by omega)];simp
  obtain⟨vz,z1,z2⟩:=jL (P:=P) hz;obtain⟨zb,d',a1,a2,news,a3,a4,a5,a6⟩:=sb (st:=st) (vz:=vz) H hs hb hz nQ (by omega) UL Y2 eF;rw[Vy]at a5 a6;have zsz:vz.cells.size=sz:=by rw[((z2 w (Av F h β) β h).cells tv).1];exact hl
  have iU:cw h (.ak id ep 0 len)=some ((o.es.drop 0).take len):=by simp only[cw,hg];rw[if_pos (by omega)]
  have Ey:((o.es.drop 0).take len).length=len:=by simp;omega
  obtain⟨a',Ea,ev',_,cs,f1,f2⟩:=ly (P:=P) (sz:=sz) H Ts iU (λy hy=>by
   obtain⟨k,hk⟩:=aaZ hy;rw[aai]at hk
   split at hk
   ·simp at hk;rw[<-gv];exact(k5 k y hk).1
   ·cases hk)
  simp only[aaV]at f1 Ey f2;have Ly:len+n<=17592186044416:=by omega
  have Tu:(len+n) * fZ<=17592186044416:=by
   have:(len+n) * fZ<=1000000000 * 1000:=ab8 (by omega) jn
   omega
  obtain⟨c,c1,fP⟩:=pq (P:=P) (w:=w) (ty:=ty) (ts:=#[st,xt]) (args:=#[a.eval x,a.eval y]) (olds:=cs) (sLen:=len) (sCap:=bc.2) (base:=some ⟨bc.1,0 * o.bC,none⟩) rfl rfl (by rw[ex];rfl) rfl hu hs a1 a2 hb (by omega) z1 a5 a6 (λw' D4=>by
   have:=f2 w' D4 len (by omega);rw[aar (by rw[f1.1,Ey];exact Z5 _)]at this;rw[<-ex];exact this) (by omega) Tu Ly
  have JI:=f1.append a3;have arr:cs.toArray++news.toArray++Builtin.zeroCells vz.cells (c - (len+n))=(cs++news++(Builtin.zeroCells vz.cells (c - (len+n))).toList).toArray:=by apply abq;simp
  have arrsz:c * sz<=(cs.toArray++news.toArray++Builtin.zeroCells vz.cells (c - (len+n))).size:=by
   simp only[Array.size_append,ab9,size_zeroCells,zsz,f1.1,a3.1,Ey,Vy,<-aaO];rw[show len+n+(c - (len+n))=c by omega];exact Z5 _
  obtain⟨HH,S⟩:=aZ.new H (w':=w.drew.alloc (.cells (cs.toArray++news.toArray++Builtin.zeroCells vz.cells (c - (len+n))) el)) el
   (cs.toArray++news.toArray++Builtin.zeroCells vz.cells (c - (len+n))) {mu:=.m,ep:=0,bC:=sz,es:=o.es.take len++List.replicate n z} c rfl rfl rfl rfl rfl (by simp;omega)
   arrsz nQ (λi e he=>by
    rw[arr];exact JI.obj (rest:=(Builtin.zeroCells vz.cells (c - (len+n))).toList) i e he)
  exact⟨_,_,_,fP,H.vq,HH,S,λhh=>by omega⟩
 obtain⟨v,w',β',r1,r2,r3,r4,r5⟩:=main;refine⟨v,w',β',.inl ?_,r2,r3,r4,r5⟩;simp only[execOp,resolve,Sem.run_bind,Sem.run_pure,Result.andThen_ok,invoke,builtin];simp only[List.map_toArray,aah,aas,r1,Result.andThen_ok]
theorem aZ.Lz{w w':World}{F:Nat->Prop}{β:List (Nat×Nat)}{h:ab}(H:aZ w F β h){id:Nat}{o:au}{bc:Nat×Nat}(eo:h[id]?=some o)(eb:β[id]?=some bc)(em:o.mu=.m)
  (T:TypeId) (cs:Array Value) (eT:List PV) (h9:Nat) (de:Nat×Nat)
  (gv:w.heap.size<=w'.heap.size) (cY:w'.heap[de.1]?=some (.cells cs T (0,0))) (qY:∀b,b<w.heap.size->w'.heap[b]?=w.heap[b]?)
  (BZ:w.heap.size<=de.1) (cI:o.ep<h9) (ho:w'.os=w.os) (ht:w'.tape=w.tape) (hu:w'.output=w.output)
  (h1:eT.length<=de.2) (h2:de.2 * o.bC<=cs.size)
  (h4:∀(i:Nat) (e:PV),eT[i]?=some e->(cells e).length=o.bC/\∀(j:Nat) (p:PV),(cells e)[j]?=some p->∃v:Value,cs[i * o.bC+j]?=some v/\aD w' (Av F (h.set id {o with es:=eT,ep:=h9}) (β.set id de)) (β.set id de) (h.set id {o with es:=eT,ep:=h9}) v p)
  (hd:w.drawn<=w'.drawn:=by first |exact Z5 _ |exact abI _) (V0:0<o.bC:=by first |assumption |omega):
  aZ w' F (β.set id de) (h.set id {o with es:=eT,ep:=h9})/\dS w h β w' (h.set id {o with es:=eT,ep:=h9}) (β.set id de):=by
 have hlen:=H.len;have bU:=ag eo;have SQ:0<o.bC:=V0;have mz:(h.set id {o with es:=eT,ep:=h9})[id]?=some {o with es:=eT,ep:=h9}:=by simp[bU]
 have bself:(β.set id de)[id]?=some de:=by simp[hlen,bU]
 have jW:∀k,k≠id->(h.set id {o with es:=eT,ep:=h9})[k]?=h[k]?:=λk hk=>Z7 (aaR hk)
 have both:∀k,k≠id->(β.set id de)[k]?=β[k]?:=λk hk=>Z7 (aaR hk)
 have hs:dS w h β w' (h.set id {o with es:=eT,ep:=h9}) (β.set id de):=by
  refine⟨gv,by simp,λb hb hm=>qY b hb,?_,?_,?_,ho,ht,hu,hd⟩
  ·rintro b hb ⟨k,o',c',e1,e2,e3,rfl⟩
   by_cases hk:k=id
   ·subst hk;rw[bself]at e2;obtain rfl:=ZZ e2;omega
   ·rw[jW k hk]at e1;rw[both k hk]at e2;exact⟨k,o',c',e1,e2,e3,rfl⟩
  ·intro k o' c' e1 e2 e3
   by_cases hk:k=id
   ·subst hk;rw[eo]at e1;rw[eb]at e2;obtain rfl:=ZZ e1;obtain rfl:=ZZ e2;exact⟨_,de,mz,bself,by rw[em];simp,⟨Nat.le_of_lt cI,λh=>h⟩,λe=>by simp at e;omega⟩
   ·exact⟨o',c',by rw[jW k hk];exact e1,by rw[both k hk];exact e2,e3,⟨Z5 _,λh=>h⟩,λ_=>⟨rfl,λ_=>rfl,rfl⟩⟩
  ·intro k o' e1 e2
   have hk:k≠id:=by
    rintro rfl;rw[eo]at e1;obtain rfl:=ZZ e1;exact e2 em
   exact⟨by rw[jW k hk];exact e1,both k hk⟩
 refine⟨⟨by simp[hlen],λb hb=>aaK (H.fin b hb) gv,?_,?_,?_⟩,hs⟩
 ·intro k o' c' e1 e2 e3
  by_cases hk:k=id
  ·subst hk;rw[mz]at e1;rw[bself]at e2;obtain rfl:=ZZ e1;obtain rfl:=ZZ e2;exact .inl ⟨T,cs,cY,h1,h2,SQ,h4⟩
  ·rw[jW k hk]at e1;rw[both k hk]at e2;have r:=H.obj k o' c' e1 e2 e3;exact ke.mono hs (qY _ r.lt) r
 ·intro k k' o1 o2 NE EQ bJ e1 e2 e3 e4 m1 m2
  by_cases hk:k=id
  ·subst hk;have fB:k'≠k:=aaR bJ;rw[jW k' fB]at e2;rw[both k' fB]at e4;rw[bself]at e3;obtain rfl:=ZZ e3;have:=(H.obj k' o2 EQ e2 e4 m2).lt;omega
  ·rw[jW k hk]at e1;rw[both k hk]at e3
   by_cases fB:k'=id
   ·subst fB;rw[bself]at e4;obtain rfl:=ZZ e4;have:=Mb.lt H ⟨k,o1,NE,e1,e3,m1,rfl⟩;omega
   ·rw[jW k' fB]at e2;rw[both k' fB]at e4;exact H.ig k k' o1 o2 NE EQ bJ e1 e2 e3 e4 m1 m2
 ·intro k o' c' e1 e2 e3
  by_cases hk:k=id
  ·subst hk;rw[bself]at e2;obtain rfl:=ZZ e2
   intro hf;have:=H.fin _ hf;omega
  ·rw[jW k hk]at e1;rw[both k hk]at e2;exact H.out k o' c' e1 e2 e3
end Go.Pm
namespace Go.Pm
open Go.Proofs
section
variable{w:World}{F:Nat->Prop}{β:List (Nat×Nat)}
variable{C:cP}(T:lL C.P)
variable{ops:Array Oper}{i:Nat}{d:Nat}{ty:TypeId}{pos:String}{af:Array Edge}{r:List Oper}{ρ:Nat->PV}{L:List (Nat×PV)}{h:ab}{Q:St->Prop}
set_option maxRecDepth 100000
set_option maxHeartbeats 4000000
theorem cS{P:Program}{t el:TypeId}{id ep len a:Nat}{o:au}{k:IntKind}(hu:P.underlying t=some (.slice el))(hs:cu P el=some o.bC)(hg:getM h id ep=some o)(ha:a<len)(hle:len<=o.es.length):
  cg P h t (.ak id ep 0 len) (some (.int k (a:Int))) none none=some (.ak id ep a (len - a)):=by
 rw[pW hu hs hg (by omega) hle]
 by_cases h0:a=0
 ·subst h0;simp
 ·rw[if_neg h0,if_neg (by omega)]
theorem LC{dt el:TypeId}{sz id ep off len:Nat}{u:PV}{ys:List PV}{o:au}(hk:T.kd dt=some (.sl el))(hs:T.ts el=some sz)(hu:cw h u=some ys)(hg:getM h id ep=some o)(hm:o.mu=.m)(hz:o.bC=sz)(hle:off+len<=o.es.length)
  (hy:ys.all (λv=>decide ((cells v).length=sz))=true) (OV:(ys.take (min ys.length len)).all (λv=>decide ((cells v).length=sz)&& (cells v).all bI)=true):
  yT C.P 2 h dt (.ak id ep off len) u=some (.int .i64 (min ys.length len:Nat),h.set id {o with es:=o.es.take off++ys.take (min ys.length len)++o.es.drop (off+min ys.length len)}):=by
 unfold yT;rw[bp (T.cU _ _ hk),hu];simp only[T.dT _ _ hs,hg];rw[if_pos ⟨Z5 _,hm,hz.symm,hle,hy,OV⟩]
theorem R.copy{dt xt el:TypeId}{sz id ep off len:Nat}{u:PV}{ys:List PV}{o:au}{x y:Operand}(hx:cM L x=some (.ak id ep off len))(RK:cM L y=some u)(hk:T.kd dt=some (.sl el))(hs:T.ts el=some sz)(hu:cw h u=some ys)(hg:getM h id ep=some o)(hm:o.mu=.m)(hz:o.bC=sz)(hle:off+len<=o.es.length)
  (hy:ys.all (λv=>decide ((cells v).length=sz))=true) (OV:(ys.take (min ys.length len)).all (λv=>decide ((cells v).length=sz)&& (cells v).all bI)=true)
  (kk:ah C ops r ⟨al ((d,.int .i64 (min ys.length len:Nat))::L) ρ,h.set id {o with es:=o.es.take off++ys.take (min ys.length len)++o.es.drop (off+min ys.length len)}⟩ Q):
  ah C ops (⟨some d,.call ⟨.builtin .copy,#[x,y],#[dt,xt]⟩,ty,pos,af,none⟩::r) ⟨al L ρ,h⟩ Q:=by
 refine ah.eR (λrun=>?_) kk;have mq:=LC T hk hs hu hg hm hz hle hy OV;simp only[ar,bo,aah,aas,an hx,an RK,mq]
theorem D.copy{dt xt el:TypeId}{sz id ep off len L0:Nat}{own:List Nat}{u:PV}{ys:List PV}{o:au}{x y:Operand}(cE:level ops (before ops) i=2)(hx:cM L x=some (.ak id ep off len))(RK:cM L y=some u)(hk:T.kd dt=some (.sl el))(hs:T.ts el=some sz)(hu:cw h u=some ys)(hg:getM h id ep=some o)(hm:o.mu=.m)(hz:o.bC=sz)(hle:off+len<=o.es.length)
  (hy:ys.all (λv=>decide ((cells v).length=sz))=true) (OV:(ys.take (min ys.length len)).all (λv=>decide ((cells v).length=sz)&& (cells v).all bI)=true)
  (kk:aW C ops (i+1) r ⟨⟨al ((d,.int .i64 (min ys.length len:Nat))::L) ρ,h.set id {o with es:=o.es.take off++ys.take (min ys.length len)++o.es.drop (off+min ys.length len)}⟩,(h.set id {o with es:=o.es.take off++ys.take (min ys.length len)++o.es.drop (off+min ys.length len)}).length,[]⟩ Q):
  aW C ops i (⟨some d,.call ⟨.builtin .copy,#[x,y],#[dt,xt]⟩,ty,pos,af,none⟩::r) ⟨⟨al L ρ,h⟩,L0,own⟩ Q:=by
 refine aW.two rfl cE ⟨0,λn _=>?_⟩ kk;have mq:=LC T hk hs hu hg hm hz hle hy OV;simp only[ar,bo,aah,aas,an hx,an RK,mq]
end
set_option maxRecDepth 100000
set_option maxHeartbeats 4000000
def tlC:Nat->Code->Code
 |0,c=>c
 |n+1,.seq _ b=>tlC n b
 |_,c=>c
attribute [local irreducible] aE az aI aJ Ev ah ai ax aW
namespace Zero
noncomputable def Lw:Code:=match Tryz.f351.body with |some c=>c |none=>.skip
theorem w9:Tryz.f351.body=some Lw:=rfl
variable{w:World}{F:Nat->Prop}{β:List (Nat×Nat)}
theorem r9{h:ab}{id ep len i N:Nat}{o:au}{fl:Bool}{e:PV}{a:Act}{Q:Exit->Act->World->Prop}(hg:getM h id ep=some o)(hz:o.bC=5)(hle:len<=o.es.length)(hi:i<len)(hn:len<100000000)(hN:N=Tryz.f351.ntmps)
  (RR:SR N w F β ⟨my [.ak id ep 0 len,.int .i64 (i:Int),.aa fl [e]],h⟩ a)
  (k:∀a' w' β' ρ',SR N w' F β' ⟨al [(0,.ak id ep 0 len),(1,.int .i64 (i:Int)),(2,.aa fl [e]),(7,.int .i64 1),(8,.int .i64 (len:Int))] ρ',h⟩ a'->dS w h β w' h β'->(tlC 6 Lw).wp C0.P Q a' w'):Lw.wp C0.P Q a w:=by
 subst hN;have hu:C0.P.underlying 175=some (.slice 187):=bp (T6.cU 175 _ rfl);have gv:cu C0.P 187=some o.bC:=by rw[hz];exact T6.dT 187 5 rfl
 have yg:([e]:List PV).length=1:=rfl;refine wp_seq ?_;refine cJ K0 bX S0 (M:=λex s'=>ex=.normal/\∃ρ',s'=⟨al [(0,.ak id ep 0 len),(1,.int .i64 (i:Int)),(2,.aa fl [e])] ρ',h⟩) rfl ?_ RR ?_
 ·rw[gU];refine wXD ?_;exact⟨rfl,_,St.aR ⟨rfl,rfl,rfl,trivial⟩⟩
 rintro ex s' a1 w1 β1 ⟨rfl,ρ1,rfl⟩ R1 S1;refine wp_seq ?_;refine cJ K0 bX S0 (M:=λex s'=>ex=.normal/\∃ρ',s'=⟨al [(0,.ak id ep 0 len),(1,.int .i64 (i:Int)),(2,.aa fl [e])] ρ',h⟩) rfl ?_ R1 ?_
 ·refine wXD ?_;apply R.slice
  ·exact rfl
  ·exact rfl
  ·exact rfl
  ·exact rfl
  ·exact cS hu gv hg hi hle
  refine wXD ?_;exact⟨rfl,_,St.aR ⟨rfl,rfl,rfl,trivial⟩⟩
 rintro ex s' a2 w2 β2 ⟨rfl,ρ2,rfl⟩ R2 S2;refine wp_seq ?_;refine cJ K0 bX S0 (M:=λex s'=>ex=.normal/\∃ρ',s'=⟨al [(0,.ak id ep 0 len),(1,.int .i64 (i:Int)),(2,.aa fl [e]),(7,.int .i64 1)] ρ',h⟩) rfl ?_ R2 ?_
 ·refine wXD ?_;exact⟨rfl,_,St.aR ⟨rfl,rfl,rfl,rfl,trivial⟩⟩
 rintro ex s' a3 w3 β3 ⟨rfl,ρ3,rfl⟩ R3 S3;refine wp_seq ?_;refine cJ K0 bX S0 (M:=λex s'=>ex=.normal/\∃ρ',s'=⟨al [(0,.ak id ep 0 len),(1,.int .i64 (i:Int)),(2,.aa fl [e]),(7,.int .i64 1)] ρ',h⟩) rfl ?_ R3 ?_
 ·refine wXF λhc=>?_;exact⟨rfl,_,St.aR ⟨rfl,rfl,rfl,rfl,trivial⟩⟩
 rintro ex s' a4 w4 β4 ⟨rfl,ρ4,rfl⟩ R4 S4;refine wp_seq ?_;refine cJ K0 bX S0 (M:=λex s'=>ex=.normal/\∃ρ',s'=⟨al [(0,.ak id ep 0 len),(1,.int .i64 (i:Int)),(2,.aa fl [e]),(7,.int .i64 1),(8,.int .i64 (len:Int))] ρ',h⟩) rfl ?_ R4 ?_
 ·refine wXD ?_;apply R.yB T6 (o:=o);exact rfl;exact rfl;exact hg;exact(by omega);refine wXD ?_;exact⟨rfl,_,St.aR ⟨rfl,rfl,rfl,rfl,rfl,trivial⟩⟩
 rintro ex s' a5 w5 β5 ⟨rfl,ρ5,rfl⟩ R5 S5;refine wp_seq ?_;refine cJ K0 bX S0 (M:=λex s'=>ex=.normal/\∃ρ',s'=⟨al [(0,.ak id ep 0 len),(1,.int .i64 (i:Int)),(2,.aa fl [e]),(7,.int .i64 1),(8,.int .i64 (len:Int))] ρ',h⟩) rfl ?_ R5 ?_
 ·refine wXF λhc=>?_;exact⟨rfl,_,St.aR ⟨rfl,rfl,rfl,rfl,rfl,trivial⟩⟩
 rintro ex s' a6 w6 β6 ⟨rfl,ρ6,rfl⟩ R6 S6;exact k _ _ _ _ R6 (((((S1.trans S2).trans S3).trans S4).trans S5).trans S6)
end Zero
end Go.Pm
namespace Go.Pm
open Go.Proofs
set_option maxRecDepth 100000
set_option maxHeartbeats 4000000
theorem xb{pre:List PV}{X e:PV}{i:Nat}(hi:i<pre.length){ys dA:List PV}(oh:ys=((pre++[X]).drop i).take (pre.length+1 - i))(nJ:dA=(pre++[X]).take (i+1)++ys.take (pre.length - i)++(pre++[X]).drop (i+1+(pre.length - i))):
  ys.take (pre.length - i)=pre.drop i/\dA.length=pre.length+1/\dA.take i++[e]++dA.drop (i+1)=pre.take i++[e]++pre.drop i:=by
 have h1:ys.take (pre.length - i)=pre.drop i:=by
  rw[oh,abe,aa1 (by omega)];rw[aaA (by simp;omega)];rw[aar (by simp;omega)]
 have h2:(pre++[X]).drop (i+1+(pre.length - i))=[]:=aaz (by simp;omega);have h3:dA=(pre++[X]).take (i+1)++pre.drop i:=by rw[nJ,h1,h2];simp
 have h4:((pre++[X]).take (i+1)).length=i+1:=by simp;omega
 refine⟨h1,by rw[h3];simp;omega,?_⟩
 congr 1
 ·congr 1
  rw[h3,aaA (by omega),abe,aaA (by omega)]
  congr 1;omega
 ·rw[h3,aa1 (by omega),aaz (by omega),aaL]
attribute [local irreducible] aE az aI aJ Ev ah ai ax aW
namespace Zero
variable{w:World}{F:Nat->Prop}{β:List (Nat×Nat)}
theorem tw{h:ab}{id ep len i:Nat}{o:au}{fl:Bool}{e X:PV}{pre:List PV}{vs:List Value}(H:aZ w F β h)(ha:L2 (aD w (Av F h β) β h) vs [.ak id ep 0 len,.int .i64 (i:Int),.aa fl [e]])
  (hg:getM h id ep=some o) (hm:o.mu=.m) (hz:o.bC=5) (iU:o.es=pre++[X]) (nI:pre.length=len) (hi:i<len) (hn:len<100000000) (fN:pre.all (kc 5)=true) (hX:(cells X).length=5) (he:kc 5 e=true) (dp:aT h=true):
  mh C0.P 2 w F β h 351 vs (.ak id ep 0 (len+1)) (h.set id {o with es:=pre.take i++[e]++pre.drop i}):=by
 have cX:o.es.length=len+1:=by rw[iU];simp[nI]
 have hu:C0.P.underlying 175=some (.slice 187):=bp (T6.cU 175 _ rfl);have rc:cu C0.P 187=some 5:=T6.dT 187 5 rfl;have gv:cu C0.P 187=some o.bC:=by rw[hz];exact rc
 obtain⟨g1,g2,g3⟩:=getM_some hg;have cI:=ag g1;obtain⟨bc,nh⟩:=dn H.len g1;obtain⟨T,cs,k1,k2,k3,k4,k5⟩:=(H.obj id o bc g1 nh g3).c (by omega);have AW:len+1<=bc.2:=by omega
 have im:aL h id=true:=by unfold aL;rw[g1];simp[hm]
 have hj:((len:Int)+1)=((len+1:Nat):Int):=by omega
 have tY:((i:Int)+1)=((i+1:Nat):Int):=by omega
 have dO:∀{w':World} {β':List (Nat×Nat)},dS w h β w' h β'->β'[id]?=some bc:=by
  intro w' β' S
  obtain⟨o',de,f1,f2,f3,f4,f5⟩:=S.refs id o bc g1 nh g3;obtain rfl:=ZZ (g1.symm.trans f1);rw[f2,(f5 rfl).2.2]
 refine ja (P:=C0.P) (c:=Lw) Tryz.func351 w9 H ha (λa RR=>r9 hg hz (by omega) hi hn rfl RR (λa1 w1 β1 ρ1 R1 S1=>?_));refine wp_seq ?_;refine wp_seq ?_;apply bY K0 S0 (pre:=[_,_,_,_]) (post:=[_]) (R:=R1) (M:=λs'=>∃ρ',s'=⟨al ((28,.int .i64 ((len:Int)+1))::(29,.ak id ep 0 len)::[(0,.ak id ep 0 len),(1,.int .i64 (i:Int)),(2,.aa fl [e]),(7,.int .i64 1),(8,.int .i64 (len:Int))]) ρ',h⟩) (M2:=λs'=>∃ρ',s'=⟨al ((31,.bool false)::[(0,.ak id ep 0 len),(1,.int .i64 (i:Int)),(2,.aa fl [e]),(7,.int .i64 1),(8,.int .i64 (len:Int))]) ρ',h⟩)
 ·rfl
 ·rfl
 ·refine wXD ?_;exact⟨_,St.aR ⟨rfl,rfl,rfl,rfl,rfl,rfl,rfl,trivial⟩⟩
 ·rintro s1 a2 w2 β2 ⟨ρ2,rfl⟩ R2 S2;refine⟨.int .i64 (bc.2:Int),h,sa (t:=175) (x:=.tmp 29) R2.hr R2.er hu (dz (t:=29) rfl ρ2) hg (dO (S1.trans S2)) (by omega) _ rfl,?_⟩;show ah C0 _ _ ⟨b9 (al _ ρ2) (some 30) (.int .i64 (bc.2:Int)),h⟩ _;rw[ck];refine wXF λhc=>?_;exact⟨_,St.aR ⟨rfl,rfl,rfl,rfl,rfl,rfl,trivial⟩⟩
 rintro s3 a3 w3 β3 ⟨ρ3,rfl⟩ R3 S3;refine cJ K0 bX S0 (M:=λex s'=>ex=.normal/\∃ρ',s'=⟨al [(0,.ak id ep 0 len),(1,.int .i64 (i:Int)),(2,.aa fl [e]),(7,.int .i64 1),(8,.int .i64 (len:Int))] ρ',h⟩) rfl ?_ R3 ?_
 ·refine wXD ?_;exact⟨rfl,_,St.aR ⟨rfl,rfl,rfl,rfl,rfl,trivial⟩⟩
 rintro ex s' a4 w4 β4 ⟨rfl,ρ4,rfl⟩ R4 S4;refine wp_seq ?_;refine cJ K0 bX S0 (M:=λex s'=>ex=.normal/\∃ρ',s'=⟨al [(0,.ak id ep 0 (len+1)),(1,.int .i64 (i:Int)),(2,.aa fl [e]),(7,.int .i64 1)] ρ',h⟩) rfl ?_ R4 ?_
 ·refine wXD ?_;apply R.slice
  ·exact rfl
  ·exact rfl
  ·exact rfl
  ·exact rfl
  ·show cg C0.P h 175 (.ak id ep 0 len) none (some (.int .i64 ((len:Int)+1))) none=_;rw[hj];exact oS hu gv hg (by omega) (by omega)
  refine wXD ?_;exact⟨rfl,_,St.aR ⟨rfl,rfl,rfl,rfl,trivial⟩⟩
 rintro ex s' a5 w5 β5 ⟨rfl,ρ5,rfl⟩ R5 S5;refine wp_seq ?_;refine wp_seq ?_;apply bY K0 S0 (pre:=[_,_,_,_,_,_]) (post:=[_]) (R:=R5) (M:=λs'=>∃ρ',s'=⟨al ((61,.aa fl [e])::(66,.ak id ep (i+1) (len+1 - (i+1)))::[(0,.ak id ep 0 (len+1)),(1,.int .i64 (i:Int)),(2,.aa fl [e]),(7,.int .i64 1)]) ρ',h⟩) (M2:=λs'=>∃ρ',s'=⟨al ((68,.bool true)::[(0,.ak id ep 0 (len+1)),(1,.int .i64 (i:Int)),(2,.aa fl [e]),(7,.int .i64 1)]) ρ',h⟩)
 ·rfl
 ·rfl
 ·refine wXD ?_;apply R.slice
  ·exact rfl
  ·exact rfl
  ·exact rfl
  ·exact rfl
  ·show cg C0.P h 175 (.ak id ep 0 (len+1)) (some (.int .i64 ((i:Int)+1))) none none=_;rw[tY];exact cS hu gv hg (by omega) (by omega)
  refine wXD ?_;exact⟨_,St.aR ⟨rfl,rfl,rfl,rfl,rfl,rfl,trivial⟩⟩
 ·rintro s1 a6 w6 β6 ⟨ρ6,rfl⟩ R6 S6;refine⟨.bool false,h,qB (t:=175) (tR:=4) (x:=.tmp 61) (y:=.tmp 66) (f:=379) R6.hr R6.er hu rc (dz (t:=61) rfl ρ6) (dz (t:=66) rfl ρ6) hg hm (by omega) Tryz.func379 (by kernel_rfl) (by kernel_rfl) (by kernel_rfl) (by kernel_rfl) _ rfl,?_⟩;show ah C0 _ _ ⟨b9 (al _ ρ6) (some 67) (.bool false),h⟩ _;rw[ck];refine wXD ?_;exact⟨_,St.aR ⟨rfl,rfl,rfl,rfl,rfl,trivial⟩⟩
 rintro s7 a7 w7 β7 ⟨ρ7,rfl⟩ R7 S7;obtain⟨ys,oh⟩:∃ys,ys=((pre++[X]).drop i).take (pre.length+1 - i):=⟨_,rfl⟩;obtain⟨dA,nJ⟩:∃dA,dA=(pre++[X]).take (i+1)++ys.take (pre.length - i)++(pre++[X]).drop (i+1+(pre.length - i)):=⟨_,rfl⟩;obtain⟨l1,l2,l3⟩:=xb (e:=e) (by omega) oh nJ;rw[nI]at l1 l2;have Vy:ys.length=len+1 - i:=by rw[oh];simp;omega
 have LA:∀v∈ys,(cells v).length=5:=by
  intro v hv
  rw[oh]at hv;have:=aaI (aaJ hv);rcases Z8.1 this with hv |hv
  ·have:=Z1.1 fN v hv;unfold kc at this;simp only[Z9,decide_eq_true_eq]at this;exact this.1.2
  ·obtain rfl:=aav.1 hv;exact hX
 have AX:(cells e).length=5/\(cells e).all bI=true:=by
  unfold kc at he;simp only[Z9,decide_eq_true_eq]at he;exact⟨he.1.2,he.2⟩
 have Lx:min ys.length (len+1 - (i+1))=len - i:=by omega
 have zd:h.set id {o with es:=o.es.take (i+1)++ys.take (min ys.length (len+1 - (i+1)))++o.es.drop (i+1+min ys.length (len+1 - (i+1)))}=h.set id {o with es:=dA}:=by
  rw[Lx,iU,nJ,nI]
 have ve:getM (h.set id {o with es:=dA}) id ep=some {o with es:=dA}:=bg (Z6 cI) g2 (by show o.mu≠.x;rw[hm];simp);have xa:min ([e]:List PV).length (len+1 - i)=1:=by show min 1 _=1;omega
 have qn:(h.set id {o with es:=dA}).set id {({o with es:=dA}:au)with es:=dA.take i++[e].take (min ([e]:List PV).length (len+1 - i))++dA.drop (i+min ([e]:List PV).length (len+1 - i))}=h.set id {o with es:=pre.take i++[e]++pre.drop i}:=by
  rw[aaY,xa,<-l3];rfl
 refine cJ K0 bX S0 (M:=λex s'=>ex=.ret/\∃ρ',s'=⟨al [(6,.ak id ep 0 (len+1))] ρ',h.set id {o with es:=pre.take i++[e]++pre.drop i}⟩) rfl ?_ R7 ?_
 ·refine wXD ?_;apply D.slice
  ·exact dp
  ·exact rfl
  ·exact im
  ·exact rfl
  ·exact rfl
  ·exact rfl
  ·exact rfl
  ·exact rfl
  ·exact rfl
  ·show cg C0.P h 175 (.ak id ep 0 (len+1)) (some (.int .i64 ((i:Int)+1))) none none=_;rw[tY];exact cS hu gv hg (by omega) (by omega)
  refine wXD ?_;apply D.slice
  ·exact dp
  ·exact rfl
  ·exact im
  ·exact rfl
  ·exact rfl
  ·exact rfl
  ·exact rfl
  ·exact rfl
  ·exact rfl
  ·exact cS hu gv hg (by omega) (by omega)
  apply D.copy T6 (ys:=ys) (o:=o) (sz:=5)
  ·exact rfl
  ·exact rfl
  ·exact rfl
  ·exact rfl
  ·exact rfl
  ·simp only[cw,hg];rw[if_pos (by omega),iU,oh,nI]
  ·exact hg
  ·exact hm
  ·exact hz
  ·omega
  ·rw[Z1]
   intro v hv
   simp[LA v hv]
  ·rw[Lx,l1,Z1]
   intro v hv
   have:=Z1.1 fN v (aaI hv);unfold kc at this;simp only[Z9]at this ⊢;exact⟨this.1.2,this.2⟩
  refine aW.heap zd ?_;refine wXD ?_;apply R.slice
  ·exact rfl
  ·exact rfl
  ·exact rfl
  ·exact rfl
  ·exact cS (o:={o with es:=dA}) hu gv ve (by omega) (by show len+1<=dA.length;omega)
  refine wXD ?_;apply R.copy T6 (ys:=[e]) (o:={o with es:=dA}) (sz:=5)
  ·exact rfl
  ·exact rfl
  ·exact rfl
  ·exact rfl
  ·exact rfl
  ·exact ve
  ·exact hm
  ·exact hz
  ·show i+(len+1 - i)<=dA.length;omega
  ·simp[AX.1]
  ·simp only[xa,abV,acr,aaX,abw,AX.1,AX.2];rfl
  refine wXD ?_;exact⟨rfl,_,(congrArg (λhh=>(⟨_,hh⟩:St)) qn).trans (St.aR ⟨rfl,trivial⟩)⟩
 rintro ex s8 a8 w8 β8 ⟨rfl,ρ8,rfl⟩ R8 S8;refine⟨.inr rfl,_,β8,R8,(((((S1.trans S3).trans S4).trans S5).trans S7).trans S8),[.ak id ep 0 (len+1)],?_,λu OL=>⟨β8,OL,R8.hr,(((((S1.trans S3).trans S4).trans S5).trans S7).trans S8)⟩⟩
 ·exact eA (L:=[(6,.ak id ep 0 (len+1))]) rfl
 all_goals rfl
end Zero
end Go.Pm
namespace Go.Pm
open Go.Proofs
set_option maxRecDepth 100000
set_option maxHeartbeats 4000000
mutual
theorem It{f g:Nat->Bool}(NJ:∀i,f i=true->g i=true):∀p,bt f p=true->bt g p=true
 | .int ..,_ | .bool _,_ | .str _,_ | .ek,_ | .aG,_ | .gm,_ | .aa ..,_ | .eH _,_ | .undef,_ | .any,_=>rfl
 | .agg cs,h=>by simp only[bt]at h ⊢;exact jK NJ cs h
 | .cx cs,h=>by simp only[bt]at h ⊢;exact jK NJ cs h
 | .fn _ cs,h=>by simp only[bt]at h ⊢;exact jK NJ cs h
 | .ni _ _ cs,h=>by simp only[bt]at h ⊢;exact jK NJ cs h
 | .ak ..,h=>by simp only[bt]at h ⊢;exact NJ _ h
 | .ptr ..,h=>by simp only[bt]at h ⊢;exact NJ _ h
 | .cB _,h=>by simp only[bt]at h ⊢;exact NJ _ h
theorem jK{f g:Nat->Bool}(NJ:∀i,f i=true->g i=true):∀cs,bz f cs=true->bz g cs=true
 |[],_=>rfl
 |c::r,h=>by
  simp only[bz,Z9]at h ⊢;exact⟨It NJ c h.1,jK NJ r h.2⟩
end
theorem lZ{h h':ab}(hv:∀i,aL h i=true->aL h' i=true)(ho:∀o'∈h',o'.mu=.x\/bz (aL h') o'.es=true\/∃o∈h,o.es=o'.es/\(o.mu=.x->o'.mu=.x))(dp:aT h=true):aT h'=true:=by
 unfold aT at dp ⊢;rw[Z1]at dp ⊢
 intro o' h1
 rcases ho o' h1 with h2 |h2 |⟨o,h2,h3,h4⟩
 ·simp[h2]
 ·rw[h2];simp
 ·have:=dp o h2;simp only[aaq,decide_eq_true_eq]at this ⊢;rcases this with hh |hh
  ·exact .inl (h4 hh)
  ·exact .inr (by rw[<-h3];exact jK hv _ hh)
theorem uh{h:ab}(dp:aT h=true):aT (h.map bR)=true:=by
 refine lZ (h:=h) (λi hi=>?_) (λo' h1=>?_) dp
 ·unfold aL at hi ⊢;rw[aaj]
  split at hi
  ·rename_i o ho
   rw[ho];simp only[aab,decide_eq_true_eq]at hi ⊢;exact λhh=>hi ((bD o).2.2.2.1.1 hh)
  ·cases hi
 ·obtain⟨o,h2,rfl⟩:=aak.1 h1;exact .inr (.inr ⟨o,h2,(bD o).2.2.1.symm,λhh=>(bD o).2.2.2.1.2 hh⟩)
theorem ui{h:ab}{n sz:Nat}{es:List PV}(hv:ao es=true)(dp:aT h=true):aT (h++[⟨.m,n,sz,es⟩])=true:=by
 refine lZ (h:=h) (λi hi=>?_) (λo' h1=>?_) dp
 ·unfold aL at hi ⊢
  split at hi
  ·rename_i o ho
   rw[Z0 (ag ho),ho];exact hi
  ·cases hi
 ·rcases Z8.1 h1 with h1 |h1
  ·exact .inr (.inr ⟨o',h1,rfl,λhh=>hh⟩)
  ·obtain rfl:=aav.1 h1;exact .inr (.inl (br _ _ hv))
theorem zL{es:List PV}{Z e:PV}{i len:Nat}(hi:i<len)(hl:len<=es.length){jt dA ys:List PV}(h1:jt=es.take i++List.replicate (len+1 - i) Z)(h2:dA=jt.take i++[e]++jt.drop (i+1))(h3:ys=(es.drop i).take (len - i)):
  jt.length=len+1/\dA.length=len+1/\ys.length=len - i/\ys=(es.take len).drop i/\dA.take (i+1)++ys++dA.drop (i+1+(len - i))=(es.take len).take i++[e]++(es.take len).drop i:=by
 have a1:jt.length=len+1:=by rw[h1];simp;omega
 have a2:dA.length=len+1:=by rw[h2];simp;omega
 have a3:ys.length=len - i:=by rw[h3];simp;omega
 have a4:ys=(es.take len).drop i:=by rw[h3,acq]
 refine⟨a1,a2,a3,a4,?_⟩;rw[aaz (by omega),aao,a4]
 congr 1
 rw[h2,aaA (by simp;omega),aar (by simp;exact Nat.min_le_left _ _)]
 congr 1
 rw[h1,aaA (by simp;omega),abe,abe]
 congr 1;omega
theorem GI{h:ab}{o:au}(hm:o.mu≠.x):getM (h++[o]) h.length o.ep=some o:=bg (by simp) rfl hm
theorem nM{h k:ab}{id ep:Nat}{o:au}(hg:getM h id ep=some o):getM (h++k) id ep=some o:=by
 obtain⟨g1,g2,g3⟩:=getM_some hg;exact bg (by rw[Z0 (ag g1)];exact g1) g2 g3
theorem set_push{h:ab}{o o':au}:(h++[o]).set h.length o'=h++[o']:=by
 rw[abp _ _ (Z5 _)];simp
attribute [local irreducible] aE az aI aJ Ev ah ai ax aW
namespace Zero
variable{w:World}{F:Nat->Prop}{β:List (Nat×Nat)}
theorem wZ{h:ab}{id ep len i:Nat}{o:au}{bc:Nat×Nat}{fl:Bool}{e:PV}{vs:List Value}(H:aZ w F β h)(ha:L2 (aD w (Av F h β) β h) vs [.ak id ep 0 len,.int .i64 (i:Int),.aa fl [e]])
  (hg:getM h id ep=some o) (hz:o.bC=5) (hle:len<=o.es.length) (nh:β[id]?=some bc) (AW:bc.2<len+1) (hi:i<len) (hn:len<100000000) (fN:(o.es.take len).all (kc 5)=true) (he:kc 5 e=true) (dp:aT h=true):
  mh C0.P 2 w F β h 351 vs (.ak h.length 0 0 (len+1)) (h++[⟨.m,0,5,(o.es.take len).take i++[e]++(o.es.take len).drop i⟩]):=by
 have hu:C0.P.underlying 175=some (.slice 187):=bp (T6.cU 175 _ rfl);have rc:cu C0.P 187=some 5:=T6.dT 187 5 rfl;have gv:cu C0.P 187=some o.bC:=by rw[hz];exact rc
 obtain⟨g1,g2,g3⟩:=getM_some hg;have cI:=ag g1;have hj:((i:Int)+1)=((i+1:Nat):Int):=by omega
 have Vr:((len:Int)+1 - (i:Int))=((len+1 - i:Nat):Int):=by omega
 have jr:i+(len+1 - i)=len+1:=by omega
 have dO:∀{w':World} {β':List (Nat×Nat)},dS w h β w' h β'->β'[id]?=some bc:=by
  intro w' β' S
  obtain⟨o',de,f1,f2,f3,f4,f5⟩:=S.refs id o bc g1 nh g3;obtain rfl:=ZZ (g1.symm.trans f1);rw[f2,(f5 rfl).2.2]
 obtain⟨jt,EZ⟩:∃jt,jt=o.es.take i++List.replicate (len+1 - i) (.agg [.int .i64 0,.str ByteArray.empty,.int .i64 0,.aa true [],.int .i64 0]:PV):=⟨_,rfl⟩;obtain⟨dA,nJ⟩:∃dA,dA=jt.take i++[e]++jt.drop (i+1):=⟨_,rfl⟩;obtain⟨ys,oh⟩:∃ys,ys=(o.es.drop i).take (len - i):=⟨_,rfl⟩;obtain⟨l1,l2,l3,l4,l5⟩:=zL hi hle EZ nJ oh
 have AX:(cells e).length=5/\(cells e).all bI=true/\aV e=true:=by
  unfold kc at he;simp only[Z9,decide_eq_true_eq]at he;exact⟨he.1.2,he.2,he.1.1⟩
 have Ez:ys.all (kc 5)=true:=by
  rw[l4,Z1]
  intro v hv
  exact Z1.1 fN v (aaI hv)
 have qZ:ao jt=true:=by
  rw[EZ,bu,abj,<-bu]
  have:ao (o.es.take i)=true:=by
   refine lu (sz:=5) ?_;rw[Z1]
   intro v hv
   refine Z1.1 fN v ?_;have:o.es.take i=(o.es.take len).take i:=by rw[abe];congr 1;omega
   rw[this]at hv;exact aaJ hv
  rw[this,abd,Z1]
  intro v hv
  obtain rfl:=aaT hv
  rfl
 have uJ:ao dA=true:=by
  rw[bu,Z1]at qZ ⊢
  intro v hv
  rw[nJ]at hv;rcases Z8.1 hv with hv |hv
  ·rcases Z8.1 hv with hv |hv
   ·exact qZ v (aaJ hv)
   ·obtain rfl:=aav.1 hv;exact AX.2.2
  ·exact qZ v (aaI hv)
 have E0:aT (h++[⟨.m,0,5,dA⟩])=true:=ui uJ dp;have OT:∀es,getM (h++[⟨.m,0,5,es⟩]) h.length 0=some ⟨.m,0,5,es⟩:=λes=>GI (o:=⟨.m,0,5,es⟩) (by simp)
 have Ti:∀es,getM (h++[⟨.m,0,5,es⟩]) id ep=some o:=λes=>nM hg
 have im:∀es,aL (h++[⟨.m,0,5,es⟩]) id=true:=λes=>by unfold aL;rw[Z0 cI,g1];simpa using g3
 have Lv:∀es,aL (h++[⟨.m,0,5,es⟩]) h.length=true:=λes=>by unfold aL;simp
 refine ja (P:=C0.P) (c:=Lw) Tryz.func351 w9 H ha (λa RR=>r9 hg hz (by omega) hi hn rfl RR (λa1 w1 β1 ρ1 R1 S1=>?_));refine wp_seq ?_;refine wp_seq ?_;apply bY K0 S0 (pre:=[_,_,_,_]) (post:=[_]) (R:=R1) (M:=λs'=>∃ρ',s'=⟨al ((28,.int .i64 ((len:Int)+1))::(29,.ak id ep 0 len)::[(0,.ak id ep 0 len),(1,.int .i64 (i:Int)),(2,.aa fl [e]),(7,.int .i64 1),(8,.int .i64 (len:Int))]) ρ',h⟩) (M2:=λs'=>∃ρ',s'=⟨al ((31,.bool true)::[(0,.ak id ep 0 len),(1,.int .i64 (i:Int)),(2,.aa fl [e]),(7,.int .i64 1),(8,.int .i64 (len:Int))]) ρ',h⟩)
 ·rfl
 ·rfl
 ·refine wXD ?_;exact⟨_,St.aR ⟨rfl,rfl,rfl,rfl,rfl,rfl,rfl,trivial⟩⟩
 ·rintro s1 a2 w2 β2 ⟨ρ2,rfl⟩ R2 S2;refine⟨.int .i64 (bc.2:Int),h,sa (t:=175) (x:=.tmp 29) R2.hr R2.er hu (dz (t:=29) rfl ρ2) hg (dO (S1.trans S2)) (by omega) _ rfl,?_⟩;show ah C0 _ _ ⟨b9 (al _ ρ2) (some 30) (.int .i64 (bc.2:Int)),h⟩ _;rw[ck];refine wXF λhc=>?_;exact⟨_,St.aR ⟨rfl,rfl,rfl,rfl,rfl,rfl,trivial⟩⟩
 rintro s3 a3 w3 β3 ⟨ρ3,rfl⟩ R3 S3
 have Tr:a3.eval (.tmp 31)=.bool true:=by
  have:=R3.er.ev (.tmp 31);rw[show ev (al ((31,PV.bool true)::[(0,.ak id ep 0 len),(1,.int .i64 (i:Int)),(2,.aa fl [e]),(7,.int .i64 1),(8,.int .i64 (len:Int))]) ρ3) (.tmp 31)=.bool true from dz (t:=31) rfl ρ3]at this;exact this.gd
 refine wp_cond_true Tr ?_;refine wp_seq ?_;apply bY K0 S0 (pre:=[_,_,_,_,_,_,_,_]) (post:=[_]) (R:=R3) (M:=λs'=>∃ρ',s'=⟨al ((34,.ak id ep 0 i)::(39,.int .i64 ((len:Int)+1 - (i:Int)))::[(0,.ak id ep 0 len),(1,.int .i64 (i:Int)),(2,.aa fl [e]),(7,.int .i64 1),(8,.int .i64 (len:Int))]) ρ',h⟩) (M2:=λs'=>∃ρ',s'=⟨al ((9,.ak h.length 0 0 (len+1))::[(0,.ak id ep 0 len),(1,.int .i64 (i:Int)),(2,.aa fl [e]),(7,.int .i64 1),(8,.int .i64 (len:Int))]) ρ',h++[⟨.m,0,5,jt⟩]⟩)
 case ho=>rfl
 case hg=>rfl
 ·refine wXD ?_;apply R.slice
  ·exact rfl
  ·exact rfl
  ·exact rfl
  ·exact rfl
  ·exact sS hu gv hg (by omega) hle
  refine wXD ?_;exact⟨_,St.aR ⟨rfl,rfl,rfl,rfl,rfl,rfl,rfl,trivial⟩⟩
 ·rintro s1 a4 w4 β4 ⟨ρ4,rfl⟩ R4 S4;have os:=uj (P:=C0.P) (st:=175) (xt:=3) (el:=187) (x:=.tmp 34) (y:=.tmp 39) (k:=.i64) (n:=len+1 - i) (len:=i) R4.hr R4.er hu (oF (T6.cU 3 _ rfl)) rc (by decide) (T6.rI 187 _ rfl) (by decide) (T6.na 187 (.agg [.int .i64 0,.str ByteArray.empty,.int .i64 0,.aa true [],.int .i64 0]) rfl) rfl rfl (dz (t:=34) rfl ρ4) (by rw[<-Vr];exact dz (t:=39) rfl ρ4) hg (dO ((S1.trans S3).trans S4)) (by omega) hz (by omega) (by omega);rw[jr,<-EZ]at os;refine⟨.ak h.length 0 0 (len+1),h++[⟨.m,0,5,jt⟩],os _ rfl,?_⟩;show ah C0 _ _ ⟨b9 (al _ ρ4) (some 40) (.ak h.length 0 0 (len+1)),_⟩ _;rw[ck];refine wXD ?_;exact⟨_,St.aR ⟨rfl,rfl,rfl,rfl,rfl,rfl,trivial⟩⟩
 rintro s5 a5 w5 β5 ⟨ρ5,rfl⟩ R5 S5;have Lx:min ([e]:List PV).length (len+1 - i)=1:=by show min 1 _=1;omega
 have xa:min ys.length (len+1 - (i+1))=len - i:=by omega
 have Wh:ys.take (len - i)=ys:=aar (by omega)
 have zd:(h++[⟨.m,0,5,jt⟩]:ab).set h.length {(⟨.m,0,5,jt⟩:au)with es:=jt.take i++[e].take (min ([e]:List PV).length (len+1 - i))++jt.drop (i+min ([e]:List PV).length (len+1 - i))}=h++[⟨.m,0,5,dA⟩]:=by
  rw[Lx,set_push,nJ];rfl
 have hh3:(h++[⟨.m,0,5,dA⟩]:ab).set h.length {(⟨.m,0,5,dA⟩:au)with es:=dA.take (i+1)++ys.take (min ys.length (len+1 - (i+1)))++dA.drop (i+1+min ys.length (len+1 - (i+1)))}=h++[⟨.m,0,5,(o.es.take len).take i++[e]++(o.es.take len).drop i⟩]:=by
  rw[xa,set_push,Wh,l5]
 refine cJ K0 bX S0 (M:=λex s'=>ex=.ret/\∃ρ',s'=⟨al [(6,.ak h.length 0 0 (len+1))] ρ',h++[⟨.m,0,5,(o.es.take len).take i++[e]++(o.es.take len).drop i⟩]⟩) rfl ?_ R5 ?_
 ·refine wXD ?_;apply R.slice
  ·exact rfl
  ·exact rfl
  ·exact rfl
  ·exact rfl
  ·exact cS hu rc (OT jt) (by omega) (by show len+1<=jt.length;omega)
  refine wXD ?_;apply R.copy T6 (ys:=[e]) (o:=⟨.m,0,5,jt⟩) (sz:=5)
  ·exact rfl
  ·exact rfl
  ·exact rfl
  ·exact rfl
  ·exact rfl
  ·exact OT jt
  ·exact rfl
  ·exact rfl
  ·show i+(len+1 - i)<=jt.length;omega
  ·simp[AX.1]
  ·simp only[Lx,abV,acr,aaX,abw,AX.1,AX.2.1];rfl
  rw[zd];refine wXD ?_;apply D.slice
  ·exact E0
  ·exact rfl
  ·exact Lv dA
  ·exact rfl
  ·exact rfl
  ·exact rfl
  ·exact rfl
  ·exact rfl
  ·exact rfl
  ·show cg C0.P _ 175 (.ak h.length 0 0 (len+1)) (some (.int .i64 ((i:Int)+1))) none none=_;rw[hj];exact cS hu rc (OT dA) (by omega) (by show len+1<=dA.length;omega)
  refine wXD ?_;apply D.slice
  ·exact E0
  ·exact rfl
  ·exact im dA
  ·exact rfl
  ·exact rfl
  ·exact rfl
  ·exact rfl
  ·exact rfl
  ·exact rfl
  ·exact cS hu gv (Ti dA) hi hle
  apply D.copy T6 (ys:=ys) (o:=⟨.m,0,5,dA⟩) (sz:=5)
  ·exact rfl
  ·exact rfl
  ·exact rfl
  ·exact rfl
  ·exact rfl
  ·simp only[cw,Ti];rw[if_pos (by omega),oh]
  ·exact OT dA
  ·exact rfl
  ·exact rfl
  ·show i+1+(len+1 - (i+1))<=dA.length;omega
  ·rw[Z1]
   intro v hv
   have:=Z1.1 Ez v hv;unfold kc at this;simp only[Z9]at this;exact this.1.2
  ·rw[xa,Wh,Z1]
   intro v hv
   have:=Z1.1 Ez v hv;unfold kc at this;simp only[Z9]at this ⊢;exact⟨this.1.2,this.2⟩
  refine aW.heap hh3 ?_;refine wXD ?_;exact⟨rfl,_,St.aR ⟨rfl,trivial⟩⟩
 rintro ex s8 a8 w8 β8 ⟨rfl,ρ8,rfl⟩ R8 S8;have SS:=(((S1.trans S3).trans S5).trans S8);refine⟨.inr rfl,_,β8,R8,SS,[.ak h.length 0 0 (len+1)],?_,λu OL=>⟨β8,OL,R8.hr,SS⟩⟩
 ·exact eA (L:=[(6,.ak h.length 0 0 (len+1))]) rfl
 all_goals rfl
end Zero
end Go.Pm
