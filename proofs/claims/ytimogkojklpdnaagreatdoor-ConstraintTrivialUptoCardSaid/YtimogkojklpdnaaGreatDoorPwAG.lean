/-
  Pm, a part. Conditions: none.
-/
import Derived.Test.YtimogkojklpdnaaGreatDoorPwAF
import Derived.Laws.Externs
import Derived.Laws.Cover3
import Derived.Test.YtimogkojklpdnaaGreatDoorRows
import Derived.WalkKit
import Derived.ProofKit
import Derived.Deep.Slices
import Derived.ChangeArms
import Derived.OpenShut
import Derived.JoinedCond
import Derived.WideKeyArgs
import Derived.Shelf.SlSortCmp.WholeK
import Derived.Lib.Overlaps
set_option linter.unusedVariables false
set_option linter.unusedSimpArgs false
set_option linter.unnecessarySimpa false
namespace Go.Pm
variable{w:World}{F:Nat->Prop}{X:List (Nat×Nat)}{h:ab}
theorem we{C:cW}(K:gB C){run:iR}(S:ir C run){N:Nat}{ops:Array Oper}{Q:Exit->Act->World->Prop}(hd:ops.toList.all (jQ N)=true)(rest:List Nat)(l2:List Oper):
  ∀(l:List Oper) (k:Nat) {w:World} {X:List (Nat×Nat)} {s s':St} {a:Act},ops.toList.drop k=l++l2->SR N w F X s a->dK C run ops l s=some s'->
   (∀a' w' X',SR N w' F X' s' a'->eD w s.h X w' s'.h X'->wpOps C.P ops Q rest a' w')->wpOps C.P ops Q (List.map (·+k) (List.range l.length)++rest) a w:=by
 intro l
 induction l with
 |nil=>
  intro k w X s s' a hl R e hQ
  simp[dK]at e;subst e;simpa using hQ a w X R (eD.refl w s.h X)
 |cons o r ih=>
  intro k w X s s' a hl R e hQ
  simp only[dK]at e
  have hk:ops[k]?=some o:=by
   rw[<-acw];have:(ops.toList.drop k)[0]?=some o:=by rw[hl];rfl
   rwa[acy]at this
  have hr:ops.toList.drop (k+1)=r++l2:=by
   have:=congrArg (List.drop 1) hl;rw[List.drop_drop]at this;simpa using this
  have x6:List.map (·+k) (List.range (o::r).length)++rest=k::(List.map (·+(k+1)) (List.range r.length)++rest):=by
   rw[ab9,aej];simp only[acg,acf,adY,aco]
   congr 2
   apply acZ
   intro x _
   simp;omega
  rw[x6];simp only[wpOps,hk]
  split at e
  ·rename_i s1 he
   have YL:jQ N o=true:=abX.1 hd o (by
    have:o∈ops.toList.drop k:=by rw[hl];simp
    exact acJ this)
   have:=A0 K S R YL he (Q:=Q) (next:=wpOps C.P ops Q (List.map (·+(k+1)) (List.range r.length)++rest)) (λa' w' X' R' S'=>ih (k+1) hr R' e (λa2 w2 X2 R2 S2=>hQ a2 w2 X2 R2 (S'.trans S2)))
   split
   ·rename_i hw;rw[if_pos hw]at this;exact .inl this
   ·rename_i hw;rw[if_neg hw]at this;exact this
  cases e
theorem CZ{P:Program}{N:Nat}{ops:Array Oper}{Q:Exit->Act->World->Prop}{rest:List Nat}{k:Nat}{o:Oper}{s:St}{a:Act}{p:PV}{h':ab}(hk:ops[k]?=some o)(hg:o.guard=none)(hd:jQ N o=true)(R:SR N w F X s a)
  (S:wO P 2 w F X s.h (execOp a.eval o) p h') (hK:∀a' w' X',SR N w' F X' ⟨cm s.O o.dst p,h'⟩ a'->eD w s.h X w' h' X'->wpOps P ops Q rest a' w'):wpOps P ops Q (k::rest) a w:=by
 simp only[wpOps,hk];have hw:Region.wanted o (yielded ops a.tmps)=true:=by simp[Region.wanted,hg]
 rw[if_pos hw]
 left
 have DU:=iJ hd R.sz;obtain⟨v,w',X',h1,h2,h3,h4,_⟩:=S
 have fin:∀u,u=v->wpOps P ops Q rest (a.put o.dst u) w':=by
  rintro u rfl;exact hK _ w' X' ⟨h3,(R.er.mono h4).put DU h2,by rw[dY];exact R.df,by rw[gG];exact R.sz⟩ h4
 unfold Oper.wp;rcases h1 with h1 |⟨h1,rfl⟩;rw[h1];exact fin _ rfl;rw[h1];exact fin _ rfl
theorem cg{C:cW}(K:gB C)(gz:∀n,ir C (fF C n)){N:Nat}{ops:Array Oper}{id:Nat}{Q:Exit->Act->World->Prop}(hd:ops.toList.all (jQ N)=true){pre post:List Oper}{o:Oper}(ho:ops.toList=pre++o::post)(hg:o.guard=none)
  {s:St} {a:Act} (R:SR N w F X s a) {M M2:St->Prop} (e1:ah C ops pre s M)
  (hs:∀s1 a1 w1 X1,M s1->SR N w1 F X1 s1 a1->eD w s.h X w1 s1.h X1->∃p h',wO C.P 2 w1 F X1 s1.h (execOp a1.eval o) p h'/\ah C ops post ⟨cm s1.O o.dst p,h'⟩ M2)
  (hQ:∀s3 a3 w3 X3,M2 s3->SR N w3 F X3 s3 a3->eD w s.h X w3 s3.h X3->Q .normal a3 w3):(Code.region id ops false).wp C.P Q a w:=by
 refine wp_region ?_;obtain⟨s1,m1,n0,TS⟩:=e1
 have ZU:ops.size=pre.length+(post.length+1):=by
  have:=congrArg List.length ho;simpa using this
 have x6:List.range ops.size=List.map (·+0) (List.range pre.length)++(pre.length::(List.map (·+(pre.length+1)) (List.range post.length)++[])):=by
  rw[ZU,List.range_add];simp only[adI,List.map_id',ack]
  congr 1
  rw[aej];simp only[acg,adI,adY]
  congr 1
  apply acZ
  intro x _
  simp;omega
 rw[x6];have YL:jQ N o=true:=abX.1 hd o (by rw[ho];simp)
 have hk:ops[pre.length]?=some o:=by
  rw[<-acw,ho,ab6 (abZ _)];simp
 refine we K (gz n0) hd _ (o::post) pre 0 (by simpa using ho) R (TS n0 (abZ _)) (λa1 w1 X1 R1 S1=>?_);obtain⟨p,h',os,e2⟩:=hs s1 a1 w1 X1 m1 R1 S1;obtain⟨s3,m3,n1,Cf⟩:=e2;refine CZ hk hg YL R1 os (λa2 w2 X2 R2 S2=>?_);refine we K (gz n1) hd [] [] post (pre.length+1) ?_ R2 (Cf n1 (abZ _)) (λa3 w3 X3 R3 S3=>?_)
 ·have:ops.toList.drop (pre.length+1)=post:=by
   rw[ho,List.drop_append];simp
  simpa using this
 ·simp only[wpOps];exact hQ s3 a3 w3 X3 m3 R3 (S1.trans (S2.trans S3))
theorem cR{C:cW}(K:gB C)(hm:C.P.follows .mixedOrders=true)(gz:∀n,ir C (fF C n)){N:Nat}{c:Code}{s:St}{a:Act}{M:Ex->St->Prop}{Q:Exit->Act->World->Prop}(hc:codeOk N c=true)(e:Ev C c s M)(R:SR N w F X s a)
  (hQ:∀ex s' a' w' X',M ex s'->SR N w' F X' s' a'->eD w s.h X w' s'.h X'->Q (SV ex) a' w'):c.wp C.P Q a w:=by
 obtain⟨ex,s',m,n0,hn⟩:=e;exact Fs K hm (gz n0) c hc (hn n0 n0 (abZ _) (abZ _)) R (λa' w' X' R' S'=>hQ ex s' a' w' X' m R' S')
theorem jD{P:Program}{f:FuncId}{fn:Func}{c:Code}{args:List PV}{vs:List Value}{r:PV}{h':ab}(Qn:P.funcs[f]?=some fn)(hc:fn.body=some c)(H:bo w F X h)(ha:L2 (aE w (Av F h X) X h) vs args)
  (hw:∀a,SR fn.ntmps w F X ⟨nw args,h⟩ a->c.wp P (λex a' w'=>(ex=.normal\/ex=.ret)/\∃s' X',SR fn.ntmps w' F X' s' a'/\eD w h X w' s'.h X'/\∃rs,dy P s'.h s'.O fn.results.toList=some rs/\
    ∀u,aE w' (Av F s'.h X') X' s'.h u (aR rs)->∃X2,aE w' (Av F h' X2) X2 h' u r/\bo w' F X2 h'/\eD w h X w' h' X2) a w):na P 2 w F X h f vs r h':=by
 refine calls_of_wp Qn hc ?_;have hlen:=ha.1
 have R:SR fn.ntmps w F X ⟨nw args,h⟩ {tmps:=vs.toArray++Array.replicate (fn.ntmps - vs.toArray.size) undef,defers:=[]}:=by
  refine⟨H,λt=>?_,rfl,by simp;omega⟩;show aE w (Av F h X) X h ((vs.toArray++Array.replicate (fn.ntmps - vs.toArray.size) undef).getD t Go.undef) (args.getD t .undef)
  by_cases ht:t<args.length
  ·have e1:(vs.toArray++Array.replicate (fn.ntmps - vs.toArray.size) undef).getD t Go.undef=vs.getD t Go.undef:=by
    rw[adt,ad1,if_pos (by simp;omega)];simp[List.getD]
   have e2:args.getD t .undef=args.getD t .any:=by simp[List.getD,ht]
   rw[e1,e2];exact ha.2 t ht
  ·have e1:(vs.toArray++Array.replicate (fn.ntmps - vs.toArray.size) undef).getD t Go.undef=Go.undef:=by
    rw[adt,ad1];rw[if_neg (by simp;omega)];rw[aee]
    split <;>rfl
   have e2:args.getD t .undef=.undef:=by simp[List.getD,ach (show args.length<=t by omega)]
   rw[e1,e2];exact .undef
 refine Code.wp_mono ?_ (hw _ R);rintro ex a' w' ⟨hex,s',X',R',S',rs,hrs,pF⟩;obtain⟨u,r1,r2⟩:=wg (P:=P) R'.hr R'.er fn hrs;obtain⟨X2,f1,f2,f3⟩:=pF u r2;rcases hex with rfl |rfl;exact⟨R'.df,u,r1,u,X2,rfl,f1,f2,f3,λhh=>by omega⟩;exact⟨R'.df,u,r1,u,X2,rfl,f1,f2,f3,λhh=>by omega⟩
theorem bo.oZ(H:bo w F X h){id:Nat}{o:aw}{bc:Nat×Nat}(eo:h[id]?=some o)(eb:X[id]?=some bc)(em:o.mu=.m)(eV:List PV)(iC:Nat)(Vf:o.ep<iC)(h1:eV.length<=bc.2)
  (h4:∀(i:Nat) (e:PV),eV[i]?=some e->o.es[i]?=some e\/((cells e).length=o.bQ/\∀p∈cells e,p=.any)) (hz:0<o.bQ:=by first |assumption |omega):
  bo w F X (h.set id {o with es:=eV,ep:=iC})/\eD w h X w (h.set id {o with es:=eV,ep:=iC}) X:=by
 obtain⟨T,cs,k1,k2,k3,k4,k5⟩:=(H.obj id o bc eo eb (by rw[em];simp)).c hz
 have SN:∀i:Nat,i<eV.length->i * o.bQ+o.bQ<=cs.size:=λi hi=>by
  have:(i+1) * o.bQ<=bc.2 * o.bQ:=acF _ (by omega);rw[acU,Nat.one_mul]at this;omega
 have:=H.set eo eb em (w':=w) T cs eV iC bc (abZ _) k1 (λ_ _ _=>rfl) (.inl ⟨rfl,λhh=>by omega⟩) (Nat.le_of_lt Vf) rfl rfl rfl h1 k3 (λi e he=>by
  rcases h4 i e he with hh |⟨h5,h6⟩;exact k5 i e hh
  ·refine⟨h5,λj p hp=>?_⟩;have hj:j<o.bQ:=by have:=ag hp;omega
   have hi:=ag he;have:=SN i hi;refine⟨cs[i * o.bQ+j],adk (by omega),?_⟩;rw[h6 p (acb hp)];exact .any _)
 rw[zj eb]at this;exact this
theorem aE.oZ{v:Value}{id ep n:Nat}{o:aw}{bc:Nat×Nat}(eo:h[id]?=some o)(eb:X[id]?=some bc)(em:o.mu=.m)(hv:aE w (Av F h X) X h v (.ak id ep 0 n))(he:o.ep=ep)(hn:n<=o.es.length)(eV:List PV)(iC:Nat){A:Nat->Prop}:
  aE w A X (h.set id {o with es:=eV,ep:=iC}) v (.ak id iC 0 n):=by
 obtain⟨_,m2,m3⟩:=hv.dW;obtain⟨cap,c1,c2⟩:=m3 o bc eo eb (by rw[em];simp) he (by omega);exact .ak v id iC 0 n {o with es:=eV,ep:=iC} bc ⟨_,_,_,c1⟩ (abY (ag eo)) eb (by show o.mu≠.x;rw[em];simp) ⟨abZ _,(m2 o eo).2⟩ (λ_ _=>⟨cap,c1,c2⟩)
end Go.Pm
namespace Go.Pm
open Go.Proofs
set_option maxRecDepth 20000
def UB:Mode->Bool
 | .pure=>true
 | .opened=>true
 |_=>false
def ZO:Mode->Bool
 | .no=>true
 | .ext _=>true
 |_=>false
def JB(C:cW)(f:FuncId):Bool:=!UB (C.mode f)||match C.P.funcs[f]? with
 |some fn=>match fn.body with
  |some c=>codeOk fn.ntmps c
  |none=>true
 |none=>true
def Fc(C:cW)(f:FuncId):Bool:=ZO (C.mode f)||match C.P.funcs[f]? with
 | some fn => fn.body.isSome && !(fn.name == "runtime.NumGoroutine")
 |none=>false
theorem WZ:((List.range 437).all (JB C))=true:=by kernel_rfl
theorem SK:((List.range 437).all (Fc C))=true:=by kernel_rfl
theorem BI{p:Nat->Bool}{n:Nat}(h:(List.range n).all p=true){f:Nat}(hf:f<n):p f=true:=abX.1 h f (adP.2 hf)
theorem Fe{f:Nat}(h:437<=f):C.mode f=.no:=by
 show jV f=.no;unfold jV;have bO:∀k:Nat,k<437->¬f=k:=λk hk=>by omega
 have hl:∀l:List Nat,l.all (λk=>decide (k<437))=true->l.contains f=false:=by
  intro l hl
  cases hc:l.contains f with
  |false=>rfl
  |true=>
   have:=abX.1 hl f (by simpa using hc);have:=of_decide_eq_true this;omega
 rw[hl _ (by decide),hl _ (by decide)];simp only[aca,if_false]
 repeat' rw[if_neg (bO _ (by decide))]
 rw[if_neg (by omega:¬f<410)]
theorem pV:qL C where
 mixed:=by kernel_rfl
 Dy f fn c hm hf hb:=by
  have cM:f<437:=by
   rcases acE f 437 with h |h;exact h;rw[Fe h]at hm;rcases hm with hm |hm <;>cases hm
  have:=BI WZ cM;unfold JB at this;rw[hf]at this;simp only[hb]at this;have hr:UB (C.mode f)=true:=by rcases hm with hm |hm <;>rw[hm] <;>rfl
  simpa[hr]using this
theorem K7 : ∀ f, (∀ _h : C.mode f = .no, False) → (∀ g, C.mode f ≠ .ext g) → ∃ fn, C.P.funcs[f]? = some fn ∧ fn.body.isSome = true ∧ (fn.name == "runtime.NumGoroutine") = false := by
 intro f hf bO
 have cM:f<437:=by
  rcases acE f 437 with h |h;exact h;exact(hf (Fe h)).elim
 have:=BI SK cM;unfold Fc at this
 have hn:ZO (C.mode f)=false:=by
  cases hm:C.mode f with
  |no=>exact(hf hm).elim
  |ext g=>exact(bO g hm).elim
  |_=>rfl
 rw[hn]at this;simp only[ado]at this
 split at this
 ·rename_i fn Qn
  simp only[ab4,ac8]at this;exact⟨fn,Qn,this.1,this.2⟩
 cases this
theorem Wx:∀f g,C.mode f=.ext g->∀args r,g args=some r->∀(w:World) (A:Nat->Prop) (vs:List Value),L2 (cu w A) vs args->∃v,(callFunc f vs.toArray).run C.P w=.ok (.value v) w/\cu w A v r:=by
 intro f g hm args r hr w A vs ha
 have Rz:jV f=.ext g:=hm;unfold jV at Rz
 split at Rz
 cases Rz
 ·split at Rz
  ·rename_i hf
   obtain rfl:=Mode.ext.inj Rz;simp only at hr
   split at hr
   ·rename_i a b
    obtain rfl:=abV hr;obtain⟨hl,hh⟩:=ha
    match vs,hl with
    |[x,y],_=>
     have h0:=hh 0 (by simp);have h1:=hh 1 (by simp);simp only[ad7,ad8]at h0 h1
     cases h0
     cases h1
     subst hf;refine⟨_,?_,.int _ _⟩;rw[run_callFunc_extern (P:=C.P) Tryz.func194 (by kernel_rfl) (by kernel_rfl) (by kernel_rfl) (e:=Extern.BytealgCompare.compare) (by kernel_rfl)];show((Extern.BytealgCompare.compare #[.string a,.string b]).run C.P w).andThen _=_;rw[Lib.run_compareString]
     rfl
   cases hr
  ·repeat' split at Rz
   all_goals cases Rz
set_option maxRecDepth 100000
def L0:List FuncId:=[352,351,215]
noncomputable def C0:cW:=⟨C.P,λf=>if L0.contains f=true then .opened else .no⟩
theorem sO{f:FuncId}(h:L0.contains f=true):C0.mode f=.opened:=if_pos h
theorem xK(f:FuncId):C0.mode f=.opened\/C0.mode f=.no:=by
 by_cases hf:L0.contains f=true
 exact .inl (if_pos hf);exact .inr (if_neg hf)
theorem TN{f:FuncId}(h:C0.mode f≠.no):f∈L0:=by
 by_cases hf:L0.contains f=true
 simpa using hf;exact(h (if_neg hf)).elim
def MZ(P:Program)(f:FuncId):Bool:=match P.funcs[f]? with
 | some fn => fn.body.isSome && !(fn.name == "runtime.NumGoroutine")
 |none=>false
theorem aal:L0.all (MZ C0.P)=true:=by kernel_rfl
theorem K0:gB C0 where
 enters f hf _:=by
  have h:=abX.1 aal f (TN (λh=>hf h));unfold MZ at h
  split at h
  ·rename_i fn Qn
   simp only[ab4,ac8]at h;exact⟨fn,Qn,h.1,h.2⟩
  cases h
 sI f g hh:=by rcases xK f with h |h <;>rw[h]at hh <;>cases hh
 cV f g hh:=by rcases xK f with h |h <;>rw[h]at hh <;>cases hh
 ext f g hh:=by rcases xK f with h |h <;>rw[h]at hh <;>cases hh
def Ca(P:Program)(f:FuncId):Bool:=match P.funcs[f]? with
 |some fn=>match fn.body with
  |some c=>codeOk fn.ntmps c
  |none=>true
 |none=>true
theorem aam:L0.all (Ca C0.P)=true:=by kernel_rfl
theorem KC0:qL C0 where
 mixed:=pV.mixed
 Dy f fn c hm hf hb:=by
  have h1:Ca C0.P f=true:=abX.1 aam f (TN (λh=>by rcases hm with hm |hm <;>rw[hm]at h <;>cases h));unfold Ca at h1;rw[hf]at h1;simp only[hb]at h1;exact h1
theorem S0:∀n,ir C0 (fF C0 n):=xL K0 KC0
theorem cf:C0.P.follows .mixedOrders=true:=pV.mixed
namespace Zero
noncomputable def T6:mD C0.P:=Go.Pm.T6
end Zero
variable{w:World}{F:Nat->Prop}{X:List (Nat×Nat)}{h:ab}
attribute [local irreducible] aD az aL aJ Ev ah aj ay bg
set_option maxHeartbeats 4000000
theorem jZ{a:Act}{O:Nat->PV}(H:bo w F X h)(R:iI w (Av F h X) X h a O){t yt el:TypeId}{x:Operand}{fl:Bool}{es:List PV}(hu:C0.P.underlying t=some (.slice el))(hx:ev O x=.aa fl es):
  ∃bb,(bb=true->es=[])/\∀o:Oper,o.op=.binOp .eql t x (.const (.slice none 0 0)) yt->wO C0.P 2 w F X h (execOp a.eval o) (.bool bb) h:=by
 have hv:=R.ev x;rw[hx]at hv;obtain⟨ad,cap,e1,_,_⟩:=hv.fV.kK;refine⟨ad.isNone,λhb=>?_,λo ho=>⟨.bool ad.isNone,w,X,.inl ?_,.val (.bool _),H,eD.refl w h X,λ_=>dN.refl w⟩⟩
 ·have hn:ad=none:=by cases ad <;>simp_all
  subst hn;rcases hv.fV.uz with h0 |⟨b,off,Gk,IW,pW,ev',_⟩;exact h0;rw[e1]at ev';cases ev'
 ·obtain⟨d,op,ty,pos,af,g⟩:=o;simp only at ho;subst ho;have h2:a.eval (.const (.slice none 0 0))=.slice none 0 0:=rfl;have g1:(eqGuard .eql t x (.const (.slice none 0 0)) (.slice ad es.length cap) (.slice none 0 0)).run C0.P w=.ok () w:=by simp[eqGuard]
  have g2:(binOp .eql t (.slice ad es.length cap) (.slice none 0 0)).run C0.P w=.ok (.bool ad.isNone) w:=by
   simp only[binOp];simp[run_equal_slice_nil w t el ad es.length cap hu]
  simp only[execOp,e1,h2,Sem.run_bind,g1,g2,Result.andThen_ok,Sem.run_pure]
theorem DP{C:cW}(T:mD C.P){lv:Nat}{st xt el ru:TypeId}{sz gu:Nat}{z:PV}{full:Bool}(hk:T.kd st=some (.sl el))(fZ:T.kd xt=some (.sl ru))(hs:T.ts el=some (sz+1))(hb:T.tb el=some gu)(hz:T.tz el=some z)
  (ju:gu<=1000) (hl:(cells z).length=sz+1) (ho:(cells z).all bM=true):bT C.P lv h st xt (.aa true []) (.aa full [])=some (.aa true [],h):=by
 unfold bT;rw[bB (T.cY _ _ hk)];simp only[T.ez _ _ hs,T.rE _ _ hb,T.nH _ _ hz,cH,bB (T.cY _ _ fZ),cB];rw[if_pos ⟨by omega,by omega,⟨hl,ho⟩,rfl⟩]
 rfl
section
variable{C:cW}(T:mD C.P)
variable{ops:Array Oper}{d:Nat}{ty:TypeId}{pos:String}{af:Array Edge}{r:List Oper}{O:Nat->PV}{L:List (Nat×PV)}{Q:St->Prop}
theorem R.lX{st xt el ru:TypeId}{sz gu:Nat}{z:PV}{full:Bool}{x y:Operand}(hx:cS L x=some (.aa true []))(hy:cS L y=some (.aa full []))(hk:T.kd st=some (.sl el))(fZ:T.kd xt=some (.sl ru))(hs:T.ts el=some (sz+1))(hb:T.tb el=some gu)(hz:T.tz el=some z)
  (ju:gu<=1000) (hl:(cells z).length=sz+1) (ho:(cells z).all bM=true) (kk:ah C ops r ⟨al ((d,.aa true [])::L) O,h⟩ Q):
  ah C ops (⟨some d,.call ⟨.builtin .append,#[x,y],#[st,xt]⟩,ty,pos,af,none⟩::r) ⟨al L O,h⟩ Q:=by
 refine ah.fo (λrun=>?_) kk;have oA:=DP T (h:=h) (lv:=2) (full:=full) hk fZ hs hb hz ju hl ho;simp only[au,bt,acg,acr,an hx,an hy,oA]
theorem R.jC{st xt el ru:TypeId}{sz gu:Nat}{z:PV}{full:Bool}{ys:List PV}{x y:Operand}(hx:cS L x=some (.aa true []))(hy:cS L y=some (.aa full ys))(hk:T.kd st=some (.sl el))(fZ:T.kd xt=some (.sl ru))(hs:T.ts el=some (sz+1))(hb:T.tb el=some gu)(hz:T.tz el=some z)
  (ju:gu<=1000) (hl:(cells z).length=sz+1) (ho:(cells z).all bM=true) (AU:dC (sz+1) ys) (bO:ys≠[]) (hn:ys.length<1000000000) (kk:ah C ops r ⟨al ((d,.ak h.length 0 0 ys.length)::L) O,h++[⟨.m,0,sz+1,ys⟩]⟩ Q):
  ah C ops (⟨some d,.call ⟨.builtin .append,#[x,y],#[st,xt]⟩,ty,pos,af,none⟩::r) ⟨al L O,h⟩ Q:=by
 refine ah.fo (λrun=>?_) kk;have oA:=gJ T (h:=h) (lv:=2) (full:=full) (by decide) hk fZ hs hb hz ju hl ho AU (by cases ys with |nil=>exact absurd rfl bO |cons=>rfl) hn;simp only[au,bt,acg,acr,an hx,an hy,oA]
end
namespace Zero
theorem IX{fl:Bool}{es:List PV}{vs:List Value}(H:bo w F X h)(ha:L2 (aE w (Av F h X) X h) vs [.aa fl es])(jt:dC 4 es)(hn:es.length<1000000000){r:PV}{h':ab}
  (hr:(es=[]/\r=.aa true []/\h'=h)\/(es≠[]/\r=.ak h.length 0 0 es.length/\h'=h++[⟨.m,0,4,es⟩])):na C0.P 2 w F X h 45 vs r h':=by
 refine jD (P:=C0.P) Tryz.func45 rfl H ha (λa RR=>?_);refine wp_seq ?_;refine cR K0 cf S0 (M:=λex s'=>ex=.normal/\∃O',s'=⟨al [(0,.aa fl es)] O',h⟩) rfl ?_ RR ?_
 ·rw[iK];refine wB ?_;exact⟨rfl,_,St.aT ⟨rfl,trivial⟩⟩
 rintro ex s' a1 w1 X1 ⟨rfl,O1,rfl⟩ R1 S1;refine wp_seq ?_;refine wp_seq ?_;apply cg K0 S0 (pre:=[_]) (post:=[]) (R:=R1) (M:=λs'=>∃O',s'=⟨al [(0,.aa fl es),(3,.aa fl es)] O',h⟩) (M2:=λs'=>∃bb O',s'=⟨al [(0,.aa fl es),(4,.bool bb)] O',h⟩/\(bb=true->es=[]))
 rfl
 rfl
 ·refine wB ?_;exact⟨_,St.aT ⟨rfl,rfl,trivial⟩⟩
 ·rintro s1 a2 w2 X2 ⟨O2,rfl⟩ R2 S2;obtain⟨bb,hb,os⟩:=jZ (t:=31) (yt:=31) (el:=33) (x:=.tmp 3) (fl:=fl) (es:=es) R2.hr R2.er (bB (T6.cY 31 _ rfl)) (dJ (L:=[(0,.aa fl es),(3,.aa fl es)]) (t:=3) rfl O2);refine⟨.bool bb,h,os _ rfl,ah.nil ⟨bb,al ((4,.bool bb)::[(0,.aa fl es),(3,.aa fl es)]) O2,?_,hb⟩⟩;show(⟨cm (al [(0,.aa fl es),(3,.aa fl es)] O2) (some 4) (.bool bb),h⟩:St)=_;rw[cw];exact St.aT ⟨rfl,rfl,trivial⟩
 rintro s3 a3 w3 X3 ⟨bb,O3,rfl,hb⟩ R3 S3
 cases bb
 ·refine cR K0 cf S0 (M:=λex s'=>ex=.normal/\∃O',s'=⟨al [(0,.aa fl es)] O',h⟩) rfl ?_ R3 ?_
  ·refine wB ?_;exact⟨rfl,_,St.aT ⟨rfl,trivial⟩⟩
  rintro ex s' a4 w4 X4 ⟨rfl,O4,rfl⟩ R4 S4;refine cR K0 cf S0 (M:=λex s'=>ex=.ret/\∃O',s'=⟨al [(2,r)] O',h'⟩) rfl ?_ R4 ?_
  ·refine wB ?_;rcases hr with⟨rfl,rfl,rfl⟩|⟨bO,rfl,rfl⟩
   ·apply R.lX T6;exact rfl;exact rfl;exact rfl;exact rfl;exact rfl;exact rfl;exact rfl;exact(by decide);exact rfl;exact rfl;refine wB ?_;exact⟨rfl,_,St.aT ⟨rfl,trivial⟩⟩
   ·apply R.jC T6;exact rfl;exact rfl;exact rfl;exact rfl;exact rfl;exact rfl;exact rfl;exact(by decide);exact rfl;exact rfl;exact jt;exact bO;exact hn;refine wB ?_;exact⟨rfl,_,St.aT ⟨rfl,trivial⟩⟩
  rintro ex s5 a5 w5 X5 ⟨rfl,O5,rfl⟩ R5 S5;refine⟨.inr rfl,_,X5,R5,((S1.trans S3).trans S4).trans S5,[r],?_,λu hu=>⟨X5,hu,R5.hr,((S1.trans S3).trans S4).trans S5⟩⟩;exact eL (L:=[(2,r)]) rfl
 ·obtain rfl:=hb rfl;rcases hr with⟨_,rfl,rfl⟩|⟨bO,_⟩
  ·refine cR K0 cf S0 (M:=λex s'=>ex=.ret/\∃O',s'=⟨al [(2,.aa true [])] O',h'⟩) rfl ?_ R3 ?_
   ·refine wB ?_;exact⟨rfl,_,St.aT ⟨rfl,trivial⟩⟩
   rintro ex s5 a5 w5 X5 ⟨rfl,O5,rfl⟩ R5 S5;refine⟨.inr rfl,_,X5,R5,(S1.trans S3).trans S5,[.aa true []],?_,λu hu=>⟨X5,hu,R5.hr,(S1.trans S3).trans S5⟩⟩;exact eL (L:=[(2,.aa true [])]) rfl
  exact absurd rfl bO
 rfl
theorem IY{fl:Bool}{es:List PV}{vs:List Value}(H:bo w F X h)(ha:L2 (aE w (Av F h X) X h) vs [.aa fl es])(jt:dC 1 es)(hn:es.length<1000000000){r:PV}{h':ab}
  (hr:(es=[]/\r=.aa true []/\h'=h)\/(es≠[]/\r=.ak h.length 0 0 es.length/\h'=h++[⟨.m,0,1,es⟩])):na C0.P 2 w F X h 397 vs r h':=by
 refine jD (P:=C0.P) Tryz.func397 rfl H ha (λa RR=>?_);refine wp_seq ?_;refine cR K0 cf S0 (M:=λex s'=>ex=.normal/\∃O',s'=⟨al [(0,.aa fl es)] O',h⟩) rfl ?_ RR ?_
 ·rw[iK];refine wB ?_;exact⟨rfl,_,St.aT ⟨rfl,trivial⟩⟩
 rintro ex s' a1 w1 X1 ⟨rfl,O1,rfl⟩ R1 S1;refine wp_seq ?_;refine wp_seq ?_;apply cg K0 S0 (pre:=[_]) (post:=[]) (R:=R1) (M:=λs'=>∃O',s'=⟨al [(0,.aa fl es),(3,.aa fl es)] O',h⟩) (M2:=λs'=>∃bb O',s'=⟨al [(0,.aa fl es),(4,.bool bb)] O',h⟩/\(bb=true->es=[]))
 rfl
 rfl
 ·refine wB ?_;exact⟨_,St.aT ⟨rfl,rfl,trivial⟩⟩
 ·rintro s1 a2 w2 X2 ⟨O2,rfl⟩ R2 S2;obtain⟨bb,hb,os⟩:=jZ (t:=263) (yt:=263) (el:=175) (x:=.tmp 3) (fl:=fl) (es:=es) R2.hr R2.er (bB (T6.cY 263 _ rfl)) (dJ (L:=[(0,.aa fl es),(3,.aa fl es)]) (t:=3) rfl O2);refine⟨.bool bb,h,os _ rfl,ah.nil ⟨bb,al ((4,.bool bb)::[(0,.aa fl es),(3,.aa fl es)]) O2,?_,hb⟩⟩;show(⟨cm (al [(0,.aa fl es),(3,.aa fl es)] O2) (some 4) (.bool bb),h⟩:St)=_;rw[cw];exact St.aT ⟨rfl,rfl,trivial⟩
 rintro s3 a3 w3 X3 ⟨bb,O3,rfl,hb⟩ R3 S3
 cases bb
 ·refine cR K0 cf S0 (M:=λex s'=>ex=.normal/\∃O',s'=⟨al [(0,.aa fl es)] O',h⟩) rfl ?_ R3 ?_
  ·refine wB ?_;exact⟨rfl,_,St.aT ⟨rfl,trivial⟩⟩
  rintro ex s' a4 w4 X4 ⟨rfl,O4,rfl⟩ R4 S4;refine cR K0 cf S0 (M:=λex s'=>ex=.ret/\∃O',s'=⟨al [(2,r)] O',h'⟩) rfl ?_ R4 ?_
  ·refine wB ?_;rcases hr with⟨rfl,rfl,rfl⟩|⟨bO,rfl,rfl⟩
   ·apply R.lX T6;exact rfl;exact rfl;exact rfl;exact rfl;exact rfl;exact rfl;exact rfl;exact(by decide);exact rfl;exact rfl;refine wB ?_;exact⟨rfl,_,St.aT ⟨rfl,trivial⟩⟩
   ·apply R.jC T6;exact rfl;exact rfl;exact rfl;exact rfl;exact rfl;exact rfl;exact rfl;exact(by decide);exact rfl;exact rfl;exact jt;exact bO;exact hn;refine wB ?_;exact⟨rfl,_,St.aT ⟨rfl,trivial⟩⟩
  rintro ex s5 a5 w5 X5 ⟨rfl,O5,rfl⟩ R5 S5;refine⟨.inr rfl,_,X5,R5,((S1.trans S3).trans S4).trans S5,[r],?_,λu hu=>⟨X5,hu,R5.hr,((S1.trans S3).trans S4).trans S5⟩⟩;exact eL (L:=[(2,r)]) rfl
 ·obtain rfl:=hb rfl;rcases hr with⟨_,rfl,rfl⟩|⟨bO,_⟩
  ·refine cR K0 cf S0 (M:=λex s'=>ex=.ret/\∃O',s'=⟨al [(2,.aa true [])] O',h'⟩) rfl ?_ R3 ?_
   ·refine wB ?_;exact⟨rfl,_,St.aT ⟨rfl,trivial⟩⟩
   rintro ex s5 a5 w5 X5 ⟨rfl,O5,rfl⟩ R5 S5;refine⟨.inr rfl,_,X5,R5,(S1.trans S3).trans S5,[.aa true []],?_,λu hu=>⟨X5,hu,R5.hr,(S1.trans S3).trans S5⟩⟩;exact eL (L:=[(2,.aa true [])]) rfl
  exact absurd rfl bO
 rfl
end Zero
end Go.Pm
namespace Go.Pm
open Go.Proofs
attribute [local irreducible] aD az aL aJ Ev ah aj ay bg
set_option maxRecDepth 4000
set_option maxHeartbeats 8000000
theorem nR(s:ByteArray)(l:List Tm)(hl:l.length<100000000):aI C 43 [.str s,.aa false (ae l)] (enc (.mk 3 s 0 l)):=by
 refine aI.of (ay.dM Tryz.func43 rfl ?_);have cz:=ai l;have gk:=oT l;have RJ:=aZ l;have hv:=fD l;rw[bh];generalize ae l=es at cz gk RJ hv ⊢;refine wB ?_
 cases es with
 |nil=>
  apply R.lX T6;exact rfl;exact rfl;exact rfl;exact rfl;exact rfl;exact rfl;exact rfl;exact(by decide);exact rfl;exact rfl;refine wB ?_;refine R.jX T6 (n:=0) (o:=⟨.m,0,4,[.agg [.int .i64 0,.str ByteArray.empty,.int .i64 0,.aa true []]]⟩) (i:=0) (e:=.agg [.int .i64 0,.str ByteArray.empty,.int .i64 0,.aa true []]) rfl rfl rfl rfl rfl rfl rfl rfl (abZ 4) ?_;refine wB ?_;exact⟨_,rfl,by simp[cj,aQ]⟩
 |cons e es=>
  apply R.jC T6;exact rfl;exact rfl;exact rfl;exact rfl;exact rfl;exact rfl;exact rfl;exact(by decide);exact rfl;exact rfl;exact gk;exact(by simp);exact(by omega);refine wB ?_;refine R.jX T6 (n:=0) (o:=⟨.m,0,4,[.agg [.int .i64 0,.str ByteArray.empty,.int .i64 0,.aa true []]]⟩) (i:=0) (e:=.agg [.int .i64 0,.str ByteArray.empty,.int .i64 0,.aa true []]) rfl rfl rfl rfl rfl rfl rfl rfl (abZ 4) ?_;refine wB ?_;refine⟨.agg [.int .i64 3,.str s,.int .i64 0,.aa false (e::es)],?_,by show PV.agg [.int .i64 3,.str s,.int .i64 0,.aa false (aQ (e::es))]=_;rw[RJ]⟩;show jP _ (.agg [.int .i64 3,.str s,.int .i64 0,.ak 1 0 0 (e::es).length])=_;simp[jP,oJ,pD,aU,getM,hv]
end Go.Pm
namespace Go.Pm
open Go.Proofs
set_option maxRecDepth 4000
set_option maxHeartbeats 8000000
theorem zt:∀{l:List Pw} {pr:Option Tm},lA pr l=0->Bd 1000 l/\(∀p∈l,valid p.1=0/\dz p.1=false)/\Nz l/\B9 l/\(∀q,pr=some q->∀p∈l,aW q p.1<0)
 |[],_,_=>⟨(λp hp=>by cases hp),(λp hp=>by cases hp),(λp hp=>by cases hp),by simp[B9],(λ_ _ p hp=>by cases hp)⟩
 |p::l,pr,h=>by
  rw[pq]at h
  by_cases h1:valid p.1=0
  ·rw[if_neg (by omega)]at h
   by_cases h2:dz p.1=true
   rw[if_pos h2]at h;cases h
   ·rw[if_neg h2]at h
    by_cases h3:p.2=0\/p.2< -1000\/1000<p.2
    rw[if_pos h3]at h;cases h
    ·rw[if_neg h3]at h
     have main:lA (some p.1) l=0/\(∀q,pr=some q->aW q p.1<0):=by
      cases pr with
      |none=>
       simp only[aca,if_false]at h;exact⟨h,λq hq=>by cases hq⟩
      |some q=>
       simp only at h
       split at h
       cases h
       ·rename_i h4
        refine⟨h,λq' hq=>?_⟩
        cases hq
        have:¬0<=aW q p.1:=λhh=>h4 (decide_eq_true hh)
        omega
     obtain⟨b1,b2,b3,b4,b5⟩:=zt main.1;refine⟨λx hx=>?_,λx hx=>?_,λx hx=>?_,acm.2 ⟨λx hx=>b5 p.1 rfl x hx,b4⟩,λq hq x hx=>?_⟩
     ·rcases ab5.1 hx with rfl |hx;omega;exact b1 x hx
     ·rcases ab5.1 hx with rfl |hx;exact⟨h1,by simpa using h2⟩;exact b2 x hx
     ·rcases ab5.1 hx with rfl |hx;omega;exact b3 x hx
     ·rcases ab5.1 hx with rfl |hx;exact main.2 q hq;exact eC (main.2 q hq) (b5 p.1 rfl x hx)
  rw[if_pos h1]at h;exact absurd h h1
theorem E7{l:List Pw}(h:mo l=0):l.length<=200/\Bd 1000 l/\(∀p∈l,valid p.1=0/\dz p.1=false)/\Nz l/\B9 l:=by
 unfold mo at h
 split at h
 cases h
 ·obtain⟨b1,b2,b3,b4,_⟩:=zt h;exact⟨by omega,b1,b2,b3,b4⟩
def iU(l:List (List Pw)):List PV:=l.map λp=>.aa false (bq p)
def jY(l:List (List Pw)):List Tm:=l.flatMap λp=>p.map (·.1)
def Tm.k:Tm->Int | .mk k _ _ _=>k
def Tm.s:Tm->ByteArray | .mk _ s _ _=>s
def Tm.o:Tm->Int | .mk _ _ o _=>o
def Tm.l:Tm->List Tm | .mk _ _ _ l=>l
theorem ar(t:Tm):enc t=.agg [.int .i64 t.k,.str t.s,.int .i64 t.o,.aa false (ae t.l)]:=by cases t;exact bh _ _ _ _
theorem zr(t:Tm)(n:Int):xH (t,n)=.agg [.int .i64 t.k,.str t.s,.int .i64 t.o,.aa false (ae t.l),.int .i64 n]:=by cases t;rfl
attribute [simp] ao aU aQ cj fD aZ rk xy rS oO
@[simp] theorem DX(t:Tm):PV.agg [.int .i64 t.k,.str t.s,.int .i64 t.o,.aa false (ae t.l)]=enc t:=(ar t).symm
@[simp] theorem My(t:Tm)(n:Int):PV.agg [.int .i64 t.k,.str t.s,.int .i64 t.o,.aa false (ae t.l),.int .i64 n]=xH (t,n):=(zr t n).symm
theorem dF(a b:List PV):ao (a++b)=(ao a&&ao b):=by rw[bw,ac1,<-bw,<-bw]
attribute [simp] dF
@[simp] theorem Xt(p:Pw):aU (xH p)=true:=by obtain⟨t,n⟩:=p;rw[zr];simp
@[simp] theorem aag(p:Pw):cj (xH p)=xH p:=by obtain⟨t,n⟩:=p;rw[zr];simp[-My,-DX]
@[simp] theorem Yd:bq []=[]:=rfl
@[simp] theorem l8:ae []=[]:=by simp[ae]
@[simp] theorem Ye(l:List Tm):(ae l).length=l.length:=ai l
@[simp] theorem Xu(l:List Pw):(bq l).length=l.length:=fw l
theorem ba{l p q:List Tm}{t:Tm}(e:l=p++t::q):(ae l)[p.length]?=some (.agg [.int .i64 t.k,.str t.s,.int .i64 t.o,.aa false (ae t.l)]):=by rw[dm,e,<-ar];simp
theorem DW{l p q:List Pw}{t:Tm}{n:Int}(e:l=p++(t,n)::q):(bq l)[p.length]?=some (.agg [.int .i64 t.k,.str t.s,.int .i64 t.o,.aa false (ae t.l),.int .i64 n]):=by rw[bq,e,<-zr];simp
set_option maxRecDepth 100000
set_option maxHeartbeats 2000000
instance:Inhabited Tm:=⟨fW⟩
def QG:Nat->Prop:=λ_=>False
theorem Ie{w:World}{a:Addr}{v:Value}(h:w.cell? a=some v):∃b off,a=⟨b,off,none⟩:=by
 obtain⟨b,off,sp⟩:=a
 cases sp with
 |none=>exact⟨b,off,rfl⟩
 |some s=>
  exfalso;unfold World.cell? at h
  split at h
  simp at h
  cases h
theorem Z0(a:Addr):a.add 0=a:=by obtain⟨b,off,sp⟩:=a;simp[Addr.add]
open Go.Proofs.YtimogkojklpdnaaGreatDoor in
theorem FB{H E:Type}(B:E->Nat):∀(l:List E) (ds:List (DataW H)),l.length=ds.length->(∀(i:Nat) (t:E) (d:DataW H),l[i]?=some t->ds[i]?=some d->B t<=Rows.uptoBulk d)->(l.map B).sum<=Rows.uptoBulkAll ds
 |[],_,_,_=>by simp
 |t::l,[],h,_=>by simp at h
 |t::l,d::ds,h,hb=>by
  have h1:=hb 0 t d rfl rfl;have h2:=FB B l ds (by simpa using h) (λi t' d' e1 e2=>hb (i+1) t' d' (by simpa using e1) (by simpa using e2));simp only[acg,aeA,Rows.uptoBulkAll];omega
open Go.Proofs.YtimogkojklpdnaaGreatDoor in
theorem yV{H:Type}{ec:TypeId×Value->H}{w:World}{sp:Nat->Bool}{held:Bool}{ty el:TypeId}{sz:Nat}{E:Type}[Inhabited E](encE:E->PV)(B:E->Nat)(hk:C.P.underlying ty=some (.slice el))(hc:C.P.cellsOf el=sz)(ni:0<sz)(hl:∀e,(Pm.cells (encE e)).length=sz)
  (elem:∀(n:Nat) (cs:List Value) (x:DataW H×List MemPlace),DataW.trod ec C.P w 0 sp held n el cs=some x->∃e:E,cs.length=sz/\(∀j,j<sz->cu w QG (cs.getD j undef) ((Pm.cells (encE e)).getD j .any))/\B e<=Rows.uptoBulk x.1)
  {n:Nat} {cs:List Value} {x:DataW H×List MemPlace} (h:DataW.trod ec C.P w 0 sp held n ty cs=some x):∃(c:Value) (l:List E),cs=[c]/\cu w QG c (.aa false (l.map encE))/\(l.map B).sum+1<=Rows.uptoBulk x.1:=by
 rcases DataW.trod_slice hk h with⟨e3,rfl⟩|⟨a,len,cap,cB,rest,n2,T7,e3,rfl,hb,hle,CG,Z1,cz,_,_⟩;exact⟨_,[],e3,.ig none 0 false (λh=>by cases h),by simp[Rows.uptoBulk]⟩
 ·subst hc
  have each:∀i,i<len->∃q:List Value×E,w.cells? 0 (a.add (i * C.P.cellsOf el)) (C.P.cellsOf el)=some q.1/\(q.1.length=C.P.cellsOf el/\∀j,j<C.P.cellsOf el->cu w QG (q.1.getD j undef) ((Pm.cells (encE q.2)).getD j .any))/\∀y,cB[i]?=some y->B q.2<=Rows.uptoBulk y.1:=by
   intro i hi
   have h1:=cz i hi;obtain⟨y,hy⟩:∃y,cB[i]?=some y:=⟨cB[i],ab1 (by omega)⟩;rw[hy]at h1
   cases hc:w.cells? 0 (a.add (i * C.P.cellsOf el)) (C.P.cellsOf el)with
   |none=>rw[hc]at h1;cases h1
   |some jN=>
    rw[hc]at h1;obtain⟨t,t1,t2,t3⟩:=elem n2 jN y h1;exact⟨(jN,t),rfl,⟨t1,t2⟩,λy' hy'=>by rw[hy]at hy';obtain rfl:=abV hy';exact t3⟩
  obtain⟨q,hq⟩:=Deep.choose_lt each;have xe:((List.range len).map λi=>(q i).2).length=len:=by simp
  have wy:∀i,i<len->((List.range len).map λi=>(q i).2)[i]?=some (q i).2:=λi hi=>by rw[ace,ad5 hi];rfl
  refine⟨_,(List.range len).map λi=>(q i).2,e3,?_,?_⟩
  ·by_cases h0:len=0
   ·subst h0;exact .ig (some a) cap false (λh=>by cases h)
   ·have XT:=(hq 0 (by omega)).1;obtain⟨_,ee,F0⟩:=World.cells?_some XT;have Fa:=F0 0 ni;rw[adQ,Z0,Z0]at Fa;obtain⟨v0,Di⟩:∃v,(q 0).1[0]?=some v:=⟨(q 0).1[0],ab1 (by omega)⟩;rw[Di]at Fa;obtain⟨b,off,rfl⟩:=Ie Fa;have jt:(((List.range len).map λi=>(q i).2).map encE).length=len:=by simp
    have hgd:∀i,i<len->(((List.range len).map λi=>(q i).2).map encE).getD i .any=encE (q i).2:=λi hi=>by
     rw[List.getD,ace,wy i hi];rfl
    have key:cu w QG (.slice (some ⟨b,off,none⟩) (((List.range len).map λi=>(q i).2).map encE).length cap) (.aa false (((List.range len).map λi=>(q i).2).map encE)):=by
     refine .aa b off cap (C.P.cellsOf el) false _ (λi j=>(q i).1.getD j undef) (λh=>?_) (by omega) (λh=>by cases h) (λh=>h) ni (λi hi=>?_) (λi j hi hj=>?_) (λi j hi hj=>?_);rw[h]at jt;simp at jt;omega;rw[hgd i (by omega)];exact hl _
     ·obtain⟨_,ee,F0⟩:=World.cells?_some (hq i (by omega)).1;have:=F0 j hj;rw[fi,fi]at this;rw[show off+(i * C.P.cellsOf el+j)=off+i * C.P.cellsOf el+j by omega,this,ab1 (by omega)];simp[List.getD,ab1 (show j<(q i).1.length by omega)]
     rw[hgd i (by omega)];exact(hq i (by omega)).2.1.2 j hj
    rw[jt]at key;exact key
  ·have:=FB B ((List.range len).map λi=>(q i).2) (cB.map (·.1)) (by simp[Z1]) (λi t d e1 e2=>by
    have hi:i<len:=by have:=ag e1;rwa[xe]at this
    rw[wy i hi]at e1;obtain rfl:=abV e1;rw[ace]at e2
    cases hy:cB[i]? with
    |none=>rw[hy]at e2;cases e2
    |some y=>
     rw[hy]at e2;obtain rfl:=abV e2;exact(hq i hi).2.2 y hy)
   simp only[Rows.uptoBulk];omega
instance:Inhabited Pw:=⟨(fW,0)⟩
theorem dN.kept{W W':World}(g:dN W W')(may:MemPlace->Prop):W.keptBut W' may:=by
 refine⟨g.os,g.output,λi hi=>?_⟩;rw[g.aT i hi]
 cases W.heap[i]? with
 |none=>rfl
 |some o=>cases o <;>simp
open Go.ChangeShapes Go.WideShapes
theorem Lt{H:Type}{ec:TypeId×Value->H}{w:World}{base:Nat}{sp:Nat->Bool}{v:Value}{d:DataW H}{p:List MemPlace}(gk:Value.okWide C.P w .any base 3 v)(h:DataW.Trod ec C.P w 0 sp true 3 v d p):
  ∃n:Int,cu w QG v (.int .i64 n):=by
 obtain⟨n,rfl⟩:=okWide_int (oP (T6.cY 3 _ rfl)) gk;exact⟨n,.int _ _⟩
end Go.Pm
namespace Go.Pm
structure MI(a:List Pw)(k:Nat):Prop where
 oB:B9 a
 nz:Nz a
 bd:Bd (1000+1000 * (k:Int)) a
 len:a.length<=200+k
theorem MI.of{a:List Pw}(h:mo a=0):MI a 0:=by
 obtain⟨h1,h2,h3,h4,h5⟩:=E7 h;exact⟨h5,h4,λp hp=>by have:=h2 p hp;omega,by omega⟩
open Go.Proofs
set_option maxRecDepth 4000
def wU{α:Type}(p:α->Bool)(l:List α):Int:=match l.findIdx? p with |some i=>i |none=>-1
theorem qV{α:Type}{p:α->Bool}{a q:List α}{x:α}(h:∀y∈a,p y=false)(hx:p x=true):wU p (a++x::q)=a.length:=by
 unfold wU;rw[List.findIdx?_append,aeb.2 h];simp[List.findIdx?_cons,hx]
theorem lK{α:Type}{p:α->Bool}{a:List α}(h:∀y∈a,p y=false):wU p a=-1:=by
 unfold wU;rw[aeb.2 h]
theorem th{α:Type}(p:α->Bool)(l:List α):decide (0<=wU p l)=l.any p:=by
 unfold wU
 cases h:l.findIdx? p with
 |none=>
  rw[aeb]at h;have:l.any p=false:=by rw[adi];intro x hx;simp[h x hx]
  rw[this];rfl
 |some i=>
  obtain⟨h1,h2,_⟩:=List.findIdx?_eq_some_iff_getElem.1 h;have:l.any p=true:=adn.2 ⟨_,acB h1,h2⟩;rw[this];simp
@[simp] theorem Xe(l:List Pw):dC (4+1) (bq l):=by
 unfold dC bq;rw[List.all_map,abX];rintro⟨t,n⟩ _;simp only[Function.comp,zr]
 rfl
def vI:List Pw->Tm->Int
 |[],_=>0
 |p::l,t=>if aW p.1 t=0 then p.2 else vI l t
theorem Nk{p q:List Pw}{x:Pw}{t:Tm}(h:∀y∈p,aW y.1 t≠0)(hx:aW x.1 t=0):vI (p++x::q) t=x.2:=by
 induction p with
 |nil=>rw[acD,vI,if_pos hx]
 |cons y p ih=>rw[aco,vI,if_neg (h y (by simp)),ih (λz hz=>h z (by simp[hz]))]
theorem Kc{l p q:List (List Pw)}{x:List Pw}(e:l=p++x::q):(iU l)[p.length]?=some (.aa false (bq x)):=by rw[iU,e];simp
@[simp] theorem TW(l:List (List Pw)):(iU l).length=l.length:=by simp[iU]
@[simp] theorem TX(l:List (List Pw)):ao (iU l)=true:=by induction l with |nil=>rfl |cons x l ih=>simpa[iU]using ih
@[simp] theorem TY(l:List (List Pw)):aQ (iU l)=iU l:=by induction l with |nil=>rfl |cons x l ih=>simpa[iU]using ih
def gb(l:List Int):List PV:=l.map λx=>.int .i64 x
@[simp] theorem Xv(l:List Int):(gb l).length=l.length:=by simp[gb]
@[simp] theorem U1(l:List Int):ao (gb l)=true:=by induction l with |nil=>rfl |cons x l ih=>simpa[gb]using ih
@[simp] theorem U2(l:List Int):aQ (gb l)=gb l:=by induction l with |nil=>rfl |cons x l ih=>simpa[gb]using ih
def fC(t:Tm):List Tm->List Tm
 |[]=>[t]
 |x::r=>if aW t x<=0 then(if aW t x<0 then t::x::r else x::r)else x::fC t r
attribute [local irreducible] aD az aL aJ Ev ah aj ay bg
theorem Nl(t:Tm)(l:List Tm)(ht:ax t<1000000000)(hb:∀x∈l,ax x<1000000000)(hl:l.length<1000000):aI C 127 [.aa false (ae l),enc t] (.aa false (ae (fC t l))):=by
 have cz:(ae l).length=l.length:=by simp
 rw[ar];refine aI.x T6 Tryz.func127 rfl ?_;refine wA ?_;refine cU.zip T6 l (λp q L H=>∃v acc d,L=[(0,.aa false (ae l)),(3,.ptr 0 0 0 0),(5,v),(6,.bool d),(7,.int .i64 p.length)]/\HV H/\H[0]?=some ⟨.m,0,4,[.agg [.int .i64 t.k,.str t.s,.int .i64 t.o,.aa false (ae t.l)]]⟩/\Out 4 H v (ae acc)/\(∀ep n,v≠.ak 0 ep 0 n)/\(acc.length<=p.length+if d then 1 else 0)/\acc++(if d then q else fC t q)=fC t l) (.nx ⟨_,[],false,rfl,HV.one rfl,rfl,.inl ⟨rfl,rfl⟩,(λ_ _ h=>by cases h),by simp,by simp⟩) ?_ ?_
 ·rintro p x q _ h O e ⟨v,acc,d,rfl,hH,h0,ho,Di,IT,hg⟩;have cC:=ba e;have dp:=lenE e;have rU:=DK t x ht (hb x (by rw[e];simp));rw[ar,ar]at rU;have Yx:(ae acc).length=acc.length:=by simp
  have U3:acc.length<=p.length+1:=by cases d <;>simp at IT <;>omega
  refine wA ?_;refine .p rU ?_;have sn:∀(a:List Tm) (y:Tm),ae a++[.agg [.int .i64 y.k,.str y.s,.int .i64 y.o,.aa false (ae y.l)]]=ae (a++[y]):=λa y=>by rw[<-AY,ar]
  cases d
  ·rw[if_neg (by decide)]at hg
   (repeat' (first |(refine Rn.go ?_;conv=>whnf)|refine .mk ?_ |refine .mk (λhc=>?_) λhc=>?_ |refine .lp λv H lp=>?_ |fail))
   ·obtain⟨h0',Yy⟩:=lp.obj h0 Di;have Yz:=lp.hv;have lo:=lp.out;rw[sn]at lo;have abD:(ae (acc++[t])).length=acc.length+1:=by simp
    clear lp;refine wG λv H lp=>?_;have IU:=lp.out;rw[sn]at IU;exact .nx ⟨_,acc++[t]++[x],true,rfl,lp.hv,(lp.obj h0' Yy).1,IU,(lp.obj h0' Yy).2,by simp at IT ⊢;omega,by rw[<-hg,show fC t (x::q)=t::x::q by rw[fC,if_pos (by assumption),if_pos hc]];simp⟩
   ·have IU:=lp.out;rw[sn]at IU;exact .nx ⟨_,acc++[x],true,rfl,lp.hv,(lp.obj h0 Di).1,IU,(lp.obj h0 Di).2,by simp at IT ⊢;omega,by rw[<-hg,show fC t (x::q)=x::q by rw[fC,if_pos (by assumption),if_neg hc]];simp⟩
   ·have IU:=lp.out;rw[sn]at IU;exact .nx ⟨_,acc++[x],false,rfl,lp.hv,(lp.obj h0 Di).1,IU,(lp.obj h0 Di).2,by simp at IT ⊢;omega,by rw[<-hg,show fC t (x::q)=x::fC t q by rw[fC,if_neg hc]];simp⟩
  ·refine wG λv H lp=>?_;have IU:=lp.out;rw[sn]at IU;exact .nx ⟨_,acc++[x],true,rfl,lp.hv,(lp.obj h0 Di).1,IU,(lp.obj h0 Di).2,by simp at IT ⊢;omega,by rw[<-hg];simp⟩
 ·rintro _ h O ⟨v,acc,d,rfl,hH,h0,ho,Di,IT,hg⟩;have Yx:(ae acc).length=acc.length:=by simp
  have U3:acc.length<=l.length+1:=by cases d <;>simp at IT <;>omega
  have sn:∀(a:List Tm) (y:Tm),ae a++[.agg [.int .i64 y.k,.str y.s,.int .i64 y.o,.aa false (ae y.l)]]=ae (a++[y]):=λa y=>by rw[<-AY,ar]
  have fin:∀{h:ab} {v:PV} {a:List Tm},Out 4 h v (ae a)->a=fC t l->∃r1,rb h (aR [v])=some r1/\cj r1=.aa false (ae (fC t l)):=λ{h v a} ho ha=>by
   obtain⟨r1,e1,e2⟩:=ho.jP (fD _);exact⟨r1,by rcases ho with⟨rfl,_⟩|⟨id,ep,rfl,_⟩ <;>exact e1,by rw[e2,aZ,ha]⟩
  cases d
  ·refine wG λv H lp=>?_;have IU:=lp.out;rw[sn]at IU;exact fin IU (by rw[<-hg];simp[fC])
  ·refine wA ?_;exact fin ho (by rw[<-hg];simp)
end Go.Pm
namespace Go.Pm
open Go.Proofs
set_option maxRecDepth 4000
theorem DL(t:Tm):∀l:List Tm,(fC t l).length<=l.length+1
 |[]=>by simp[fC]
 |x::r=>by
  have:=DL t r;unfold fC
  split
  split <;>simp
  simp only[ab9];omega
theorem DM{t:Tm}{y:Tm}:∀{l:List Tm},y∈fC t l->y=t\/y∈l
 |[],h=>by simp[fC]at h;exact .inl h
 |x::r,h=>by
  unfold fC at h
  split at h
  ·split at h
   ·rcases ab5.1 h with h |h;exact .inl h;exact .inr h
   exact .inr h
  ·rcases ab5.1 h with h |h;exact .inr (by simp[h])
   ·rcases DM h with h |h;exact .inl h;exact .inr (by simp[h])
def Ke(l:List (List Pw)):List Tm:=(jY l).foldl (λa t=>fC t a) []
def SmT(l:List (List Pw)):Prop:=(∀x∈l,(∀p∈x,ax p.1<100000000)/\x.length<=200)/\l.length<=1000
def ry(ts:List Tm)(a:List Tm):List Tm:=ts.foldl (λa t=>fC t a) a
theorem xY:∀(ts a:List Tm),(ry ts a).length<=a.length+ts.length
 |[],a=>by simp[ry]
 |t::ts,a=>by
  have:=xY ts (fC t a);have:=DL t a;simp only[ry,List.foldl_cons,ab9]at *;omega
theorem DN{y:Tm}:∀{ts a:List Tm},y∈ry ts a->y∈ts\/y∈a
 |[],a,h=>.inr h
 |t::ts,a,h=>by
  rcases DN (ts:=ts) (a:=fC t a) h with h |h;exact .inl (by simp[h])
  ·rcases DM h with h |h;exact .inl (by simp[h]);exact .inr h
theorem Cg:∀{l:List (List Pw)},(∀x∈l,x.length<=200)->(jY l).length<=200 * l.length
 |[],_=>by simp[jY]
 |x::l,h=>by
  have h1:=Cg (l:=l) λy hy=>h y (by simp[hy])
  have h2:=h x (by simp);have h3:(jY (x::l)).length=x.length+(jY l).length:=by simp[jY]
  rw[h3,ab9];omega
def inr(n:Int):Bool:=decide (-35184372088832<=n/\n<=35184372088832)
@[simp] theorem TZ(l:List (List Pw)):dC (0+1) (iU l):=by
 unfold dC;rw[abX]
 intro v hv
 obtain⟨x,_,rfl⟩:=aci.1 hv
 rfl
def fu(l:List Tm):Prop:=l.Pairwise λp q=>aW p q<0
theorem oV(t:Tm):∀(l:List Tm) (y:Tm),y∈fC t l↔y=t\/y∈l
 |[],y=>by simp[fC]
 |x::r,y=>by
  unfold fC
  by_cases h1:aW t x<=0
  ·rw[if_pos h1]
   by_cases h2:aW t x<0
   rw[if_pos h2];simp
   ·rw[if_neg h2];obtain rfl:=cy (t:=t) (t':=x) (by omega);simp
  ·rw[if_neg h1,ab5,oV t r y,ab5]
   constructor
   ·rintro(h |h |h);exact .inr (.inl h);exact .inl h;exact .inr (.inr h)
   ·rintro(h |h |h);exact .inr (.inl h);exact .inl h;exact .inr (.inr h)
theorem xZ{t:Tm}:∀{l:List Tm},fu l->fu (fC t l)
 |[],_=>by simp[fC,fu]
 |x::r,h=>by
  have hp:=acm.1 h;unfold fC
  by_cases h1:aW t x<=0
  ·rw[if_pos h1]
   by_cases h2:aW t x<0
   ·rw[if_pos h2];refine acm.2 ⟨λy hy=>?_,h⟩;rcases ab5.1 hy with rfl |hy;exact h2;exact eC h2 (hp.1 y hy)
   rw[if_neg h2];exact h
  ·rw[if_neg h1];refine acm.2 ⟨λy hy=>?_,xZ hp.2⟩;rcases(oV t r y).1 hy with rfl |hy;have:=eI y x;omega;exact hp.1 y hy
theorem x0:∀{ts a:List Tm},fu a->fu (ry ts a)
 |[],a,h=>h
 |t::ts,a,h=>x0 (ts:=ts) (xZ (t:=t) h)
theorem Ch:∀(ts a:List Tm) (y:Tm),y∈ry ts a↔y∈ts\/y∈a
 |[],a,y=>by simp[ry]
 |t::ts,a,y=>by
  have:=Ch ts (fC t a) y;rw[show ry (t::ts) a=ry ts (fC t a)from rfl,this,oV,ab5]
  constructor
  ·rintro(h |h |h);exact .inl (.inr h);exact .inl (.inl h);exact .inr h
  ·rintro((h |h)|h);exact .inr (.inl h);exact .inl h;exact .inr (.inr h)
theorem mM:∀{a b:List Tm},fu a->fu b->(∀y,y∈a↔y∈b)->a=b
 |[],[],_,_,_=>rfl
 |[],y::b,_,_,h=>by have:=(h y).2 (by simp);cases this
 |x::a,[],_,_,h=>by have:=(h x).1 (by simp);cases this
 |x::a,y::b,ha,hb,h=>by
  have pa:=acm.1 ha;have pb:=acm.1 hb;have irr:∀{u:Tm},¬aW u u<0:=λ{u} hh=>by rw[cc]at hh;omega
  have hxy:x=y:=by
   rcases ab5.1 ((h x).1 (by simp))with e |hx;exact e
   ·rcases ab5.1 ((h y).2 (by simp))with e |hy;exact e.symm;exact(irr (eC (pb.1 x hx) (pa.1 y hy))).elim
  subst hxy
  have:a=b:=mM pa.2 pb.2 λz=>by
   constructor
   ·intro hz
    rcases ab5.1 ((h z).1 (by simp[hz]))with rfl |h1;exact(irr (pa.1 z hz)).elim;exact h1
   ·intro hz
    rcases ab5.1 ((h z).2 (by simp[hz]))with rfl |h1;exact(irr (pb.1 z hz)).elim;exact h1
  rw[this]
theorem Nn(l:List (List Pw)):fu (Ke l):=x0 (ts:=jY l) (a:=[]) (by simp[fu])
theorem Q8(l:List (List Pw))(y:Tm):y∈Ke l↔y∈jY l:=by
 have:=Ch (jY l) [] y;simpa[ry,Ke]using this
end Go.Pm
namespace Go.Pm
structure Sy where
 n:ByteArray
 a:Int
 b:Int
 k:Int
def gq:ByteArray:=⟨#[112,97,105,114]⟩
def iW:ByteArray:=⟨#[101,110,99]⟩
def fK:ByteArray:=⟨#[97,101,110,99]⟩
def F4:ByteArray:=⟨#[112,107]⟩
def iN:ByteArray:=⟨#[115,105,103,110]⟩
def yh:ByteArray:=⟨#[104,97,115,104]⟩
def u7:ByteArray:=⟨#[120,111,114]⟩
def il:ByteArray:=⟨#[122,101,114,111]⟩
def Hu:ByteArray:=⟨#[101,120,112]⟩
def yK:ByteArray:=⟨#[109,117,108]⟩
def yL:ByteArray:=⟨#[105,110,118]⟩
def ql:ByteArray:=⟨#[111,110,101]⟩
def Ao:ByteArray:=⟨#[115,107]⟩
def td:ByteArray:=⟨#[115,104,107]⟩
def ot:ByteArray:=⟨#[110,101,119]⟩
def Zt:ByteArray:=⟨#[102,115,116]⟩
def Zu:ByteArray:=⟨#[115,110,100]⟩
def Zv:ByteArray:=⟨#[100,101,99]⟩
def Un:ByteArray:=⟨#[97,100,101,99]⟩
def Uo:ByteArray:=⟨#[111,112,101,110]⟩
def Up:ByteArray:=⟨#[114,101,97,100]⟩
def MP:List Sy:=[⟨⟨#[112,97,105,114]⟩,2,2,1⟩,⟨⟨#[101,110,99]⟩,2,2,1⟩,⟨⟨#[97,101,110,99]⟩,2,2,1⟩,⟨⟨#[112,107]⟩,1,1,1⟩,⟨⟨#[115,105,103,110]⟩,2,2,1⟩,⟨⟨#[104,97,115,104]⟩,1,1,1⟩,⟨⟨#[120,111,114]⟩,2,8,1⟩,⟨⟨#[122,101,114,111]⟩,0,0,1⟩,⟨⟨#[101,120,112]⟩,2,2,1⟩,⟨⟨#[109,117,108]⟩,2,8,1⟩,⟨⟨#[105,110,118]⟩,1,1,1⟩,⟨⟨#[111,110,101]⟩,0,0,1⟩,⟨⟨#[115,107]⟩,1,1,2⟩,⟨⟨#[115,104,107]⟩,2,2,2⟩,⟨⟨#[110,101,119]⟩,1,8,2⟩,⟨⟨#[102,115,116]⟩,1,1,3⟩,⟨⟨#[115,110,100]⟩,1,1,3⟩,⟨⟨#[100,101,99]⟩,2,2,3⟩,⟨⟨#[97,100,101,99]⟩,2,2,3⟩,⟨⟨#[111,112,101,110]⟩,2,2,3⟩,⟨⟨#[114,101,97,100]⟩,1,1,3⟩]
def sy0:Sy:=⟨ByteArray.empty,0,0,0⟩
def ch(s:ByteArray):Sy:=(MP.find? λy=>y.n.toList==s.toList).getD sy0
def BT(y:Sy):PV:=.agg [.str y.n,.int .i64 y.a,.int .i64 y.b,.int .i64 y.k]
def eP(s n:ByteArray):Bool:=s.toList==n.toList
def dE(u:Tm):Bool:=decide (u.k≠3/\u.o=1)
def fg(s:ByteArray)(l:List Tm):Bool:=
 if eP s Ao ||eP s td then l.all dE
 else if eP s ot then(match l with |u::_=>decide (u.k=2)|[]=>true)
 else true
mutual
def kM:Tm->Int
 | .mk k s o l=>if k≠3 then 0 else if(ch s).k=0 then 10 else if(l.length:Int)<(ch s).a\/(ch s).b<l.length then 6 else if fg s l=false then 10 else rA l
def rA:List Tm->Int
 |[]=>0
 |t::l=>if kM t≠0 then kM t else rA l
end
def gY(t:Tm):Int:=if valid t≠0 then valid t else kM t
mutual
def pre:Tm->List Tm
 | .mk k s o l=>.mk k s o l::cd l
def cd:List Tm->List Tm
 |[]=>[]
 |t::l=>pre t++cd l
end
mutual
def every(p:ByteArray->Bool):Tm->Bool
 | .mk k s o l=>(decide (k≠3)||p s)&&gM p l
def gM(p:ByteArray->Bool):List Tm->Bool
 |[]=>true
 |t::l=>every p t&&gM p l
end
def nj(s:ByteArray):Bool:=eP s u7 ||eP s il ||eP s Hu ||eP s yK ||eP s yL ||eP s ql
def um(s:ByteArray):Bool:=!nj s&&decide ((ch s).k≠3)
def lq(t:Tm):Bool:=decide (gY t=0)&&every um t
def fJ(l:List Tm):List Tm:=ry l []
def mQ(n:Int)(t:Tm):List Tm:=fJ ((pre t).filter λu=>decide (u.k=n))
def bL(t:Tm):List Tm:=mQ 1 t
structure fq where
 kn:List Tm
 tm:Tm
structure eE where
 v:Tm
 t:Tm
def s9(d:fq):PV:=.agg [.aa false (ae d.kn),.int .i64 d.tm.k,.str d.tm.s,.int .i64 d.tm.o,.aa false (ae d.tm.l)]
def Ak(b:eE):PV:=.agg [.int .i64 b.v.k,.str b.v.s,.int .i64 b.v.o,.aa false (ae b.v.l),.int .i64 b.t.k,.str b.t.s,.int .i64 b.t.o,.aa false (ae b.t.l)]
def bV(l:List fq):List PV:=l.map s9
def dR(l:List eE):List PV:=l.map Ak
@[simp] theorem Vg(d:fq):aU (s9 d)=true:=by simp[s9]
@[simp] theorem Vh(b:eE):aU (Ak b)=true:=by simp[Ak]
@[simp] theorem YR(d:fq):cj (s9 d)=s9 d:=by simp[s9,cj,aQ,aZ]
@[simp] theorem YS(b:eE):cj (Ak b)=Ak b:=by simp[Ak,cj,aQ,aZ]
@[simp] theorem Ri(l:List fq):ao (bV l)=true:=by rw[bw];simp[bV]
@[simp] theorem Rj(l:List eE):ao (dR l)=true:=by rw[bw];simp[dR]
@[simp] theorem Vi(l:List fq):aQ (bV l)=bV l:=by rw[cL];simp[bV]
@[simp] theorem Vj(l:List eE):aQ (dR l)=dR l:=by rw[cL];simp[dR]
@[simp] theorem gv(l:List fq):(bV l).length=l.length:=by simp[bV]
@[simp] theorem uC(l:List eE):(dR l).length=l.length:=by simp[dR]
@[simp] theorem Xy:bV []=[]:=rfl
@[simp] theorem Xz:dR []=[]:=rfl
theorem o8(d:fq):s9 d=.agg [.aa false (ae d.kn),.int .i64 d.tm.k,.str d.tm.s,.int .i64 d.tm.o,.aa false (ae d.tm.l)]:=rfl
theorem yc(b:eE):Ak b=.agg [.int .i64 b.v.k,.str b.v.s,.int .i64 b.v.o,.aa false (ae b.v.l),.int .i64 b.t.k,.str b.t.s,.int .i64 b.t.o,.aa false (ae b.t.l)]:=rfl
theorem gL{l p q:List fq}{d:fq}(e:l=p++d::q):(bV l)[p.length]?=some (.agg [.aa false (ae d.kn),.int .i64 d.tm.k,.str d.tm.s,.int .i64 d.tm.o,.aa false (ae d.tm.l)]):=by rw[bV,e,<-o8];simp
theorem D5{l p q:List eE}{b:eE}(e:l=p++b::q):(dR l)[p.length]?=some (.agg [.int .i64 b.v.k,.str b.v.s,.int .i64 b.v.o,.aa false (ae b.v.l),.int .i64 b.t.k,.str b.t.s,.int .i64 b.t.o,.aa false (ae b.t.l)]):=by rw[dR,e,<-yc];simp
theorem A3{l:List eE}{i:Nat}{b:eE}(e:l[i]?=some b):(dR l)[i]?=some (.agg [.int .i64 b.v.k,.str b.v.s,.int .i64 b.v.o,.aa false (ae b.v.l),.int .i64 b.t.k,.str b.t.s,.int .i64 b.t.o,.aa false (ae b.t.l)]):=by rw[dR,ace,e,<-yc];rfl
def bJ(l:List Tm)(t:Tm):Bool:=l.any λu=>decide (aW t u=0)
theorem bX{l:List Tm}{t:Tm}:bJ l t=true↔t∈l:=by
 simp only[bJ,adn,decide_eq_true_eq]
 constructor
 rintro⟨u,hu,h⟩;rw[cy h];exact hu;exact λh=>⟨t,h,cc t⟩
def Dl(t:Tm):Bool:=decide (t.o=1\/t.o=5)
def cE(t:Tm):Int:=if gY t≠0 then gY t else if lq t=false\/(bL t).any Dl=true then 10 else if 60<size t then 3 else 0
def gh:List Tm->Int
 |[]=>0
 |t::l=>if cE t≠0 then cE t else gh l
def kept(prev:Option (List Tm))(k:List Tm):Bool:=match prev with |none=>true |some p=>p.all λt=>bJ k t
def Dm(bound k:List Tm):Bool:=k.all λt=>(bL t).all λx=>bJ bound x
def mP:Option (List Tm)->List Tm->List fq->Int
 |_,_,[]=>0
 |prev,bound,d::l=>
  if 40<d.kn.length then 3
  else if gh (d.kn++[d.tm])≠0 then gh (d.kn++[d.tm])
  else if kept prev d.kn=false then 9
  else if Dm bound d.kn=false then 13
  else mP (some d.kn) (bound++bL d.tm) l
def kL(l:List fq):Int:=if 40<l.length then 3 else mP none [] l
def A4(x t:Tm):Bool:=decide (valid x=0/\valid t=0/\x.k=1/\(x.o=0\/(t.k≠3/\t.o=x.o)))
def Dn(b:eE):Int:=if valid b.v≠0 then valid b.v else if b.v.k≠1\/aW b.v b.t=0 then 1 else if valid b.t≠0 then valid b.t else if A4 b.v b.t=false then 10 else 0
def behind(prev:Option Tm)(x:Tm):Bool:=match prev with |none=>true |some p=>decide (aW p x<0)
def pA:Option Tm->List eE->Int
 |_,[]=>0
 |prev,b::l=>if Dn b≠0 then Dn b else if behind prev b.v=false then 5 else pA (some b.v) l
def qa(s:List eE):Int:=if 200<s.length then 3 else pA none s
def j0:List eE->Tm->Tm
 |[],x=>x
 |b::s,x=>if aW b.v x=0 then b.t else j0 s x
mutual
def bj(s:List eE):Tm->Tm
 | .mk k n o l=>if k=1 then j0 s (.mk k n o l)else .mk k n o (bz s l)
def bz(s:List eE):List Tm->List Tm
 |[]=>[]
 |t::l=>bj s t::bz s l
end
def ct(s:List eE)(t:Tm):Tm×Int:=if valid t≠0 then(fW,valid t)else if valid (bj s t)≠0 then(fW,valid (bj s t))else(bj s t,0)
def nM(s:List eE):List Tm->Int
 |[]=>0
 |t::l=>if(ct s t).2≠0 then(ct s t).2 else nM s l
theorem eZ(t:Tm):t∈pre t:=by cases t;simp[pre]
theorem bI(s:List eE)(l:List Tm):bz s l=l.map (bj s):=by
 induction l with
 |nil=>rfl
 |cons t l ih=>simp[bz,ih]
theorem dH(s:List eE)(l:List Tm):(bz s l).length=l.length:=by rw[bI];simp
open Go.Proofs
set_option maxRecDepth 100000
set_option maxHeartbeats 2000000
instance:Inhabited fq:=⟨⟨[],fW⟩⟩
instance:Inhabited eE:=⟨⟨fW,fW⟩⟩
theorem dN.grow{w w':World}(g:dN w w'):∃q os',w'=Go.Sort.grow (w.drewN q) os':=by
 refine⟨w'.drawn - w.drawn,w'.heap.extract w.heap.size w'.heap.size,?_⟩
 have hh:w'.heap=w.heap++w'.heap.extract w.heap.size w'.heap.size:=by
  apply Array.ext_getElem?
  intro i
  have hs:=g.size
  by_cases hi:i<w.heap.size
  rw[g.aT i hi,Array.getElem?_append_left hi]
  ·rw[Array.getElem?_append_right (by omega),Array.getElem?_extract]
   by_cases h2:i<w'.heap.size
   rw[if_pos (by omega)];congr 1;omega;rw[if_neg (by omega),adW (by omega)]
 obtain⟨hp,tp,dr,os,out⟩:=w';have h1:=g.os;have h2:=g.tape;have h3:=g.output;have h4:=g.drawn;simp only at h1 h2 h3 h4 hh;subst h1 h2 h3;simp only[Go.Sort.grow,World.drewN];rw[<-hh]
 congr 1
 omega
section
variable{C:cW}(T:mD C.P)
variable{ops:Array Oper}{i:Nat}{d:Nat}{ty:TypeId}{pos:String}{af:Array Edge}{r:List Oper}{O:Nat->PV}{L:List (Nat×PV)}{h:ab}{Q:St->Prop}
set_option maxHeartbeats 4000000
theorem uB{P:Program}{t el:TypeId}{id ep len b:Nat}{o:aw}{k:IntKind}(hu:P.underlying t=some (.slice el))(hs:cF P el=some o.bQ)(hg:getM h id ep=some o)(hb:b<=len)(hle:len<=o.es.length):
  cr P h t (.ak id ep 0 len) none (some (.int k (b:Int))) none=some (.ak id ep 0 b):=by
 have h1:¬((len:Int)<(b:Int)):=by omega
 simp[cr,hu,hs,hg,hle,beyond,h1,cQ,hb]
theorem qP{P:Program}{t el:TypeId}{id ep len a:Nat}{o:aw}{k:IntKind}(hu:P.underlying t=some (.slice el))(hs:cF P el=some o.bQ)(hg:getM h id ep=some o)(ha:a<=len)(hle:len<=o.es.length):
  cr P h t (.ak id ep 0 len) (some (.int k (a:Int))) none none=some (if a=0 then .ak id ep 0 len else if len - a=0 then .aa false []else .ak id ep a (len - a)):=by
 simp[cr,hu,hs,hg,hle,beyond,cQ,ha]
 by_cases h0:a=0
 simp[h0]
 ·by_cases h1:len - a=0 <;>simp[h0,h1]
theorem NH{P:Program}{t el:TypeId}{id ep len a b:Nat}{o:aw}{k k' k2:IntKind}(hu:P.underlying t=some (.slice el))(hs:cF P el=some o.bQ)(hg:getM h id ep=some o)(ha:a<=b)(hb:b<=len)(bO:a<len)(hle:len<=o.es.length):
  cr P h t (.ak id ep 0 len) (some (.int k (a:Int))) (some (.int k' (b:Int))) (some (.int k2 (len:Int)))=some .any:=by
 have h1:¬len=a:=by omega
 simp[cr,hu,hs,hg,hle,beyond,cQ,ha,hb,h1]
theorem Aj{P:Program}{t el:TypeId}{id ep len a b:Nat}{o:aw}{k k':IntKind}(hu:P.underlying t=some (.slice el))(hs:cF P el=some o.bQ)(hg:getM h id ep=some o)(ha:a<=len)(hb:len<b)(hle:b<=o.es.length):
  cr P h t (.ak id ep 0 len) (some (.int k (a:Int))) (some (.int k' (b:Int))) none=some (if a=0 then .ak id ep 0 b else .ak id ep a (b - a)):=by
 have h1:(len:Int)<(b:Int):=by omega
 have h2:¬(b - a=0):=by omega
 have h3:len<=o.es.length:=by omega
 have h4:a<=b:=by omega
 simp[cr,hu,hs,hg,h3,beyond,h1,cQ,hle,h4,h2]
 by_cases h0:a=0 <;>simp[h0]
theorem p9{P:Program}{t el:TypeId}{id ep len b:Nat}{o:aw}{k':IntKind}(hu:P.underlying t=some (.slice el))(hs:cF P el=some o.bQ)(hg:getM h id ep=some o)(hb:len<b)(hle:b<=o.es.length):
  cr P h t (.ak id ep 0 len) none (some (.int k' (b:Int))) none=some (.ak id ep 0 b):=by
 have h1:(len:Int)<(b:Int):=by omega
 have h3:len<=o.es.length:=by omega
 simp[cr,hu,hs,hg,h3,beyond,h1,cQ,hle]
theorem R.slice{t:TypeId}{x:Operand}{lo hi mx:Option Operand}{p q:PV}{plo phi pmx:Option PV}(hx:cS L x=some p)(h1:lo.map (ev (al L O))=plo)(h2:hi.map (ev (al L O))=phi)(h3:mx.map (ev (al L O))=pmx)(hs:cr C.P h t p plo phi pmx=some q)
  (kk:ah C ops r ⟨al ((d,q)::L) O,h⟩ Q):ah C ops (⟨some d,.slice t x lo hi mx,ty,pos,af,none⟩::r) ⟨al L O,h⟩ Q:=
 ah.fo (λrun=>by simp only[au,aC,an hx,h1,h2,h3,hs,ab8]) kk
theorem D.slice{t:TypeId}{x:Operand}{lo hi mx:Option Operand}{p q:PV}{plo phi pmx:Option PV}(ee:aV h=true)(hx:cS L x=some p)(hv:bu (aO h) p=true)(h1:lo.map (ev (al L O))=plo)(h2:hi.map (ev (al L O))=phi)(h3:mx.map (ev (al L O))=pmx)
  (v1:plo.all (bu (aO h))=true) (v2:phi.all (bu (aO h))=true) (v3:pmx.all (bu (aO h))=true) (hs:cr C.P h t p plo phi pmx=some q)
  (kk:bg C ops (i+1) r ⟨⟨al ((d,q)::L) O,h⟩,h.length,[]⟩ Q):bg C ops i (⟨some d,.slice t x lo hi mx,ty,pos,af,none⟩::r) ⟨⟨al L O,h⟩,h.length,[]⟩ Q:=by
 refine bg.read rfl ee ?_ ⟨0,λn lv _ _=>by simp only[au,aC,an hx,h1,h2,h3,hs,ab8]⟩ kk;rw[<-h1]at v1;rw[<-h2]at v2;rw[<-h3]at v3;rw[abX]
 intro y hy
 simp only[Op.operands]at hy
 cases lo <;>cases hi <;>cases mx <;>simp at hy v1 v2 v3 <;>rcases hy with rfl |hy <;>first
  |(rw[an hx];exact hv)
  |(simp_all;done)
  |(rcases hy with rfl |hy <;>first |assumption |(rcases hy with rfl |rfl <;>assumption)|(subst hy;assumption))
theorem yb{st xt el ru:TypeId}{sz gu id ep k:Nat}{z u:PV}{ys:List PV}{o:aw}(hk:T.kd st=some (.sl el))(fZ:T.kd xt=some (.sl ru))(hs:T.ts el=some (sz+1))(hb:T.tb el=some gu)(hz:T.tz el=some z)(ju:gu<=1000)(hl:(cells z).length=sz+1)(ho:(cells z).all bM=true)
  (hu:cB h u=some ys) (hy:dC (sz+1) ys) (Ni:ys≠[]->iP id u=true) (hg:getM h id ep=some o) (hm:o.mu=.m) (ux:o.bQ=sz+1) (hle:k+ys.length<=o.es.length):
  bT C.P 2 h st xt (.ak id ep 0 k) u=some (.ak id ep 0 (k+ys.length),h.set id {o with es:=o.es.take k++ys++o.es.drop (k+ys.length)}):=by
 unfold bT;rw[bB (T.cY _ _ hk)];simp only[T.ez _ _ hs,T.rE _ _ hb,T.nH _ _ hz,cH,bB (T.cY _ _ fZ),hu];unfold dC at hy;rw[if_pos ⟨by omega,by omega,⟨hl,ho⟩,hy⟩];simp only[hg];rw[if_pos ⟨by omega,ux.symm⟩]
 cases ys with
 |nil=>
  have e1:o.es.take k++[]++o.es.drop (k+0)=o.es:=by simp
  have e2:h.set id {o with es:=o.es.take k++[]++o.es.drop (k+0)}=h:=by
   rw[e1];have h1:=(getM_some hg).1;have cM:=ag h1;rw[ab1 cM]at h1;have:(h[id]:aw)={o with es:=o.es}:=abV h1;rw[<-this];exact aem cM
  simp only[List.isEmpty_nil,if_true,acz,adI]at e2 ⊢;rw[e2]
 |cons y ys=>
  have bO:(y::ys).isEmpty=false:=rfl;simp only[bO,aca,if_false];rw[if_pos ⟨trivial,abZ _,hm,Ni (by simp),hle⟩]
theorem D.yb{st xt el ru:TypeId}{sz gu id ep k L0:Nat}{own:List Nat}{z u:PV}{ys:List PV}{o:aw}{x y:Operand}(dp:level ops (before ops) i=2)(hx:cS L x=some (.ak id ep 0 k))(Vd:cS L y=some u)(hk:T.kd st=some (.sl el))(fZ:T.kd xt=some (.sl ru))(hs:T.ts el=some (sz+1))(hb:T.tb el=some gu)(hz:T.tz el=some z)(ju:gu<=1000)(hl:(cells z).length=sz+1)(ho:(cells z).all bM=true)
  (hu:cB h u=some ys) (hy:dC (sz+1) ys) (Ni:ys≠[]->iP id u=true) (hg:getM h id ep=some o) (hm:o.mu=.m) (ux:o.bQ=sz+1) (hle:k+ys.length<=o.es.length)
  (kk:bg C ops (i+1) r ⟨⟨al ((d,.ak id ep 0 (k+ys.length))::L) O,h.set id {o with es:=o.es.take k++ys++o.es.drop (k+ys.length)}⟩,(h.set id {o with es:=o.es.take k++ys++o.es.drop (k+ys.length)}).length,[]⟩ Q):
  bg C ops i (⟨some d,.call ⟨.builtin .append,#[x,y],#[st,xt]⟩,ty,pos,af,none⟩::r) ⟨⟨al L O,h⟩,L0,own⟩ Q:=by
 refine bg.two rfl dp ⟨0,λn _=>?_⟩ kk;have oA:=Pm.yb T hk fZ hs hb hz ju hl ho hu hy Ni hg hm ux hle;simp only[au,bt,acg,acr,an hx,an Vd,oA]
theorem R.NI{t el:TypeId}{id ep off len:Nat}{z:PV}{o:aw}{x:Operand}(hx:cS L x=some (.ak id ep off len))(hk:T.kd t=some (.sl el))(hs:T.ts el=some o.bQ)(hz:T.tz el=some z)(hl:(cells z).length=o.bQ)(ho:(cells z).all bM=true)(hg:getM h id ep=some o)(hm:o.mu=.m)(hle:off+len<=o.es.length)
  (kk:ah C ops r ⟨al L O,h.set id {o with es:=o.es.take off++List.replicate len z++o.es.drop (off+len)}⟩ Q):ah C ops (⟨none,.call ⟨.builtin .clear,#[x],#[t]⟩,ty,pos,af,none⟩::r) ⟨al L O,h⟩ Q:=by
 refine ah.val (v:=.cA []) (h':=h.set id {o with es:=o.es.take off++List.replicate len z++o.es.drop (off+len)}) rfl (λrun=>?_) kk;simp only[au,bt,acg,acr,an hx,mZ,bB (T.cY _ _ hk),T.ez _ _ hs,T.nH _ _ hz,hg];rw[if_pos ⟨abZ _,hm,trivial,hle,hl,ho⟩]
end
attribute [local irreducible] aD az aL aJ Ev ah aj ay bg
namespace Zero
set_option maxHeartbeats 4000000
theorem Ve(N:Nat){h:ab}{id ep len k:Nat}{o:aw}(hg:getM h id ep=some o)(hm:o.mu=.m)(hz:o.bQ=5)(hle:len<=o.es.length)(hk:k<len)(hn:len<100000000)(gk:(o.es.take len).all (kY 5)=true)(ee:aV h=true):
  ∃pG:List PV,pG.length=o.es.length/\pG.take (len - 1)=(o.es.take len).take k++(o.es.take len).drop (k+1)/\
   ay C0 352 [.ak id ep 0 len,.int .i64 (k:Int),.int .i64 ((k:Int)+1)] h (λr h'=>r=.ak id ep 0 (len - 1)/\h'=h.set id {o with es:=pG}):=by
 have hgs:=(getM_some hg).1;have cM:=ag hgs
 have iv:aO h id=true:=by
  unfold aO;rw[hgs];simp[hm]
 obtain⟨ys,pK⟩:∃ys,ys=(o.es.drop (k+1)).take (len - (k+1)):=⟨_,rfl⟩;have YO:ys.length=len - (k+1):=by rw[pK];simp;omega
 have GF:dC 5 ys:=by
  unfold dC;rw[abX]at gk ⊢
  intro v hv
  rw[pK]at hv
  have ek:v∈o.es.take len:=by
   have:(o.es.drop (k+1)).take (len - (k+1))=(o.es.take len).drop (k+1):=by rw[aex]
   rw[this]at hv;exact acJ hv
  have:=gk v ek;unfold kY at this;simp only[ab4]at this ⊢;exact⟨this.1.2,this.2⟩
 obtain⟨dQ,oY⟩:∃dQ,dQ=o.es.take k++ys++o.es.drop (k+ys.length):=⟨_,rfl⟩;have dp:dQ.length=o.es.length:=by rw[oY];simp;omega
 refine⟨dQ.take (len - 1)++List.replicate 1 (.agg [.int .i64 0,.str ByteArray.empty,.int .i64 0,.aa true [],.int .i64 0])++dQ.drop (len - 1+1),by simp;omega,?_,?_⟩
 ·have e1:(dQ.take (len - 1)++List.replicate 1 (.agg [.int .i64 0,.str ByteArray.empty,.int .i64 0,.aa true [],.int .i64 0]:PV)++dQ.drop (len - 1+1)).take (len - 1)=dQ.take (len - 1):=by
   rw[acp,acC (by simp;omega),adq];congr 1;omega
  rw[e1,oY];have e2:(o.es.take k++ys).length=len - 1:=by simp;omega
  rw[acC (by omega),acu (by omega),adq,pK]
  congr 1
  ·congr 1;omega
  rw[aex]
 ·refine ay.dM Tryz.func352 rfl ?_;have hu:C0.P.underlying 175=some (.slice 187):=bB (T6.cY 175 _ rfl);have gR:cF C0.P 187=some o.bQ:=by rw[hz];exact T6.ez 187 5 rfl
  have hsT:T6.ts 187=some o.bQ:=by rw[hz];rfl
  have hj:((k:Int)+1)=((k+1:Nat):Int):=by omega
  refine wD ?_;apply R.Ag T6 (o:=o);exact rfl;exact rfl;exact hg;exact(by omega)
  skip
  apply R.slice;exact rfl;exact rfl;exact rfl;exact rfl
  ·show cr C0.P h 175 (.ak id ep 0 len) (some (.int .i64 (k:Int))) (some (.int .i64 ((k:Int)+1))) (some (.int .i64 (len:Int)))=some .any;rw[hj];exact NH hu gR hg (by omega) (by omega) (by omega) hle
  refine wF λhc=>?_;apply R.Ag T6 (o:=o);exact rfl;exact rfl;exact hg;exact(by omega);refine wD ?_;apply D.slice;exact ee;exact rfl;exact iv;exact rfl;exact rfl;exact rfl;exact rfl;exact rfl;exact rfl;exact uB (b:=k) (k:=.i64) hu gR hg (by omega) hle;refine wD ?_;apply D.slice;exact ee;exact rfl;exact iv;exact rfl;exact rfl;exact rfl;exact rfl;exact rfl;exact rfl
  ·show cr C0.P h 175 (.ak id ep 0 len) (some (.int .i64 ((k:Int)+1))) none none=_;rw[hj];exact qP hu gR hg (by omega) hle
  rw[if_neg (by omega)];apply D.yb T6 (ys:=ys) (o:=o) (sz:=4);exact rfl;exact rfl;exact rfl;exact rfl;exact rfl;exact rfl;exact rfl;exact rfl;exact(by decide);exact rfl;exact rfl
  ·split
   ·have:ys=[]:=acd (by omega);rw[this];rfl
   ·simp only[cB,hg];rw[if_pos (by omega),pK]
  exact GF
  ·intro bO
   rw[if_neg (λhh=>bO (acd (by omega)))];simp[iP]
  exact hg;exact hm;exact hz;omega;have sZ:k+ys.length=len - 1:=by omega
  have AS:h.set id {o with es:=o.es.take k++ys++o.es.drop (k+ys.length)}=h.set id {o with es:=dQ}:=by rw[oY]
  have Vf:=(getM_some hg).2.1;have qQ:getM (h.set id {o with es:=dQ}) id ep=some {o with es:=dQ}:=bp (abY cM) Vf (by show o.mu≠.x;rw[hm];simp);refine bg.heap AS ?_;rw[sZ];clear AS;refine wD ?_;apply R.Ag T6 (o:={o with es:=dQ});exact rfl;exact rfl;exact qQ;exact(by show 0+(len - 1)<=dQ.length;omega);refine wD ?_;apply R.slice;exact rfl;exact rfl;exact rfl;exact rfl;exact Aj (o:={o with es:=dQ}) (len:=len - 1) (a:=len - 1) (b:=len) (k:=.i64) (k':=.i64) hu gR qQ (abZ _) (by omega) (by show len<=dQ.length;omega)
  by_cases h1:len - 1=0
  ·rw[if_pos h1];have YP:len=1:=by omega
   subst YP;apply R.NI T6 (o:={o with es:=dQ}) (z:=.agg [.int .i64 0,.str ByteArray.empty,.int .i64 0,.aa true [],.int .i64 0]);exact rfl;exact rfl;exact hsT;exact rfl;show 5=o.bQ;omega
   rfl
   exact qQ;exact hm;show 0+1<=dQ.length;omega;refine wD ?_;exact⟨rfl,by rw[ac4]⟩
  ·rw[if_neg h1];have h2:len - (len - 1)=1:=by omega
   rw[h2];apply R.NI T6 (o:={o with es:=dQ}) (z:=.agg [.int .i64 0,.str ByteArray.empty,.int .i64 0,.aa true [],.int .i64 0]);exact rfl;exact rfl;exact hsT;exact rfl;show 5=o.bQ;omega
   rfl
   exact qQ;exact hm;show len - 1+1<=dQ.length;omega;refine wD ?_;exact⟨rfl,by rw[ac4]⟩
theorem GG:fT C0.P 352 lU:=by
 intro args h r h' e w F X vs H ha
 unfold lU at e
 split at e
 ·rename_i id ep len i j
  split at e
  ·rename_i o hg
   split at e
   ·rename_i hc
    obtain⟨hm,hz,hle,YQ,rfl,hi,hn,gk,ee⟩:=hc;obtain⟨rfl,rfl⟩:=ab7 (abV e);obtain⟨k,rfl⟩:=adr YQ;have hk:k<len:=by omega
    obtain⟨pG,l3,t3,f3⟩:=Ve 0 hg hm hz hle hk hn gk ee;unfold ay at f3;obtain⟨r3,h3,⟨rfl,rfl⟩,n0,TS⟩:=f3;obtain⟨g1,g2,g3⟩:=getM_some hg;have cM:=ag g1;refine(S0 n0 _ (.inr (sO rfl)) _ h _ _ (TS n0 (abZ _)) w F X vs H ha).mono ?_;rintro en w' ⟨v,X1,rfl,q1,q2,q3,_⟩;have eo:(h.set id {o with es:=pG})[id]?=some {o with es:=pG}:=abY cM;obtain⟨bc,hb⟩:=dB q2.len eo;have ux:0<({o with es:=pG}:aw).bQ:=by show 0<o.bQ;omega
    obtain⟨_,_,_,k2,_⟩:=(q2.obj id _ bc eo hb (by show o.mu≠.x;rw[hm];simp)).c ux;have aaB:((o.es.take len).take k++(o.es.take len).drop (k+1)).length=len - 1:=by simp;omega
    have rs:=q2.oZ eo hb hm ((o.es.take len).take k++(o.es.take len).drop (k+1)) (ep+1) (by show o.ep<ep+1;omega) (by rw[aaB];simp only at k2;omega) (λi e he=>by
     left
     show pG[i]?=some e;rw[<-t3]at he;rw[acj]at he
     split at he
     exact he
     cases he)
    have eT:(h.set id {o with es:=pG}).set id {({o with es:=pG}:aw)with es:=(o.es.take len).take k++(o.es.take len).drop (k+1),ep:=ep+1}=h.set id {o with ep:=ep+1,es:=(o.es.take len).take (Int.toNat (k:Int))++(o.es.take len).drop (Int.toNat (k:Int)+1)}:=by
     rw[ac4];rfl
    have vr:=aE.oZ (A:=Av F (h.set id {o with ep:=ep+1,es:=(o.es.take len).take (Int.toNat (k:Int))++(o.es.take len).drop (Int.toNat (k:Int)+1)}) X1) eo hb hm q1 g2 (by show len - 1<=pG.length;omega) ((o.es.take len).take k++(o.es.take len).drop (k+1)) (ep+1);rw[eT]at rs vr;exact⟨v,X1,rfl,vr,rs.1,q3.trans rs.2,λhh=>by omega⟩
   cases e
  cases e
 cases e
end Zero
end Go.Pm
namespace Go.Pm
open Go.Proofs
variable{w:World}{F:Nat->Prop}{X:List (Nat×Nat)}{h:ab}
set_option maxRecDepth 100000
set_option maxHeartbeats 4000000
theorem R.Eu{C:cW}(T:mD C.P){ops:Array Oper}{d:Nat}{ty:TypeId}{pos:String}{af:Array Edge}{r:List Oper}{O:Nat->PV}{L:List (Nat×PV)}{Q:St->Prop}{st xt el ru:TypeId}{sz gu id ep len:Nat}{z:PV}{full:Bool}{ys:List PV}{o:aw}{x y:Operand}(hx:cS L x=some (.ak id ep 0 len))(Vd:cS L y=some (.aa full ys))(hk:T.kd st=some (.sl el))(fZ:T.kd xt=some (.sl ru))(hs:T.ts el=some (sz+1))(hb:T.tb el=some gu)(hz:T.tz el=some z)(ju:gu<=1000)(hl:(cells z).length=sz+1)(ho:(cells z).all bM=true)
  (hy:dC (sz+1) ys) (bO:ys.isEmpty=false) (hn:len+ys.length<1000000000) (hg:getM h id ep=some o) (hm:o.mu=.m) (ux:o.bQ=sz+1) (hle:len<=o.es.length)
  (kk:ah C ops r ⟨al ((d,.ak id (ep+1) 0 (len+ys.length))::L) O,h.set id {o with ep:=ep+1,es:=o.es.take len++ys}⟩ Q):
  ah C ops (⟨some d,.call ⟨.builtin .append,#[x,y],#[st,xt]⟩,ty,pos,af,none⟩::r) ⟨al L O,h⟩ Q:=by
 refine ah.fo (λrun=>?_) kk;have oA:=lH T (full:=full) hk fZ hs hb hz ju hl ho hy bO hn hg hm ux hle;simp only[au,bt,acg,acr,an hx,an Vd,oA]
theorem Bv{P:Program}{t el:TypeId}{fl:Bool}{sz:Nat}{k:IntKind}(hu:P.underlying t=some (.slice el))(hs:cF P el=some sz):cr P h t (.aa fl []) (some (.int k 0)) none none=some (.aa fl []):=by
 simp[cr,hu,hs,cQ]
attribute [local irreducible] aD az aL aJ Ev ah aj ay bg
theorem tH{sz:Nat}{e:PV}(h:kY sz e=true):dC sz [e]:=by
 unfold kY at h;simp only[ab4]at h;unfold dC;simp only[acT,adC,adp,ab4];exact⟨h.1.2,h.2⟩
namespace Zero
theorem u5{h:ab}{fl:Bool}{e:PV}(he:kY 5 e=true):ay C0 351 [.aa true [],.int .i64 0,.aa fl [e]] h (λr h'=>r=.ak h.length 0 0 1/\h'=h++[⟨.m,0,5,[e]⟩]):=by
 refine ay.dM Tryz.func351 rfl ?_;have hu:C0.P.underlying 175=some (.slice 187):=bB (T6.cY 175 _ rfl);have xe:([e]:List PV).length=1:=rfl;refine wD ?_;apply R.slice;exact rfl;exact rfl;exact rfl;exact rfl;exact Bv hu (T6.ez 187 5 rfl)
 (repeat' (first |refine ah.nil ?_ |(apply R.move;exact rfl)|(apply R.assign;exact rfl)|(apply R.cmp;exact rfl;exact rfl;exact rfl;all_goals intro hc;all_goals(try(exfalso;omega)))|(apply R.rX T6;exact rfl;exact rfl)|refine Ev.seq ?_ |refine Ev.region ?_ |(apply Ev.fR;exact rfl)|refine Ev.skip ?_ |refine aD.normal ?_ |fail))
 all_goals try(exfalso;revert hc;decide)
 all_goals(
  apply R.jC T6;exact rfl;exact rfl;exact rfl;exact rfl;exact rfl;exact rfl;exact rfl;exact(by decide);exact rfl;exact rfl;exact tH he;exact(by simp);exact(by show 1<_;decide);refine wD ?_;exact⟨rfl,rfl⟩)
theorem u6{h:ab}{fl:Bool}{e:PV}{id ep len:Nat}{o:aw}(he:kY 5 e=true)(hg:getM h id ep=some o)(hm:o.mu=.m)(hz:o.bQ=5)(hle:len<=o.es.length)(hn:len<100000000):
  ay C0 351 [.ak id ep 0 len,.int .i64 (len:Int),.aa fl [e]] h (λr h'=>r=.ak id (ep+1) 0 (len+1)/\h'=h.set id {o with ep:=ep+1,es:=o.es.take len++[e]}):=by
 refine ay.dM Tryz.func351 rfl ?_;have hu:C0.P.underlying 175=some (.slice 187):=bB (T6.cY 175 _ rfl);have xe:([e]:List PV).length=1:=rfl;have gR:cF C0.P 187=some o.bQ:=by rw[hz];exact T6.ez 187 5 rfl
 refine wD ?_;apply R.slice;exact rfl;exact rfl;exact rfl;exact rfl;exact qP hu gR hg (abZ _) hle;refine wF λhc=>?_
 all_goals try(exfalso;revert hc;decide)
 all_goals(
  apply R.Ag T6 (o:=o);exact rfl;exact rfl;exact hg;exact(by omega);refine wF λhc=>?_;apply R.Eu T6 (o:=o);exact rfl;exact rfl;exact rfl;exact rfl;exact rfl;exact rfl;exact rfl;exact(by decide);exact rfl;exact rfl;exact tH he;exact rfl;exact(by show len+1<_;omega);exact hg;exact hm;exact hz;exact hle;refine wD ?_;exact⟨rfl,rfl⟩)
end Zero
end Go.Pm
namespace Go.Pm
open Go.Proofs
variable{w:World}{F:Nat->Prop}{X:List (Nat×Nat)}{h:ab}
set_option maxRecDepth 100000
set_option maxHeartbeats 4000000
theorem CJ(H:bo w F X h){v:Value}{id ep off len:Nat}{o:aw}(hv:aE w (Av F h X) X h v (.ak id ep off len))(hg:getM h id ep=some o)(hle:off+len<=o.es.length):
  ∃bc:Nat×Nat,X[id]?=some bc/\∃cap,v=.slice (some ⟨bc.1,off * o.bQ,none⟩) len cap/\off+cap=bc.2:=by
 obtain⟨e1,e2,e3⟩:=getM_some hg;obtain⟨bc,hb⟩:=dB H.len e1;obtain⟨_,_,m3⟩:=hv.dW;exact⟨bc,hb,m3 o bc e1 hb e3 e2 hle⟩
theorem tF{P:Program}{a:Act}{O:Nat->PV}(H:bo w F X h)(R:iI w (Av F h X) X h a O){t el:TypeId}{x:Operand}{id ep len:Nat}{o:aw}{bc:Nat×Nat}(hu:P.underlying t=some (.slice el))(hx:ev O x=.ak id ep 0 len)(hg:getM h id ep=some o)(hb:X[id]?=some bc)(hle:len<=o.es.length):
  ∀oo:Oper,oo.op=.call ⟨.builtin .cap,#[x],#[t]⟩->wO P 2 w F X h (execOp a.eval oo) (.int .i64 (bc.2:Int)) h:=by
 intro oo ho
 have hv:=R.ev x;rw[hx]at hv;obtain⟨dq,eg,cap,e1,e2⟩:=CJ H hv hg (by omega);obtain rfl:=abV (hb.symm.trans eg);have hc:cap=bc.2:=by omega
 subst hc;obtain⟨d,op,ty,pos,af,g⟩:=oo;simp only at ho;subst ho;refine⟨.int .i64 (bc.2:Int),w,X,.inl ?_,.val (.int _ _),H,eD.refl w h X,λ_=>dN.refl w⟩
 have h1:(Builtin.cap_ #[t] ty #[a.eval x]).run P w=.ok (.int .i64 (bc.2:Int)) w:=by
  simp[Builtin.cap_,e1,bU hu,goInt]
 simp only[execOp,resolve,Sem.run_bind,Sem.run_pure,Result.andThen_ok,invoke,builtin];simp[h1]
theorem rB{P:Program}(w:World)(tS tR e:TypeId)(ht:P.underlying tS=some (.slice e))(size:Nat)(hz:∀w,(Go.sizeOf e).run P w=.ok size w)
  (a b:Addr) (la ca lb cb:Nat) (bO:a.block≠b.block) (tA tB:TypeId) (kA kB:Nat)
  (XO:w.shape? a.block=some (tA,kA)) (XP:w.shape? b.block=some (tB,kB)) (RX:kA≠0)
  (XJ:w.frozen? b=false) (hfe:w.frozen? {block:=b.block,off:=kB}=false):
  (Extern.SlicesOverlaps.overlaps #[tS,tS] #[tR] #[.slice (some a) la ca,.slice (some b) lb cb]).run P w=.ok (.bool false) w:=by
 have UX:(a.block !=b.block)=true:=by simpa using bO
 have aaP:(a.block==b.block)=false:=by simpa using bO
 conv=>lhs;arg 2;whnf
 have he:(#[tS,tS]:Array TypeId)[0]=tS:=rfl;have hbp:∀{α X:Type} (x:α) (f:α->Sem X),(pure x:Sem α).bind f=f x:=λ_ _=>rfl
 by_cases h0:la=0\/lb=0\/size=0
 simp[Sem.run,Sem.bind,hbp,he,ht,hz,h0]
 ·cases kA with
  |zero=>exact absurd rfl RX
  |succ kA=>
   cases h3:w.frozen? a <;>cases h4:w.frozen? {block:=a.block,off:=kA+1} <;>
    simp[Sem.run,Sem.bind,hbp,he,ht,hz,h0,UX,aaP,frozen,noView,viewAt,mayBeOne,stringish,shape,XO,XP,XJ,hfe,h3,h4]
theorem rJ{P:Program}{a:Act}{O:Nat->PV}(H:bo w F X h)(R:iI w (Av F h X) X h a O){t el tR:TypeId}{sz:Nat}{x y:Operand}{f:FuncId}{fn:Func}{fl:Bool}{e1:PV}{id ep off n:Nat}{o:aw}
  (hu:P.underlying t=some (.slice el)) (hs:cF P el=some sz) (hx:ev O x=.aa fl [e1]) (hy:ev O y=.ak id ep off n) (hg:getM h id ep=some o) (hm:o.mu=.m) (hle:off+n<=o.es.length)
  (hf : P.funcs[f]? = some fn) (Zq : (fn.name == "runtime.NumGoroutine") = false) (QC : fn.body.isNone = true) (hn : Extern.findNext fn = none) (he : Extern.find fn = some (Extern.SlicesOverlaps.overlaps #[t, t] #[tR])) {Bu : Array TypeId} :
  ∀oo:Oper,oo.op=.call ⟨.value (.func f),#[x,y],Bu⟩->wO P 2 w F X h (execOp a.eval oo) (.bool false) h:=by
 intro oo ho
 have Wt:=R.ev x;rw[hx]at Wt;have XQ:=R.ev y;rw[hy]at XQ;obtain⟨bc,hb,cap,ey,e2⟩:=CJ H XQ hg hle;obtain⟨g1,g2,g3⟩:=getM_some hg;obtain⟨T,cs,k1,k2,k3,k4,k5⟩:=(H.obj id o bc g1 hb g3).c (XQ.dW.2.1 o g1).2;rcases Wt.fV.uz with h0 |⟨b,aaQ,Gk,IW,pW,ex,hnA,gR,xe,RY,MC⟩
 cases h0
 have KT:b≠bc.1:=λhh=>hnA (.inr ⟨id,o,bc,g1,hb,hm,hh.symm⟩)
 have ll:=RY 0 0 (by simp) gR
 obtain⟨tA,kA,XO,RX⟩:∃tA kA,w.shape? b=some (tA,kA)/\kA≠0:=by
  simp only[World.cell?]at ll
  split at ll
  ·rename_i c el0 fr hh
   split at ll
   cases ll
   ·refine⟨el0,c.size,by simp[World.shape?,hh],?_⟩
    intro h0
    have:=(acq.1 ll).1;omega
  cases ll
 have XP:w.shape? bc.1=some (T,cs.size):=by simp[World.shape?,k1]
 have hfb:∀of,w.frozen? ⟨bc.1,of,none⟩=false:=λof=>by simp[World.frozen?,k1]
 have hov:=rB (P:=P) w t tR el hu sz (λw=>cP hs w) ⟨b,aaQ,none⟩ ⟨bc.1,off * o.bQ,none⟩ 1 Gk n cap KT tA T kA cs.size XO XP RX (hfb _) (hfb _);obtain⟨d,op,ty,pos,af,g⟩:=oo;simp only at ho;subst ho;refine⟨.bool false,w,X,.inl ?_,.val (.bool _),H,eD.refl w h X,λ_=>dN.refl w⟩;have hc:=run_callFunc_extern hf Zq QC hn he #[a.eval x,a.eval y] w;rw[ex,ey]at hc;rw[show([e1]:List PV).length=1 from rfl]at hc;rw[hov]at hc;have hfv:a.eval (.func f)=.func (.func f) #[] #[]:=rfl;simp only[execOp,resolve,hfv,Deferred.ofValue,Sem.run_bind,Sem.run_pure,Result.andThen_ok,invoke];simp only[Array.append_empty,List.map_toArray,acg,acr,ex,ey];exact hc
theorem vU{P:Program}{a:Act}{O:Nat->PV}(H:bo w F X h)(R:iI w (Av F h X) X h a O){st xt el:TypeId}{k:IntKind}{sz gu n:Nat}{z:PV}{x y:Operand}{id ep len:Nat}{o:aw}{bc:Nat×Nat}
  (hu:P.underlying st=some (.slice el)) (Qv:P.underlying xt=some (.int k)) (hs:cF P el=some sz) (ni:0<sz) (hb:mY P el=some gu) (ju:gu<=1000) (hz:jv P el=some z) (hl:(cells z).length=sz) (uY:(cells z).all bM=true)
  (hx:ev O x=.ak id ep 0 len) (hy:ev O y=.int k (n:Int)) (hg:getM h id ep=some o) (oC:X[id]?=some bc) (hle:len<=o.es.length) (gR:o.bQ=sz) (nY:bc.2<len+n) (hn:len+n<1000000000):
  ∀oo:Oper,oo.op=.call ⟨.builtin .append,#[x,y],#[st,xt]⟩->wO P 2 w F X h (execOp a.eval oo) (.ak h.length 0 0 (len+n)) (h++[⟨.m,0,sz,o.es.take len++List.replicate n z⟩]):=by
 intro oo ho
 obtain⟨d,op,ty,pos,af,g⟩:=oo;simp only at ho;subst ho;have Wt:=R.ev x;rw[hx]at Wt;have XQ:=R.ev y;rw[hy]at XQ;obtain⟨dq,eg,cap,ex,e2⟩:=CJ H Wt hg (by omega);obtain rfl:=abV (oC.symm.trans eg);have CG:cap=bc.2:=by omega
 subst CG;obtain⟨g1,g2,g3⟩:=getM_some hg;obtain⟨T,uv,k1,k2,k3,k4,k5⟩:=(H.obj id o bc g1 oC g3).c (Wt.dW.2.1 o g1).2
 have main:Cx P 2 w F X h (Builtin.append_ #[st,xt] ty #[a.eval x,a.eval y]) (.ak h.length 0 0 (len+n)) (h++[⟨.m,0,sz,o.es.take len++List.replicate n z⟩]):=by
  have YO:(List.replicate n z).length=n:=adz
  have eR:(List.replicate n z).all (λv=>decide ((Pm.cells v).length=sz)&& (Pm.cells v).all bM)=true:=by
   rw[abX]
   intro v hv
   obtain rfl:=acY hv;rw[hl,uY];simp
  have aaR:cH P h z xt (.int k (n:Int))=some (List.replicate n z):=by
   simp only[cH,Qv];rw[if_pos (by omega)];simp
  obtain⟨vz,z1,z2⟩:=j' (P:=P) hz;obtain⟨zb,d',a1,a2,news,a3,a4,a5,a6⟩:=tG (st:=st) (vz:=vz) H hs hb hz ni (by omega) XQ aaR eR;rw[YO]at a5 a6;have zsz:vz.cells.size=sz:=by rw[((z2 w (Av F h X) X h).cells uY).1];exact hl
  have jt:cB h (.ak id ep 0 len)=some ((o.es.drop 0).take len):=by simp only[cB,hg];rw[if_pos (by omega)]
  have sF:((o.es.drop 0).take len).length=len:=by simp;omega
  obtain⟨a',Gk,ev',_,cs,f1,f2⟩:=mj (P:=P) (sz:=sz) H Wt jt (λy hy=>by
   obtain⟨k,hk⟩:=ac5 hy;rw[acj]at hk
   split at hk
   simp at hk;rw[<-gR];exact(k5 k y hk).1
   cases hk)
  simp only[ac3]at f1 sF f2;have OC:len+n<=17592186044416:=by omega
  have Wu:(len+n) * gu<=17592186044416:=by
   have:(len+n) * gu<=1000000000 * 1000:=adZ (by omega) ju
   omega
  obtain⟨c,c1,gz⟩:=qj (P:=P) (w:=w) (ty:=ty) (ts:=#[st,xt]) (args:=#[a.eval x,a.eval y]) (olds:=cs) (sLen:=len) (sCap:=bc.2) (base:=some ⟨bc.1,0 * o.bQ,none⟩) rfl rfl (by rw[ex];rfl) rfl hu hs a1 a2 hb (by omega) z1 a5 a6 (λw' Cc=>by
   have:=f2 w' Cc len (by omega);rw[acu (by rw[f1.1,sF];exact abZ _)]at this;rw[<-ex];exact this) (by omega) Wu OC
  have Jc:=f1.append a3;have arr:cs.toArray++news.toArray++Builtin.zeroCells vz.cells (c - (len+n))=(cs++news++(Builtin.zeroCells vz.cells (c - (len+n))).toList).toArray:=by apply adD;simp
  have arrsz:c * sz<=(cs.toArray++news.toArray++Builtin.zeroCells vz.cells (c - (len+n))).size:=by
   simp only[Array.size_append,aei,size_zeroCells,zsz,f1.1,a3.1,sF,YO,<-acU];rw[show len+n+(c - (len+n))=c by omega];exact abZ _
  obtain⟨HH,S⟩:=bo.new H (w':=w.drew.alloc (.cells (cs.toArray++news.toArray++Builtin.zeroCells vz.cells (c - (len+n))) el)) el
   (cs.toArray++news.toArray++Builtin.zeroCells vz.cells (c - (len+n))) {mu:=.m,ep:=0,bQ:=sz,es:=o.es.take len++List.replicate n z} c rfl rfl rfl rfl rfl (by simp;omega)
   arrsz ni (λi e he=>by
    rw[arr];exact Jc.obj (rest:=(Builtin.zeroCells vz.cells (c - (len+n))).toList) i e he)
  exact⟨_,_,_,gz,H.xn,HH,S,λhh=>by omega⟩
 obtain⟨v,w',X',r1,r2,r3,r4,r5⟩:=main;refine⟨v,w',X',.inl ?_,r2,r3,r4,r5⟩;simp only[execOp,resolve,Sem.run_bind,Sem.run_pure,Result.andThen_ok,invoke,builtin];simp only[List.map_toArray,acg,acr,r1,Result.andThen_ok]
theorem bo.OD{w w':World}{F:Nat->Prop}{X:List (Nat×Nat)}{h:ab}(H:bo w F X h){id:Nat}{o:aw}{bc:Nat×Nat}(eo:h[id]?=some o)(eb:X[id]?=some bc)(em:o.mu=.m)
  (T:TypeId) (cs:Array Value) (eV:List PV) (iC:Nat) (dq:Nat×Nat)
  (gR:w.heap.size<=w'.heap.size) (cC:w'.heap[dq.1]?=some (.cells cs T (0,0))) (sc:∀b,b<w.heap.size->w'.heap[b]?=w.heap[b]?)
  (DT:w.heap.size<=dq.1) (cM:o.ep<iC) (ho:w'.os=w.os) (ht:w'.tape=w.tape) (hu:w'.output=w.output)
  (h1:eV.length<=dq.2) (h2:dq.2 * o.bQ<=cs.size)
  (h4:∀(i:Nat) (e:PV),eV[i]?=some e->(cells e).length=o.bQ/\∀(j:Nat) (p:PV),(cells e)[j]?=some p->∃v:Value,cs[i * o.bQ+j]?=some v/\aE w' (Av F (h.set id {o with es:=eV,ep:=iC}) (X.set id dq)) (X.set id dq) (h.set id {o with es:=eV,ep:=iC}) v p)
  (hd:w.drawn<=w'.drawn:=by first |exact abZ _ |exact adV _) (hz0:0<o.bQ:=by first |assumption |omega):
  bo w' F (X.set id dq) (h.set id {o with es:=eV,ep:=iC})/\eD w h X w' (h.set id {o with es:=eV,ep:=iC}) (X.set id dq):=by
 have hlen:=H.len;have bZ:=ag eo;have V4:0<o.bQ:=hz0;have nB:(h.set id {o with es:=eV,ep:=iC})[id]?=some {o with es:=eV,ep:=iC}:=by simp[bZ]
 have bself:(X.set id dq)[id]?=some dq:=by simp[hlen,bZ]
 have kH:∀k,k≠id->(h.set id {o with es:=eV,ep:=iC})[k]?=h[k]?:=λk hk=>ab0 (acS hk)
 have both:∀k,k≠id->(X.set id dq)[k]?=X[k]?:=λk hk=>ab0 (acS hk)
 have hs:eD w h X w' (h.set id {o with es:=eV,ep:=iC}) (X.set id dq):=by
  refine⟨gR,by simp,λb hb hm=>sc b hb,?_,?_,?_,ho,ht,hu,hd⟩
  ·rintro b hb ⟨k,o',c',e1,e2,e3,rfl⟩
   by_cases hk:k=id
   ·subst hk;rw[bself]at e2;obtain rfl:=abV e2;omega
   ·rw[kH k hk]at e1;rw[both k hk]at e2;exact⟨k,o',c',e1,e2,e3,rfl⟩
  ·intro k o' c' e1 e2 e3
   by_cases hk:k=id
   ·subst hk;rw[eo]at e1;rw[eb]at e2;obtain rfl:=abV e1;obtain rfl:=abV e2;exact⟨_,dq,nB,bself,by rw[em];simp,⟨Nat.le_of_lt cM,λh=>h⟩,λe=>by simp at e;omega⟩
   exact⟨o',c',by rw[kH k hk];exact e1,by rw[both k hk];exact e2,e3,⟨abZ _,λh=>h⟩,λ_=>⟨rfl,λ_=>rfl,rfl⟩⟩
  ·intro k o' e1 e2
   have hk:k≠id:=by
    rintro rfl;rw[eo]at e1;obtain rfl:=abV e1;exact e2 em
   exact⟨by rw[kH k hk];exact e1,both k hk⟩
 refine⟨⟨by simp[hlen],λb hb=>acN (H.fin b hb) gR,?_,?_,?_⟩,hs⟩
 ·intro k o' c' e1 e2 e3
  by_cases hk:k=id
  ·subst hk;rw[nB]at e1;rw[bself]at e2;obtain rfl:=abV e1;obtain rfl:=abV e2;exact .inl ⟨T,cs,cC,h1,h2,V4,h4⟩
  ·rw[kH k hk]at e1;rw[both k hk]at e2;have r:=H.obj k o' c' e1 e2 e3;exact kZ.mono hs (sc _ r.lt) r
 ·intro k k' o1 o2 Qy GU bO e1 e2 e3 e4 m1 m2
  by_cases hk:k=id
  ·subst hk;have fZ:k'≠k:=acS bO;rw[kH k' fZ]at e2;rw[both k' fZ]at e4;rw[bself]at e3;obtain rfl:=abV e3;have:=(H.obj k' o2 GU e2 e4 m2).lt;omega
  ·rw[kH k hk]at e1;rw[both k hk]at e3
   by_cases fZ:k'=id
   ·subst fZ;rw[bself]at e4;obtain rfl:=abV e4;have:=Mb.lt H ⟨k,o1,Qy,e1,e3,m1,rfl⟩;omega
   ·rw[kH k' fZ]at e2;rw[both k' fZ]at e4;exact H.iT k k' o1 o2 Qy GU bO e1 e2 e3 e4 m1 m2
 ·intro k o' c' e1 e2 e3
  by_cases hk:k=id
  ·subst hk;rw[bself]at e2;obtain rfl:=abV e2
   intro hf;have:=H.fin _ hf;omega
  ·rw[kH k hk]at e1;rw[both k hk]at e2;exact H.out k o' c' e1 e2 e3
end Go.Pm
namespace Go.Pm
open Go.Proofs
section
variable{w:World}{F:Nat->Prop}{X:List (Nat×Nat)}
variable{C:cW}(T:mD C.P)
variable{ops:Array Oper}{i:Nat}{d:Nat}{ty:TypeId}{pos:String}{af:Array Edge}{r:List Oper}{O:Nat->PV}{L:List (Nat×PV)}{h:ab}{Q:St->Prop}
set_option maxRecDepth 100000
set_option maxHeartbeats 4000000
theorem c9{P:Program}{t el:TypeId}{id ep len a:Nat}{o:aw}{k:IntKind}(hu:P.underlying t=some (.slice el))(hs:cF P el=some o.bQ)(hg:getM h id ep=some o)(ha:a<len)(hle:len<=o.es.length):
  cr P h t (.ak id ep 0 len) (some (.int k (a:Int))) none none=some (.ak id ep a (len - a)):=by
 rw[qP hu hs hg (by omega) hle]
 by_cases h0:a=0
 subst h0;simp;rw[if_neg h0,if_neg (by omega)]
theorem OF{dt el:TypeId}{sz id ep off len:Nat}{u:PV}{ys:List PV}{o:aw}(hk:T.kd dt=some (.sl el))(hs:T.ts el=some sz)(hu:cB h u=some ys)(hg:getM h id ep=some o)(hm:o.mu=.m)(hz:o.bQ=sz)(hle:off+len<=o.es.length)
  (hy:ys.all (λv=>decide ((cells v).length=sz))=true) (RZ:(ys.take (min ys.length len)).all (λv=>decide ((cells v).length=sz)&& (cells v).all bM)=true):
  AJ C.P 2 h dt (.ak id ep off len) u=some (.int .i64 (min ys.length len:Nat),h.set id {o with es:=o.es.take off++ys.take (min ys.length len)++o.es.drop (off+min ys.length len)}):=by
 unfold AJ;rw[bB (T.cY _ _ hk),hu];simp only[T.ez _ _ hs,hg];rw[if_pos ⟨abZ _,hm,hz.symm,hle,hy,RZ⟩]
theorem R.copy{dt xt el:TypeId}{sz id ep off len:Nat}{u:PV}{ys:List PV}{o:aw}{x y:Operand}(hx:cS L x=some (.ak id ep off len))(Vd:cS L y=some u)(hk:T.kd dt=some (.sl el))(hs:T.ts el=some sz)(hu:cB h u=some ys)(hg:getM h id ep=some o)(hm:o.mu=.m)(hz:o.bQ=sz)(hle:off+len<=o.es.length)
  (hy:ys.all (λv=>decide ((cells v).length=sz))=true) (RZ:(ys.take (min ys.length len)).all (λv=>decide ((cells v).length=sz)&& (cells v).all bM)=true)
  (kk:ah C ops r ⟨al ((d,.int .i64 (min ys.length len:Nat))::L) O,h.set id {o with es:=o.es.take off++ys.take (min ys.length len)++o.es.drop (off+min ys.length len)}⟩ Q):
  ah C ops (⟨some d,.call ⟨.builtin .copy,#[x,y],#[dt,xt]⟩,ty,pos,af,none⟩::r) ⟨al L O,h⟩ Q:=by
 refine ah.fo (λrun=>?_) kk;have oA:=OF T hk hs hu hg hm hz hle hy RZ;simp only[au,bt,acg,acr,an hx,an Vd,oA]
theorem D.copy{dt xt el:TypeId}{sz id ep off len L0:Nat}{own:List Nat}{u:PV}{ys:List PV}{o:aw}{x y:Operand}(dp:level ops (before ops) i=2)(hx:cS L x=some (.ak id ep off len))(Vd:cS L y=some u)(hk:T.kd dt=some (.sl el))(hs:T.ts el=some sz)(hu:cB h u=some ys)(hg:getM h id ep=some o)(hm:o.mu=.m)(hz:o.bQ=sz)(hle:off+len<=o.es.length)
  (hy:ys.all (λv=>decide ((cells v).length=sz))=true) (RZ:(ys.take (min ys.length len)).all (λv=>decide ((cells v).length=sz)&& (cells v).all bM)=true)
  (kk:bg C ops (i+1) r ⟨⟨al ((d,.int .i64 (min ys.length len:Nat))::L) O,h.set id {o with es:=o.es.take off++ys.take (min ys.length len)++o.es.drop (off+min ys.length len)}⟩,(h.set id {o with es:=o.es.take off++ys.take (min ys.length len)++o.es.drop (off+min ys.length len)}).length,[]⟩ Q):
  bg C ops i (⟨some d,.call ⟨.builtin .copy,#[x,y],#[dt,xt]⟩,ty,pos,af,none⟩::r) ⟨⟨al L O,h⟩,L0,own⟩ Q:=by
 refine bg.two rfl dp ⟨0,λn _=>?_⟩ kk;have oA:=OF T hk hs hu hg hm hz hle hy RZ;simp only[au,bt,acg,acr,an hx,an Vd,oA]
end
set_option maxRecDepth 100000
set_option maxHeartbeats 4000000
def tlC:Nat->Code->Code
 |0,c=>c
 |n+1,.seq _ b=>tlC n b
 |_,c=>c
attribute [local irreducible] aD az aL aJ Ev ah aj ay bg
namespace Zero
noncomputable def OA:Code:=match Tryz.f351.body with |some c=>c |none=>.skip
theorem yB:Tryz.f351.body=some OA:=rfl
variable{w:World}{F:Nat->Prop}{X:List (Nat×Nat)}
theorem tE{h:ab}{id ep len i N:Nat}{o:aw}{fl:Bool}{e:PV}{a:Act}{Q:Exit->Act->World->Prop}(hg:getM h id ep=some o)(hz:o.bQ=5)(hle:len<=o.es.length)(hi:i<len)(hn:len<100000000)(hN:N=Tryz.f351.ntmps)
  (RR:SR N w F X ⟨nw [.ak id ep 0 len,.int .i64 (i:Int),.aa fl [e]],h⟩ a)
  (k:∀a' w' X' O',SR N w' F X' ⟨al [(0,.ak id ep 0 len),(1,.int .i64 (i:Int)),(2,.aa fl [e]),(7,.int .i64 1),(8,.int .i64 (len:Int))] O',h⟩ a'->eD w h X w' h X'->(tlC 6 OA).wp C0.P Q a' w'):OA.wp C0.P Q a w:=by
 subst hN;have hu:C0.P.underlying 175=some (.slice 187):=bB (T6.cY 175 _ rfl);have gR:cF C0.P 187=some o.bQ:=by rw[hz];exact T6.ez 187 5 rfl
 have xe:([e]:List PV).length=1:=rfl;refine wp_seq ?_;refine cR K0 cf S0 (M:=λex s'=>ex=.normal/\∃O',s'=⟨al [(0,.ak id ep 0 len),(1,.int .i64 (i:Int)),(2,.aa fl [e])] O',h⟩) rfl ?_ RR ?_
 ·rw[iK];refine wD ?_;exact⟨rfl,_,St.aT ⟨rfl,rfl,rfl,trivial⟩⟩
 rintro ex s' a1 w1 X1 ⟨rfl,O1,rfl⟩ R1 S1;refine wp_seq ?_;refine cR K0 cf S0 (M:=λex s'=>ex=.normal/\∃O',s'=⟨al [(0,.ak id ep 0 len),(1,.int .i64 (i:Int)),(2,.aa fl [e])] O',h⟩) rfl ?_ R1 ?_
 ·refine wD ?_;apply R.slice;exact rfl;exact rfl;exact rfl;exact rfl;exact c9 hu gR hg hi hle;refine wD ?_;exact⟨rfl,_,St.aT ⟨rfl,rfl,rfl,trivial⟩⟩
 rintro ex s' a2 w2 X2 ⟨rfl,O2,rfl⟩ R2 S2;refine wp_seq ?_;refine cR K0 cf S0 (M:=λex s'=>ex=.normal/\∃O',s'=⟨al [(0,.ak id ep 0 len),(1,.int .i64 (i:Int)),(2,.aa fl [e]),(7,.int .i64 1)] O',h⟩) rfl ?_ R2 ?_
 ·refine wD ?_;exact⟨rfl,_,St.aT ⟨rfl,rfl,rfl,rfl,trivial⟩⟩
 rintro ex s' a3 w3 X3 ⟨rfl,O3,rfl⟩ R3 S3;refine wp_seq ?_;refine cR K0 cf S0 (M:=λex s'=>ex=.normal/\∃O',s'=⟨al [(0,.ak id ep 0 len),(1,.int .i64 (i:Int)),(2,.aa fl [e]),(7,.int .i64 1)] O',h⟩) rfl ?_ R3 ?_
 ·refine wF λhc=>?_;exact⟨rfl,_,St.aT ⟨rfl,rfl,rfl,rfl,trivial⟩⟩
 rintro ex s' a4 w4 X4 ⟨rfl,O4,rfl⟩ R4 S4;refine wp_seq ?_;refine cR K0 cf S0 (M:=λex s'=>ex=.normal/\∃O',s'=⟨al [(0,.ak id ep 0 len),(1,.int .i64 (i:Int)),(2,.aa fl [e]),(7,.int .i64 1),(8,.int .i64 (len:Int))] O',h⟩) rfl ?_ R4 ?_
 ·refine wD ?_;apply R.Ag T6 (o:=o);exact rfl;exact rfl;exact hg;exact(by omega);refine wD ?_;exact⟨rfl,_,St.aT ⟨rfl,rfl,rfl,rfl,rfl,trivial⟩⟩
 rintro ex s' a5 w5 X5 ⟨rfl,O5,rfl⟩ R5 S5;refine wp_seq ?_;refine cR K0 cf S0 (M:=λex s'=>ex=.normal/\∃O',s'=⟨al [(0,.ak id ep 0 len),(1,.int .i64 (i:Int)),(2,.aa fl [e]),(7,.int .i64 1),(8,.int .i64 (len:Int))] O',h⟩) rfl ?_ R5 ?_
 ·refine wF λhc=>?_;exact⟨rfl,_,St.aT ⟨rfl,rfl,rfl,rfl,rfl,trivial⟩⟩
 rintro ex s' a6 w6 X6 ⟨rfl,O6,rfl⟩ R6 S6;exact k _ _ _ _ R6 (((((S1.trans S2).trans S3).trans S4).trans S5).trans S6)
end Zero
end Go.Pm
namespace Go.Pm
open Go.Proofs
set_option maxRecDepth 100000
set_option maxHeartbeats 4000000
theorem yD{pre:List PV}{fo e:PV}{i:Nat}(hi:i<pre.length){ys dQ:List PV}(pK:ys=((pre++[fo]).drop i).take (pre.length+1 - i))(oY:dQ=(pre++[fo]).take (i+1)++ys.take (pre.length - i)++(pre++[fo]).drop (i+1+(pre.length - i))):
  ys.take (pre.length - i)=pre.drop i/\dQ.length=pre.length+1/\dQ.take i++[e]++dQ.drop (i+1)=pre.take i++[e]++pre.drop i:=by
 have h1:ys.take (pre.length - i)=pre.drop i:=by
  rw[pK,adq,ac7 (by omega)];rw[acC (by simp;omega)];rw[acu (by simp;omega)]
 have h2:(pre++[fo]).drop (i+1+(pre.length - i))=[]:=acx (by simp;omega);have h3:dQ=(pre++[fo]).take (i+1)++pre.drop i:=by rw[oY,h1,h2];simp
 have h4:((pre++[fo]).take (i+1)).length=i+1:=by simp;omega
 refine⟨h1,by rw[h3];simp;omega,?_⟩
 congr 1
 ·congr 1
  rw[h3,acC (by omega),adq,acC (by omega)]
  congr 1;omega
 rw[h3,ac7 (by omega),acx (by omega),acD]
attribute [local irreducible] aD az aL aJ Ev ah aj ay bg
namespace Zero
variable{w:World}{F:Nat->Prop}{X:List (Nat×Nat)}
theorem uZ{h:ab}{id ep len i:Nat}{o:aw}{fl:Bool}{e fo:PV}{pre:List PV}{vs:List Value}(H:bo w F X h)(ha:L2 (aE w (Av F h X) X h) vs [.ak id ep 0 len,.int .i64 (i:Int),.aa fl [e]])
  (hg:getM h id ep=some o) (hm:o.mu=.m) (hz:o.bQ=5) (jt:o.es=pre++[fo]) (jR:pre.length=len) (hi:i<len) (hn:len<100000000) (gk:pre.all (kY 5)=true) (hX:(cells fo).length=5) (he:kY 5 e=true) (ee:aV h=true):
  na C0.P 2 w F X h 351 vs (.ak id ep 0 (len+1)) (h.set id {o with es:=pre.take i++[e]++pre.drop i}):=by
 have cz:o.es.length=len+1:=by rw[jt];simp[jR]
 have hu:C0.P.underlying 175=some (.slice 187):=bB (T6.cY 175 _ rfl);have si:cF C0.P 187=some 5:=T6.ez 187 5 rfl;have gR:cF C0.P 187=some o.bQ:=by rw[hz];exact si
 obtain⟨g1,g2,g3⟩:=getM_some hg;have cM:=ag g1;obtain⟨bc,oC⟩:=dB H.len g1;obtain⟨T,cs,k1,k2,k3,k4,k5⟩:=(H.obj id o bc g1 oC g3).c (by omega);have CG:len+1<=bc.2:=by omega
 have iv:aO h id=true:=by unfold aO;rw[g1];simp[hm]
 have hj:((len:Int)+1)=((len+1:Nat):Int):=by omega
 have vJ:((i:Int)+1)=((i+1:Nat):Int):=by omega
 have eg:∀{w':World} {X':List (Nat×Nat)},eD w h X w' h X'->X'[id]?=some bc:=by
  intro w' X' S
  obtain⟨o',dq,f1,f2,f3,f4,f5⟩:=S.refs id o bc g1 oC g3;obtain rfl:=abV (g1.symm.trans f1);rw[f2,(f5 rfl).2.2]
 refine jD (P:=C0.P) (c:=OA) Tryz.func351 yB H ha (λa RR=>tE hg hz (by omega) hi hn rfl RR (λa1 w1 X1 O1 R1 S1=>?_));refine wp_seq ?_;refine wp_seq ?_;apply cg K0 S0 (pre:=[_,_,_,_]) (post:=[_]) (R:=R1) (M:=λs'=>∃O',s'=⟨al ((28,.int .i64 ((len:Int)+1))::(29,.ak id ep 0 len)::[(0,.ak id ep 0 len),(1,.int .i64 (i:Int)),(2,.aa fl [e]),(7,.int .i64 1),(8,.int .i64 (len:Int))]) O',h⟩) (M2:=λs'=>∃O',s'=⟨al ((31,.bool false)::[(0,.ak id ep 0 len),(1,.int .i64 (i:Int)),(2,.aa fl [e]),(7,.int .i64 1),(8,.int .i64 (len:Int))]) O',h⟩)
 rfl
 rfl
 ·refine wD ?_;exact⟨_,St.aT ⟨rfl,rfl,rfl,rfl,rfl,rfl,rfl,trivial⟩⟩
 ·rintro s1 a2 w2 X2 ⟨O2,rfl⟩ R2 S2;refine⟨.int .i64 (bc.2:Int),h,tF (t:=175) (x:=.tmp 29) R2.hr R2.er hu (dJ (t:=29) rfl O2) hg (eg (S1.trans S2)) (by omega) _ rfl,?_⟩;show ah C0 _ _ ⟨cm (al _ O2) (some 30) (.int .i64 (bc.2:Int)),h⟩ _;rw[cw];refine wF λhc=>?_;exact⟨_,St.aT ⟨rfl,rfl,rfl,rfl,rfl,rfl,trivial⟩⟩
 rintro s3 a3 w3 X3 ⟨O3,rfl⟩ R3 S3;refine cR K0 cf S0 (M:=λex s'=>ex=.normal/\∃O',s'=⟨al [(0,.ak id ep 0 len),(1,.int .i64 (i:Int)),(2,.aa fl [e]),(7,.int .i64 1),(8,.int .i64 (len:Int))] O',h⟩) rfl ?_ R3 ?_
 ·refine wD ?_;exact⟨rfl,_,St.aT ⟨rfl,rfl,rfl,rfl,rfl,trivial⟩⟩
 rintro ex s' a4 w4 X4 ⟨rfl,O4,rfl⟩ R4 S4;refine wp_seq ?_;refine cR K0 cf S0 (M:=λex s'=>ex=.normal/\∃O',s'=⟨al [(0,.ak id ep 0 (len+1)),(1,.int .i64 (i:Int)),(2,.aa fl [e]),(7,.int .i64 1)] O',h⟩) rfl ?_ R4 ?_
 ·refine wD ?_;apply R.slice;exact rfl;exact rfl;exact rfl;exact rfl
  ·show cr C0.P h 175 (.ak id ep 0 len) none (some (.int .i64 ((len:Int)+1))) none=_;rw[hj];exact p9 hu gR hg (by omega) (by omega)
  refine wD ?_;exact⟨rfl,_,St.aT ⟨rfl,rfl,rfl,rfl,trivial⟩⟩
 rintro ex s' a5 w5 X5 ⟨rfl,O5,rfl⟩ R5 S5;refine wp_seq ?_;refine wp_seq ?_;apply cg K0 S0 (pre:=[_,_,_,_,_,_]) (post:=[_]) (R:=R5) (M:=λs'=>∃O',s'=⟨al ((61,.aa fl [e])::(66,.ak id ep (i+1) (len+1 - (i+1)))::[(0,.ak id ep 0 (len+1)),(1,.int .i64 (i:Int)),(2,.aa fl [e]),(7,.int .i64 1)]) O',h⟩) (M2:=λs'=>∃O',s'=⟨al ((68,.bool true)::[(0,.ak id ep 0 (len+1)),(1,.int .i64 (i:Int)),(2,.aa fl [e]),(7,.int .i64 1)]) O',h⟩)
 rfl
 rfl
 ·refine wD ?_;apply R.slice;exact rfl;exact rfl;exact rfl;exact rfl
  ·show cr C0.P h 175 (.ak id ep 0 (len+1)) (some (.int .i64 ((i:Int)+1))) none none=_;rw[vJ];exact c9 hu gR hg (by omega) (by omega)
  refine wD ?_;exact⟨_,St.aT ⟨rfl,rfl,rfl,rfl,rfl,rfl,trivial⟩⟩
 ·rintro s1 a6 w6 X6 ⟨O6,rfl⟩ R6 S6;refine⟨.bool false,h,rJ (t:=175) (tR:=4) (x:=.tmp 61) (y:=.tmp 66) (f:=379) R6.hr R6.er hu si (dJ (t:=61) rfl O6) (dJ (t:=66) rfl O6) hg hm (by omega) Tryz.func379 (by kernel_rfl) (by kernel_rfl) (by kernel_rfl) (by kernel_rfl) _ rfl,?_⟩;show ah C0 _ _ ⟨cm (al _ O6) (some 67) (.bool false),h⟩ _;rw[cw];refine wD ?_;exact⟨_,St.aT ⟨rfl,rfl,rfl,rfl,rfl,trivial⟩⟩
 rintro s7 a7 w7 X7 ⟨O7,rfl⟩ R7 S7;obtain⟨ys,pK⟩:∃ys,ys=((pre++[fo]).drop i).take (pre.length+1 - i):=⟨_,rfl⟩;obtain⟨dQ,oY⟩:∃dQ,dQ=(pre++[fo]).take (i+1)++ys.take (pre.length - i)++(pre++[fo]).drop (i+1+(pre.length - i)):=⟨_,rfl⟩;obtain⟨l1,l2,l3⟩:=yD (e:=e) (by omega) pK oY;rw[jR]at l1 l2;have YO:ys.length=len+1 - i:=by rw[pK];simp;omega
 have OE:∀v∈ys,(cells v).length=5:=by
  intro v hv
  rw[pK]at hv;have:=acJ (acI hv);rcases ab2.1 this with hv |hv
  ·have:=abX.1 gk v hv;unfold kY at this;simp only[ab4,decide_eq_true_eq]at this;exact this.1.2
  ·obtain rfl:=acv.1 hv;exact hX
 have CH:(cells e).length=5/\(cells e).all bM=true:=by
  unfold kY at he;simp only[ab4,decide_eq_true_eq]at he;exact⟨he.1.2,he.2⟩
 have OB:min ys.length (len+1 - (i+1))=len - i:=by omega
 have AS:h.set id {o with es:=o.es.take (i+1)++ys.take (min ys.length (len+1 - (i+1)))++o.es.drop (i+1+min ys.length (len+1 - (i+1)))}=h.set id {o with es:=dQ}:=by
  rw[OB,jt,oY,jR]
 have qQ:getM (h.set id {o with es:=dQ}) id ep=some {o with es:=dQ}:=bp (abY cM) g2 (by show o.mu≠.x;rw[hm];simp);have yC:min ([e]:List PV).length (len+1 - i)=1:=by show min 1 _=1;omega
 have pF:(h.set id {o with es:=dQ}).set id {({o with es:=dQ}:aw)with es:=dQ.take i++[e].take (min ([e]:List PV).length (len+1 - i))++dQ.drop (i+min ([e]:List PV).length (len+1 - i))}=h.set id {o with es:=pre.take i++[e]++pre.drop i}:=by
  rw[ac4,yC,<-l3];rfl
 refine cR K0 cf S0 (M:=λex s'=>ex=.ret/\∃O',s'=⟨al [(6,.ak id ep 0 (len+1))] O',h.set id {o with es:=pre.take i++[e]++pre.drop i}⟩) rfl ?_ R7 ?_
 ·refine wD ?_;apply D.slice;exact ee;exact rfl;exact iv;exact rfl;exact rfl;exact rfl;exact rfl;exact rfl;exact rfl
  ·show cr C0.P h 175 (.ak id ep 0 (len+1)) (some (.int .i64 ((i:Int)+1))) none none=_;rw[vJ];exact c9 hu gR hg (by omega) (by omega)
  refine wD ?_;apply D.slice;exact ee;exact rfl;exact iv;exact rfl;exact rfl;exact rfl;exact rfl;exact rfl;exact rfl;exact c9 hu gR hg (by omega) (by omega);apply D.copy T6 (ys:=ys) (o:=o) (sz:=5);exact rfl;exact rfl;exact rfl;exact rfl;exact rfl
  ·simp only[cB,hg];rw[if_pos (by omega),jt,pK,jR]
  exact hg;exact hm;exact hz;omega
  ·rw[abX]
   intro v hv
   simp[OE v hv]
  ·rw[OB,l1,abX]
   intro v hv
   have:=abX.1 gk v (acJ hv);unfold kY at this;simp only[ab4]at this ⊢;exact⟨this.1.2,this.2⟩
  refine bg.heap AS ?_;refine wD ?_;apply R.slice;exact rfl;exact rfl;exact rfl;exact rfl;exact c9 (o:={o with es:=dQ}) hu gR qQ (by omega) (by show len+1<=dQ.length;omega);refine wD ?_;apply R.copy T6 (ys:=[e]) (o:={o with es:=dQ}) (sz:=5);exact rfl;exact rfl;exact rfl;exact rfl;exact rfl;exact qQ;exact hm;exact hz;show i+(len+1 - i)<=dQ.length;omega;simp[CH.1];simp only[yC,ad6,aey,acT,adC,CH.1,CH.2];rfl;refine wD ?_;exact⟨rfl,_,(congrArg (λhh=>(⟨_,hh⟩:St)) pF).trans (St.aT ⟨rfl,trivial⟩)⟩
 rintro ex s8 a8 w8 X8 ⟨rfl,O8,rfl⟩ R8 S8;refine⟨.inr rfl,_,X8,R8,(((((S1.trans S3).trans S4).trans S5).trans S7).trans S8),[.ak id ep 0 (len+1)],?_,λu RB=>⟨X8,RB,R8.hr,(((((S1.trans S3).trans S4).trans S5).trans S7).trans S8)⟩⟩;exact eL (L:=[(6,.ak id ep 0 (len+1))]) rfl
 all_goals rfl
end Zero
end Go.Pm
namespace Go.Pm
open Go.Proofs
set_option maxRecDepth 100000
set_option maxHeartbeats 4000000
mutual
theorem K6{f g:Nat->Bool}(QB:∀i,f i=true->g i=true):∀p,bu f p=true->bu g p=true
 | .int ..,_ | .bool _,_ | .str _,_ | .eK,_ | .aG,_ | .gS,_ | .aa ..,_ | .eW _,_ | .undef,_ | .any,_=>rfl
 | .agg cs,h=>by simp only[bu]at h ⊢;exact j9 QB cs h
 | .cA cs,h=>by simp only[bu]at h ⊢;exact j9 QB cs h
 | .fn _ cs,h=>by simp only[bu]at h ⊢;exact j9 QB cs h
 | .oE _ _ cs,h=>by simp only[bu]at h ⊢;exact j9 QB cs h
 | .ak ..,h=>by simp only[bu]at h ⊢;exact QB _ h
 | .ptr ..,h=>by simp only[bu]at h ⊢;exact QB _ h
 | .cG _,h=>by simp only[bu]at h ⊢;exact QB _ h
theorem j9{f g:Nat->Bool}(QB:∀i,f i=true->g i=true):∀cs,bG f cs=true->bG g cs=true
 |[],_=>rfl
 |c::r,h=>by
  simp only[bG,ab4]at h ⊢;exact⟨K6 QB c h.1,j9 QB r h.2⟩
end
theorem mS{h h':ab}(hv:∀i,aO h i=true->aO h' i=true)(ho:∀o'∈h',o'.mu=.x\/bG (aO h') o'.es=true\/∃o∈h,o.es=o'.es/\(o.mu=.x->o'.mu=.x))(ee:aV h=true):aV h'=true:=by
 unfold aV at ee ⊢;rw[abX]at ee ⊢
 intro o' h1
 rcases ho o' h1 with h2 |h2 |⟨o,h2,h3,h4⟩;simp[h2];rw[h2];simp
 ·have:=ee o h2;simp only[acs,decide_eq_true_eq]at this ⊢;rcases this with hh |hh;exact .inl (h4 hh);exact .inr (by rw[<-h3];exact j9 hv _ hh)
theorem vS{h:ab}(ee:aV h=true):aV (h.map bY)=true:=by
 refine mS (h:=h) (λi hi=>?_) (λo' h1=>?_) ee
 ·unfold aO at hi ⊢;rw[ace]
  split at hi
  ·rename_i o ho
   rw[ho];simp only[ab8,decide_eq_true_eq]at hi ⊢;exact λhh=>hi ((bR o).2.2.2.1.1 hh)
  cases hi
 ·obtain⟨o,h2,rfl⟩:=aci.1 h1;exact .inr (.inr ⟨o,h2,(bR o).2.2.1.symm,λhh=>(bR o).2.2.2.1.2 hh⟩)
theorem vT{h:ab}{n sz:Nat}{es:List PV}(hv:ao es=true)(ee:aV h=true):aV (h++[⟨.m,n,sz,es⟩])=true:=by
 refine mS (h:=h) (λi hi=>?_) (λo' h1=>?_) ee
 ·unfold aO at hi ⊢
  split at hi
  ·rename_i o ho
   rw[abW (ag ho),ho];exact hi
  cases hi
 ·rcases ab2.1 h1 with h1 |h1;exact .inr (.inr ⟨o',h1,rfl,λhh=>hh⟩)
  ·obtain rfl:=acv.1 h1;exact .inr (.inl (bm _ _ hv))
theorem Bt{es:List PV}{Z e:PV}{i len:Nat}(hi:i<len)(hl:len<=es.length){lc dQ ys:List PV}(h1:lc=es.take i++List.replicate (len+1 - i) Z)(h2:dQ=lc.take i++[e]++lc.drop (i+1))(h3:ys=(es.drop i).take (len - i)):
  lc.length=len+1/\dQ.length=len+1/\ys.length=len - i/\ys=(es.take len).drop i/\dQ.take (i+1)++ys++dQ.drop (i+1+(len - i))=(es.take len).take i++[e]++(es.take len).drop i:=by
 have a1:lc.length=len+1:=by rw[h1];simp;omega
 have a2:dQ.length=len+1:=by rw[h2];simp;omega
 have a3:ys.length=len - i:=by rw[h3];simp;omega
 have a4:ys=(es.take len).drop i:=by rw[h3,aex]
 refine⟨a1,a2,a3,a4,?_⟩;rw[acx (by omega),ack,a4]
 congr 1
 rw[h2,acC (by simp;omega),acu (by simp;exact Nat.min_le_left _ _)]
 congr 1
 rw[h1,acC (by simp;omega),adq,adq]
 congr 1;omega
theorem Jo{h:ab}{o:aw}(hm:o.mu≠.x):getM (h++[o]) h.length o.ep=some o:=bp (by simp) rfl hm
theorem o9{h k:ab}{id ep:Nat}{o:aw}(hg:getM h id ep=some o):getM (h++k) id ep=some o:=by
 obtain⟨g1,g2,g3⟩:=getM_some hg;exact bp (by rw[abW (ag g1)];exact g1) g2 g3
theorem set_push{h:ab}{o o':aw}:(h++[o]).set h.length o'=h++[o']:=by
 rw[adm _ _ (abZ _)];simp
attribute [local irreducible] aD az aL aJ Ev ah aj ay bg
namespace Zero
variable{w:World}{F:Nat->Prop}{X:List (Nat×Nat)}
theorem yA{h:ab}{id ep len i:Nat}{o:aw}{bc:Nat×Nat}{fl:Bool}{e:PV}{vs:List Value}(H:bo w F X h)(ha:L2 (aE w (Av F h X) X h) vs [.ak id ep 0 len,.int .i64 (i:Int),.aa fl [e]])
  (hg:getM h id ep=some o) (hz:o.bQ=5) (hle:len<=o.es.length) (oC:X[id]?=some bc) (CG:bc.2<len+1) (hi:i<len) (hn:len<100000000) (gk:(o.es.take len).all (kY 5)=true) (he:kY 5 e=true) (ee:aV h=true):
  na C0.P 2 w F X h 351 vs (.ak h.length 0 0 (len+1)) (h++[⟨.m,0,5,(o.es.take len).take i++[e]++(o.es.take len).drop i⟩]):=by
 have hu:C0.P.underlying 175=some (.slice 187):=bB (T6.cY 175 _ rfl);have si:cF C0.P 187=some 5:=T6.ez 187 5 rfl;have gR:cF C0.P 187=some o.bQ:=by rw[hz];exact si
 obtain⟨g1,g2,g3⟩:=getM_some hg;have cM:=ag g1;have hj:((i:Int)+1)=((i+1:Nat):Int):=by omega
 have YI:((len:Int)+1 - (i:Int))=((len+1 - i:Nat):Int):=by omega
 have iB:i+(len+1 - i)=len+1:=by omega
 have eg:∀{w':World} {X':List (Nat×Nat)},eD w h X w' h X'->X'[id]?=some bc:=by
  intro w' X' S
  obtain⟨o',dq,f1,f2,f3,f4,f5⟩:=S.refs id o bc g1 oC g3;obtain rfl:=abV (g1.symm.trans f1);rw[f2,(f5 rfl).2.2]
 obtain⟨lc,Hh⟩:∃lc,lc=o.es.take i++List.replicate (len+1 - i) (.agg [.int .i64 0,.str ByteArray.empty,.int .i64 0,.aa true [],.int .i64 0]:PV):=⟨_,rfl⟩;obtain⟨dQ,oY⟩:∃dQ,dQ=lc.take i++[e]++lc.drop (i+1):=⟨_,rfl⟩;obtain⟨ys,pK⟩:∃ys,ys=(o.es.drop i).take (len - i):=⟨_,rfl⟩;obtain⟨l1,l2,l3,l4,l5⟩:=Bt hi hle Hh oY pK
 have CH:(cells e).length=5/\(cells e).all bM=true/\aU e=true:=by
  unfold kY at he;simp only[ab4,decide_eq_true_eq]at he;exact⟨he.1.2,he.2,he.1.1⟩
 have GF:ys.all (kY 5)=true:=by
  rw[l4,abX]
  intro v hv
  exact abX.1 gk v (acJ hv)
 have uo:ao lc=true:=by
  rw[Hh,bw,ac1,<-bw]
  have:ao (o.es.take i)=true:=by
   refine mi (sz:=5) ?_;rw[abX]
   intro v hv
   refine abX.1 gk v ?_;have:o.es.take i=(o.es.take len).take i:=by rw[adq];congr 1;omega
   rw[this]at hv;exact acI hv
  rw[this,ada,abX]
  intro v hv
  obtain rfl:=acY hv
  rfl
 have zR:ao dQ=true:=by
  rw[bw,abX]at uo ⊢
  intro v hv
  rw[oY]at hv;rcases ab2.1 hv with hv |hv
  ·rcases ab2.1 hv with hv |hv;exact uo v (acI hv)
   ·obtain rfl:=acv.1 hv;exact CH.2.2
  exact uo v (acJ hv)
 have Hi:aV (h++[⟨.m,0,5,dQ⟩])=true:=vT zR ee;have RW:∀es,getM (h++[⟨.m,0,5,es⟩]) h.length 0=some ⟨.m,0,5,es⟩:=λes=>Jo (o:=⟨.m,0,5,es⟩) (by simp)
 have hgo:∀es,getM (h++[⟨.m,0,5,es⟩]) id ep=some o:=λes=>o9 hg
 have iv:∀es,aO (h++[⟨.m,0,5,es⟩]) id=true:=λes=>by unfold aO;rw[abW cM,g1];simpa using g3
 have Oz:∀es,aO (h++[⟨.m,0,5,es⟩]) h.length=true:=λes=>by unfold aO;simp
 refine jD (P:=C0.P) (c:=OA) Tryz.func351 yB H ha (λa RR=>tE hg hz (by omega) hi hn rfl RR (λa1 w1 X1 O1 R1 S1=>?_));refine wp_seq ?_;refine wp_seq ?_;apply cg K0 S0 (pre:=[_,_,_,_]) (post:=[_]) (R:=R1) (M:=λs'=>∃O',s'=⟨al ((28,.int .i64 ((len:Int)+1))::(29,.ak id ep 0 len)::[(0,.ak id ep 0 len),(1,.int .i64 (i:Int)),(2,.aa fl [e]),(7,.int .i64 1),(8,.int .i64 (len:Int))]) O',h⟩) (M2:=λs'=>∃O',s'=⟨al ((31,.bool true)::[(0,.ak id ep 0 len),(1,.int .i64 (i:Int)),(2,.aa fl [e]),(7,.int .i64 1),(8,.int .i64 (len:Int))]) O',h⟩)
 rfl
 rfl
 ·refine wD ?_;exact⟨_,St.aT ⟨rfl,rfl,rfl,rfl,rfl,rfl,rfl,trivial⟩⟩
 ·rintro s1 a2 w2 X2 ⟨O2,rfl⟩ R2 S2;refine⟨.int .i64 (bc.2:Int),h,tF (t:=175) (x:=.tmp 29) R2.hr R2.er hu (dJ (t:=29) rfl O2) hg (eg (S1.trans S2)) (by omega) _ rfl,?_⟩;show ah C0 _ _ ⟨cm (al _ O2) (some 30) (.int .i64 (bc.2:Int)),h⟩ _;rw[cw];refine wF λhc=>?_;exact⟨_,St.aT ⟨rfl,rfl,rfl,rfl,rfl,rfl,trivial⟩⟩
 rintro s3 a3 w3 X3 ⟨O3,rfl⟩ R3 S3
 have Ws:a3.eval (.tmp 31)=.bool true:=by
  have:=R3.er.ev (.tmp 31);rw[show ev (al ((31,PV.bool true)::[(0,.ak id ep 0 len),(1,.int .i64 (i:Int)),(2,.aa fl [e]),(7,.int .i64 1),(8,.int .i64 (len:Int))]) O3) (.tmp 31)=.bool true from dJ (t:=31) rfl O3]at this;exact this.gK
 refine wp_cond_true Ws ?_;refine wp_seq ?_;apply cg K0 S0 (pre:=[_,_,_,_,_,_,_,_]) (post:=[_]) (R:=R3) (M:=λs'=>∃O',s'=⟨al ((34,.ak id ep 0 i)::(39,.int .i64 ((len:Int)+1 - (i:Int)))::[(0,.ak id ep 0 len),(1,.int .i64 (i:Int)),(2,.aa fl [e]),(7,.int .i64 1),(8,.int .i64 (len:Int))]) O',h⟩) (M2:=λs'=>∃O',s'=⟨al ((9,.ak h.length 0 0 (len+1))::[(0,.ak id ep 0 len),(1,.int .i64 (i:Int)),(2,.aa fl [e]),(7,.int .i64 1),(8,.int .i64 (len:Int))]) O',h++[⟨.m,0,5,lc⟩]⟩)
 case ho=>rfl
 case hg=>rfl
 ·refine wD ?_;apply R.slice;exact rfl;exact rfl;exact rfl;exact rfl;exact uB hu gR hg (by omega) hle;refine wD ?_;exact⟨_,St.aT ⟨rfl,rfl,rfl,rfl,rfl,rfl,rfl,trivial⟩⟩
 ·rintro s1 a4 w4 X4 ⟨O4,rfl⟩ R4 S4;have os:=vU (P:=C0.P) (st:=175) (xt:=3) (el:=187) (x:=.tmp 34) (y:=.tmp 39) (k:=.i64) (n:=len+1 - i) (len:=i) R4.hr R4.er hu (oP (T6.cY 3 _ rfl)) si (by decide) (T6.rE 187 _ rfl) (by decide) (T6.nH 187 (.agg [.int .i64 0,.str ByteArray.empty,.int .i64 0,.aa true [],.int .i64 0]) rfl) rfl rfl (dJ (t:=34) rfl O4) (by rw[<-YI];exact dJ (t:=39) rfl O4) hg (eg ((S1.trans S3).trans S4)) (by omega) hz (by omega) (by omega);rw[iB,<-Hh]at os;refine⟨.ak h.length 0 0 (len+1),h++[⟨.m,0,5,lc⟩],os _ rfl,?_⟩;show ah C0 _ _ ⟨cm (al _ O4) (some 40) (.ak h.length 0 0 (len+1)),_⟩ _;rw[cw];refine wD ?_;exact⟨_,St.aT ⟨rfl,rfl,rfl,rfl,rfl,rfl,trivial⟩⟩
 rintro s5 a5 w5 X5 ⟨O5,rfl⟩ R5 S5;have OB:min ([e]:List PV).length (len+1 - i)=1:=by show min 1 _=1;omega
 have yC:min ys.length (len+1 - (i+1))=len - i:=by omega
 have hyt:ys.take (len - i)=ys:=acu (by omega)
 have AS:(h++[⟨.m,0,5,lc⟩]:ab).set h.length {(⟨.m,0,5,lc⟩:aw)with es:=lc.take i++[e].take (min ([e]:List PV).length (len+1 - i))++lc.drop (i+min ([e]:List PV).length (len+1 - i))}=h++[⟨.m,0,5,dQ⟩]:=by
  rw[OB,set_push,oY];rfl
 have hh3:(h++[⟨.m,0,5,dQ⟩]:ab).set h.length {(⟨.m,0,5,dQ⟩:aw)with es:=dQ.take (i+1)++ys.take (min ys.length (len+1 - (i+1)))++dQ.drop (i+1+min ys.length (len+1 - (i+1)))}=h++[⟨.m,0,5,(o.es.take len).take i++[e]++(o.es.take len).drop i⟩]:=by
  rw[yC,set_push,hyt,l5]
 refine cR K0 cf S0 (M:=λex s'=>ex=.ret/\∃O',s'=⟨al [(6,.ak h.length 0 0 (len+1))] O',h++[⟨.m,0,5,(o.es.take len).take i++[e]++(o.es.take len).drop i⟩]⟩) rfl ?_ R5 ?_
 ·refine wD ?_;apply R.slice;exact rfl;exact rfl;exact rfl;exact rfl;exact c9 hu si (RW lc) (by omega) (by show len+1<=lc.length;omega);refine wD ?_;apply R.copy T6 (ys:=[e]) (o:=⟨.m,0,5,lc⟩) (sz:=5);exact rfl;exact rfl;exact rfl;exact rfl;exact rfl;exact RW lc;exact rfl;exact rfl;show i+(len+1 - i)<=lc.length;omega;simp[CH.1];simp only[OB,ad6,aey,acT,adC,CH.1,CH.2.1];rfl;rw[AS];refine wD ?_;apply D.slice;exact Hi;exact rfl;exact Oz dQ;exact rfl;exact rfl;exact rfl;exact rfl;exact rfl;exact rfl
  ·show cr C0.P _ 175 (.ak h.length 0 0 (len+1)) (some (.int .i64 ((i:Int)+1))) none none=_;rw[hj];exact c9 hu si (RW dQ) (by omega) (by show len+1<=dQ.length;omega)
  refine wD ?_;apply D.slice;exact Hi;exact rfl;exact iv dQ;exact rfl;exact rfl;exact rfl;exact rfl;exact rfl;exact rfl;exact c9 hu gR (hgo dQ) hi hle;apply D.copy T6 (ys:=ys) (o:=⟨.m,0,5,dQ⟩) (sz:=5);exact rfl;exact rfl;exact rfl;exact rfl;exact rfl
  ·simp only[cB,hgo];rw[if_pos (by omega),pK]
  exact RW dQ;exact rfl;exact rfl;show i+1+(len+1 - (i+1))<=dQ.length;omega
  ·rw[abX]
   intro v hv
   have:=abX.1 GF v hv;unfold kY at this;simp only[ab4]at this;exact this.1.2
  ·rw[yC,hyt,abX]
   intro v hv
   have:=abX.1 GF v hv;unfold kY at this;simp only[ab4]at this ⊢;exact⟨this.1.2,this.2⟩
  refine bg.heap hh3 ?_;refine wD ?_;exact⟨rfl,_,St.aT ⟨rfl,trivial⟩⟩
 rintro ex s8 a8 w8 X8 ⟨rfl,O8,rfl⟩ R8 S8;have SS:=(((S1.trans S3).trans S5).trans S8);refine⟨.inr rfl,_,X8,R8,SS,[.ak h.length 0 0 (len+1)],?_,λu RB=>⟨X8,RB,R8.hr,SS⟩⟩;exact eL (L:=[(6,.ak h.length 0 0 (len+1))]) rfl
 all_goals rfl
end Zero
end Go.Pm
