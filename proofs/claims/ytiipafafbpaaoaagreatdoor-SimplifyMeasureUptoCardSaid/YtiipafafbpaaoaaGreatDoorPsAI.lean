/-
  Pm, a part. Conditions: none.
-/
import Derived.Test.YtiipafafbpaaoaaGreatDoorPsAH
set_option linter.unusedVariables false
set_option linter.unusedSimpArgs false
set_option linter.unnecessarySimpa false
set_option linter.unusedSectionVars false
namespace Go.Pm
mutual
def Dz:PV->PV->Bool
 | .int k n,.int k' q=>decide (k=k')&&decide (n=q)
 | .bool a,.bool b=>a==b
 | .str a,.str b=>a.data.toList==b.data.toList
 | .agg Y,.agg z=>E7 Y z
 | .b8 Y,.b8 z=>E7 Y z
 | .aa f Y,.aa g z=>(f==g)&&E7 Y z
 | .jD,.jD=>true
 | .ji,.ji=>true
 | .mM,.mM=>true
 |_,_=>false
def E7:List PV->List PV->Bool
 |[],[]=>true
 |c::Y,d::z=>Dz c d&&E7 Y z
 |_,_=>false
end
mutual
theorem SK:∀{a b:PV},Dz a b=true->a=b
 | .int k n,b,h=>by cases b <;>simp[Dz]at h;rw[h.1,h.2]
 | .bool x,b,h=>by cases b <;>simp[Dz]at h;rw[h]
 | .str x,b,h=>by
  cases b <;>simp[Dz]at h
  rename_i y
  cases x;cases y
  simp at h;rw[h]
 | .agg Y,b,h=>by cases b <;>simp[Dz]at h;rw[wm h]
 | .b8 Y,b,h=>by cases b <;>simp[Dz]at h;rw[wm h]
 | .aa f Y,b,h=>by cases b <;>simp[Dz]at h;rw[h.1,wm h.2]
 | .jD,b,h=>by cases b <;>simp[Dz]at h;rfl
 | .ji,b,h=>by cases b <;>simp[Dz]at h;rfl
 | .mM,b,h=>by cases b <;>simp[Dz]at h;rfl
 | .an ..,b,h=>by simp[Dz]at h
 | .ptr ..,b,h=>by simp[Dz]at h
 | .eX _,b,h=>by simp[Dz]at h
 | .cq _,b,h=>by simp[Dz]at h
 | .fn ..,b,h=>by simp[Dz]at h
 | .pK ..,b,h=>by simp[Dz]at h
 | .undef,b,h=>by simp[Dz]at h
 | .any,b,h=>by simp[Dz]at h
theorem wm:∀{a b:List PV},E7 a b=true->a=b
 |[],b,h=>by cases b <;>simp[E7]at h;rfl
 |c::Y,b,h=>by
  cases b with
  |nil=>simp[E7]at h
  |cons d z=>
   simp only[E7,age]at h;rw[SK h.1,wm h.2]
end
abbrev lc:=List (FuncId×List PV×PV)
variable{m:lc}
def adF(m:lc)(f:FuncId)(args:List PV):Option PV:=(m.find? λx=>Nat.beq x.1 f&&E7 x.2.1 args).map (·.2.2)
def kS(m:lc)(md:FuncId->Mode)(f:FuncId):Mode:=if m.any (λx=>Nat.beq x.1 f)=true then .ext (adF m f)else md f
variable{P:Program}{md:FuncId->Mode}
def ke(P:Program)(md:FuncId->Mode)(m:lc):Prop:=∀x∈m,md x.1=.pure/\aT ⟨P,md⟩ x.1 x.2.1 x.2.2
theorem DA:∀{m:lc},ke P md m->∃B,∀x∈m,md x.1=.pure/\∀n,B<=n->∃R G b,dC ⟨P,md⟩ n x.1 x.2.1 []=some (R,G)/\yb G R=some b/\b9 b=x.2.2
 |[],_=>⟨0,λx U=>by cases U⟩
 |y::m,h=>by
  obtain⟨S,O⟩:=DA (m:=m) λx U=>h x yxl
  obtain⟨K,v,X⟩:=h y yxb;refine⟨max S v,λx U=>?_⟩;rcases agi.1 U with rfl |U;exact⟨K,λn z=>X n yxa⟩;exact⟨(O x U).1,λn z=>(O x U).2 n yxa⟩
theorem ME{m:lc}{B:Nat}(d:∀x∈m,md x.1=.pure/\∀n,B<=n->∃R G i,dC ⟨P,md⟩ n x.1 x.2.1 []=some (R,G)/\yb G R=some i/\b9 i=x.2.2):∀n,iK (dC ⟨P,kS m md⟩ n) (dC ⟨P,md⟩ (n+B))
 |0=>λf V h x e=>by cases e
 |n+1=>by
  have j:=ME d n;rw[show n+1+B=(n+B)+1 by omega];refine Hz (P:=P) (md:=kS m md) (md':=md) (run:=dC ⟨P,kS m md⟩ n) (run':=dC ⟨P,md⟩ (n+B)) (λg N=>?_) ?_ yxa
  ·unfold kS at N
   split at N
   ·rename_i O
    obtain⟨x,X,Q⟩:=ahy.1 O;obtain rfl:=agW Q;rw[(d x X).1];rfl
   exact N
  intro W f V h x e
  by_cases u:m.any (λx=>Nat.beq x.1 f)=true
  ·unfold dG at e;simp only[kS,if_pos u]at e
   split at e
   ·rename_i J
    obtain⟨r,z,rfl⟩:=ag2.1 e;obtain⟨y,F,rfl⟩:=ag2.1 z;have q:=List.find?_some F;have H:=List.mem_of_find?_eq_some F;simp only[age]at q;obtain rfl:=agW q.1;have w:=wm q.2;obtain⟨K,b⟩:=d y H;obtain⟨R,G,i,D,t,v⟩:=b (n+B) yxa;unfold dG;rw[show(⟨P,md⟩:cA).mode y.1=.pure from K];rw[w]at D;simp only[dL,J,if_true,D,t,v]
   cases e
  ·have a:kS m md f=md f:=if_neg u;unfold dG at e ⊢;simp only[a]at e
   cases b:md f <;>simp only[b]at e ⊢
   cases e
   exact pE j e;exact pF j e;exact e;exact lU (λ_ _ _ x=>x) e;exact e
theorem aT.acp(d:ke P md m){f:FuncId}{args:List PV}{r:PV}(a:aT ⟨P,kS m md⟩ f args r):aT ⟨P,md⟩ f args r:=by
 obtain⟨B,y⟩:=DA d;obtain⟨S,z⟩:=a;refine⟨S+B,λn O=>?_⟩;obtain⟨R,G,b,D,N⟩:=z (n - B) yxa;refine⟨R,G,b,?_,N⟩;have:=ME y (n - B) _ _ _ _ D;rwa[show n - B+B=n by omega]at this
def SL:Mode->Bool | .pure=>true |_=>false
theorem OI{m:Mode}(h:SL m=true):m=.pure:=by cases m <;>first |rfl |cases h
def lR(P:Program)(md:FuncId->Mode)(n:Nat)(R:lc):Bool:=R.all λx=>match rk ⟨P,md⟩ n x.1 x.2.1 with
 |some r=>Dz r x.2.2
 |none=>false
theorem kg{R:lc}{n:Nat}(d:ke P md m)(h1:lR P (kS m md) n R=true)(X:(R.all λx=>SL (md x.1))=true):ke P md (R++m):=by
 intro x U
 rcases agh.1 U with U |U
 ·refine⟨OI (af9.1 X x U),?_⟩;have Q:=af9.1 h1 x U
  split at Q
  ·rename_i r z
   rw[<-SK Q];exact aT.acp d (aT.pw z)
  cases Q
 exact d x U
end Go.Pm
namespace Go.Pm
variable{H h:ab}{n sz:Nat}{p q:List Sy}{y:Sy}{s:ByteArray}{l:List Tm}{u:Tm}{f:FuncId}{args es:List PV}{P Q:PV->ab->Prop}
set_option maxRecDepth 4000
theorem _root_.zbm{P:Prop}(h:P:=by
 unfold loadT;rw[S,Z,K];have:Nat.ble (sz+1) cs.length=true:=Nat.ble_eq_true_of_le yxa;simp only[this,if_true];rw[agB yxa]):P:=h
theorem jJ{C:cA}{T:li C.P}{L:Al}{a b:Nat}{t:TypeId}{cs vs:List PV}{B:List ResultVar}(j:lk L a=some (.ptr b 0 0 0))(W:h[b]?=some ⟨.m,0,n,[.agg cs]⟩)(S:T.ts t=some (sz+1))(Z:T.ta t=some true)(A:cs.length=sz+1)(z:BA T L h B=some vs):BA T L h (.cell a t::B)=some (.agg cs::vs):=by
 have K:dP h (.ptr b 0 0 0)=some cs:=(W3 W).trans rfl
 have H:loadT T h t (.ptr b 0 0 0)=some (.agg cs):=by
  exact zbm
 simp only[BA,j,H,z]
namespace aI
open Go.Proofs
def bH:List PV:=syL.map DY
theorem Ip:aT C 144 [] (.aa false bH):=aT.pw (n:=100) (by kernel_rfl)
theorem Pd(e:syL=p++y::q):bH[p.length]?=some (.agg [.str y.n,.I y.a,.I y.b,.I y.k]):=by rw[bH,e];simp[DY]
@[simp] theorem abF:bH.length=21:=rfl
theorem MX:syL.length=21:=rfl
@[simp] theorem YP:aw bH=true:=rfl
theorem K6(e:syL=p++y::q)(K:∀z∈p,z.n.toList≠s.toList)(h:y.n.toList=s.toList):dz s=y:=by
 unfold dz;rw[e,List.find?_append,List.find?_eq_none.2 (λz M=>by simpa using K z M)];simp[h]
theorem GX{t:ByteArray}(h:s.toList=t.toList):dz s=dz t:=by unfold dz;rw[h]
theorem qi{n:ByteArray}(h:¬s.toList=n.toList):iP s n=false:=by unfold iP;simpa using h
theorem uc{n:ByteArray}(h:s.toList=n.toList):iP s n=true:=by unfold iP;simpa using h
theorem Pe:(dz TJ).a=1:=by kernel_rfl
theorem K7(K:∀z∈syL,z.n.toList≠s.toList):dz s=sy0:=by
 unfold dz;rw[List.find?_eq_none.2 (λz M=>by simpa using K z M)]
 rfl
attribute [local irreducible] aE az aO aL Ev ai ah ay bh bH
theorem sD(s:ByteArray):aT C 117 [.str s] (DY (dz s)):=by
 have S:=Ip;refine aT.x T6 Tryz.func117 rfl ?_;refine wA ?_;refine .p S ?_;refine wA ?_;refine dU.zip T6 syL (λp q L H=>L=[(0,.str s),(2,.ptr 0 0 0 0),(5,.aa false bH),(6,.I 21),(7,.I p.length)]/\HV H/\H[0]?=some ⟨.m,0,4,[.agg [.str ByteArray.empty,.I 0,.I 0,.I 0]]⟩/\∀z∈p,z.n.toList≠s.toList) (.nx ⟨rfl,HV.one rfl,rfl,λz M=>by cases M⟩) ?_ ?_
 ·rintro p y q _ H Y e ⟨rfl,w,B,K⟩;have Q:=Pd e;have b:=congrArg List.length e;rw[MX]at b;simp only[agf,agj]at b;refine wC (λG=>?_) λG=>?_
  ·refine .mk ?_ (jJ (T:=T6) rfl (agc yxb) rfl rfl rfl rfl);refine wA ?_;exact⟨_,rfl,by rw[K6 e K G];simp[bo,b9,aY,DY]⟩
  exact .nx ⟨rfl,w.cz (HV.one yxb),by rw[af8 (ag B)];exact B,λz M=>by rcases agh.1 M with h |h;exact K z h;simp at h;rw[h];exact G⟩
 ·rintro _ H Y ⟨rfl,w,B,K⟩;rw[MX];refine wA ?_;refine .mk ?_ (jJ (T:=T6) rfl (agc (ag B)) rfl rfl rfl rfl);refine wA ?_;exact⟨_,rfl,by rw[K7 K];simp[bo,b9,aY,DY,sy0]⟩
theorem EZ(y:Sy):DY y=.agg [.str y.n,.I y.a,.I y.b,.I y.k]:=rfl
theorem zt{p q:List Tm}(e:l=p++u::q)(K:∀v∈p,rC v=0)(y:rC u≠0):wg l=rC u:=by
 subst e
 induction p with
 |nil=>simp only[agS,wg];rw[if_pos y]
 |cons v p P=>
  simp only[agL,wg];rw[if_neg (by rw[K v yxb];simp),P (λw H=>K w (by simp[H]))]
theorem jW:∀{l:List Tm},(∀v∈l,rC v=0)->wg l=0
 |[],_=>rfl
 |v::l,h=>by rw[wg,if_neg (by rw[h v yxb];simp),jW λw H=>h w (by simp[H])]
theorem HV.Ay{o p:ax}(h1:o.mu≠.x/\aw o.es=true)(X:p.mu≠.x/\aw p.es=true):HV [o,p]:=λx U=>by
 simp only[agi,ahb,or_false]at U;rcases U with rfl |rfl;exact h1;exact X
theorem _root_.zac{P:Prop}(h:P:=by
 refine dU.zip T6 l (λp q L H=>L=[(62,.aa false (ae l)),(63,.I l.length),(64,.I p.length)]/\HV H/\∀u∈p,rC u=0) (.nx ⟨rfl,by first |assumption |exact HV.Ay yxb yxb,λu y=>by cases y⟩) ?_ ?_
 ·rintro p u q _ H Y e ⟨rfl,w,K⟩;have Q:=bO e;have g:=lenE e;have B:=P u yxf;rw[au]at B;refine wA ?_;refine .p B ?_;refine wC (λG=>?_) λG=>?_;exact .nx ⟨rfl,w.cz (HV.one yxb),λv J=>by rcases agh.1 J with h |h;exact K v h;simp at h;rw[h];assumption⟩;exact⟨_,rfl,by rw[d,zt e K yxc];rfl⟩
 ·rintro _ H Y ⟨rfl,w,K⟩;refine wA ?_;exact⟨_,rfl,by rw[d,jW K];rfl⟩):P:=h
theorem _root_.zah{P:Prop}(h:P:=by
 have Q:=bO e;have g:=lenE e
 have f:jM u=false->ia s l=false:=λh=>by
  have:l.all jM=false:=by rw[e];simp[h]
  simp[ia,R,this]
 have j:u.k≠3->u.o=1->∀v∈p++[u],jM v=true:=λO X v J=>by
  rcases agh.1 J with h |h;exact K v h;simp at h;rw[h];simp[jM,O,X]
 refine wI (λG=>?_) (λG G=>?_) λG G=>?_;exact⟨_,rfl,by rw[F (f (by simp[jM, *]))];rfl⟩;exact .nx ⟨rfl,w.cz (HV.one yxb),by rw[af8 (ag b)];exact b,j yxc yxc⟩;exact⟨_,rfl,by rw[F (f (by simp[jM, *]))];rfl⟩):P:=h
theorem Pf(k s o l)(D:l.length<1000000000)(P:∀t∈l,aT C 114 [enc t] (.I (rC t))):aT C 114 [enc (.mk k s o l)] (.I (rC (.mk k s o l))):=by
 have S:=sD s;have Z:=aj l;rw[EZ]at S;rw[bE];refine aT.x T6 Tryz.func114 rfl ?_;refine wC (λG=>?_) λG=>?_
 ·refine .p S ?_;refine wM (λG=>?_) (λG G=>?_) (λG G G=>?_) (λG G G G=>?_) (λG G G G G=>?_) (λG G G G G G=>?_) λG G G G G G=>?_;exact⟨_,rfl,by rw[rC,if_neg (by simp[*]),if_pos yxc];rfl⟩;exact⟨_,rfl,by rw[rC,if_neg (by simp[*]),if_neg yxc,if_pos yxa];rfl⟩;exact⟨_,rfl,by rw[rC,if_neg (by simp[*]),if_neg yxc,if_pos yxa];rfl⟩
  ·have F:ia s l=false->rC (.mk k s o l)=10:=λh=>by rw[rC,if_neg (by simp[*]),if_neg yxc,if_neg yxa,if_pos h]
   have V:ia s l=true->rC (.mk k s o l)=wg l:=λh=>by rw[rC,if_neg (by simp[*]),if_neg yxc,if_neg yxa,if_neg (by rw[h];simp)]
   have R:(iP s JH ||iP s Gq)=true:=by simp[iP,JH, *]
   refine dU.zip T6 l (λp q L H=>L=[(1,.ptr 0 0 0 0),(38,.aa false (ae l)),(39,.I l.length),(40,.I p.length)]/\HV H/\H[0]?=some ⟨.m,0,4,[.agg (If k s o l)]⟩/\∀u∈p,jM u=true) (.nx ⟨rfl,by first |assumption |exact HV.Ay yxb yxb,rfl,λu y=>by cases y⟩) ?_ ?_
   ·rintro p u q _ H Y e ⟨rfl,w,b,K⟩;exact zah
   ·rintro _ H Y ⟨rfl,w,b,K⟩;have d:=V (by simp only[ia,R,if_true];rw[af9];exact K);refine wA ?_;exact zac
  ·have F:ia s l=false->rC (.mk k s o l)=10:=λh=>by rw[rC,if_neg (by simp[*]),if_neg yxc,if_neg yxa,if_pos h]
   have V:ia s l=true->rC (.mk k s o l)=wg l:=λh=>by rw[rC,if_neg (by simp[*]),if_neg yxc,if_neg yxa,if_neg (by rw[h];simp)]
   have R:(iP s JH ||iP s Gq)=true:=by simp[iP,Gq, *]
   refine dU.zip T6 l (λp q L H=>L=[(1,.ptr 0 0 0 0),(38,.aa false (ae l)),(39,.I l.length),(40,.I p.length)]/\HV H/\H[0]?=some ⟨.m,0,4,[.agg (If k s o l)]⟩/\∀u∈p,jM u=true) (.nx ⟨rfl,by first |assumption |exact HV.Ay yxb yxb,rfl,λu y=>by cases y⟩) ?_ ?_
   ·rintro p u q _ H Y e ⟨rfl,w,b,K⟩;exact zah
   ·rintro _ H Y ⟨rfl,w,b,K⟩;have d:=V (by simp only[ia,R,if_true];rw[af9];exact K);refine wA ?_;exact zac
  ·have F:ia s l=false->rC (.mk k s o l)=10:=λh=>by rw[rC,if_neg (by simp[*]),if_neg yxc,if_neg yxa,if_pos h]
   have V:ia s l=true->rC (.mk k s o l)=wg l:=λh=>by rw[rC,if_neg (by simp[*]),if_neg yxc,if_neg yxa,if_neg (by rw[h];simp)]
   have R:(iP s JH ||iP s Gq)=false:=by rw[qi (n:=JH) yxc,qi (n:=Gq) yxc];rfl
   have z:iP s TJ=true:=uc yxc;have A:(dz s).a=1:=by rw[GX (by assumption:s.toList=TJ.toList)];exact Pe
   obtain⟨u,r,rfl⟩:∃u r,l=u::r:=by cases l with |nil=>simp at Z;simp at *;omega |cons u r=>exact⟨u,r,rfl⟩
   have Q:(ae (u::r))[0]?=some (.agg (Do u)):=by rw[ae,<-au];rfl
   have i:ia s (u::r)=decide (u.k=2):=by unfold ia;rw[R,z];rfl
   refine .mk (n:=0) ?_ rfl Q rfl;generalize u::r=l at *;refine wC (λG=>?_) λG=>?_
   ·have d:=V (by rw[i];simp[*]);exact zac
   exact⟨_,rfl,by rw[F (by rw[i];simp[*])];rfl⟩
  ·have V:rC (.mk k s o l)=wg l:=by
    have O:ia s l=true:=by unfold ia;rw[qi (n:=JH) yxc,qi (n:=Gq) yxc,qi (n:=TJ) yxc];rfl
    rw[rC,if_neg (by simp[*]),if_neg yxc,if_neg yxa,if_neg (by rw[O];simp)]
   have d:=V;exact zac
 exact⟨_,rfl,by rw[rC,if_pos yxc];rfl⟩
theorem K8(t:Tm)(W:aC t<1000000000):aT C 114 [enc t] (.I (rC t)):=by
 induction t using Tm.ind with
 |h k s o l P=>
  have:=bF l;simp only[aC]at W;exact Pf k s o l yxa λt Z=>P t Z yxo
theorem v8(t:Tm)(W:aC t<100000000):aT C 76 [enc t] (.I (pA t)):=by
 have O:=(dZ t W).nine;have X:=K8 t yxa;rw[au]at O X ⊢;refine aT.x T6 Tryz.func76 rfl ?_;refine wA ?_;refine .p O ?_;refine wC (λG=>?_) λG=>?_
 ·refine .p X ?_;refine wA ?_;exact⟨_,rfl,by unfold pA;rw[if_neg yxa];rfl⟩
 exact⟨_,rfl,by unfold pA;rw[if_pos yxc];rfl⟩
theorem DZ{p:ByteArray->Bool}{a q:List Tm}(e:l=a++u::q)(y:every p u=false):jH p l=false:=by
 subst e
 induction a with
 |nil=>simp only[agS,jH,y];rfl
 |cons v a P=>simp only[agL,jH,P];simp
theorem sX{p:ByteArray->Bool}:∀{l:List Tm},(∀v∈l,every p v=true)->jH p l=true
 |[],_=>rfl
 |v::l,h=>by rw[jH,h v yxb,sX λw H=>h w (by simp[H])];rfl
theorem _root_.zae{P:Prop}(h:P:=by
 refine dU.zip T6 l (λa q L H=>L=[(1,.fn g []),(18,.aa false (ae l)),(19,.I l.length),(20,.I a.length)]/\HV H/\∀u∈a,every p u=true) (.nx ⟨rfl,by first |assumption |exact HV.one yxb,λu y=>by cases y⟩) ?_ ?_
 ·rintro a u q _ H Y e ⟨rfl,w,K⟩;have Q:=bO e;have d:=lenE e;have B:=P u yxf;rw[au]at B;refine wA ?_;refine .p B ?_
  cases y:every p u
  ·refine wA ?_;exact⟨_,rfl,by rw[b,DZ e y];rfl⟩
  ·refine wA ?_;exact .nx ⟨rfl,w.cz (HV.one yxb),λv J=>by rcases agh.1 J with h |h;exact K v h;simp at h;rw[h];exact y⟩
 ·rintro _ H Y ⟨rfl,w,K⟩;refine wA ?_;exact⟨_,rfl,by rw[b,sX K];rfl⟩):P:=h
theorem Pg(g:FuncId)(p:ByteArray->Bool)(j:C.mode g=.pure)(N:∀s,aT C g [.str s] (.bool (p s)))(k s o l)(A:l.length<1000000000)(P:∀t∈l,aT C 115 [enc t,.fn g []] (.bool (every p t))):
  aT C 115 [enc (.mk k s o l),.fn g []] (.bool (every p (.mk k s o l))):=by
 have Z:=aj l;have i:=N s;have b:every p (.mk k s o l)=((decide (k≠3)||p s)&&jH p l):=rfl;rw[bE];refine aT.x T6 Tryz.func115 rfl ?_;refine wC (λG=>?_) λG=>?_
 ·refine .p i ?_ j
  cases f:p s
  ·refine wA ?_;exact⟨_,rfl,by rw[b,f];simp[bo, *]⟩
  ·have b:every p (.mk k s o l)=jH p l:=by rw[b,f];simp
   refine wA ?_;exact zae
 ·have b:every p (.mk k s o l)=jH p l:=by rw[b];simp[*]
  exact zae
theorem AK(g:FuncId)(p:ByteArray->Bool)(d:C.mode g=.pure)(N:∀s,aT C g [.str s] (.bool (p s)))(t:Tm)(W:aC t<1000000000):aT C 115 [enc t,.fn g []] (.bool (every p t)):=by
 induction t using Tm.ind with
 |h k s o l P=>
  have:=bF l;simp only[aC]at W;exact Pg g p d N k s o l yxa λt Z=>P t Z yxo
theorem Ph(s:ByteArray):aT C 116 [.str s] (.bool (FC s)):=by
 have S:=sD s;rw[EZ]at S;have a:yT s=true->FC s=false:=λh=>by simp[FC,h]
 refine aT.x T6 Tryz.func116 rfl ?_;refine wM (λG=>?_) (λG G=>?_) (λG G G=>?_) (λG G G G=>?_) (λG G G G G=>?_) (λG G G G G G=>?_) λG G G G G G=>?_;exact⟨_,rfl,by rw[a (by unfold yT;rw[uc (n:=AJ) yxc];simp)];rfl⟩;exact⟨_,rfl,by rw[a (by unfold yT;rw[uc (n:=kV) yxc];simp)];rfl⟩;exact⟨_,rfl,by rw[a (by unfold yT;rw[uc (n:=Sf) yxc];simp)];rfl⟩;exact⟨_,rfl,by rw[a (by unfold yT;rw[uc (n:=EX) yxc];simp)];rfl⟩;exact⟨_,rfl,by rw[a (by unfold yT;rw[uc (n:=EY) yxc];simp)];rfl⟩;exact⟨_,rfl,by rw[a (by unfold yT;rw[uc (n:=xM) yxc];simp)];rfl⟩
 ·have f:yT s=false:=by
   unfold yT;rw[qi (n:=AJ) yxc,qi (n:=kV) yxc,qi (n:=Sf) yxc,qi (n:=EX) yxc,qi (n:=EY) yxc,qi (n:=xM) yxc]
   rfl
  refine .p S ?_;refine wC (λG=>?_) λG=>?_
  all_goals exact⟨_,rfl,by simp[bo,FC,f, *]⟩
theorem Pj(t:Tm)(W:aC t<100000000):aT C 77 [enc t] (.bool (yi t)):=by
 have O:=v8 t W;have X:=AK 116 FC rfl Ph t yxa;rw[au]at O X ⊢;refine aT.x T6 Tryz.func77 rfl ?_;refine wA ?_;refine .p O ?_;refine wC (λG=>?_) λG=>?_
 ·refine .p X ?_
  cases q:every FC t
  all_goals(
   refine wA ?_;exact⟨_,rfl,by simp[bo,yi, *]⟩)
 exact⟨_,rfl,by simp[bo,yi, *]⟩
theorem nj(a b:List Tm):cX (a++b)=cX a++cX b:=by
 induction a with
 |nil=>rfl
 |cons t a P=>simp[cX,P]
theorem DX:∀{l:List Tm},(∀t∈l,(pre t).length<=aC t)->(cX l).length<=bm l
 |[],_=>by simp[cX,bm]
 |t::l,h=>by
  have O:=h t yxb;have X:=DX (l:=l) λu y=>h u yxj
  simp only[cX,bm,agf];omega
theorem TG(t:Tm):(pre t).length<=aC t:=by
 induction t using Tm.ind with
 |h k n o l P=>
  have:=DX P;simp only[pre,aC,agj];omega
theorem TH{k s o l}(W:aC (.mk k s o l)<100000000):(cX l).length<100000000:=by
 have:=TG (.mk k s o l);simp only[pre,agj]at this;omega
@[simp] theorem gC(l:List Tm):eE 4 (ae l):=by
 unfold eE;rw[af9]
 intro v J
 rw[dw]at J;obtain⟨t,_,rfl⟩:=agv.1 J;rw[au];rfl
theorem ch(a b:List Tm):ae (a++b)=ae a++ae b:=by rw[dw,dw,dw,agN]
theorem abE(k s o l)(W:aC (.mk k s o l)<100000000)(P:∀t∈l,aT C 75 [enc t] (.aa false (ae (pre t)))):aT C 75 [enc (.mk k s o l)] (.aa false (ae (pre (.mk k s o l)))):=by
 have Z:=aj l;rw[bE];have S:=TH W;have z:bm l<100000000:=by simp only[aC]at W;omega
 have O:=bF l;have V:∀u:Tm,ae [u]=[.agg (Do u)]:=λu=>by rw[ae,<-au];rfl
 refine aT.x T6 Tryz.func75 rfl ?_;refine wA ?_;refine dU.zip T6 l (λp q L H=>∃v,L=[(1,.ptr 0 0 0 0),(3,v),(4,.I p.length)]/\HV H/\H[0]?=some ⟨.m,0,4,[.agg (If k s o l)]⟩/\((p=[]/\v=.aa true (ae [.mk k s o l])/\H=[⟨.m,0,4,[.agg (If k s o l)]⟩])\/(Out 4 H v (ae (.mk k s o l::cX p))/\∀g n,v≠.an 0 g 0 n))) (.nx ⟨_,rfl,HV.one yxb,rfl,.inl ⟨rfl,by rw[V],rfl⟩⟩) ?_ ?_
 ·rintro p u q _ H Y e ⟨v,rfl,w,B,f⟩;have G:=bO e;have M:=lenE e;have a:=P u yxf;rw[au]at a;have K:cX l=cX p++(pre u++cX q):=by rw[e,nj];simp[cX]
  have R:=congrArg List.length K;simp only[agf]at R;have Q:(ae (pre u)).isEmpty=false:=by cases u;rfl
  have X:eE 4 (ae (pre u)):=gC _;have b:=aj (pre u);have F:cX (p++[u])=cX p++pre u:=by rw[nj];simp[cX]
  refine wA ?_;refine .p a ?_;rcases f with⟨rfl,rfl,rfl⟩|⟨f,j⟩
  ·refine wA ?_;refine .sn ?_ Q (by rw[aj];simp;omega) rfl X (gC _);refine wA ?_;have J:∀(g n:Nat) (m:Nat),(PV.an 1 0 0 m:PV)≠.an 0 g 0 n:=λg n m h=>by cases h
   have D:ae [Tm.mk k s o l]++ae (pre u)=ae (Tm.mk k s o l::cX ([]++[u])):=by rw[F,<-ch];simp[cX]
   have N:(ae [Tm.mk k s o l]).length+(ae (pre u)).length=(Tm.mk k s o l::cX ([]++[u])).length:=by rw[F,aj,aj];simp[cX];omega
   refine .nx ⟨_,rfl,HV.Ay yxb yxb,rfl,.inr ⟨.inr ⟨1,0,?_,?_⟩,?_⟩⟩;rw[N,<-aj];rfl;rw[<-D];rfl;exact λg n=>J g n _
  ·have y:=aj (Tm.mk k s o l::cX p);simp only[agj]at y;refine wH λv H i=>?_;obtain⟨d,A⟩:=i.obj B j;exact .nx ⟨_,rfl,i.hv,d,.inr ⟨by have:=i.out;rw[<-ch]at this;simpa[F]using this,A⟩⟩
 ·rintro _ H Y ⟨v,rfl,w,B,f⟩;refine wA ?_;rcases f with⟨rfl,rfl,rfl⟩|⟨f,_⟩;exact⟨_,rfl,by simp[bo,b9,pre,cX]⟩;exact Ls.NO (.inl f) yxb (by simp[pre])
theorem TI(t:Tm)(W:aC t<100000000):aT C 75 [enc t] (.aa false (ae (pre t))):=by
 induction t using Tm.ind with
 |h k s o l P=>
  refine abE k s o l W λt Z=>P t Z ?_;have:=cc Z;simp only[aC]at W;omega
end aI
open Go.Proofs
def bJ:PV->List Nat
 | .an i _ _ _=>[i]
 |_=>[]
theorem JD:∀{p:PV},cY n p=true->bq (λi=>decide (i<n)) p=true:=by
 have V:∀{p:PV},eu n p=true->bq (λi=>decide (i<n)) p=true:=by
  intro p h
  unfold eu at h
  split at h
  simpa[bq]using h;simpa[bq]using h;exact zk _ _ h
 intro p h
 unfold cY at h
 split at h
 ·rename_i Y
  rw[bq,dx,af9];exact λc G=>V (af9.1 h c G)
 exact V h
theorem HR.take{h:ab}(H:HR h){n:Nat}(hn:n<=h.length)(W:((h.take n).all λo=>o.es.all (cY n))=true):HR (h.take n):=by
 intro o f
 refine⟨(H o (ahi f)).1,?_⟩;rw[ag4,ah9 hn,dx,af9];exact λp K=>JD (af9.1 (af9.1 W o f) p K)
theorem ah.sm{C:cA}(a:ay C f args H P)(A:∀r h',P r h'->HR h'/\H.length<=h'.length)(U:∀r h',P r h'->Q r h')(b:∀r h',P r h'->HR (h'.take H.length)->Q r (h'.take H.length))(d:C.mode f=.opened:=by rfl):ah C 2 f args H Q:=by
 refine ah.opened d (a.mono λr k z=>?_)
 split
 ·rename_i G
  rw[age]at G;obtain⟨O,X⟩:=A r k z;exact b r k z (O.take X G.2)
 exact U r k z
theorem Out.of_eq{h':ab}{v:PV}(o:Out sz h v es)(q:∀i∈bJ v,h'[i]?=h[i]?):Out sz h' v es:=by
 rcases o with o |⟨V,g,rfl,e⟩;exact .inl o;exact .inr ⟨V,g,rfl,by rw[q V yxi];exact e⟩
theorem Out.nP{v:PV}(o:Out sz h v es):∀i∈bJ v,i<h.length:=by
 rcases o with⟨rfl,_⟩|⟨V,g,rfl,e⟩;simp[bJ]
 intro i B;simp[bJ]at B;subst B;exact ag e
def LO(l:List Nat):List PV:=l.map λ(i:Nat)=>.int .i64 i
@[simp] theorem ab2(l:List Nat):(LO l).length=l.length:=by simp[LO]
@[simp] theorem lS(l:List Nat):aw (LO l)=true:=by induction l with |nil=>rfl |cons x l P=>simpa[LO]using P
theorem Out.bP{sz:Nat}{h:ab}{v:PV}{es:List PV}(o:Out sz h v es):Pm.bP v=true/\Pm.cells v=[v]:=by
 rcases o with⟨rfl,_⟩|⟨V,g,rfl,_⟩ <;>exact⟨rfl,rfl⟩
theorem Out.bq{sz:Nat}{h:ab}{v:PV}{es:List PV}(o:Out sz h v es):Pm.bq (λi=>decide (i<h.length)) v=true:=by
 rcases o with⟨rfl,_⟩|⟨V,g,rfl,e⟩
 rfl
 have:=ag e;simpa[Pm.bq]using this
theorem ah.fr{C:cA}(a:ay C f args H (λr h'=>HR h'/\H.length<=h'.length/\(∀j,j<H.length->h'[j]?=H[j]?)/\P r h'))(d:∀r h',P r h'->eI H.length r=true->P r (h'.take H.length))
  (q:∀r h',HR h'->H.length<=h'.length->(∀j,j<H.length->h'[j]?=H[j]?)->P r h'->Q r h') (e:C.mode f=.opened:=by rfl):ah C 2 f args H Q:=by
 refine ah.opened e (a.mono λr k z=>?_);obtain⟨b,V,S,v⟩:=z
 split
 ·rename_i G
  rw[age]at G;exact q r _ (b.take V G.2) yxd (λj M=>by rw[agy,if_pos M];exact S j M) (d r k v G.1)
 exact q r k b V S v
theorem LR.bJ{H h':ab}{v r:PV}{sz:Nat}{es:List PV}(l:LR H v sz es r h'):∀i∈Pm.bJ r,i∈Pm.bJ v\/H.length<=i:=by
 rcases l.out with⟨rfl,_⟩|⟨V,g,rfl,_⟩
 intro i B;simp[Pm.bJ]at B
 ·intro i B
  simp only[Pm.bJ,agu]at B;subst B;rcases l.ref i g _ rfl with⟨P,q,h⟩|h;exact .inl (by rw[h];simp[Pm.bJ]);exact .inr h
end Go.Pm
namespace Go.Pm
variable{M h h' k:ab}{D b d lv p q t u:Nat}{H:Op}{s s0 s1 s2 s3 s4 s5 s6 s7:String}{a:Array Edge}{ops:Array Oper}{L:Al}{f:FuncId}{c x:Operand}{z:PV}{args es us:List PV}{Q:PV->ab->Prop}{o:Int}{Y:Nat->PV}{run:hZ}{g:List PV->ab->Option (PV×ab)}{xs:List Operand}{l:List Tm}
set_option maxRecDepth 4000
theorem mY(t:List Nat)(h:ab)(i:Nat):(cJ t h)[i]?=(h[i]?).map λo=>if t.contains i then cm o else o:=by
 simp[cJ,agt,aik,aiH,Function.comp_def]
theorem pY(t:List Nat)(h h':ab)(i:Nat):(eZ t h h')[i]?=(h'[i]?).map λo=>if t.contains i then(match h[i]? with |some y=>y|none=>o)else o:=by
 simp[eZ,agt,aik,aiH,Function.comp_def]
 rfl
theorem Gd{B:ab}(A:k.length<=B.length)(g:∀(j:Nat) (o:ax),k[j]?=some o->o.mu≠.m->B[j]?=some o):pN k B=B:=by
 apply agZ
 intro i
 unfold pN;have M:(List.zipWith (λo y=>if o.mu=.m then y else o) k B).length=k.length:=by simp;omega
 by_cases a:i<k.length
 ·rw[af8 yxa,ahR];have D:k[i]?=some k[i]:=agd a;have N:B[i]?=some B[i]:=agd yxa;have:=g i _ D;rw[D,N];rw[N]at this
  by_cases d:k[i].mu=.m
  simp[d];simp[d,af7 (this d)]
 ·rw[agl yxa,M,agP]
  congr 1;omega
theorem xq{t:List Nat}(g:∀(j:Nat) (o:ax),k[j]?=some o->o.mu≠.l\/(t.contains j=true/\j<h.length)\/h[j]?=some o):uo t h k=true:=by
 unfold uo;rw[af9];rintro⟨o,j⟩ d;have N:=List.mem_zipIdx_iff_getElem?.1 d;rcases g j o N with O |⟨O,X⟩|O;simp[O];simp[List.contains_iff_mem.1 O,X]
 ·by_cases A:o.mu=.l
  ·simp[O,A]
  ·simp[A]
section
variable{C:cA}{run:hZ}{ops:Array Oper}{b:List Nat}{h0:ab}{i:Nat}{L:Al}{Y:Nat->PV}{h:ab}
theorem kRd{v:PV}{y:TypeId}(R:cI H=true)(z:fF H=true)(N:mq ops b h0 i (al L Y) H=true)(e:aD C.P 1 H (al L Y) h=some (v,h)):
  du C run ops b h0 i ⟨some d,H,y,s,a,none⟩ ⟨al L Y,h⟩=some ⟨al ((d,v)::L) Y,h⟩:=by
 unfold du;simp only[bC,R,z,N,e,if_true,agQ,if_false,cy]
theorem kBs{v:PV}{y:TypeId}(R:cI H=true)(z:fF H=false)(W:k9 H=true)(e:aD C.P 1 H (al L Y) h=some (v,h)):
  du C run ops b h0 i ⟨some d,H,y,s,a,none⟩ ⟨al L Y,h⟩=some ⟨al ((d,v)::L) Y,h⟩:=by
 unfold du;simp only[bC,R,z,W,e,if_true,agQ,agn,if_false,cy]
theorem X8{v:PV}{y:TypeId}(R:cI H=true)(z:fF H=false)(W:k9 H=false)(A:j' ops b i false=true)(e:ar C run 2 H (al L Y) h=some (v,h'))(hle:h.length<=h'.length)(g:∀(j:Nat) (o:ax),h[j]?=some o->o.mu≠.m->h'[j]?=some o):
  du C run ops b h0 i ⟨some d,H,y,s,a,none⟩ ⟨al L Y,h⟩=some ⟨al ((d,v)::L) Y,h'⟩:=by
 unfold du;simp only[bC,R,z,W,A,e,hle,if_true,agQ,agn,if_false,cy,Gd hle g]
theorem kSt{v:PV}{y:TypeId}(R:cI H=true)(z:fF H=false)(W:k9 H=false)(A:j' ops b i false=true)(e:ar C run 2 H (al L Y) h=some (v,h'))(hle:h.length<=h'.length)(g:∀(j:Nat) (o:ax),h[j]?=some o->o.mu≠.m->h'[j]?=some o):
  du C run ops b h0 i ⟨none,H,y,s,a,none⟩ ⟨al L Y,h⟩=some ⟨al L Y,h'⟩:=by
 unfold du;simp only[bC,R,z,W,A,e,hle,if_true,agQ,agn,if_false,bZ,Gd hle g]
end
theorem QJ{C:cA}(T:li C.P){H:ab}{e f a iq:Nat}{tl el:TypeId}{v:PV}
  {y0 y1 y2 y3 y4 y5 y6 y7:TypeId} {s0 s1 s2 s3 s4 s5 s6 s7:String} {a0 a1 a2 a3 a4 a5 a6 a7:Array Edge}
  (X:H[a]?=some ⟨.m,0,1,[v]⟩) (ho:Out 4 H v es) (hv:∀i∈bJ v,i≠a) (hn:es.length<100000000) (QK:us.length=4) (huo:us.all bP=true)
  (hp:lk L p=some (.ptr a 0 0 0)) (hq:lk L q=some (.ptr H.length 0 0 0)) (hd:[p,q,u,e,D,f,b,t].Nodup)
  (yN:∀Y,iS ops (before ops) (al L Y)=[H.length])
  (NJ:ops.toList=[⟨some u,.load tl (.tmp p),y0,s0,a0,none⟩,⟨some e,.load el (.tmp q),y1,s1,a1,none⟩,⟨some D,.call ⟨.builtin .len,#[.tmp u],#[tl]⟩,y2,s2,a2,none⟩,
   ⟨some f,.buildSlice tl 1 #[(0,c)],y3,s3,a3,none⟩,⟨some b,.call ⟨.builtin .append,#[.tmp u,.tmp f],#[tl,tl]⟩,y4,s4,a4,none⟩,⟨some t,.indexAddr tl (.tmp b) (.tmp D),y5,s5,a5,none⟩,
   ⟨none,.store el (.tmp t) (.tmp e),y6,s6,a6,none⟩,⟨none,.store tl (.tmp p) (.tmp b),y7,s7,a7,none⟩])
  (IU:nt ops (before ops) 0=true) (hr5:nt ops (before ops) 5=true) (Cn:sinks ops (before ops)=some (.tmp t,.tmp p))
  (c06:um (before ops) 0 (ops.size - 2)=true) (c07:um (before ops) 0 (ops.size - 1)=true) (c56:um (before ops) 5 (ops.size - 2)=true)
  (eR:j' ops (before ops) 2 false=true) (X9:j' ops (before ops) 4 false=true) (hl6:j' ops (before ops) 6 false=true) (hl7:j' ops (before ops) 7 false=true)
  (A:T.kd tl=some (.sl el)) (hs:T.ts el=some 4) (ha:T.ta el=some true) (LJ:T.ts tl=some 1) (ha':T.ta tl=some false) (hb:T.tb el=some iq) (ir:iq<=1000) (hz:T.tz el=some z) (N:(cells z).length=4) (y:(cells z).all bP=true)
  (ZI:∀(Y:Nat->PV) (h:ab),ek C.P 1 h tl 1 [(0,ev Y c)]=some (.aa true [z],h)):
  ∃V ep,∃h':ab,(∀run Y,ka C run ops ⟨al L Y,H++[⟨.m,0,4,[.agg us]⟩]⟩=some ⟨al ([(t,.ptr V ep es.length 0),(b,.an V ep 0 (es.length+1)),(f,.aa true [z]),(D,.I es.length),(e,.agg us),(u,v)]++L) Y,h'⟩)/\
   H.length+1<=h'.length/\V≠a/\V≠H.length/\(V∈bJ v\/H.length<V)/\h'[V]?=some ⟨.m,ep,4,es++[.agg us]⟩/\h'[a]?=some ⟨.m,0,1,[.an V ep 0 (es.length+1)]⟩/\
   ∀j,j≠V->j≠a->h'[j]?=(H++[⟨.m,0,4,[.agg us]⟩])[j]?:=by
 have hip:=ag X;simp only[aio,agi,ahb,or_false,not_or,not_false_eq_true,List.nodup_nil,and_true]at hd;obtain⟨⟨e1,e2,e3,e4,e5,e6,e7⟩,⟨f2,f3,f4,f5,f6,f7⟩,⟨g3,g4,g5,g6,g7⟩,⟨i4,i5,i6,i7⟩,⟨j5,j6,j7⟩,⟨m6,m7⟩,l7⟩:=hd;have Z:∀Y,al L Y p=.ptr a 0 0 0:=fi hp;have aq:∀Y,al L Y q=.ptr H.length 0 0 0:=fi hq;have K:=ho.bP
 let d:ax:=⟨.l,0,4,[.agg us]⟩
 have acv:cJ [H.length] (H++[⟨.m,0,4,[.agg us]⟩])=H++[d]:=by
  apply agZ
  intro i
  rw[mY]
  by_cases hi:i<H.length
  ·rw[af8 hi,af8 hi];have:([H.length].contains i)=false:=by simp;omega
   simp only[this,agn,if_false,air]
  ·rw[agl yxa,agl yxa]
   by_cases h0:i=H.length
   subst h0;simp[cm,d]
   ·have:i - H.length≠0:=yxa
    obtain⟨m,G⟩:∃m,i - H.length=m+1:=⟨i - H.length - 1,by omega⟩;rw[G];simp
 obtain⟨V,ep,B,oT,g,aex,ZL,Q,aey,ZM,aez⟩:∃V ep,∃B:ab,bR C.P 2 (H++[d]) tl tl v (.aa true [z])=some (.an V ep 0 (es.length+1),B)/\B[V]?=some ⟨.m,ep,4,es++[z]⟩/\(H++[d]).length<=B.length/\V≠a/\V≠H.length/\(V∈bJ v\/H.length<V)/\(∀j,j≠V->B[j]?=(H++[d])[j]?)/\∀o,(H++[d])[V]?=some o->o.mu=.m:=by
  have mJ:eE (3+1) [z]:=by simp[eE,N,af9.1 y];exact λx hx=>af9.1 y x hx
  rcases ho with⟨rfl,rfl⟩|⟨V,ep,rfl,bL⟩
  ·refine⟨_,_,_,iB T (lv:=2) yxa A A hs hb hz ir N y mJ rfl yxb,?_,?_,?_,?_,?_,?_,?_⟩
   ·simp
   ·simp
   ·simp;omega
   ·simp
   ·right;simp
   ·intro j M
    by_cases R:j<(H++[d]).length
    rw[af8 R];rw[agr (by simp at M R ⊢;omega),agr yxa]
   ·intro o h;rw[agr yxa]at h;cases h
  ·have cK:=ag bL;have tM:(H++[d])[V]?=some ⟨.m,ep,4,es⟩:=by rw[af8 cK];exact bL
   have:=lA T (h:=H++[d]) (full:=true) (len:=es.length) (ys:=[z]) A A hs hb hz ir N y mJ rfl yxd (bw tM rfl yxb) rfl rfl (agb _);refine⟨V,ep+1,_,this,?_,?_,?_,?_,?_,?_,?_⟩;rw[agc yxd];simp;simp;exact hv V yxi;omega
   ·left;simp[bJ]
   intro j M;rw[aga yxa]
   intro o h;rw[tM]at h;cases h;rfl
 have aeA:=ag g;have S:B[a]?=some ⟨.m,0,1,[v]⟩:=by rw[ZM a yxa,af8 hip];exact X
 let w:ab:=B.set V ⟨.m,ep,4,es++[.agg us]⟩
 let J:ab:=w.set a ⟨.m,0,1,[.an V ep 0 (es.length+1)]⟩
 have F:∀j,j≠V->j≠a->J[j]?=(H++[d])[j]?:=λj h1 X=>by
  show((B.set V _).set a _)[j]?=_;rw[aga yxa,aga yxa,ZM j h1]
 have U:w[a]?=some ⟨.m,0,1,[v]⟩:=by rw[aga yxa];exact S
 have W:J[a]?=some ⟨.m,0,1,[.an V ep 0 (es.length+1)]⟩:=agc (by show a<(B.set V _).length;rw[aiA];exact ag S);have O:J[V]?=some ⟨.m,ep,4,es++[.agg us]⟩:=by rw[aga yxa];exact agc aeA
 have afC:J.length=B.length:=by simp[J,w]
 have Fy:(H++[d]).length=H.length+1:=by simp
 have Cc:(H++[d])[H.length]?=some d:=by simp
 have kk4:∀(j:Nat) (o:ax),(H++[d])[j]?=some o->o.mu≠.m->B[j]?=some o:=λj o h G=>by
  by_cases M:j=V
  subst M;exact absurd (aez o h) G;rw[ZM j M];exact h
 have kk6:∀(j:Nat) (o:ax),B[j]?=some o->o.mu≠.m->w[j]?=some o:=λj o h G=>by
  by_cases M:j=V
  subst M;rw[g]at h;cases h;exact absurd rfl G;rw[aga yxa];exact h
 have kk7:∀(j:Nat) (o:ax),w[j]?=some o->o.mu≠.m->J[j]?=some o:=λj o h G=>by
  by_cases M:j=a
  subst M;rw[U]at h;cases h;exact absurd rfl G;rw[aga yxa];exact h
 have NF:uo [H.length] (H++[⟨.m,0,4,[.agg us]⟩]) J=true:=xq λj o h=>by
  by_cases M:j=V
  subst M;rw[O]at h;cases h;exact .inl yxb
  by_cases R:j=a
  subst R;rw[W]at h;cases h;exact .inl yxb
  by_cases hj3:j=H.length
  exact .inr (.inl ⟨by simp[hj3],by simp;omega⟩);rw[F j M R]at h;have cK:=ag h;rw[Fy]at cK;rw[af8 yxa]at h;exact .inr (.inr (by rw[af8 yxa];exact h))
 have mP:∀j,(eZ [H.length] (H++[⟨.m,0,4,[.agg us]⟩]) J)[j]?=if j=H.length then some ⟨.m,0,4,[.agg us]⟩else J[j]?:=λj=>by
  rw[pY]
  by_cases M:j=H.length
  ·subst M;rw[F _ yxa yxa,Cc,if_pos rfl];simp
  ·rw[if_neg M];have:([H.length].contains j)=false:=by simp;omega
   simp only[this,agn,if_false,air]
 refine⟨V,ep,eZ [H.length] (H++[⟨.m,0,4,[.agg us]⟩]) J,λrun Y=>?_,?_,ZL,Q,aey,?_,?_,?_⟩
 rotate_left
 ·have:(eZ [H.length] (H++[⟨.m,0,4,[.agg us]⟩]) J).length=J.length:=by simp[eZ]
  omega
 rw[mP,if_neg Q];exact O;rw[mP,if_neg yxa];exact W
 ·intro j h1 X
  rw[mP]
  by_cases M:j=H.length
  subst M;rw[if_pos rfl];simp
  ·rw[if_neg M,F j h1 X]
   by_cases R:j<H.length
   rw[af8 R,af8 R];rw[agr yxd,agr yxd]
 unfold ka;rw[yN,acv,NJ];dsimp only
 have pc:∀{h:ab} {i:Nat} {mm:Mu} {e' n:Nat} {xs:List PV} {x:PV},h[i]?=some ⟨mm,e',n,xs⟩->mm≠.x->xs[0]?=some x->dP h (.ptr i e' 0 0)=some (cells x):=λ{h i mm e' n xs x} q1 q2 q3=>by
  simp[dP,getM,q1,q2,q3]
 have L0:jO C.P (H++[d]) tl (.ptr a 0 0 0)=some v:=by
  refine vI T ?_;have:dP (H++[d]) (.ptr a 0 0 0)=some (cells v):=pc (mm:=.m) (by rw[af8 hip];exact X) yxb rfl;rw[K.2]at this;simp only[loadT,LJ,ha',this]
 have L1:jO C.P (H++[d]) el (.ptr H.length 0 0 0)=some (.agg us):=by
  refine vI T ?_;have:dP (H++[d]) (.ptr H.length 0 0 0)=some us:=pc (mm:=.l) (x:=.agg us) Cc yxb rfl;simp only[loadT,hs,ha,this];rw[if_pos (by rw[QK];rfl),agB yxa]
 have L2:qz C.P (H++[d]) tl v=some (.I es.length):=by
  rcases ho with⟨rfl,rfl⟩|⟨V,ep,rfl,bL⟩;simp only[qz,bG (T.dA _ _ A)]
  ·have tM:(H++[d])[V]?=some ⟨.m,ep,4,es⟩:=by rw[af8 (ag bL)];exact bL
   simp only[qz,bG (T.dA _ _ A),bw tM rfl yxb];rw[if_pos (by show 0+es.length<=es.length;omega)]
 have L5:cT C.P B tl (.an V ep 0 (es.length+1)) (.I es.length)=some (.ptr V ep es.length 0):=by
  simp only[cT,bG (T.dA _ _ A),T.eT _ _ hs,bw g rfl yxb];rw[if_pos ⟨by omega,by omega,trivial,by simp⟩];simp
 have L6:jc C.P B el (.ptr V ep es.length 0) (.agg us)=some w:=by
  have hg:getM B V ep=some ⟨.m,ep,4,es++[z]⟩:=bw g rfl yxb;have dm:(es++[z])[es.length]?=some z:=by simp
  simp only[jc,T.eT _ _ hs,hg,dm];rw[if_pos ⟨trivial,QK,huo,by rw[N];omega⟩];have hr:gw 0 4 z (.agg us)=.agg us:=by unfold gw;rw[if_pos ⟨rfl,N.symm⟩]
  rw[hr];simp[w]
 have L7:jc C.P w tl (.ptr a 0 0 0) (.an V ep 0 (es.length+1))=some J:=by
  have hg:getM w a 0=some ⟨.m,0,1,[v]⟩:=bw U rfl yxb;have dm:([v]:List PV)[0]?=some v:=rfl;simp only[jc,T.eT _ _ LJ,hg,dm];rw[if_pos ⟨trivial,rfl,rfl,by rw[K.2];simp⟩];have hr:gw 0 1 v (.an V ep 0 (es.length+1))=.an V ep 0 (es.length+1):=by unfold gw;rw[if_pos ⟨rfl,by rw[K.2];rfl⟩]
  rw[hr];simp[J]
 have G0:mq ops (before ops) (H++[d]) 0 (al L Y) (.load tl (.tmp p))=true:=by
  simp only[mq,rP,ev,Z,IU,Eg,Cn,c06,c07,aiq,ahd,Bool.or_true]
 have G1:mq ops (before ops) (H++[d]) 1 (al ((u,v)::L) Y) (.load el (.tmp q))=true:=by
  simp[mq,rP,ev,al,f2,aq,qB,d]
 have aeB:(ops.toList.any λo=>o.dst==some p)=false:=by
  rw[NJ];simp[agV e2,agV e3,agV e4,agV e5,agV e6,agV e7]
 have G5:mq ops (before ops) (H++[d]) 5 (al ((b,.an V ep 0 (es.length+1))::(f,.aa true [z])::(D,.I es.length)::(e,.agg us)::(u,v)::L) Y) (.indexAddr tl (.tmp b) (.tmp D))=true:=by
  have:I7 ops (al ((b,.an V ep 0 (es.length+1))::(f,.aa true [z])::(D,.I es.length)::(e,.agg us)::(u,v)::L) Y) (.tmp p) V=true:=by
   simp[I7,aeB,ev,al,e2,e3,e4,e5,e6,Z,agV ZL]
  have h4:ev (al ((b,.an V ep 0 (es.length+1))::(f,.aa true [z])::(D,.I es.length)::(e,.agg us)::(u,v)::L) Y) (.tmp b)=.an V ep 0 (es.length+1):=by simp[ev,al]
  simp only[mq,rP,h4,hr5,Eg,Cn,c56,aiq,ahA,this,Bool.or_true]
 have tO:cF C run ops (before ops) (H++[d]) 0 [⟨some u,.load tl (.tmp p),y0,s0,a0,none⟩,⟨some e,.load el (.tmp q),y1,s1,a1,none⟩,⟨some D,.call ⟨.builtin .len,#[.tmp u],#[tl]⟩,y2,s2,a2,none⟩,
   ⟨some f,.buildSlice tl 1 #[(0,c)],y3,s3,a3,none⟩,⟨some b,.call ⟨.builtin .append,#[.tmp u,.tmp f],#[tl,tl]⟩,y4,s4,a4,none⟩,⟨some t,.indexAddr tl (.tmp b) (.tmp D),y5,s5,a5,none⟩,
   ⟨none,.store el (.tmp t) (.tmp e),y6,s6,a6,none⟩,⟨none,.store tl (.tmp p) (.tmp b),y7,s7,a7,none⟩] ⟨al L Y,H++[d]⟩=some ⟨al ([(t,.ptr V ep es.length 0),(b,.an V ep 0 (es.length+1)),(f,.aa true [z]),(D,.I es.length),(e,.agg us),(u,v)]++L) Y,J⟩:=by
  rw[cF,kRd rfl rfl G0 (v:=v) (by simp only[aD,ev,Z,L0,Option.map_some])];dsimp only;rw[cF,kRd rfl rfl G1 (v:=.agg us) (by simp only[aD,ev,al,f2,if_false,aq,L1,Option.map_some])];dsimp only;rw[cF,X8 rfl rfl rfl eR (v:=.I es.length) (h':=H++[d]) (by simp[ar,bA,ev,al,g3,L2]) (Nat.le_refl _) (λ_ _ h _=>h)];dsimp only;rw[cF,kBs rfl rfl rfl (v:=.aa true [z]) (by simp only[aD,List.map_cons,List.map_nil,ZI])];dsimp only;rw[cF,X8 rfl rfl rfl X9 (v:=.an V ep 0 (es.length+1)) (h':=B) (by simp[ar,bA,ev,al,g3,g4,g5,oT]) aex kk4];dsimp only;rw[cF,kRd rfl rfl G5 (v:=.ptr V ep es.length 0) (by simp[aD,ev,al,j5,j6,L5])];dsimp only;rw[cF,kSt rfl rfl rfl hl6 (v:=.undef) (h':=w) (by simp[ar,aD,ev,al,i4,i5,i6,i7,L6]) (by simp[w]) kk6];dsimp only;rw[cF,kSt rfl rfl rfl hl7 (v:=.undef) (h':=J) (by simp[ar,aD,ev,al,e2,e3,e4,e5,e6,e7,l7,Z,L7]) (by simp[J]) kk7]
  rfl
 rw[tO];dsimp only
 have ZE:uq ops (before ops) (al ([(t,.ptr V ep es.length 0),(b,.an V ep 0 (es.length+1)),(f,.aa true [z]),(D,.I es.length),(e,.agg us),(u,v)]++L) Y)=true:=by
  simp[uq,Cn,ev,al,e2,e3,e4,e5,e6,e7,Z,ZL]
 rw[if_pos ⟨NF,ZE⟩]
theorem acB{C:cA}(T:li C.P){tl:TypeId}(x:Co T tl 1 [(0,c)] [] (λ_ es=>es=[z]))(J:aw [z]=true)(Y:Nat->PV)(h:ab):ek C.P 1 h tl 1 [(0,ev Y c)]=some (.aa true [z],h):=by
 obtain⟨q,es,rfl,e⟩:=pZ T x;have:=e Y h 1;rw[if_pos J]at this;exact this
structure Apd(H:ab)(ip:Nat)(v:PV)(es us:List PV)(id ep:Nat)(h':ab):Prop where
 len:H.length+1<=h'.length
 idp:id≠ip
 idn:id≠H.length
 idv:id∈bJ v\/H.length<id
 at':h'[id]?=some ⟨.m,ep,4,es++[.agg us]⟩
 var:h'[ip]?=some ⟨.m,0,1,[.an id ep 0 (es.length+1)]⟩
 fr:∀j,j≠id->j≠ip->h'[j]?=(H++[⟨.m,0,4,[.agg us]⟩])[j]?
theorem UI.apd{C:cA}{T:li C.P}{H:ab}{Q:Al->ab->Prop}{a h K:Nat}{tl el:TypeId}{v:PV}
  {y0 y1 y2 y3 y4 y5 y6 y7:TypeId} {s0 s1 s2 s3 s4 s5 s6 s7:String} {W Z a2 a3 a4 a5 a6 a7:Array Edge}
  (h2:H[d]?=some ⟨.m,0,1,[v]⟩) (ho:Out 4 H v es) (hv:∀i∈bJ v,i≠d) (hn:es.length<100000000)
  (kk:∀V ep h',Apd H d v es us V ep h'->Rn (Q ([(t,.ptr V ep es.length 0),(h,.an V ep 0 (es.length+1)),(b,.aa true [z]),(D,.I es.length),(a,.agg us),(u,v)]++L) h'))
  (O:ops.toList=[⟨some u,.load tl (.tmp p),y0,s0,W,none⟩,⟨some a,.load el (.tmp q),y1,s1,Z,none⟩,⟨some D,.call ⟨.builtin .len,#[.tmp u],#[tl]⟩,y2,s2,a2,none⟩,
   ⟨some b,.buildSlice tl 1 #[(0,c)],y3,s3,a3,none⟩,⟨some h,.call ⟨.builtin .append,#[.tmp u,.tmp b],#[tl,tl]⟩,y4,s4,a4,none⟩,⟨some t,.indexAddr tl (.tmp h) (.tmp D),y5,s5,a5,none⟩,
   ⟨none,.store el (.tmp t) (.tmp a),y6,s6,a6,none⟩,⟨none,.store tl (.tmp p) (.tmp h),y7,s7,a7,none⟩]:=by rfl)
  (S:us.length=4:=by rfl) (F:us.all bP=true:=by rfl)
  (hp:lk L p=some (.ptr d 0 0 0):=by rfl) (hq:lk L q=some (.ptr H.length 0 0 0):=by rfl) (hd:[p,q,u,a,D,b,h,t].Nodup:=by decide)
  (yN:∀Y,iS ops (before ops) (al L Y)=[H.length]:=by intro _;rfl)
  (M:nt ops (before ops) 0=true:=by rfl) (B:nt ops (before ops) 5=true:=by rfl) (R:sinks ops (before ops)=some (.tmp t,.tmp p):=by rfl)
  (g:um (before ops) 0 (ops.size - 2)=true:=by rfl) (j:um (before ops) 0 (ops.size - 1)=true:=by rfl) (n:um (before ops) 5 (ops.size - 2)=true:=by rfl)
  (eR:j' ops (before ops) 2 false=true:=by rfl) (X:j' ops (before ops) 4 false=true:=by rfl) (y:j' ops (before ops) 6 false=true:=by rfl) (A:j' ops (before ops) 7 false=true:=by rfl)
  (hk:T.kd tl=some (.sl el):=by rfl) (hs:T.ts el=some 4:=by rfl) (ha:T.ta el=some true:=by rfl) (N:T.ts tl=some 1:=by rfl) (w:T.ta tl=some false:=by rfl) (hb:T.tb el=some K:=by rfl) (ir:K<=1000:=by decide) (hz:T.tz el=some z:=by rfl) (U:(cells z).length=4:=by rfl) (J:(cells z).all bP=true:=by rfl)
  (hx:Co T tl 1 [(0,c)] [] (λ_ es=>es=[z]):=by exact rfl) (G:aw [z]=true:=by rfl) (f:pO ops=true:=by rfl):UI T ops L (H++[⟨.m,0,4,[.agg us]⟩]) Q:=by
 obtain⟨V,ep,h',e,q1,q2,q3,q4,q5,q6,q7⟩:=QJ T h2 ho hv hn S F hp hq hd yN O M B R g j n eR X y A hk hs ha N w hb ir hz U J (acB T hx G);exact .calm _ h' e (kk V ep h' ⟨q1,q2,q3,q4,q5,q6,q7⟩) f
namespace aI
open Go.Proofs
attribute [local irreducible] aE az aO aL Ev ai ah ay bh bH
theorem _root_.zbu{P:Prop}(h:P:=by
 rcases f with⟨rfl,rfl⟩|⟨V,g,rfl,N⟩;exact⟨_,rfl,rfl⟩;exact⟨.aa false es,by simp[rf,getM,N,J],by simp[b9,hn]⟩):P:=h
theorem Tn{v:PV}{k:Int}{s:ByteArray}(f:Out 4 h v es)(J:aw es=true)(hn:aY es=es):∃b,rb h (bo [.agg [.I k,.str s,.I o,v]])=some b/\b9 b=.agg [.I k,.str s,.I o,.aa false es]:=by
 obtain⟨r,O,X⟩:∃r,rf h v=some r/\b9 r=.aa false es:=by
  exact zbu
 refine⟨.agg [.I k,.str s,.I o,r],?_,by simp[b9,aY,X]⟩;simp only[bo,rb,kZ,oE,O]
 rfl
theorem _root_.zcf{P:Prop}(h:P:=by
 refine wA ?_;refine .mk ?_ (jJ (T:=T6) rfl N rfl rfl rfl rfl);exact⟨Tn F yxb yxb⟩):P:=h
theorem Aa(k s o l)(hl:l.length<100000000)(Q:∀t∈l,aT C 101 [enc t] (enc t)):aT C 101 [enc (.mk k s o l)] (enc (.mk k s o l)):=by
 have cL:=aj l;rw[bE];refine aT.x T6 Tryz.func101 rfl ?_;refine wA ?_
 have K:HR [⟨.m,0,4,[.agg [.I k,.str s,.I o,.aa true []]]⟩,⟨.m,0,4,[.agg Nm]⟩]:=by
  intro x U
  simp at U;rcases U with rfl |rfl <;>simp[bB,bq]
 refine dU.zip T6 l (λp q L H=>∃v,L=[(1,.ptr 0 0 0 0),(2,.ptr 1 0 0 0),(9,.aa false (ae l)),(10,.I (ae l).length),(11,.I p.length)]/\HR H/\H[0]?=some ⟨.m,0,4,[.agg [.I k,.str s,.I o,v]]⟩/\H[1]?=some ⟨.m,0,4,[.agg Nm]⟩/\Out 4 H v (ae p)/\∀i∈bJ v,2<=i) (.nx ⟨_,rfl,K,rfl,rfl,.inl ⟨rfl,rfl⟩,by simp[bJ]⟩) ?_ ?_
 ·rintro p u q _ H Y e ⟨v,rfl,A,w,O,f,J⟩;have dm:=bO e;have eR:=lenE e;have B:=Q u yxf;have P:=aj p;have tX:HR (H++[Pi u]):=A.cx (HV.one yxb);have yh:=f.cz [Pi u];have NM:=ag O;have vD:ae p++[.agg (Do u)]=ae (p++[u]):=by rw[ch,<-au];rfl
  rw[au]at B;refine wA ?_;refine .p B ?_;refine wA ?_;refine .lr (λv' h' y=>?_) yh;have X:∀j,j<2->∀g n,v≠.an j g 0 n:=λj hj g n R=>by have:=J j (by rw[R];simp[bJ]);omega
  have S:=(y.fr 0 yxb (X 0 yxa)).trans ((af8 yxa).trans w);have M:=(y.fr 1 yxd (X 1 yxa)).trans ((af8 yxa).trans O);have b:=y.hr
  have G:∀i∈bJ v',2<=i:=λi B=>by
   rcases y.bJ i B with h |h;exact J i h;simp at h;omega
  have z:=y.out;rw[vD]at z;have D:=z.bq;rcases z with⟨_,U⟩|⟨V,g,rfl,d⟩
  ·have:=congrArg List.length U;rw[aj]at this;simp at this
  have W:=ag S;refine wA ?_;have PS:=G V yxi;exact .nx ⟨_,rfl,b.set _ yxb (by simpa[bB,bq]using D),agc W,(aga yxa).trans M,.inr ⟨V,g,rfl,(aga yxa).trans d⟩,G⟩
 ·rintro _ H Y ⟨v,rfl,A,w,O,f,J⟩;have Z:=ag O;have N:=agc (a:=(⟨.m,0,4,[.agg [.I k,.str s,.I o,v]]⟩:ax)) Z;have F:Out 4 (H.set 1 ⟨.m,0,4,[.agg [.I k,.str s,.I o,v]]⟩) v (ae l):=f.of_eq λi B=>aga (by have:=J i B;omega)
  rcases f with⟨rfl,he⟩|⟨V,g,rfl,d⟩
  ·exact zcf
  ·exact zcf
theorem p9(t:Tm)(W:aC t<100000000):aT C 101 [enc t] (enc t):=by
 induction t using Tm.ind with
 |h k s o l P=>
  have:=bF l;simp only[aC]at W;exact Aa k s o l yxa λt Z=>P t Z yxo
structure KS(H:ab)(v:PV)(a:List Tm)(h':ab):Prop where
 hr:HR h'
 len:H.length<=h'.length
 var:∃v',h'[2]?=some ⟨.m,0,1,[v']⟩/\Out 4 h' v' (ae a)/\∀i∈bJ v',i∈bJ v\/H.length<=i
 fr:∀j,j<H.length->j≠2->j∉bJ v->h'[j]?=H[j]?
theorem _root_.zax{P:Prop}(h:P:=by
 have e:=(z _ (agq K)).2;refine⟨z,by omega,⟨W,K,N.of_eq λi B=>?_,P⟩,λj O X Q=>by rw[agD yxa];exact s.fr j O X Q⟩;rw[agD];rcases N with⟨rfl,_⟩|⟨V,g,rfl,_⟩;simp[bJ]at B
 ·simp[bJ]at B;subst B;simp[bB,bq]at e;omega):P:=h
theorem KS.take{H h':ab}{v:PV}{a:List Tm}(s:KS H v a h')(Q:3<=H.length)(z:HR (h'.take H.length)):KS H v a (h'.take H.length):=by
 have A:=s.len;have F:(h'.take H.length).length=H.length:=by simp;omega
 obtain⟨W,D,N,P⟩:=s.var;have K:(h'.take H.length)[2]?=some ⟨.m,0,1,[W]⟩:=by rw[agD yxa];exact D
 exact zax
theorem _root_.zas{P:Prop}(h:P:=by
 obtain⟨W,U,z,g⟩:=s.var;rw[U]at e
 cases e
 obtain⟨K,d,V,S⟩:=t.var;have:=s.len;refine⟨t.hr,agI s.len t.len,⟨K,d,V,λi B=>?_⟩,λj h1 X Q=>?_⟩
 ·rcases S i B with h |h
  ·exact g i h
  ·omega
 ·rw[t.fr j yxa X (λR=>by rcases g j R with h |h;exact Q h;omega)];exact s.fr j h1 X Q):P:=h
theorem KS.trans{H h1 X:ab}{v y:PV}{a b:List Tm}(s:KS H v a h1)(e:h1[2]?=some ⟨.m,0,1,[y]⟩)(t:KS h1 y b X):KS H v b X:=by
 exact zas
theorem ah.ks{H:ab}{v:PV}{b:List Tm}(a:ay C f args H (λr h'=>r=.b8 []/\KS H v b h'))(d:3<=H.length)(q:∀h',KS H v b h'->Q (.b8 []) h')(e:C.mode f=.opened:=by rfl):ah C 2 f args H Q:=
 ah.sm a (λr h' p=>⟨p.2.hr,p.2.len⟩) (λr h' p=>by rw[p.1];exact q h' p.2) (λr h' p z=>by rw[p.1];exact q _ (p.2.take d z)) e
theorem _root_.za4{P:Prop}(h:P:=by
 have:=(w.cx (HV.one (ep:=0) (n:=4) (es:=[.agg (Do u)]) yxb)) o (agq M);exact⟨this.1,eK (λi B=>by have:=of_decide_eq_true B;simp at this;exact decide_eq_true yxa) _ this.2⟩):P:=h
theorem Xv(u:Tm)(n:Int)(H:ab)(v:PV)(a:List Tm)(w:HR H)(h1:H[1]?=some ⟨.m,0,1,[.I n]⟩)(X:H[2]?=some ⟨.m,0,1,[v]⟩)(f:Out 4 H v (ae a))(J:∀i∈bJ v,3<=i)(hn:a.length<100000000):
  ay C 118 [enc u,.ptr 1 0 0 0,.ptr 2 0 0 0] H (λr h'=>r=.b8 []/\KS H v (a++if u.k=n then[u]else[]) h'):=by
 have t:=aj a;have F:=ag X;have y:ae a++[.agg (Do u)]=ae (a++[u]):=by rw[ch,<-au];rfl
 rw[au];refine ay.x T6 Tryz.func118 rfl ?_;refine wC (λG=>?_) λG=>?_
 ·refine UI.apd X f (λi B=>by have:=J i B;omega) yxa (λV g h' d=>?_);refine wA ?_;refine⟨rfl,?_⟩;rw[if_pos G];have A:=d.len;have z:=ag d.at';have N:∀j,j<H.length->j≠V->j≠2->h'[j]?=H[j]?:=λj K b D=>by rw[d.fr j b D,af8 K]
  refine⟨λo f=>?_,by omega,⟨_,d.var,.inr ⟨V,g,by rw[aj];simp,by rw[<-y];exact d.at'⟩,λi B=>?_⟩,λj K b D=>N j K (λR=>?_) b⟩
  ·obtain⟨j,M⟩:=ahB f
   by_cases q:j=V
   subst q;rw[d.at']at M;cases M;exact⟨by simp,bg _ _ (by rw[y];simp)⟩
   by_cases e:j=2
   subst e;rw[d.var]at M;cases M;exact⟨by simp,by simp[bB,bq];omega⟩;rw[d.fr j q e]at M;exact za4
  ·simp[bJ]at B;subst B;rcases d.idv with h |h;exact .inl h;exact .inr yxa
  ·subst R;rcases d.idv with h |h;exact D h;omega
 ·refine⟨rfl,?_⟩;rw[if_neg G,agC];refine⟨w.cx (HV.one yxb),by simp,⟨v,?_,f.cz _,λi B=>.inl B⟩,λj K b D=>af8 K⟩;rw[af8 F];exact X
def y9(n:Int)(l:List Tm):List Tm:=l.filter λu=>decide (u.k=n)
theorem zu(n:Int)(l:List Tm):(y9 n l).length<=l.length:=ahf _ _
theorem IC(n:Int)(u:Tm)(l:List Tm):y9 n (u::l)=(if u.k=n then[u]else[])++y9 n l:=by
 unfold y9
 by_cases h:u.k=n <;>simp[List.filter_cons,h]
theorem Nf(n:Int)(a b:List Tm):y9 n (a++b)=y9 n a++y9 n b:=by simp[y9]
theorem _root_.zaz{P:Prop}(h:P:=by
 have A:=s.len;rw[agf]at A;obtain⟨W,D,N,P⟩:=s.var;refine⟨s.hr,by omega,⟨W,D,N,λi B=>?_⟩,λj O X Q=>by rw[s.fr j yxd X Q,af8 O]⟩;rcases P i B with h |h;exact .inl h;exact .inr (by simp at h;omega)):P:=h
theorem KS.jk{H J:ab}{v:PV}{a:List Tm}(s:KS (H++J) v a h'):KS H v a h':=by
 exact zaz
theorem ni(a b:List Tm):bm (a++b)=bm a+bm b:=by
 induction a with
 |nil=>simp[bm]
 |cons t a P=>simp only[agL,bm,P];omega
theorem Xw (n:Int) (k s o l) (P:∀t∈l,∀(H:ab) (v:PV) (a:List Tm),HR H->H[1]?=some ⟨.m,0,1,[.I n]⟩->H[2]?=some ⟨.m,0,1,[v]⟩->Out 4 H v (ae a)->(∀i∈bJ v,3<=i)->a.length+aC t<100000000->
   ay C 66 [enc t,.fn 118 [.ptr 1 0 0 0,.ptr 2 0 0 0]] H (λr h'=>r=.b8 []/\KS H v (a++y9 n (pre t)) h'))
  (H:ab) (v:PV) (a:List Tm) (D:HR H) (h1:H[1]?=some ⟨.m,0,1,[.I n]⟩) (X:H[2]?=some ⟨.m,0,1,[v]⟩) (g:Out 4 H v (ae a)) (J:∀i∈bJ v,3<=i) (hn:a.length+aC (.mk k s o l)<100000000):
  ay C 66 [enc (.mk k s o l),.fn 118 [.ptr 1 0 0 0,.ptr 2 0 0 0]] H (λr h'=>r=.b8 []/\KS H v (a++y9 n (pre (.mk k s o l))) h'):=by
 have cL:=aj l;have uE:=bF l;simp only[aC]at hn;have B:=ag X;have W:HR (H++[⟨.m,0,4,[enc (.mk k s o l)]⟩]):=D.cx (HV.one yxb);have w:(H++[⟨.m,0,4,[enc (.mk k s o l)]⟩])[1]?=some ⟨.m,0,1,[.I n]⟩:=by rw[af8 yxa];exact h1
 have z:(H++[⟨.m,0,4,[enc (.mk k s o l)]⟩])[2]?=some ⟨.m,0,1,[v]⟩:=by rw[af8 B];exact X
 have V:=Xv (.mk k s o l) n (H++[⟨.m,0,4,[enc (.mk k s o l)]⟩]) v a W w z (g.cz _) J yxa;rw[bE]at V ⊢;refine ay.x T6 Tryz.func66 rfl ?_;refine wA ?_;refine ah.ks V yxd (λh' b=>?_);refine wA ?_;have O:=b.jk
 have fP:h'[H.length]?=some ⟨.m,0,4,[.agg (If k s o l)]⟩:=by
  rw[b.fr H.length yxb yxa (λR=>by have:=g.nP _ R;omega)];simp
 refine wA ?_;have j:a++(if(Tm.mk k s o l).k=n then[Tm.mk k s o l]else[])=a++y9 n (.mk k s o l::cX []):=by rw[IC];simp[cX,y9]
 rw[j]at O;refine dU.zip T6 l (λp q L K=>L=[(1,.fn 118 [.ptr 1 0 0 0,.ptr 2 0 0 0]),(10,.aa false (ae l)),(11,.I (ae l).length),(12,.I p.length)]/\KS H v (a++y9 n (.mk k s o l::cX p)) K) (.nx ⟨rfl,O⟩) ?_ ?_
 ·rintro p u q _ K Y e ⟨rfl,d⟩;have dm:=bO e;have eR:=lenE e;obtain⟨y,U,M,Q⟩:=d.var;have Z:=d.len;have N:=d.hr
  have S:∀i∈bJ y,3<=i:=λi G=>by
   rcases Q i G with h |h;exact J i h;omega
  have A:K[1]?=some ⟨.m,0,1,[.I n]⟩:=by rw[d.fr 1 yxa yxa (λR=>by have:=J 1 R;omega)];exact h1
  have Yx:bm l=bm p+(aC u+bm q):=by rw[e,ni];simp[bm]
  have oH:(cX p).length<=bm p:=nM p;have f:=zu n (Tm.mk k s o l::cX p);simp only[agj]at f;have F:=P u yxf (K++[⟨.m,0,4,[enc u]⟩]) y (a++y9 n (Tm.mk k s o l::cX p)) (N.cx (HV.one yxb)) (by rw[af8 yxa];exact A) (by rw[af8 (ag U)];exact U) (M.cz _) S (by simp only[agf];omega);rw[au]at F;refine wA ?_;refine ah.ks F yxd (λh' b=>?_);refine wA ?_;refine .nx ⟨rfl,?_⟩;have:=d.trans U b.jk;rwa[ags,<-Nf,show Tm.mk k s o l::cX p++pre u=Tm.mk k s o l::cX (p++[u]) by rw[nj];simp[cX]]at this
 ·rintro _ K Y ⟨rfl,d⟩;refine wA ?_;exact⟨rfl,by rw[pre];exact d⟩
theorem Xu(n:Int)(t:Tm):∀(H:ab) (v:PV) (a:List Tm),HR H->H[1]?=some ⟨.m,0,1,[.I n]⟩->H[2]?=some ⟨.m,0,1,[v]⟩->Out 4 H v (ae a)->(∀i∈bJ v,3<=i)->a.length+aC t<100000000->
   ay C 66 [enc t,.fn 118 [.ptr 1 0 0 0,.ptr 2 0 0 0]] H (λr h'=>r=.b8 []/\KS H v (a++y9 n (pre t)) h'):=by
 induction t using Tm.ind with
 |h k s o l P=>exact Xw n k s o l P
theorem Un(a b:Tm)(j:aC a<1000000000)(W:aC b<1000000000):aT C 100 [enc a,enc b] (.bool (decide (aZ a b=0))):=by
 have O:=(dT a b j W).nine;rw[au,au]at O ⊢;refine aT.x T6 Tryz.func100 rfl ?_;exact zao
theorem wi(g:FuncId)(H:ab):ay C 99 [.aa true [],.fn g []] H (λr h'=>r=.aa true []/\h'=H):=by
 refine ay.x T6 Tryz.func99 rfl ?_;refine wA ?_;exact⟨rfl,rfl⟩
theorem sI(g:FuncId)(hm:C.mode g=.pure)(hg:∀a b:Tm,aC a<1000000000->aC b<1000000000->aT C g [enc a,enc b] (.bool (decide (aZ a b=0))))(x:Tm)(l:List Tm)(H:ab)(hH:HR H)(V ep:Nat)(D:H[V]?=some ⟨.m,ep,4,ae (x::l)⟩)(hn:l.length<100000000)(W:∀t∈x::l,aC t<1000000000):
  ay C 99 [.an V ep 0 (ae (x::l)).length,.fn g []] H
   (λr h'=>r=.an V ep 0 (dd (x::l)).length/\∃tl,aw tl=true/\h'=H.set V ⟨.m,ep,4,ae (dd (x::l))++tl⟩):=by
 have cL:(ae (x::l)).length=l.length+1:=by rw[aj];rfl
 refine ay.x T6 Tryz.func99 rfl ?_;refine wC (λG=>?_) λG=>?_
 ·obtain rfl:l=[]:=agm yxa;exact⟨rfl,[],rfl,by rw[agC];exact(dI D).symm⟩
 refine dU.zip T6 l (λp q L h=>h=H/\∃d Q,x::p=d++[Q]/\d++Q::xc Q q=dd (x::l)/\L=[(0,.an V ep 0 (ae (x::l)).length),(1,.fn g []),(5,.I ((p.length+1:Nat):Int))]) (.nx ⟨rfl,[],x,rfl,rfl,rfl⟩) ?_ ?_
 ·rintro p a q _ h Y e ⟨rfl,d,Q,K,J,rfl⟩;have eR:=lenE e;have oH:=congrArg List.length K;simp only[agf,agj,agH]at oH;have Jv:(ae (x::l))[0+(p.length+1)]?=some (.agg (Do a)):=iT (by rw[e,agz];simp)
  have nK:(ae (x::l))[0+(((p.length+1:Nat):Int) - 1).toNat]?=some (.agg (Do Q)):=iT (by
   rw[show(((p.length+1:Nat):Int) - 1).toNat=p.length by omega,e,<-agL,K,agz,af8 yxd,agl yxa];simp[show p.length - d.length=0 by omega])
  have O:=hg a Q (W a yxf) (W Q (by rw[e,<-agL,K];simp));rw[au,au]at O;refine wA ?_;refine .p O ?_ hm
  cases G:decide (aZ a Q=0)
  ·refine wA ?_;refine .nx ⟨rfl,d++[Q],a,by rw[<-agL,K],?_,rfl⟩;rw[<-J,xc,if_neg (by simpa using G)];simp
  ·refine wA ?_;rw[cL]at *;refine .sl rfl rfl (vO T6 rfl rfl D (by rw[aj];simp) yxa yxa) ?_;refine wA ?_
   refine dU.zip T6 q (λn z L h'=>∃R i f,aC f<1000000000/\R.length+i.length=p.length+1+n.length/\R++xc f z=dd (x::l)/\h'=h.set V ⟨.m,ep,4,ae (R++(i++[f]++z))⟩/\
    L=[(0,.an V ep 0 (l.length+1)),(1,.fn g []),(5,.I (R.length:Int)),(6,.an V ep (0+(p.length+1)) (l.length+1 - (p.length+1))),(7,.I ((n.length+1:Nat):Int))]) (.nx ⟨d++[Q],[],a,W a yxf,by simp only[agf,agj,agH];omega,?_,?_,rfl⟩) ?_ ?_
   rw[<-J,xc,if_pos (by simpa using G)];simp;rw[dI];rw[D,e,<-agL,K];simp
   ·rintro n b z _ _ Y2 N ⟨R,i,f,U,NM,P,rfl,rfl⟩;have X9:=lenE N;have u:(h.set V ⟨.m,ep,4,ae (R++(i++[f]++b::z))⟩)[V]?=some ⟨.m,ep,4,ae (R++(i++[f]++b::z))⟩:=agc (ag D);have v:HR (h.set V ⟨.m,ep,4,ae (R++(i++[f]++b::z))⟩):=hH.set V yxb (bg _ _ yxb);have VA:(ae (R++(i++[f]++b::z))).length=l.length+1:=by rw[aj];simp;omega
    have ZT:(ae (R++(i++[f]++b::z)))[0+(p.length+1)+(n.length+1)]?=some (.agg (Do b)):=iT (xu (A:=R++i++[f]) (B:=z) yxb yxd);have VB:(ae (R++(i++[f]++b::z)))[0+(p.length+1)+(((n.length+1:Nat):Int) - 1).toNat]?=some (.agg (Do f)):=iT (xu (A:=R++i) (B:=b::z) yxb yxd);have j:=hg b f (W b (by rw[e,N];simp)) U;rw[au,au]at j;obtain⟨m,X,w⟩:∃m X,i++[f]=m::X:=by cases i with |nil=>exact⟨_,_,rfl⟩|cons m M=>exact⟨m,M++[f],rfl⟩
    have F:=congrArg List.length w;simp only[agf,agj,agH]at F;have acC:(ae (R++(i++[f]++b::z)))[0+R.length]?=some (.agg (Do m)):=iT (xu (A:=R) (B:=X++b::z) (by rw[w];simp) yxa)
    have mS:(ae (R++(i++[f]++b::z))).set (0+R.length) (.agg (Do b))=ae ((R++[b])++(X++[b]++z)):=by
     rw[<-au,Ad,w,agz];simp
    clear O Jv nK;refine wA ?_;refine .p j ?_ hm
    cases S:decide (aZ b f=0)
    ·refine wA ?_;rw[mS,ahF];refine .nx ⟨R++[b],X,b,W b (by rw[e,N];simp),by simp;omega,?_,rfl,rfl⟩;rw[<-P,xc,if_neg (by simpa using S)];simp
    ·refine wA ?_;refine .nx ⟨R,i++[f],b,W b (by rw[e,N];simp),by simp;omega,?_,by simp,rfl⟩;rw[<-P,xc,if_pos (by simpa using S)]
   ·rintro _ _ Y2 ⟨R,i,f,U,NM,P,rfl,rfl⟩;have u:(h.set V ⟨.m,ep,4,ae (R++(i++[f]++[]))⟩)[V]?=some ⟨.m,ep,4,ae (R++(i++[f]++[]))⟩:=agc (ag D);have v:HR (h.set V ⟨.m,ep,4,ae (R++(i++[f]++[]))⟩):=hH.set V yxb (bg _ _ yxb);have VA:(ae (R++(i++[f]++[]))).length=l.length+1:=by rw[aj];simp;omega
    rw[xc,agC]at P;subst P;refine wA ?_;refine .sl rfl rfl (vO T6 rfl rfl u yxa ?_ yxa) ?_;simp[dd];refine wA ?_;refine .clr rfl (Gl T6 rfl rfl rfl u yxa rfl rfl) ?_;exact zad
 ·rintro _ h Y ⟨rfl,d,Q,K,J,rfl⟩;have Z:ae (dd (x::l))=ae (x::l):=by rw[<-J,K,xc]
  refine wA ?_;exact⟨congrArg (PV.an V ep 0) (by rw[<-Z,aj]),[],rfl,by rw[Z,agC];exact(dI D).symm⟩
theorem ID(g:FuncId)(H:ab)(V ep:Nat)(D:H[V]?=some ⟨.m,ep,4,ae []⟩):ay C 99 [.an V ep 0 0,.fn g []] H (λr h'=>r=.an V ep 0 0/\h'=H):=by
 refine ay.x T6 Tryz.func99 rfl ?_;refine wA ?_;exact⟨rfl,rfl⟩
theorem sF(H:ab):ay C 68 [.aa true []] H (λr h'=>r=.aa true []/\h'=H):=by
 refine ay.x T6 Tryz.func68 rfl ?_;refine wA ?_;refine ah.de rfl rfl ?_;refine wA ?_;refine .ln (wi _ H) (λr h' z=>by rw[z.2]) (λr h' z=>?_);obtain⟨rfl,rfl⟩:=z;refine wA ?_;refine dU.zip T6 ([]:List Tm) (λp q L K=>L=[(0,.aa true []),(9,.I 0),(10,.I p.length)]/\K=h') (.nx ⟨rfl,rfl⟩) ?_ ?_
 ·rintro p u q _ K Y e _
  cases p <;>cases e
 ·rintro _ K Y ⟨rfl,rfl⟩;refine wA ?_;exact⟨rfl,rfl⟩
theorem uN(H:ab)(w:HR H)(V ep:Nat)(a:List Tm)(b:H[V]?=some ⟨.m,ep,4,ae a⟩)(hn:a.length<100000000)(W:∀t∈a,aC t<100000000):
  ay C 68 [.an V ep 0 a.length] H (λr h'=>r=.an V ep 0 (dd (fj a)).length/\∃tl,aw tl=true/\h'=H.set V ⟨.m,ep,4,ae (dd (fj a))++tl⟩):=by
 have i:=aj a;have F:=ag b;refine ay.x T6 Tryz.func68 rfl ?_;refine wA ?_;refine ah.de rfl (oX b yxa (λt Z=>by have:=W t Z;omega)) ?_;have N:(H.set V ⟨.m,ep,4,ae (fj a)⟩)[V]?=some ⟨.m,ep,4,ae (fj a)⟩:=agc (ag b);have h:HR (H.set V ⟨.m,ep,4,ae (fj a)⟩):=w.set V yxb (bg _ _ yxb);have y:=(ga a).length_eq;have X:∀t∈fj a,aC t<100000000:=λt Z=>W t ((ga _).mem_iff.1 Z)
 rw[<-y]at i hn ⊢;generalize fj a=S at *
 cases S with
 |nil=>
  refine wA ?_;refine .ln (ID _ _ V ep N) (λr h' z=>by rw[z.2]) (λr h' z=>?_);obtain⟨rfl,rfl⟩:=z;refine wA ?_;refine dU.zip T6 ([]:List Tm) (λp q L K=>L=[(0,.an V ep 0 0),(9,.I 0),(10,.I p.length)]/\K=H.set V ⟨.m,ep,4,ae []⟩) (.nx ⟨rfl,rfl⟩) ?_ ?_
  ·rintro p u q _ K Y e _
   cases p <;>cases e
  ·rintro _ K Y ⟨rfl,rfl⟩;refine wA ?_;exact⟨rfl,[],rfl,by simp[dd]⟩
 |cons x r=>
  have G:=sI _ rfl Un x r _ h V ep N (by simp at hn;omega) (λt Z=>by have:=X t Z;omega);rw[aj]at G;refine wA ?_;refine .ln G (λr h' z=>by obtain⟨_,_,_,rfl⟩:=z;simp) (λr h' z=>?_);obtain⟨rfl,tl,J,rfl⟩:=z;rw[ahF];have P:(H.set V ⟨.m,ep,4,ae (dd (x::r))++tl⟩)[V]?=some ⟨.m,ep,4,ae (dd (x::r))++tl⟩:=agc (ag b);have U:HR (H.set V ⟨.m,ep,4,ae (dd (x::r))++tl⟩):=w.set V yxb (bg _ _ (by show aw (ae (dd (x::r))++tl)=true;rw[cU,J];simp));have g:=Jx (x::r);have j:∀t∈dd (x::r),aC t<100000000:=λt Z=>X t ((QR (x::r) t).1 Z)
  generalize B:dd (x::r)=D at *;generalize n:H.set V ⟨.m,ep,4,ae D++tl⟩=f at *;refine wA ?_;have R:=aj D;refine dU.zip T6 D (λp q L K=>L=[(0,.an V ep 0 D.length),(9,.I D.length),(10,.I p.length)]/\K=f) (.nx ⟨rfl,rfl⟩) ?_ ?_
  ·rintro p u q _ _ Y e ⟨rfl,rfl⟩;have A:=lenE e
   have Q:(ae D++tl)[0+p.length]?=some (.agg (Do u)):=by
    rw[af8 yxa,agz];exact bO e
   have d:=p9 u (j u yxf);have v:=dI Q;rw[au]at d;refine wA ?_;refine .p d ?_;refine wA ?_;exact .nx ⟨rfl,by rw[v];exact dI P⟩
  ·rintro _ _ Y ⟨rfl,rfl⟩;refine wA ?_;exact⟨rfl,tl,J,n.symm⟩
theorem Lt(t:Tm)(n:Int)(W:aC t<10000000):aT C 81 [enc t,.I n] (.aa false (ae (tY n t))):=by
 have b:HR [⟨.m,0,4,[enc t]⟩,⟨.m,0,1,[.I n]⟩,⟨.m,0,1,[.aa true []]⟩]:=by
  intro x U
  simp at U;rcases U with rfl |rfl |rfl <;>simp[bB,bq,bg]
  exact zk _ _ yxb
 have H:=Xu n t _ (.aa true []) [] b rfl rfl (.inl ⟨rfl,rfl⟩) yxi yxd;have h:=zu n (pre t);have S:=zj t;rw[au]at H ⊢;refine aT.x T6 Tryz.func81 rfl ?_;refine wA ?_;refine ah.ks H yxb (λd v=>?_);rw[agS]at v;obtain⟨e,D,N,P⟩:=v.var;have R:=v.hr;refine wA ?_;have Y:dd (fj (y9 n (pre t)))=tY n t:=EF _;rcases N with⟨rfl,G⟩|⟨V,g,rfl,N⟩
 ·have M:y9 n (pre t)=[]:=agm (by rw[<-aj,G];rfl);rw[M]at Y
  skip
  refine .ln (sF d) (λr d z=>by rw[z.2]) (λr d z=>?_);obtain⟨rfl,rfl⟩:=z;rw[<-Y];refine wA ?_;exact⟨_,rfl,rfl⟩
 ·have f:=uN d R V g (y9 n (pre t)) N yxa (λu y=>by have:=qb t u (aha.1 y).1;omega);rw[aj]
  skip
  refine .ln f (λr d z=>by obtain⟨_,_,_,rfl⟩:=z;simp) (λr d z=>?_);obtain⟨rfl,O,J,rfl⟩:=z;rw[Y];have i:=agc (a:=(⟨.m,g,4,ae (tY n t)++O⟩:ax)) (ag N);refine wA ?_;exact iF i (by rw[aj]) yxb yxb
theorem ql(t:Tm)(W:aC t<10000000):aT C 44 [enc t] (.aa false (ae (cC t))):=by
 have O:=Lt t 1 W;rw[au]at O ⊢;refine aT.x T6 Tryz.func44 rfl ?_;refine wA ?_;refine .p O ?_;refine wA ?_;exact⟨_,rfl,by simp[bo,cC]⟩
def gi(H:ab)(g:FuncId)(cs:List PV)(x:PV)(b:Bool):Prop:=∀Y,hC H Y->∀Q:PV->ab->Prop,(∀d,hC Y d->Q (.bool b) d)->ah C 2 g (x::cs) Y Q
theorem _root_.zaf{P:Prop}(h:P:=by
 refine wA ?_;refine dU.zip T6 l (λa q L K=>L=[(0,.aa false (ae l)),(1,.fn g cs),(7,.I (ae l).length),(8,.I a.length)]/\hC H K/\∀y∈a,p y=false) (.nx ⟨rfl,hC.refl _,by simp⟩) ?_ ?_
 ·rintro a x q _ K Y e ⟨rfl,R,j⟩;have Q:=bO e;have d:=lenE e;have t:=b x yxf _ R;rw[au]at t;refine wA ?_;refine t _ (λh' U=>?_)
  cases W:p x
  ·refine wA ?_;exact .nx ⟨rfl,R.trans U,λy F=>by rcases agh.1 F with h |h;exact j y h;simp at h;rw[h];exact W⟩
  ·refine wA ?_;exact⟨by rw[e,tu j W];rfl,R.trans U⟩
 ·rintro _ K Y ⟨rfl,R,j⟩;refine wA ?_;exact⟨by rw[nh j];rfl,R⟩):P:=h
theorem Xn(l:List Tm)(g:FuncId)(cs:List PV)(p:Tm->Bool)(H:ab)(A:l.length<1000000000)(b:∀x∈l,gi H g cs (enc x) (p x)):
  ay C 79 [.aa false (ae l),.fn g cs] H (λr h'=>r=.I (yU p l)/\hC H h'):=by
 have Z:=aj l;refine ay.x T6 Tryz.func79 rfl ?_;exact zaf
theorem _root_.za0{P:Prop}(h:P:=by
 refine wA ?_;refine .ex B (λh' R=>?_);refine wC (λG=>?_) λG=>?_
 all_goals exact⟨by rw[<-j];simp[bo, *],R⟩):P:=h
theorem qV(l:List Tm)(g:FuncId)(cs:List PV)(p:Tm->Bool)(H:ab)(A:l.length<1000000000)(K:∀x∈l,gi H g cs (enc x) (p x)):
  ay C 41 [.aa false (ae l),.fn g cs] H (λr h'=>r=.bool (l.any p)/\hC H h'):=by
 have B:=Xn l g cs p H A K;have j:=wc p l;refine ay.x T6 Tryz.func41 rfl ?_;exact za0
theorem gi.pure{H:ab}{g:FuncId}{cs:List PV}{x:PV}{b:Bool}(a:aT C g (aY (x::cs)) (.bool b))(U:aw (x::cs)=true)(d:C.mode g=.pure:=by rfl):gi H g cs x b:=
 λY _ Q v=>ah.pure d U a (v _ (hC.refl _))
theorem gi.opened{H:ab}{g:FuncId}{cs:List PV}{x:PV}{b:Bool}(a:∀H',hC H H'->ay C g (x::cs) H' (λr h'=>r=.bool b/\hC H' h'))(d:C.mode g=.opened:=by rfl):gi H g cs x b:=
 λH' R Q v=>ah.ex (a H' R) v d
theorem Xo(t:Tm):aT C 78 [enc t] (.bool (VF t)):=by
 rw[au];refine aT.x T6 Tryz.func78 rfl ?_;refine wI (λG=>?_) (λG G=>?_) λG G=>?_
 all_goals exact⟨_,rfl,by simp[bo,VF, *]⟩
theorem Xp(t u:Tm)(Z:aC t<1000000000)(y:aC u<1000000000)(V:Nat)(H:ab)(w:br (H++[⟨.m,0,4,[enc u]⟩])=true)(h0:H[V]?=some ⟨.m,0,4,[enc t]⟩):ay C 80 [enc u,.ptr V 0 0 0] H (λr h'=>r=.bool (decide (aZ t u=0))/\hC H h'):=by
 have O:=(dT t u Z y).nine;have F:=ag h0;rw[au t]at h0 O;rw[au u]at O w ⊢;refine ay.x T6 Tryz.func80 rfl ?_;refine wA ?_;refine .p O ?_;refine wC (λG=>?_) λG=>?_
 all_goals exact⟨by simp[bo, *],(hC.refl _).cz (HV.one yxb)⟩
theorem Uf(l:List Tm)(t:Tm)(Z:aC t<1000000000)(A:l.length<1000000000)(W:∀u∈l,aC u<1000000000):aT C 43 [.aa false (ae l),enc t] (.bool (cG l t)):=by
 have G:=qV l 80 [.ptr 0 0 0 0] (λu=>decide (aZ t u=0)) [⟨.m,0,4,[enc t]⟩] A (λx U=>gi.opened λY R=>Xp t x Z (W x U) 0 Y ((R.hv (HV.one yxb)).cz (HV.one yxb)).closed (R.at rfl));rw[au t]at G ⊢;refine aT.x T6 Tryz.func43 rfl ?_;refine wA ?_;refine .ex G (λd R=>?_);refine wA ?_;exact⟨_,rfl,rfl⟩
theorem Lo(t:Tm)(W:aC t<10000000):aT C 40 [enc t] (.I (fJ t)):=by
 have O:=v8 t yxa;have X:=Pj t yxa;have Q:=ql t W;have a:=(tE t yxa).nine;have V:=iW t;rw[au]at O X Q a ⊢
 have b:∀H,ay C 41 [.aa false (ae (cC t)),.fn 78 []] H (λr d=>r=.bool ((cC t).any VF)/\hC H d):=λH=>
  qV (cC t) 78 [] VF H yxa (λx U=>gi.pure (by simpa[aY]using Xo x) (by simp[aw]))
 refine aT.x T6 Tryz.func40 rfl ?_;refine wA ?_;refine .p O ?_;refine wC (λG=>?_) λG=>?_
 ·have e:pA t=0:=by omega
  have h:fJ t=if yi t=false\/(cC t).any VF=true then 10 else if 60<size t then 3 else 0:=by rw[fJ,if_neg yxa]
  refine .p X ?_
  cases u:yi t
  ·refine wA ?_;exact⟨_,rfl,by rw[h,if_pos (.inl u)];rfl⟩
  ·refine wA ?_;refine .p Q ?_;refine wA ?_;refine .ex (b _) (λd R=>?_);have f:=R.at (i:=0) rfl
   cases j:(cC t).any VF
   ·rw[u,j,if_neg yxb]at h;refine wA ?_;refine .p a ?_;refine wC (λG=>?_) λG=>?_;exact⟨_,rfl,by rw[h,if_pos yxa];rfl⟩;exact⟨_,rfl,by rw[h,if_neg yxa];rfl⟩
   ·refine wA ?_;exact⟨_,rfl,by rw[h,if_pos (.inr j)];rfl⟩
 exact⟨_,rfl,by rw[fJ,if_pos yxc];rfl⟩
theorem _root_.Go.Pm.bh.IY{C:cA}{i:Nat}{ty:TypeId}{j:String}{e:Array Edge}{r:List Oper}{Z:Nat}{P:List Nat}{Q:St->Prop}{v:PV}(M J:ab)
  (G:∃B,∀n,B<=n->ar C (dC C n) 1 H (al L Y) M=some (v,h')) (k:bh C ops (i+1) r ⟨⟨al ((d,v)::L) Y,h++J⟩,Z,P++List.replicate J.length i⟩ Q) (u:cO ((before ops).getD i 0).testBit Z P h=M) (N:h'.drop h.length=J) (V:br M=true) (S:(H.operands.toList.all λy=>bq (bj M) (ev (al L Y) y))=true)
  (F:(J.all λo=>decide (o.mu≠.l))=true) (R:cI H=true:=by rfl) (A:(level ops (before ops) i==2)=false:=by rfl):bh C ops i (⟨some d,H,ty,j,e,none⟩::r) ⟨⟨al L Y,h⟩,Z,P⟩ Q:=by
 obtain⟨B,z⟩:=G;have b:level ops (before ops) i≠2:=by simpa using A
 refine bh.step ⟨B,λn O=>?_⟩ k;subst u N;simp only[cM,bC,R,agQ,if_false,b,V,S,and_self,if_true,z n O,F,cy]
theorem _root_.Go.Pm.GR{C:cA}{J:Array TypeId}{v:PV}(d:C.mode f=.de g)(U:xs.map (ev Y)=us)(N:g us (M.map cm)=some (v,h'))(F:((h'.drop M.length).all λo=>decide (o.mu≠.l))=true):
  ar C run 1 (.call ⟨.value (.func f),xs.toArray,J⟩) Y M=some (v,M++h'.drop M.length):=by
 simp only[ar,gp,ev,U,agC];unfold dG;rw[d];simp only[eP,N,F,if_true]
 rfl
theorem _root_.Go.Pm.N5{C:cA}(T:li C.P){t:TypeId}{p v:PV}(U:cW L x=some p)(A:loadT T M t p=some v):ar C run lv (.load t x) (al L Y) M=some (v,M):=by
 simp only[ar,aD,ak U,vI T A,ago]
theorem _root_.Go.Pm.N4{C:cA}(T:li C.P){t:TypeId}{n:Nat}{F:Array (Nat×Operand)}{vs:List PV}(x:Co T t n F.toList L (λ_ es=>es=vs))(J:aw vs=true):ar C run 1 (.buildSlice t n F) (al L Y) M=some (.aa true vs,M):=by
 obtain⟨q,es,rfl,e⟩:=pZ T x;have:=e Y M 1;rw[if_pos J]at this;simpa only[ar,aD]using this
theorem _root_.Go.Pm.yS{C:cA}{st xt:TypeId}{y:Operand}{v u r:PV}(U:cW L x=some v)(F:cW L y=some u)(j:bR C.P lv h st xt v u=some (r,h')):ar C run lv (.call ⟨.builtin .append,#[x,y],#[st,xt]⟩) (al L Y) h=some (r,h'):=by
 simp only[ar,bA,agp,agF,ak U,ak F,j]
theorem xG(d:cg)(g:d.kn.length<10000000):aT C 39 [tQ d] (.aa false (ae (d.kn++[d.tm]))):=by
 have Z:=aj d.kn;rw[uF];refine aT.x T6 Tryz.func39 rfl ?_;refine Rn.go ?_;conv=>whnf
 refine .mk ?_;refine Rn.go ?_;conv=>whnf
 refine .raw (λY=>?_);refine D.fieldAddr T6 rfl rfl rfl rfl ?_;refine D.kr T6 rfl rfl rfl rfl rfl rfl ?_;have H:(ae d.kn).isEmpty=d.kn.isEmpty:=by cases d.kn <;>rfl
 obtain⟨B,j⟩:∃b:ax,b=⟨.m,0,5,[.agg [.aa false (ae d.kn),.I d.tm.k,.str d.tm.s,.I d.tm.o,.aa false (ae d.tm.l)]]⟩:=⟨_,rfl⟩
 by_cases q:d.kn=[]
 ·have w:bW 4 [.aa false (ae d.kn)] ([B].map cm)=some (.aa true [],[B].map cm):=by simp[bW,q,ae]
  refine .IY [B] [] ⟨0,λn _=>GR rfl rfl w rfl⟩ ?_ yxh rfl (by rw[j];simp[br,bB,bq]) rfl rfl;refine D.fieldAddr T6 rfl rfl rfl rfl ?_;refine .IY [B] [] ⟨0,λn _=>N5 T6 rfl yxh⟩ ?_ yxh rfl (by rw[j];simp[br,bB,bq]) yxh rfl;refine .IY [B] [] ⟨0,λn _=>N4 T6 (vs:=[.agg (Do d.tm)]) yxg yxb⟩ ?_ yxh rfl (by rw[j];simp[br,bB,bq]) yxh rfl;subst j;refine bh.two rfl rfl ⟨0,λn _=>yS rfl rfl (iB T6 (lv:=2) (full:=true) (ys:=[.agg (Do d.tm)]) yxa rfl rfl rfl rfl rfl yxe rfl rfl rfl rfl yxb)⟩ ?_;refine D.assign rfl ?_;refine bh.nil ⟨_,_,rfl,?_⟩
  conv=>whnf
  rw[q];exact iF (ep:=0) (sz:=4) (tl:=[]) (es:=ae ([]++[d.tm])) (by simp only[agC,agS,ae];rw[<-au];rfl) (by rw[aj];simp) yxb yxb
 ·have w:bW 4 [.aa false (ae d.kn)] ([B].map cm)=some (.an 1 0 0 d.kn.length,[B].map cm++[⟨.m,0,4,ae d.kn⟩]):=by
   have O:d.kn.isEmpty=false:=by cases h:d.kn with |nil=>exact absurd h q |cons=>rfl
   simp only[bW,H,O,agn,if_false];rw[if_pos ⟨qK _,by omega⟩,Z]
   rfl
  refine .IY [B] [⟨.m,0,4,ae d.kn⟩] ⟨0,λn _=>GR rfl rfl w rfl⟩ ?_ yxh rfl (by rw[j];simp[br,bB,bq]) rfl rfl;refine D.fieldAddr T6 rfl rfl rfl rfl ?_;refine .IY [B,fE ⟨.m,0,4,ae d.kn⟩] [] ⟨0,λn _=>N5 T6 rfl yxh⟩ ?_ yxh rfl (by rw[j];simp[br,bB,bq,fE]) yxh rfl;refine .IY [B,fE ⟨.m,0,4,ae d.kn⟩] [] ⟨0,λn _=>N4 T6 (vs:=[.agg (Do d.tm)]) yxg yxb⟩ ?_ yxh rfl (by rw[j];simp[br,bB,bq,fE]) yxh rfl;subst j;refine bh.two rfl rfl ⟨0,λn _=>yS rfl rfl (lA T6 (len:=d.kn.length) (o:=⟨.m,0,4,ae d.kn⟩) (full:=true) (ys:=[.agg (Do d.tm)]) rfl rfl rfl rfl rfl yxe rfl rfl rfl rfl yxd (bw rfl rfl yxb) rfl rfl (by simp[Z]))⟩ ?_;refine D.assign rfl ?_;refine bh.nil ⟨_,_,rfl,?_⟩
  conv=>whnf
  have X:List.take d.kn.length (ae d.kn)=ae d.kn:=agB yxa;exact iF (ep:=1) (sz:=4) (tl:=[]) (es:=ae (d.kn++[d.tm])) (by rw[ch];simp only[X,agC,ae];rw[<-au];rfl) (by rw[aj];simp) yxb yxb
end aI
theorem Rp:∀(t:List Nat) (h:ab),(∀V∈t,∃o:ax,h[V]?=some o/\aw o.es=true/\(o.mu=.m\/o.mu=.f))->∃h',gm h t=some h'
 |[],h,_=>⟨h,rfl⟩
 |V::r,h,R=>by
  obtain⟨o,O,X,Q⟩:=R V yxb;have u:mO h V=some (h.set V {o with mu:=.f}):=by simp only[mO,O];rw[if_pos ⟨X,Q⟩]
  obtain⟨h',e⟩:=Rp r (h.set V {o with mu:=.f}) λj M=>by
   obtain⟨y,K,a,D⟩:=R j (by simp[M])
   by_cases b:V=j
   ·subst b;exact⟨{o with mu:=.f},agc (ag O),X,.inr rfl⟩
   exact⟨y,by rw[aga b];exact K,a,D⟩
  exact⟨h',by simp only[gm,u,e]⟩
theorem _root_.za9{P:Prop}(h:P:=by
 obtain⟨R,G,b,D,P,M⟩:=z n O;have g:fm b=fm rv:=by have:=lE b;rw[M]at this;exact this.symm
 unfold dG;rw[d];simp only[dL,X,agn,if_false,W,D,P,g,M]
 split
 rfl
 simp[e]):P:=h
theorem ah.any{C:cA}{args':List PV}{rv:PV}(W:iR h args=some args')(X:aw args=false)(w:∀V∈jQ args,∃o:ax,h[V]?=some o/\aw o.es=true/\(o.mu=.m\/o.mu=.f))(a:aT C f (aY args') rv)(q:∀h',Q rv h')(d:C.mode f=.pure:=by rfl):ah C 2 f args h Q:=by
 obtain⟨B,z⟩:=a;obtain⟨u,e⟩:=Rp _ _ w;refine⟨rv,if(fm rv ||pM h (jQ args))=true then h else u,q _,B,λn O=>?_⟩;exact za9
namespace aI
open Go.Proofs
attribute [local irreducible] aE az aO aL Ev ai ah ay bh
@[simp] theorem Kj(l:List cg):eE 5 (aR l):=by
 unfold eE;rw[af9]
 intro v J
 obtain⟨t,_,rfl⟩:=agv.1 J
 rfl
@[simp] theorem aa7(l:List cV):eE 8 (aU l):=by
 unfold eE;rw[af9]
 intro v J
 obtain⟨t,_,rfl⟩:=agv.1 J
 rfl
end aI
def yw(t:Tm):List Tm->Nat
 |[]=>0
 |p::l=>if aZ p t<0 then yw t l+1 else 0
theorem JZ(t:Tm):∀l:List Tm,yw t l<=l.length
 |[]=>by simp[yw]
 |p::l=>by
  have:=JZ t l;rw[yw]
  split <;>simp <;>omega
theorem Mp(t:Tm):∀(l:List Tm),gY l->∀(m:Nat) (p:Tm),l[m]?=some p->(aZ p t<0↔m<yw t l)
 |[],_,m,p,h=>by simp at h
 |q::l,s,m,p,h=>by
  obtain⟨v,e⟩:=agE.1 s;rw[yw]
  cases m with
  |zero=>
   simp at h;subst h
   split
   simp;assumption;simp;omega
  |succ m=>
   have d:l[m]?=some p:=by simpa using h
   have P:=Mp t l e m p d;have a:=v p (agq d)
   split
   rw[P];omega
   ·rename_i y
    constructor
    ·intro K
     exact absurd (fH a K) y
    intro R;omega
def fdT(t:Tm)(l:List Tm):Bool:=match l[yw t l]? with |some p=>decide (aZ p t=0)|none=>false
theorem Mq(t:Tm):∀{l:List Tm},gY l->fdT t l=cG l t
 |[],_=>rfl
 |q::l,s=>by
  obtain⟨v,e⟩:=agE.1 s;have P:=Mq t e;have w:=di q t;unfold fdT at P ⊢;rw[yw]
  by_cases G:aZ q t<0
  ·rw[if_pos G];simp only[List.getElem?_cons_succ];rw[P];simp only[cG,ahU];rw[decide_eq_false yxa]
   rfl
  ·rw[if_neg G];simp only[List.getElem?_cons_zero,cG,ahU]
   by_cases B:aZ q t=0
   rw[decide_eq_true B,decide_eq_true yxa];rfl
   ·rw[decide_eq_false B,decide_eq_false yxa,ahN]
    symm
    rw[ahL]
    intro u y M
    have M:=dD (of_decide_eq_true M);subst M;have:=v t y;omega
theorem GO{t:Tm}:∀{l:List Tm},gY l->cG l t=true->fV t l=l
 |[],_,h=>by cases h
 |q::l,s,h=>by
  obtain⟨v,e⟩:=agE.1 s;have w:=di q t;rw[fV]
  by_cases G:aZ t q<=0
  ·rw[if_pos G]
   by_cases J:aZ t q<0
   ·exfalso;rcases agi.1 (eH.1 h)with rfl |X;rw[cP]at J;omega;have:=v t X;omega
   rw[if_neg J]
  ·rw[if_neg G]
   have X:cG l t=true:=by
    simp only[cG,ahU,agJ,decide_eq_true_eq]at h ⊢;rcases h with h |h;omega;exact h
   rw[GO e X]
theorem GP{t:Tm}:∀{l:List Tm},gY l->cG l t=false->fV t l=l.take (yw t l)++t::l.drop (yw t l)
 |[],_,_=>rfl
 |q::l,s,h=>by
  obtain⟨v,e⟩:=agE.1 s;have w:=di q t;simp only[cG,ahU,ahZ,decide_eq_false_iff_not]at h;rw[fV,yw]
  by_cases G:aZ q t<0
  ·rw[if_pos G,if_neg yxa,GP e h.2];simp
  ·rw[if_neg G,if_pos yxa,if_pos yxa];simp
namespace aI
open Go.Proofs
attribute [local irreducible] aE az aO aL Ev ai ah ay bh bH
theorem J0(a b:Tm)(j:aC a<1000000000)(W:aC b<1000000000):aT C 124 [enc a,enc b] (.bool (decide (aZ a b=0))):=by
 have O:=(dT a b j W).nine;rw[au,au]at O ⊢;refine aT.x T6 Tryz.func124 rfl ?_;exact zao
theorem qh(a b:Tm)(j:aC a<1000000000)(W:aC b<1000000000):aT C 201 [enc a,enc b] (.bool (decide (aZ a b=0))):=by
 have O:=(dT a b j W).nine;rw[au,au]at O ⊢;refine aT.x T6 Tryz.func201 rfl ?_;exact zao
theorem _root_.zai{P:Prop}(h:P:=by
 refine wA ?_;refine .mk (n:=m) ?_ y Q;refine wA ?_;refine .p U ?_;refine wC (λG=>?_) λG=>?_;exact .nx ⟨j - (m+1),by omega,m+1,j,rfl,rfl,rfl,by omega,by omega,by omega⟩;exact .nx ⟨m - i,by omega,i,m,rfl,rfl,rfl,by omega,by omega,by omega⟩):P:=h
theorem _root_.zb6{P:Prop}(h:P:=by
 refine wA ?_;refine .p U ?_;refine wC (λG=>?_) λG=>?_
 all_goals exact⟨_,rfl,by rw[e];simp[bo,b9,aY, *]⟩):P:=h
theorem GQ(l:List Tm)(t:Tm)(S:gY l)(A:l.length<100000000)(W:∀b∈l,aC b<100000000)(q:aC t<100000000):
  aT C 127 [.aa false (ae l),enc t,.fn 59 []] (.b8 [.I (yw t l),.bool (cG l t)]):=by
 have a:=JZ t l;have P:=Mp t l S;have e:cG l t=match l[yw t l]? with |some p=>decide (aZ p t=0)|none=>false:=(Mq t S).symm
 have Z:=aj l;generalize cG l t=h at e ⊢;generalize yw t l=N at a P e ⊢
 have R:∀m,m<l.length->∃b,l[m]?=some b/\(ae l)[m]?=some (.agg (Do b))/\aT C 59 [enc b,enc t] (.I (aZ b t)):=λm d=>by
  have O:l[m]?=some l[m]:=agd d;exact⟨_,O,iT O,(dT _ t (by have:=W _ (agq O);omega) yxa).nine⟩
 rw[au]at R ⊢;refine aT.x T6 Tryz.func127 rfl ?_;refine wA ?_;refine dU.nat T6 (λk L H=>∃i j:Nat,L=[(0,.aa false (ae l)),(2,.fn 59 []),(4,.ptr 0 0 0 0),(8,.I (ae l).length),(9,.I i),(10,.I j)]/\H=[Pi t]/\k=j - i/\i<=N/\N<=j/\j<=l.length) l.length (.nx ⟨0,(ae l).length,rfl,rfl,by omega,by omega,by omega,by omega⟩) ?_;rintro k _ _ Y ⟨i,j,rfl,rfl,g,F,u,z⟩
 by_cases f:i<j
 ·obtain⟨m,y⟩:∃m:Nat,((i:Int)+j) / 2=m:=⟨(i+j) / 2,by omega⟩;obtain⟨b,O,Q,U⟩:=R m yxa;have M:=P m _ O;rw[au]at U;exact zai
 ·have B:i=N:=by omega
  subst B
  by_cases w:i<l.length
  ·obtain⟨b,O,Q,U⟩:=R i w;rw[O]at e;dsimp only at e;rw[au]at U;exact zb6
  ·rw[agr yxa]at e;refine wA ?_;exact⟨_,rfl,by rw[e];rfl⟩
theorem RS(s:List Tm)(t:Tm)(S:gY s)(A:s.length<100000000)(W:∀b∈s,aC b<100000000)(Z:aC t<100000000):aT C 88 [.aa false (ae s),enc t] (.bool (cG s t)):=by
 have O:=GQ s t S A W Z;rw[au]at O ⊢;refine aT.x T6 Tryz.func88 rfl ?_;refine wA ?_;refine .p O ?_;refine wA ?_;exact⟨_,rfl,rfl⟩
theorem _root_.Go.Pm.Yr{C:cA}{J:Array TypeId}{v:PV}(d:C.mode f=.de g)(U:xs.map (ev Y)=us)(N:g us M=some (v,h')):
  ar C run 2 (.call ⟨.value (.func f),xs.toArray,J⟩) Y M=some (v,h'):=by
 simp only[ar,gp,ev,U,agC];unfold dG;rw[d];simp only[eP,agb,if_true,N]
theorem lJ(o:ax)(J:ab)(a:aw o.es=true)(N:∀x∈J,x.mu=.x):br (o::J)=true:=by
 unfold br;simp only[ahh,age,af9];exact⟨by rw[bg _ _ a];simp,λx U=>by simp[N x U]⟩
theorem RT(l:List Tm):(ae l).all (uw 4)=true:=by
 rw[af9]
 intro v J
 rw[dw]at J;obtain⟨t,_,rfl⟩:=agv.1 J;rw[au];simp[uw,aW,aw,cells,bP]
theorem Of(s:List Tm)(t:Tm)(hs:gY s)(hl:s.length<10000000)(hb:∀b∈s,aC b<100000000)(ht:aC t<100000000):aT C 126 [.aa false (ae s),enc t] (.aa false (ae (fV t s))):=by
 have h1:=GQ s t hs (by omega) hb ht;have cL:=aj s;have hle:=JZ t s;have ae0:=GP (t:=t) hs;have ae1:=GO (t:=t) hs;rw[au]at h1 ⊢;refine aT.x T6 Tryz.func126 rfl ?_;refine wA ?_;refine .p h1 ?_
 cases hf:cG s t
 ·rw[ae0 hf];refine wG ?_;refine .raw (λY=>?_);have VJ:(ae s).isEmpty=s.isEmpty:=by cases s <;>rfl
  obtain⟨box,fP⟩:∃b:ax,b=⟨.m,0,4,[.agg [.int .i64 t.k,.str t.s,.int .i64 t.o,.aa false (ae t.l)]]⟩:=⟨_,rfl⟩;refine D.move rfl ?_
  by_cases he:s=[]
  ·have RU:bW 4 [.aa false (ae s)] ([box].map cm)=some (.aa true [],[box].map cm):=by simp[bW,he,ae]
   have Cc:yw t s=0:=by rw[he];rfl
   refine .IY [box] [] ⟨0,λn _=>GR rfl rfl RU rfl⟩ ?_ (by rw[fP];rfl) rfl (lJ _ [] (by rw[fP];simp) (by simp)) rfl rfl;refine D.move rfl ?_;refine .IY [box] [] ⟨0,λn _=>N5 T6 rfl (by rw[fP];rfl)⟩ ?_ (by rw[fP];rfl) rfl (lJ _ [] (by rw[fP];simp) (by simp)) (by rw[fP];rfl) rfl;refine .IY [box] [] ⟨0,λn _=>N4 T6 (vs:=[.agg [.int .i64 t.k,.str t.s,.int .i64 t.o,.aa false (ae t.l)]]) (by exact rfl) (by simp)⟩ ?_ (by rw[fP];rfl) rfl (lJ _ [] (by rw[fP];simp) (by simp)) (by rw[fP];rfl) rfl;subst fP;refine bh.two rfl rfl ⟨0,λn _=>Yr (v:=.an 1 0 0 1) (h':=[⟨.m,0,4,[.agg [.int .i64 t.k,.str t.s,.int .i64 t.o,.aa false (ae t.l)]]⟩,⟨.m,0,4,[.agg [.int .i64 t.k,.str t.s,.int .i64 t.o,.aa false (ae t.l)]]⟩]) rfl (us:=[.aa true [],.int .i64 (yw t s),.aa true [.agg [.int .i64 t.k,.str t.s,.int .i64 t.o,.aa false (ae t.l)]]]) rfl (by simp[jS,uw,cells,bP,aW,aw,newObj,Cc])⟩ ?_;refine D.assign rfl ?_;refine bh.nil ⟨_,_,rfl,?_⟩
   conv=>whnf
   rw[Cc,he];exact iF (ep:=0) (sz:=4) (tl:=[]) (es:=ae ([]++[t])) (by simp only[agC,agS,ae];rw[<-au];rfl) (by rw[aj];simp) (by simp) (by simp)
  ·have RU:bW 4 [.aa false (ae s)] ([box].map cm)=some (.an 1 0 0 s.length,[box].map cm++[⟨.m,0,4,ae s⟩]):=by
    have h1:s.isEmpty=false:=by cases h:s with |nil=>exact absurd h he |cons=>rfl
    simp only[bW,VJ,h1,agn,if_false];rw[if_pos ⟨qK _,by omega⟩,cL]
    rfl
   refine .IY [box] [⟨.m,0,4,ae s⟩] ⟨0,λn _=>GR rfl rfl RU rfl⟩ ?_ (by rw[fP];rfl) rfl (lJ _ [] (by rw[fP];simp) (by simp)) rfl rfl;refine D.move rfl ?_;refine .IY [box,fE ⟨.m,0,4,ae s⟩] [] ⟨0,λn _=>N5 T6 rfl (by rw[fP];rfl)⟩ ?_ (by rw[fP];rfl) rfl (lJ _ [_] (by rw[fP];simp) (by simp[fE])) (by rw[fP];rfl) rfl;refine .IY [box,fE ⟨.m,0,4,ae s⟩] [] ⟨0,λn _=>N4 T6 (vs:=[.agg [.int .i64 t.k,.str t.s,.int .i64 t.o,.aa false (ae t.l)]]) (by exact rfl) (by simp)⟩ ?_ (by rw[fP];rfl) rfl (lJ _ [_] (by rw[fP];simp) (by simp[fE])) (by rw[fP];rfl) rfl;have N':(ae s).take s.length=ae s:=agB (by omega)
   have V4:jS [.an 1 0 0 s.length,.int .i64 (yw t s),.aa true [.agg [.int .i64 t.k,.str t.s,.int .i64 t.o,.aa false (ae t.l)]]] [box,⟨.m,0,4,ae s⟩]=some (.an 1 1 0 (s.length+1),[box,⟨.m,1,4,(ae s).take (yw t s)++[.agg [.int .i64 t.k,.str t.s,.int .i64 t.o,.aa false (ae t.l)]]++(ae s).drop (yw t s)⟩]):=by
    have hg:getM [box,(⟨.m,0,4,ae s⟩:ax)] 1 0=some ⟨.m,0,4,ae s⟩:=by simp[getM]
    have ig:=RT s;have eW:br [box,(⟨.m,0,4,ae s⟩:ax)]=true:=(HV.Ay ⟨by rw[fP];simp,by rw[fP];simp⟩ ⟨by simp,by simp⟩).closed;simp only[jS,hg,N'];rw[if_pos ⟨trivial,trivial,by omega,by omega,by omega,by omega,by simp[uw,aW,aw,cells,bP],ig,eW⟩];simp
   subst fP;refine bh.two rfl rfl ⟨0,λn _=>Yr rfl (us:=[.an 1 0 0 s.length,.int .i64 (yw t s),.aa true [.agg [.int .i64 t.k,.str t.s,.int .i64 t.o,.aa false (ae t.l)]]]) rfl V4⟩ ?_;refine D.assign rfl ?_;refine bh.nil ⟨_,_,rfl,?_⟩
   conv=>whnf
   have Og:ae (s.take (yw t s)++t::s.drop (yw t s))=(ae s).take (yw t s)++[enc t]++(ae s).drop (yw t s):=by simp[dw]
   have yd:(ae (s.take (yw t s)++t::s.drop (yw t s))).length=s.length+1:=by rw[aj];simp;omega
   rw[Og,au]at yd;rw[Og,au];exact iF (ep:=1) (sz:=4) (tl:=[]) (by simp) yd (by rw[<-au,<-Og];simp) (by rw[<-au,<-Og];simp)
 ·rw[ae1 hf];refine wA ?_;exact⟨_,rfl,by simp[bo,b9]⟩
theorem Lp(d:cg)(u:Tm)(y:aC u<1000000000)(g:d.kn.length<1000000000)(W:∀t∈d.kn,aC t<1000000000)(V:Nat)(H:ab)(w:br (H++[⟨.m,0,4,[enc u]⟩])=true)(h0:H[V]?=some ⟨.m,0,5,[tQ d]⟩):
  ay C 42 [enc u,.ptr V 0 0 0] H (λr h'=>r=.bool (!cG d.kn u)/\hC H h'):=by
 have O:=Uf d.kn u y g W;rw[uF]at h0;rw[au]at O w ⊢;refine ay.x T6 Tryz.func42 rfl ?_;refine wA ?_;refine .p O ?_
 cases cG d.kn u
 all_goals
  refine wA ?_;exact⟨rfl,(hC.refl _).cz (HV.one yxb)⟩
theorem BM(b:List Tm)(v:PV)(u:Tm)(y:aC u<1000000000)(g:b.length<1000000000)(W:∀t∈b,aC t<1000000000)(V:Nat)(H:ab)(w:br (H++[⟨.m,0,4,[enc u]⟩])=true)(h0:H[V]?=some ⟨.m,0,1,[v]⟩)(f:Out 4 H v (ae b)):
  ay C 45 [enc u,.ptr V 0 0 0] H (λr h'=>r=.bool (!cG b u)/\hC H h'):=by
 have O:=Uf b u y g W;have M:=f.cz [⟨.m,0,4,[enc u]⟩];rw[au]at O w M ⊢;refine ay.x T6 Tryz.func45 rfl ?_;have F:=M;rcases M with⟨rfl,e⟩|⟨S,a,rfl,e⟩
 all_goals
  refine wA ?_;refine ah.plS (.inl F) O ?_
  cases cG b u
  all_goals
   refine wA ?_;exact⟨rfl,(hC.refl _).cz (HV.one yxb)⟩
def BN(p:List cg):Option (List Tm):=p.getLast?.map cg.kn
def jv(p:List cg):List Tm:=p.flatMap λd=>cC d.tm
theorem uZ(p:List cg)(d:cg):BN (p++[d])=some d.kn:=by simp[BN]
theorem tH(p:List cg)(d:cg):jv (p++[d])=jv p++cC d.tm:=by simp[jv]
theorem Px{p q:List Tm}{u:Tm}(e:l=p++u::q)(K:∀v∈p,fJ v=0)(y:fJ u≠0):jA l=fJ u:=by
 subst e
 induction p with
 |nil=>simp only[agS,jA];rw[if_pos y]
 |cons v p P=>
  simp only[agL,jA];rw[if_neg (by rw[K v yxb];simp),P (λw H=>K w (by simp[H]))]
theorem yK:∀{l:List Tm},(∀v∈l,fJ v=0)->jA l=0
 |[],_=>rfl
 |v::l,h=>by
  rw[jA,if_neg (by rw[h v yxb];simp)];exact yK λu y=>h u yxj
theorem iN{t:Tm}(h:fJ t=0):aC t<=10000:=bu (lB h).1
theorem Ug{p:List cg}(h:∀d∈p,fJ d.tm=0):(jv p).length<=p.length * 10000:=by
 induction p with
 |nil=>simp[jv]
 |cons d p P=>
  have O:=P λx U=>h x yxl
  have X:=iW d.tm;have Q:=iN (h d yxb);simp only[jv,ahC,agf,agj]at O ⊢;omega
theorem Py{p:List cg}(h:∀d∈p,fJ d.tm=0):∀t∈jv p,aC t<=10000:=by
 intro t Z
 obtain⟨d,J,Z⟩:=ag6.1 Z;have:=nN Z;have:=iN (h d J);omega
theorem _root_.zab{P:Prop}(h:P:=by
 have ekn:=aj d.kn;refine dU.zip T6 d.kn (λp4 q4 L F=>L=[(0,.aa false (aR l)),(3,.ptr 0 0 0 0),(5,.ptr H.length 0 0 0),(14,.aa false (aR l)),(15,.I (aR l).length),(16,.I p.length),(51,.aa false (ae d.kn)),(52,.I (ae d.kn).length),(53,.I p4.length)]/\hC K3 F/\∀u∈p4,((cC u).all λx=>cG (jv p) x)=true) (.nx ⟨rfl,hC.refl _,by simp⟩) ?_ ?_
 ·rintro p4 u q4 _ F Y M ⟨rfl,X,f⟩;have VB:=bO M;have X9:=lenE M;have hru:fJ u=0:=D u (by rw[M];simp);have Yx:=iN hru;have y:=ql u yxa;have FF:=iW u;have r5:HR (F++[⟨.m,0,4,[enc u]⟩]):=by obtain⟨J,N,rfl⟩:=X;exact(r3.cx N).cx (HV.one yxb)
  have z5:(F++[⟨.m,0,4,[enc u]⟩])[0]?=some ⟨.m,0,1,[v]⟩:=by rw[af8 (ag (X.at z3))];exact X.at z3
  have o5:Out 4 (F++[⟨.m,0,4,[enc u]⟩]) v (ae (jv p)):=by obtain⟨J,N,rfl⟩:=X;exact(o3.cz _).cz _
  have Q:=qV (cC u) 45 [.ptr 0 0 0 0] (λx=>!cG (jv p) x) (F++[⟨.m,0,4,[enc u]⟩]) yxa (λx U=>gi.opened λH' R=>by
   have V:=nN U;obtain⟨J,N,rfl⟩:=R;exact BM (jv p) v x yxa yxa (λt ht=>by have:=hbb t ht;omega) 0 _ ((r5.cx N).cx (HV.one yxb)).closed (by rw[af8 (ag z5)];exact z5) (o5.cz _))
  rw[au]at y Q;refine wA ?_;refine .p y ?_;refine wA ?_;refine .ex Q (λh' hE5=>?_)
  cases P:(cC u).any λx=>!cG (jv p) x
  ·have eY:((cC u).all λx=>cG (jv p) x)=true:=by
    rw[ahL]at P;rw[af9]
    intro x U
    simpa using P x U
   refine wA ?_;exact .nx ⟨rfl,(X.cz (HV.one yxb)).trans hE5,λw g=>by rcases agh.1 g with h |h;exact f w h;simp at h;rw[h];exact eY⟩
  ·have O:QV (jv p) d.kn=false:=by
    unfold QV;rw[List.all_eq_false];refine⟨u,by rw[M];simp,?_⟩;obtain⟨x,U,V⟩:=ahy.1 P;rw[af9]
    intro h
    have:=h x U;simp[this]at V
   refine wA ?_;exact⟨_,rfl,by rw[S,if_pos O];rfl⟩
 ·rintro _ F Y ⟨rfl,X,f⟩
  have O:QV (jv p) d.kn=true:=by
   unfold QV;rw[af9];exact f
  rw[O,if_neg yxb]at S;have b6:=X.at b3;have z6:=X.at z3;have r6:HR F:=by obtain⟨J,N,rfl⟩:=X;exact r3.cx N
  have o6:Out 4 F v (ae (jv p)):=by obtain⟨J,N,rfl⟩:=X;exact o3.cz _
  have j:fJ d.tm=0:=D d.tm yxb;have VT:=iN j;have VC:=ql d.tm yxa;have FF:=iW d.tm;rw[au]at VC;have o7:=o6;have k6:=ag z6;have IW:=aj (cC d.tm);have Cc:=aj (jv p);rcases o7 with⟨rfl,e7⟩|⟨id7,ep7,rfl,e7⟩
  all_goals
   refine wA ?_;refine .p VC ?_;refine wA ?_;refine .lr (λv' h' A=>?_) o6;have f0:h'[0]?=F[0]?:=A.fr 0 k6 (λep n hh=>by have:=hv 0 (by rw[hh];simp[bJ]);omega);rw[z6]at f0;have lo:=A.out;have lh:=A.hr;have kh:=ag f0
   have g:∀i∈bJ v',1<=i:=λi hi=>by
    rcases A.bJ i hi with h |h;exact hv i h;omega
   have I0:=lo.bq;rw[<-ch,<-tH]at lo;rcases lo with⟨rfl,W⟩|⟨z,Z,rfl,W⟩
   all_goals
    refine wA ?_;refine .nx ⟨_,rfl,lh.set _ yxb (by simpa[bB,bq]using I0),agc kh,?_,g,by rw[uZ,tH];exact S,λw g=>by rcases agh.1 g with h |h;exact hp w h;simp at h;rw[h];exact j⟩
    first
     |exact .inl ⟨rfl,W⟩
     |exact .inr ⟨z,Z,rfl,(aga (by have:=g z yxi;omega)).trans W⟩):P:=h
theorem gP(l:List cg)(hl:l.length<1000000000)(hb:∀d∈l,d.kn.length<10000000/\∀t∈d.kn++[d.tm],aC t<10000000):aT C 17 [.aa false (aR l)] (.I (gB l)):=by
 have cL:=dE l;refine aT.x T6 Tryz.func17 rfl ?_;refine wC (λhc=>?_) λhc=>?_;exact⟨_,rfl,by rw[gB,if_pos yxa];rfl⟩;have hsv:gB l=yj none [] l:=by rw[gB,if_neg yxa]
 refine dU.zip T6 l (λp q L H=>∃v,L=[(0,.aa false (aR l)),(3,.ptr 0 0 0 0),(14,.aa false (aR l)),(15,.I (aR l).length),(16,.I p.length)]/\HR H/\H[0]?=some ⟨.m,0,1,[v]⟩/\Out 4 H v (ae (jv p))/\(∀i∈bJ v,1<=i)/\gB l=yj (BN p) (jv p) q/\∀d∈p,fJ d.tm=0) (.nx ⟨_,rfl,(HV.one yxb).hr,rfl,.inl ⟨rfl,rfl⟩,by simp[bJ],hsv,by simp⟩) ?_ ?_
 ·rintro p d q _ H Y e ⟨v,rfl,hH,h0,ho,hv,S,hp⟩;have dm:=gA e;have eR:=lenE e;obtain⟨JO,hbd⟩:=hb d yxf;have htf:=xG d JO;have hek:=aj d.kn;rw[yj]at S;rw[uF]at htf;refine wC (λhc=>?_) λhc=>?_;exact⟨_,rfl,by rw[S,if_pos yxa];rfl⟩;rw[if_neg yxa]at S
  skip
  refine .p htf ?_;refine wA ?_;obtain⟨H2,tX⟩:∃x,x=H++[⟨.m,0,5,[.agg [.aa false (ae d.kn),.I d.tm.k,.str d.tm.s,.I d.tm.o,.aa false (ae d.tm.l)]]⟩]:=⟨_,rfl⟩;have b2:H2[H.length]?=some ⟨.m,0,5,[.agg [.aa false (ae d.kn),.I d.tm.k,.str d.tm.s,.I d.tm.o,.aa false (ae d.tm.l)]]⟩:=by rw[tX];simp
  have z2:H2[0]?=some ⟨.m,0,1,[v]⟩:=by rw[tX,af8 (ag h0)];exact h0
  have r2:HR H2:=by rw[tX];exact hH.cx (HV.one yxb)
  have o2:Out 4 H2 v (ae (jv p)):=by rw[tX];exact ho.cz _
  have ekt:=aj (d.kn++[d.tm]);rw[<-tX];refine dU.zip T6 (d.kn++[d.tm]) (λp2 q2 L K=>L=[(0,.aa false (aR l)),(3,.ptr 0 0 0 0),(4,.I p.length),(5,.ptr H.length 0 0 0),(14,.aa false (aR l)),(15,.I (aR l).length),(16,.I p.length),(26,.aa false (ae (d.kn++[d.tm]))),(27,.I (ae (d.kn++[d.tm])).length),(28,.I p2.length)]/\hC H2 K/\∀u∈p2,fJ u=0) (.nx ⟨rfl,hC.refl _,by simp⟩) ?_ ?_
  ·rintro p2 u q2 _ K Y e2 ⟨rfl,R,D⟩;have nK:=bO e2;have NM:=congrArg List.length e2;rw[agf,agf]at NM;simp only[agj,agH]at NM;rw[agf]at ekt;simp only[agj,agH]at ekt;have hri:=Lo u (hbd u (by rw[e2];simp));rw[au]at hri;refine wA ?_;refine .p hri ?_;refine wC (λhc=>?_) λhc=>?_;exact .nx ⟨rfl,R.cz (HV.one yxb),λw g=>by rcases agh.1 g with h |h;exact D w h;simp at h;rw[h];assumption⟩
   ·have hra:=Px e2 D yxc;exact⟨_,rfl,by rw[S,hra,if_pos yxc];rfl⟩
  ·rintro _ K Y ⟨rfl,R,D⟩;rw[if_neg (by rw[yK D];simp)]at S;have bK:=R.at b2;have zK:=R.at z2;have rK:HR K:=by obtain⟨J,N,rfl⟩:=R;exact r2.cx N
   have oK:Out 4 K v (ae (jv p)):=by obtain⟨J,N,rfl⟩:=R;exact o2.cz _
   have hbb:=Py hp;have PW:=Ug hp;have oH:p.length<41:=yxa
   by_cases yv:p=[]
   ·have Wx:kept (BN p) d.kn=true:=by rw[yv];rfl
    rw[Wx,if_neg yxb]at S;have hp1:p.length=0:=by rw[yv];rfl
    refine wA ?_;obtain⟨K3,U0⟩:∃x,x=K:=⟨_,rfl⟩;rw[<-U0]at bK zK rK oK ⊢;have b3:=bK;have z3:=zK;have r3:=rK;have o3:=oK;exact zab
   ·obtain⟨p',G,Ks⟩:∃p' G,p=p'++[G]:=by
     rcases List.eq_nil_or_concat p with h |⟨a,b,h⟩;exact absurd h yv;exact⟨a,b,by rw[h];simp⟩
    have Ab:=gA (l:=l) (p:=p') (d:=G) (q:=d::q) (by rw[e,Ks];simp);have hp1:p.length=p'.length+1:=by rw[Ks];simp
    have MN:BN p=some G.kn:=by rw[Ks,uZ]
    obtain⟨afY,afy⟩:=hb G (by rw[e,Ks];simp)
    have Q:=qV G.kn 42 [.ptr H.length 0 0 0] (λu=>!cG d.kn u) K yxa (λx U=>gi.opened λH' R=>by
     obtain⟨J,N,rfl⟩:=R;exact Lp d x (by have:=afy x yxl;omega) yxa (λt ht=>by have:=hbd t (by simp[ht]);omega) H.length _ ((rK.cx N).cx (HV.one yxb)).closed (by rw[af8 (ag bK)];exact bK))
    refine wA ?_;refine .mk (n:=p'.length) ?_ yxa Ab rfl;refine wA ?_;refine .ex Q (λK3 B=>?_)
    cases P:G.kn.any λu=>!cG d.kn u
    ·have hkp:kept (BN p) d.kn=true:=by
      rw[MN];show(G.kn.all λt=>cG d.kn t)=true;rw[ahL]at P;rw[af9]
      intro x U
      simpa using P x U
     rw[hkp,if_neg yxb]at S;have b3:=B.at bK;have z3:=B.at zK;have r3:HR K3:=by obtain⟨J,N,rfl⟩:=B;exact rK.cx N
     have o3:Out 4 K3 v (ae (jv p)):=by obtain⟨J,N,rfl⟩:=B;exact oK.cz _
     refine wA ?_;exact zab
    ·have hkp:kept (BN p) d.kn=false:=by
      rw[MN];show(G.kn.all λt=>cG d.kn t)=false;obtain⟨x,U,V⟩:=ahy.1 P;rw[List.all_eq_false];exact⟨x,U,by simpa using V⟩
     refine wA ?_;exact⟨_,rfl,by rw[S,if_pos hkp];rfl⟩
 ·rintro _ H Y ⟨v,rfl,hH,h0,ho,hv,S,hp⟩;refine wA ?_;exact⟨_,rfl,by rw[S,yj];rfl⟩
theorem xU(x t:Tm)(U:aC x<100000000)(Z:aC t<100000000):aT C 109 [enc x,enc t] (.bool (rn x t)):=by
 have O:=(dZ x U).nine;have X:=(dZ t Z).nine;rw[au]at O X ⊢;rw[au t];refine aT.x T6 Tryz.func109 rfl ?_;refine wA ?_;refine .p O ?_;refine wC (λG=>?_) λG=>?_
 ·refine .p X ?_
  (repeat' (first |(refine Rn.go ?_;conv=>whnf)|refine .mk ?_ |refine .mk (λG=>?_) λG=>?_ |fail))
  all_goals exact⟨_,rfl,by simp[bo,rn, *]⟩
 exact⟨_,rfl,by simp[bo,rn, *]⟩
theorem abN{q:List cV}{b:cV}{o:Option Tm}(W:FB b≠0):rp o (b::q)=FB b:=by rw[rp,if_pos W]
def D7(p:List cV):Option Tm:=p.getLast?.map cV.v
theorem u6(p:List cV)(d:cV):D7 (p++[d])=some d.v:=by simp[D7]
theorem BO(s:List cV)(hl:s.length<1000000000)(W:∀b∈s,aC b.v<100000000/\aC b.t<100000000):aT C 72 [.aa false (aU s)] (.I (pB s)):=by
 have cL:=fR s;refine aT.x T6 Tryz.func72 rfl ?_;refine wC (λG=>?_) λG=>?_;exact⟨_,rfl,by rw[pB,if_pos yxa];rfl⟩;have B:pB s=rp none s:=by rw[pB,if_neg yxa]
 refine dU.zip T6 s (λp q L H=>L=[(0,.aa false (aU s)),(10,.aa false (aU s)),(11,.I (aU s).length),(12,.I p.length)]/\HV H/\pB s=rp (D7 p) q) (.nx ⟨rfl,HV.nil,B⟩) ?_ ?_
 ·rintro p b q _ H Y e ⟨rfl,w,S⟩;have dm:=vP e;have eR:=lenE e;obtain⟨D,V⟩:=W b yxf;have O:=(dZ b.v D).nine;have X:=(dZ b.t V).nine;have Q:=(dT b.v b.t yxa yxa).nine;have i:=xU b.v b.t D V;rw[au]at O X Q i;rw[au b.t]at Q i;have R:∀n,FB b=n->n≠0->pB s=n:=λn h M=>by rw[S,abN (q:=q) (by rw[h];exact M),h]
  have N:FB b=0->pB s=if behind (D7 p) b.v=false then 5 else rp (some b.v) q:=λh=>by rw[S,rp,if_neg (by rw[h];simp)]
  refine wA ?_;refine .p O ?_;refine wJ (λG G=>?_) (λG G=>?_) λG=>?_
  ·have Cb:valid b.v=0:=by omega
   have U:b.v.k=1:=by omega
   refine .p Q ?_;refine wC (λG=>?_) λG=>?_;exact⟨_,rfl,by rw[R 1 (by rw[FB,if_neg yxa,if_pos (.inr yxc)]) yxe];rfl⟩
   ·have J:¬(b.v.k≠1\/aZ b.v b.t=0):=by omega
    refine .p X ?_;refine wC (λG=>?_) λG=>?_
    ·have Z:valid b.t=0:=by omega
     refine .p i ?_
     cases u:rn b.v b.t
     ·refine wA ?_;exact⟨_,rfl,by rw[R 10 (by rw[FB,if_neg yxa,if_neg J,if_neg yxa,if_pos u]) yxe];rfl⟩
     ·have g:=N (by rw[FB,if_neg yxa,if_neg J,if_neg yxa,if_neg (by rw[u];simp)])
      by_cases P:p=[]
      ·have A:behind (D7 p) b.v=true:=by rw[P];rfl
       rw[A,if_neg yxb]at g;have y:p.length=0:=by rw[P];rfl
       refine wA ?_;exact .nx ⟨rfl,w.cz (HV.one yxb),by rw[u6];exact g⟩
      ·obtain⟨f,d,K⟩:∃f d,p=f++[d]:=by
        rcases List.eq_nil_or_concat p with h |⟨a,b,h⟩;exact absurd h P;exact⟨a,b,by rw[h];simp⟩
       have z:=vP (l:=s) (p:=f) (b:=d) (q:=b::q) (by rw[e,K];simp);have y:p.length=f.length+1:=by rw[K];simp
       have F:D7 p=some d.v:=by rw[K,u6]
       have j:=(dT d.v b.v (by have:=(W d (by rw[e,K];simp)).1;omega) yxa).nine;rw[au,au b.v]at j;rw[F]at g;refine wA ?_;refine .mk (n:=f.length) ?_ yxa z rfl;refine wA ?_;refine .p j ?_;refine wC (λG=>?_) λG=>?_;exact⟨_,rfl,by rw[g,if_pos (by simp[behind];omega)];rfl⟩;exact .nx ⟨rfl,w.cz (HV.one yxb),by rw[u6,g,if_neg (by simp[behind];omega)]⟩
    exact⟨_,rfl,by rw[R (valid b.t) (by rw[FB,if_neg yxa,if_neg J,if_pos yxa]) yxa];rfl⟩
  exact⟨_,rfl,by rw[R 1 (by rw[FB,if_neg yxa,if_pos (.inl yxc)]) yxe];rfl⟩;exact⟨_,rfl,by rw[R (valid b.v) (by rw[FB,if_pos yxa]) yxa];rfl⟩
 ·rintro _ H Y ⟨rfl,w,S⟩;refine wA ?_;exact⟨_,rfl,by rw[S];rfl⟩
end aI
def Uh(l:List cV):Prop:=l.Pairwise λp q=>aZ p.v q.v<0
def Fv(t:Tm):List cV->Nat
 |[]=>0
 |p::l=>if aZ p.v t<0 then Fv t l+1 else 0
theorem Ui(t:Tm):∀l:List cV,Fv t l<=l.length
 |[]=>by simp[Fv]
 |p::l=>by
  have:=Ui t l;rw[Fv]
  split <;>simp <;>omega
theorem Nb(t:Tm):∀(l:List cV),Uh l->∀(m:Nat) (p:cV),l[m]?=some p->(aZ p.v t<0↔m<Fv t l)
 |[],_,m,p,h=>by simp at h
 |q::l,s,m,p,h=>by
  obtain⟨b,e⟩:=agE.1 s;rw[Fv]
  cases m with
  |zero=>
   simp at h;subst h
   split
   simp;assumption;simp;omega
  |succ m=>
   have d:l[m]?=some p:=by simpa using h
   have P:=Nb t l e m p d;have a:=b p (agq d)
   split
   rw[P];omega
   ·rename_i y
    constructor
    ·intro K
     exact absurd (fH a K) y
    intro R;omega
def P9(t:Tm)(l:List cV):Bool:=match l[Fv t l]? with |some p=>decide (aZ p.v t=0)|none=>false
theorem D8:∀{s:List cV} {x:Tm},(∀b∈s,aZ b.v x≠0)->mz s x=x
 |[],_,_=>rfl
 |b::s,x,h=>by
  rw[mz,if_neg (h b yxb)];exact D8 λc G=>h c (by simp[G])
theorem Nc(x:Tm):∀(s:List cV),Uh s->(∀b,s[Fv x s]?=some b->aZ b.v x=0->mz s x=b.t)/\(P9 x s=false->mz s x=x)
 |[],_=>⟨λb h=>by simp at h,λ_=>rfl⟩
 |c::s,S=>by
  obtain⟨a,e⟩:=agE.1 S;obtain⟨F,i⟩:=Nc x s e
  by_cases G:aZ c.v x<0
  ·have A:Fv x (c::s)=Fv x s+1:=by rw[Fv,if_pos G]
   have N:mz (c::s) x=mz s x:=by rw[mz,if_neg yxa]
   have u:P9 x (c::s)=P9 x s:=by unfold P9;rw[A];simp
   rw[A,N,u];exact⟨λb h=>F b (by simpa using h),i⟩
  ·have A:Fv x (c::s)=0:=by rw[Fv,if_neg G]
   have u:P9 x (c::s)=decide (aZ c.v x=0):=by unfold P9;rw[A];rfl
   rw[A,u];refine⟨λb h B=>?_,λh=>?_⟩
   ·simp at h;subst h;rw[mz,if_pos B]
   ·have B:aZ c.v x≠0:=of_decide_eq_false h;refine D8 λb W=>?_;rcases agi.1 W with rfl |W;exact B
    ·intro O
     have X:=a b W;have Q:=dD O;subst Q;exact G X
namespace aI
open Go.Proofs
attribute [local irreducible] aE az aO aL Ev ai ah ay bh bH
theorem o8{k:Int}{n:ByteArray}{x:PV}(U:kZ h x=some x:=by rfl)(hn:b9 x=x:=by rfl):∃b,rb h (bo [.agg (List.take (3+1) (List.drop 0 (cells (.agg (If k n o l))))),x])=some b/\b9 b=.b8 [.agg (If k n o l),x]:=by
 refine⟨.b8 [.agg (If k n o l),x],?_,by simp[b9,aY,hn]⟩;simp only[bo,rb,iR,U];simp[kZ,oE,rf,cells]
theorem Pz(b:cV)(t:Tm)(W:aC b.v<100000000)(Z:aC t<100000000):aT C 193 [fW b,enc t] (.I (aZ b.v t)):=by
 have O:=(dT b.v t yxa yxa).nine;rw[au,au t]at O;rw[iG,au];refine aT.x T6 Tryz.func193 rfl ?_;refine wA ?_;refine .p O ?_;refine wA ?_;exact⟨_,rfl,rfl⟩
theorem Uj(l:List cV)(t:Tm)(S:Uh l)(A:l.length<100000000)(W:∀b∈l,aC b.v<100000000)(Z:aC t<100000000):
  aT C 192 [.aa false (aU l),enc t,.fn 193 []] (.b8 [.I (Fv t l),.bool (P9 t l)]):=by
 have a:=Ui t l;have P:=Nb t l S;have e:P9 t l=match l[Fv t l]? with |some p=>decide (aZ p.v t=0)|none=>false:=rfl
 have g:=fR l;generalize P9 t l=h at e ⊢;generalize Fv t l=N at a P e ⊢
 have R:∀m,m<l.length->∃b,l[m]?=some b/\(aU l)[m]?=some (.agg [.I b.v.k,.str b.v.s,.I b.v.o,.aa false (ae b.v.l),.I b.t.k,.str b.t.s,.I b.t.o,.aa false (ae b.t.l)])/\aT C 193 [fW b,enc t] (.I (aZ b.v t)):=λm d=>by
  have O:l[m]?=some l[m]:=agd d;exact⟨_,O,C3 O,Pz _ t (W _ (agq O)) Z⟩
 rw[au]at R ⊢;refine aT.x T6 Tryz.func192 rfl ?_;refine wA ?_;refine dU.nat T6 (λk L H=>∃i j:Nat,L=[(0,.aa false (aU l)),(2,.fn 193 []),(4,.ptr 0 0 0 0),(8,.I (aU l).length),(9,.I i),(10,.I j)]/\H=[Pi t]/\k=j - i/\i<=N/\N<=j/\j<=l.length) l.length (.nx ⟨0,(aU l).length,rfl,rfl,by omega,by omega,by omega,by omega⟩) ?_;rintro k _ _ Y ⟨i,j,rfl,rfl,q,F,u,z⟩
 by_cases f:i<j
 ·obtain⟨m,y⟩:∃m:Nat,((i:Int)+j) / 2=m:=⟨(i+j) / 2,by omega⟩;obtain⟨b,O,Q,U⟩:=R m yxa;have M:=P m _ O;rw[iG]at U;exact zai
 ·have B:i=N:=by omega
  subst B
  by_cases w:i<l.length
  ·obtain⟨b,O,Q,U⟩:=R i w;rw[O]at e;dsimp only at e;rw[iG]at U;exact zb6
  ·rw[agr yxa]at e;refine wA ?_;exact⟨_,rfl,by rw[e];rfl⟩
theorem PA(l:List cV)(t:Tm)(S:Uh l)(A:l.length<100000000)(W:∀b∈l,aC b.v<100000000)(Z:aC t<100000000):aT C 149 [.aa false (aU l),enc t] (.b8 [enc (mz l t),.bool (P9 t l)]):=by
 have O:=Uj l t S A W Z;obtain⟨K,a⟩:=Nc t l S;have e:P9 t l=match l[Fv t l]? with |some p=>decide (aZ p.v t=0)|none=>false:=rfl
 have f:=fR l;rw[au]at O;rw[au t];refine aT.x T6 Tryz.func149 rfl ?_;refine wA ?_;refine .p O ?_
 cases u:P9 t l
 ·rw[a u,au];refine wA ?_;exact o8
 ·obtain⟨b,X,d⟩:∃b,l[Fv t l]?=some b/\aZ b.v t=0:=by
   rw[u]at e
   cases U:l[Fv t l]? with
   |none=>rw[U]at e;cases e
   |some b=>rw[U]at e;exact⟨b,rfl,of_decide_eq_true e.symm⟩
  rw[K b X d,au];have Q:=C3 X;have F:=ag X;refine wA ?_;exact o8
end aI
end Go.Pm
