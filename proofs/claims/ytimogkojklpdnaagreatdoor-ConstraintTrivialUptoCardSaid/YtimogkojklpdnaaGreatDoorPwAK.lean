/-
  Pm, a part. Conditions: none.
-/
import Derived.Test.YtimogkojklpdnaaGreatDoorPwAJ
set_option linter.unusedVariables false
set_option linter.unusedSimpArgs false
set_option linter.unnecessarySimpa false
namespace Go.Pm
set_option maxRecDepth 4000
theorem mg{C:cW}{T:mD C.P}{L:Al}{h:ab}{a b n:Nat}{t:TypeId}{cs vs:List PV}{sz:Nat}{rs:List ResultVar}(ha:lk L a=some (.ptr b 0 0 0))(hb:h[b]?=some ⟨.m,0,n,[.agg cs]⟩)(hs:T.ts t=some (sz+1))(ht:T.ta t=some true)(hl:cs.length=sz+1)(hr:zA T L h rs=some vs):zA T L h (.cell a t::rs)=some (.agg cs::vs):=by
 have hp:cT h (.ptr b 0 0 0)=some cs:=(PM hb).trans rfl
 have hld:loadT T h t (.ptr b 0 0 0)=some (.agg cs):=by
  unfold loadT;rw[hs,ht,hp];have:Nat.ble (sz+1) cs.length=true:=Nat.ble_eq_true_of_le (by omega);simp only[this,if_true];rw[acu (by omega)]
 simp only[zA,ha,hld,hr]
namespace bC
open Go.Proofs
def bN:List PV:=MP.map BT
theorem FM:aI C 156 [] (.aa false bN):=aI.iS (n:=100) (by kernel_rfl)
theorem ue:aI C 218 [] (.aa false bN):=aI.iS (n:=100) (by kernel_rfl)
theorem vy{p q:List Sy}{y:Sy}(e:MP=p++y::q):bN[p.length]?=some (.agg [.str y.n,.int .i64 y.a,.int .i64 y.b,.int .i64 y.k]):=by rw[bN,e];simp[BT]
@[simp] theorem zD:bN.length=21:=rfl
theorem uf:MP.length=21:=rfl
@[simp] theorem UE:ao bN=true:=rfl
theorem mA{p q:List Sy}{y:Sy}{s:ByteArray}(e:MP=p++y::q)(hp:∀z∈p,z.n.toList≠s.toList)(h:y.n.toList=s.toList):ch s=y:=by
 unfold ch;rw[e,List.find?_append,List.find?_eq_none.2 (λz hz=>by simpa using hp z hz)];simp[h]
theorem oa{s t:ByteArray}(h:s.toList=t.toList):ch s=ch t:=by unfold ch;rw[h]
theorem jk{s n:ByteArray}(h:¬s.toList=n.toList):eP s n=false:=by unfold eP;simpa using h
theorem kQ{s n:ByteArray}(h:s.toList=n.toList):eP s n=true:=by unfold eP;simpa using h
theorem BR:(ch ot).a=1:=by kernel_rfl
theorem sy{s:ByteArray}(hp:∀z∈MP,z.n.toList≠s.toList):ch s=sy0:=by
 unfold ch;rw[List.find?_eq_none.2 (λz hz=>by simpa using hp z hz)]
 rfl
attribute [local irreducible] aD az aL aJ Ev ah aj ay bg bN
theorem qm(s:ByteArray):aI C 111 [.str s] (BT (ch s)):=by
 have hs:=FM;refine aI.x T6 Tryz.func111 rfl ?_;refine wA ?_;refine .p hs ?_;refine wA ?_;refine cU.zip T6 MP (λp q L H=>L=[(0,.str s),(2,.ptr 0 0 0 0),(5,.aa false bN),(6,.int .i64 21),(7,.int .i64 p.length)]/\HV H/\H[0]?=some ⟨.m,0,4,[.agg [.str ByteArray.empty,.int .i64 0,.int .i64 0,.int .i64 0]]⟩/\∀z∈p,z.n.toList≠s.toList) (.nx ⟨rfl,HV.one rfl,rfl,λz hz=>by cases hz⟩) ?_ ?_
 ·rintro p y q _ H O e ⟨rfl,hH,h0,hp⟩;have cC:=vy e;have dp:=congrArg List.length e;rw[uf]at dp;simp only[ab3,ab9]at dp;refine wC (λhc=>?_) λhc=>?_
  ·refine .mk ?_ (mg (T:=T6) rfl (abY (by simp)) rfl rfl rfl rfl);refine wA ?_;exact⟨_,rfl,by rw[mA e hp hc];simp[aR,cj,aQ,BT]⟩
  exact .nx ⟨rfl,hH.db (HV.one (by simp)),by rw[abW (ag h0)];exact h0,λz hz=>by rcases ab2.1 hz with h |h;exact hp z h;simp at h;rw[h];exact hc⟩
 ·rintro _ H O ⟨rfl,hH,h0,hp⟩;rw[uf];refine wA ?_;refine .mk ?_ (mg (T:=T6) rfl (abY (ag h0)) rfl rfl rfl rfl);refine wA ?_;exact⟨_,rfl,by rw[sy hp];simp[aR,cj,aQ,BT,sy0]⟩
theorem CK(y:Sy):BT y=.agg [.str y.n,.int .i64 y.a,.int .i64 y.b,.int .i64 y.k]:=rfl
theorem rn{l p q:List Tm}{u:Tm}(e:l=p++u::q)(hp:∀v∈p,kM v=0)(hu:kM u≠0):rA l=kM u:=by
 subst e
 induction p with
 |nil=>simp only[acD,rA];rw[if_pos hu]
 |cons v p ih=>
  simp only[aco,rA];rw[if_neg (by rw[hp v (by simp)];simp),ih (λw hw=>hp w (by simp[hw]))]
theorem fA:∀{l:List Tm},(∀v∈l,kM v=0)->rA l=0
 |[],_=>rfl
 |v::l,h=>by rw[rA,if_neg (by rw[h v (by simp)];simp),fA λw hw=>h w (by simp[hw])]
theorem HV.yn{o p:aw}(h1:o.mu≠.x/\ao o.es=true)(h2:p.mu≠.x/\ao p.es=true):HV [o,p]:=λx hx=>by
 simp only[ab5,adh,or_false]at hx;rcases hx with rfl |rfl;exact h1;exact h2
theorem Md(k s o l)(hl:l.length<1000000000)(ih:∀t∈l,aI C 186 [enc t] (.int .i64 (kM t))):aI C 186 [enc (.mk k s o l)] (.int .i64 (kM (.mk k s o l))):=by
 have hs:=qm s;have cz:=ai l;rw[CK]at hs;rw[bh];refine aI.x T6 Tryz.func186 rfl ?_;refine wC (λhc=>?_) λhc=>?_
 ·refine .p hs ?_;refine wL (λhc=>?_) (λhc hc=>?_) (λhc hc hc=>?_) (λhc hc hc hc=>?_) (λhc hc hc hc hc=>?_) (λhc hc hc hc hc hc=>?_) λhc hc hc hc hc hc=>?_;exact⟨_,rfl,by rw[kM,if_neg (by simp[*]),if_pos (by assumption)];rfl⟩;exact⟨_,rfl,by rw[kM,if_neg (by simp[*]),if_neg (by assumption),if_pos (by omega)];rfl⟩;exact⟨_,rfl,by rw[kM,if_neg (by simp[*]),if_neg (by assumption),if_pos (by omega)];rfl⟩
  ·have CC:fg s l=false->kM (.mk k s o l)=10:=λh=>by rw[kM,if_neg (by simp[*]),if_neg (by assumption),if_neg (by omega),if_pos h]
   have OZ:fg s l=true->kM (.mk k s o l)=rA l:=λh=>by rw[kM,if_neg (by simp[*]),if_neg (by assumption),if_neg (by omega),if_neg (by rw[h];simp)]
   have Ah:(eP s Ao ||eP s td)=true:=by simp[eP,Ao, *]
   refine cU.zip T6 l (λp q L H=>L=[(1,.ptr 0 0 0 0),(38,.aa false (ae l)),(39,.int .i64 l.length),(40,.int .i64 p.length)]/\HV H/\H[0]?=some ⟨.m,0,4,[.agg [.int .i64 k,.str s,.int .i64 o,.aa false (ae l)]]⟩/\∀u∈p,dE u=true) (.nx ⟨rfl,by first |assumption |exact HV.yn (by simp) (by simp),rfl,λu hu=>by cases hu⟩) ?_ ?_
   ·rintro p u q _ H O e ⟨rfl,hH,h0,hp⟩;have cC:=ba e;have dp:=lenE e
    have G9:dE u=false->fg s l=false:=λh=>by
     have:l.all dE=false:=by rw[e];simp[h]
     simp[fg,Ah,this]
    have nx:u.k≠3->u.o=1->∀v∈p++[u],dE v=true:=λh1 h2 v hv=>by
     rcases ab2.1 hv with h |h;exact hp v h;simp at h;rw[h];simp[dE,h1,h2]
    refine wI (λhc=>?_) (λhc hc=>?_) λhc hc=>?_;exact⟨_,rfl,by rw[CC (G9 (by simp[dE, *]))];rfl⟩;exact .nx ⟨rfl,hH.db (HV.one (by simp)),by rw[abW (ag h0)];exact h0,nx (by assumption) (by assumption)⟩;exact⟨_,rfl,by rw[CC (G9 (by simp[dE, *]))];rfl⟩
   ·rintro _ H O ⟨rfl,hH,h0,hp⟩;have Aa:=OZ (by simp only[fg,Ah,if_true];rw[abX];exact hp);refine wA ?_;refine cU.zip T6 l (λp q L H=>L=[(62,.aa false (ae l)),(63,.int .i64 l.length),(64,.int .i64 p.length)]/\HV H/\∀u∈p,kM u=0) (.nx ⟨rfl,by first |assumption |exact HV.yn (by simp) (by simp),λu hu=>by cases hu⟩) ?_ ?_
    ·rintro p u q _ H O e ⟨rfl,hH,hp⟩;have cC:=ba e;have dp:=lenE e;have hi:=ih u (by rw[e];simp);rw[ar]at hi;refine wA ?_;refine .p hi ?_;refine wC (λhc=>?_) λhc=>?_;exact .nx ⟨rfl,hH.db (HV.one (by simp)),λv hv=>by rcases ab2.1 hv with h |h;exact hp v h;simp at h;rw[h];assumption⟩;exact⟨_,rfl,by rw[Aa,rn e hp (by assumption)];rfl⟩
    ·rintro _ H O ⟨rfl,hH,hp⟩;refine wA ?_;exact⟨_,rfl,by rw[Aa,fA hp];rfl⟩
  ·have CC:fg s l=false->kM (.mk k s o l)=10:=λh=>by rw[kM,if_neg (by simp[*]),if_neg (by assumption),if_neg (by omega),if_pos h]
   have OZ:fg s l=true->kM (.mk k s o l)=rA l:=λh=>by rw[kM,if_neg (by simp[*]),if_neg (by assumption),if_neg (by omega),if_neg (by rw[h];simp)]
   have Ah:(eP s Ao ||eP s td)=true:=by simp[eP,td, *]
   refine cU.zip T6 l (λp q L H=>L=[(1,.ptr 0 0 0 0),(38,.aa false (ae l)),(39,.int .i64 l.length),(40,.int .i64 p.length)]/\HV H/\H[0]?=some ⟨.m,0,4,[.agg [.int .i64 k,.str s,.int .i64 o,.aa false (ae l)]]⟩/\∀u∈p,dE u=true) (.nx ⟨rfl,by first |assumption |exact HV.yn (by simp) (by simp),rfl,λu hu=>by cases hu⟩) ?_ ?_
   ·rintro p u q _ H O e ⟨rfl,hH,h0,hp⟩;have cC:=ba e;have dp:=lenE e
    have G9:dE u=false->fg s l=false:=λh=>by
     have:l.all dE=false:=by rw[e];simp[h]
     simp[fg,Ah,this]
    have nx:u.k≠3->u.o=1->∀v∈p++[u],dE v=true:=λh1 h2 v hv=>by
     rcases ab2.1 hv with h |h;exact hp v h;simp at h;rw[h];simp[dE,h1,h2]
    refine wI (λhc=>?_) (λhc hc=>?_) λhc hc=>?_;exact⟨_,rfl,by rw[CC (G9 (by simp[dE, *]))];rfl⟩;exact .nx ⟨rfl,hH.db (HV.one (by simp)),by rw[abW (ag h0)];exact h0,nx (by assumption) (by assumption)⟩;exact⟨_,rfl,by rw[CC (G9 (by simp[dE, *]))];rfl⟩
   ·rintro _ H O ⟨rfl,hH,h0,hp⟩;have Aa:=OZ (by simp only[fg,Ah,if_true];rw[abX];exact hp);refine wA ?_;refine cU.zip T6 l (λp q L H=>L=[(62,.aa false (ae l)),(63,.int .i64 l.length),(64,.int .i64 p.length)]/\HV H/\∀u∈p,kM u=0) (.nx ⟨rfl,by first |assumption |exact HV.yn (by simp) (by simp),λu hu=>by cases hu⟩) ?_ ?_
    ·rintro p u q _ H O e ⟨rfl,hH,hp⟩;have cC:=ba e;have dp:=lenE e;have hi:=ih u (by rw[e];simp);rw[ar]at hi;refine wA ?_;refine .p hi ?_;refine wC (λhc=>?_) λhc=>?_;exact .nx ⟨rfl,hH.db (HV.one (by simp)),λv hv=>by rcases ab2.1 hv with h |h;exact hp v h;simp at h;rw[h];assumption⟩;exact⟨_,rfl,by rw[Aa,rn e hp (by assumption)];rfl⟩
    ·rintro _ H O ⟨rfl,hH,hp⟩;refine wA ?_;exact⟨_,rfl,by rw[Aa,fA hp];rfl⟩
  ·have CC:fg s l=false->kM (.mk k s o l)=10:=λh=>by rw[kM,if_neg (by simp[*]),if_neg (by assumption),if_neg (by omega),if_pos h]
   have OZ:fg s l=true->kM (.mk k s o l)=rA l:=λh=>by rw[kM,if_neg (by simp[*]),if_neg (by assumption),if_neg (by omega),if_neg (by rw[h];simp)]
   have Ah:(eP s Ao ||eP s td)=false:=by rw[jk (n:=Ao) (by assumption),jk (n:=td) (by assumption)];rfl
   have hnw:eP s ot=true:=kQ (by assumption);have ha:(ch s).a=1:=by rw[oa (by assumption:s.toList=ot.toList)];exact BR
   obtain⟨u,r,rfl⟩:∃u r,l=u::r:=by cases l with |nil=>simp at cz;simp at *;omega |cons u r=>exact⟨u,r,rfl⟩
   have cC:(ae (u::r))[0]?=some (.agg [.int .i64 u.k,.str u.s,.int .i64 u.o,.aa false (ae u.l)]):=by rw[ae,<-ar];rfl
   have hpk:fg s (u::r)=decide (u.k=2):=by unfold fg;rw[Ah,hnw];rfl
   refine .mk (n:=0) ?_ rfl cC rfl;generalize u::r=l at *;refine wC (λhc=>?_) λhc=>?_
   ·have Aa:=OZ (by rw[hpk];simp[*]);refine cU.zip T6 l (λp q L H=>L=[(62,.aa false (ae l)),(63,.int .i64 l.length),(64,.int .i64 p.length)]/\HV H/\∀u∈p,kM u=0) (.nx ⟨rfl,by first |assumption |exact HV.yn (by simp) (by simp),λu hu=>by cases hu⟩) ?_ ?_
    ·rintro p u q _ H O e ⟨rfl,hH,hp⟩;have cC:=ba e;have dp:=lenE e;have hi:=ih u (by rw[e];simp);rw[ar]at hi;refine wA ?_;refine .p hi ?_;refine wC (λhc=>?_) λhc=>?_;exact .nx ⟨rfl,hH.db (HV.one (by simp)),λv hv=>by rcases ab2.1 hv with h |h;exact hp v h;simp at h;rw[h];assumption⟩;exact⟨_,rfl,by rw[Aa,rn e hp (by assumption)];rfl⟩
    ·rintro _ H O ⟨rfl,hH,hp⟩;refine wA ?_;exact⟨_,rfl,by rw[Aa,fA hp];rfl⟩
   exact⟨_,rfl,by rw[CC (by rw[hpk];simp[*])];rfl⟩
  ·have OZ:kM (.mk k s o l)=rA l:=by
    have h1:fg s l=true:=by unfold fg;rw[jk (n:=Ao) (by assumption),jk (n:=td) (by assumption),jk (n:=ot) (by assumption)];rfl
    rw[kM,if_neg (by simp[*]),if_neg (by assumption),if_neg (by omega),if_neg (by rw[h1];simp)]
   have Aa:=OZ;refine cU.zip T6 l (λp q L H=>L=[(62,.aa false (ae l)),(63,.int .i64 l.length),(64,.int .i64 p.length)]/\HV H/\∀u∈p,kM u=0) (.nx ⟨rfl,by first |assumption |exact HV.yn (by simp) (by simp),λu hu=>by cases hu⟩) ?_ ?_
   ·rintro p u q _ H O e ⟨rfl,hH,hp⟩;have cC:=ba e;have dp:=lenE e;have hi:=ih u (by rw[e];simp);rw[ar]at hi;refine wA ?_;refine .p hi ?_;refine wC (λhc=>?_) λhc=>?_;exact .nx ⟨rfl,hH.db (HV.one (by simp)),λv hv=>by rcases ab2.1 hv with h |h;exact hp v h;simp at h;rw[h];assumption⟩;exact⟨_,rfl,by rw[Aa,rn e hp (by assumption)];rfl⟩
   ·rintro _ H O ⟨rfl,hH,hp⟩;refine wA ?_;exact⟨_,rfl,by rw[Aa,fA hp];rfl⟩
 exact⟨_,rfl,by rw[kM,if_pos (by assumption)];rfl⟩
theorem Ir(t:Tm)(hb:ax t<1000000000):aI C 186 [enc t] (.int .i64 (kM t)):=by
 induction t using Tm.ind with
 |h k s o l ih=>
  have:=aY l;simp only[ax]at hb;exact Md k s o l (by omega) λt ht=>ih t ht (by have:=bD ht;omega)
theorem tJ(t:Tm)(hb:ax t<100000000):aI C 139 [enc t] (.int .i64 (gY t)):=by
 have h1:=(fU t hb).nine;have h2:=Ir t (by omega);rw[ar]at h1 h2 ⊢;refine aI.x T6 Tryz.func139 rfl ?_;refine wA ?_;refine .p h1 ?_;refine wC (λhc=>?_) λhc=>?_
 ·refine .p h2 ?_;refine wA ?_;exact⟨_,rfl,by unfold gY;rw[if_neg (by omega)];rfl⟩
 exact⟨_,rfl,by unfold gY;rw[if_pos (by assumption)];rfl⟩
theorem BU{p:ByteArray->Bool}{l a q:List Tm}{u:Tm}(e:l=a++u::q)(hu:every p u=false):gM p l=false:=by
 subst e
 induction a with
 |nil=>simp only[acD,gM,hu];rfl
 |cons v a ih=>simp only[aco,gM,ih];simp
theorem qG{p:ByteArray->Bool}:∀{l:List Tm},(∀v∈l,every p v=true)->gM p l=true
 |[],_=>rfl
 |v::l,h=>by rw[gM,h v (by simp),qG λw hw=>h w (by simp[hw])];rfl
theorem Me(g:FuncId)(p:ByteArray->Bool)(hm:C.mode g=.pure)(hg:∀s,aI C g [.str s] (.bool (p s)))(k s o l)(hl:l.length<1000000000)(ih:∀t∈l,aI C 109 [enc t,.fn g []] (.bool (every p t))):
  aI C 109 [enc (.mk k s o l),.fn g []] (.bool (every p (.mk k s o l))):=by
 have cz:=ai l;have hgs:=hg s;have nJ:every p (.mk k s o l)=((decide (k≠3)||p s)&&gM p l):=rfl;rw[bh];refine aI.x T6 Tryz.func109 rfl ?_;refine wC (λhc=>?_) λhc=>?_
 ·refine .p hgs ?_ hm
  cases hps:p s
  ·refine wA ?_;exact⟨_,rfl,by rw[nJ,hps];simp[aR, *]⟩
  ·have nJ:every p (.mk k s o l)=gM p l:=by rw[nJ,hps];simp
   refine wA ?_;refine cU.zip T6 l (λa q L H=>L=[(1,.fn g []),(18,.aa false (ae l)),(19,.int .i64 l.length),(20,.int .i64 a.length)]/\HV H/\∀u∈a,every p u=true) (.nx ⟨rfl,by first |assumption |exact HV.one (by simp),λu hu=>by cases hu⟩) ?_ ?_
   ·rintro a u q _ H O e ⟨rfl,hH,hp⟩;have cC:=ba e;have dp:=lenE e;have hi:=ih u (by rw[e];simp);rw[ar]at hi;refine wA ?_;refine .p hi ?_
    cases hu:every p u
    ·refine wA ?_;exact⟨_,rfl,by rw[nJ,BU e hu];rfl⟩
    ·refine wA ?_;exact .nx ⟨rfl,hH.db (HV.one (by simp)),λv hv=>by rcases ab2.1 hv with h |h;exact hp v h;simp at h;rw[h];exact hu⟩
   ·rintro _ H O ⟨rfl,hH,hp⟩;refine wA ?_;exact⟨_,rfl,by rw[nJ,qG hp];rfl⟩
 ·have nJ:every p (.mk k s o l)=gM p l:=by rw[nJ];simp[*]
  refine cU.zip T6 l (λa q L H=>L=[(1,.fn g []),(18,.aa false (ae l)),(19,.int .i64 l.length),(20,.int .i64 a.length)]/\HV H/\∀u∈a,every p u=true) (.nx ⟨rfl,by first |assumption |exact HV.one (by simp),λu hu=>by cases hu⟩) ?_ ?_
  ·rintro a u q _ H O e ⟨rfl,hH,hp⟩;have cC:=ba e;have dp:=lenE e;have hi:=ih u (by rw[e];simp);rw[ar]at hi;refine wA ?_;refine .p hi ?_
   cases hu:every p u
   ·refine wA ?_;exact⟨_,rfl,by rw[nJ,BU e hu];rfl⟩
   ·refine wA ?_;exact .nx ⟨rfl,hH.db (HV.one (by simp)),λv hv=>by rcases ab2.1 hv with h |h;exact hp v h;simp at h;rw[h];exact hu⟩
  ·rintro _ H O ⟨rfl,hH,hp⟩;refine wA ?_;exact⟨_,rfl,by rw[nJ,qG hp];rfl⟩
theorem yM(g:FuncId)(p:ByteArray->Bool)(hm:C.mode g=.pure)(hg:∀s,aI C g [.str s] (.bool (p s)))(t:Tm)(hb:ax t<1000000000):aI C 109 [enc t,.fn g []] (.bool (every p t)):=by
 induction t using Tm.ind with
 |h k s o l ih=>
  have:=aY l;simp only[ax]at hb;exact Me g p hm hg k s o l (by omega) λt ht=>ih t ht (by have:=bD ht;omega)
theorem Mf(s:ByteArray):aI C 187 [.str s] (.bool (um s)):=by
 have hs:=qm s;rw[CK]at hs;have fR:nj s=true->um s=false:=λh=>by simp[um,h]
 refine aI.x T6 Tryz.func187 rfl ?_;refine wL (λhc=>?_) (λhc hc=>?_) (λhc hc hc=>?_) (λhc hc hc hc=>?_) (λhc hc hc hc hc=>?_) (λhc hc hc hc hc hc=>?_) λhc hc hc hc hc hc=>?_;exact⟨_,rfl,by rw[fR (by unfold nj;rw[kQ (n:=u7) (by assumption)];simp)];rfl⟩;exact⟨_,rfl,by rw[fR (by unfold nj;rw[kQ (n:=il) (by assumption)];simp)];rfl⟩;exact⟨_,rfl,by rw[fR (by unfold nj;rw[kQ (n:=Hu) (by assumption)];simp)];rfl⟩;exact⟨_,rfl,by rw[fR (by unfold nj;rw[kQ (n:=yK) (by assumption)];simp)];rfl⟩;exact⟨_,rfl,by rw[fR (by unfold nj;rw[kQ (n:=yL) (by assumption)];simp)];rfl⟩;exact⟨_,rfl,by rw[fR (by unfold nj;rw[kQ (n:=ql) (by assumption)];simp)];rfl⟩
 ·have IT:nj s=false:=by
   unfold nj;rw[jk (n:=u7) (by assumption),jk (n:=il) (by assumption),jk (n:=Hu) (by assumption),jk (n:=yK) (by assumption),jk (n:=yL) (by assumption),jk (n:=ql) (by assumption)]
   rfl
  refine .p hs ?_;refine wC (λhc=>?_) λhc=>?_
  all_goals exact⟨_,rfl,by simp[aR,um,IT, *]⟩
theorem Mg(t:Tm)(hb:ax t<100000000):aI C 140 [enc t] (.bool (lq t)):=by
 have h1:=tJ t hb;have h2:=yM 187 um rfl Mf t (by omega);rw[ar]at h1 h2 ⊢;refine aI.x T6 Tryz.func140 rfl ?_;refine wA ?_;refine .p h1 ?_;refine wC (λhc=>?_) λhc=>?_
 ·refine .p h2 ?_
  cases he:every um t
  all_goals(
   refine wA ?_;exact⟨_,rfl,by simp[aR,lq, *]⟩)
 exact⟨_,rfl,by simp[aR,lq, *]⟩
theorem rc(s:ByteArray):aI C 169 [.str s] (.int .i64 (ch s).k):=by
 have hs:=ue;have jt:bN.length=21:=zD;refine aI.x T6 Tryz.func169 rfl ?_;refine wA ?_;refine .p hs ?_;refine wA ?_;refine cU.zip T6 MP (λp q L H=>L=[(0,.str s),(3,.aa false bN),(4,.int .i64 p.length)]/\HV H/\∀z∈p,z.n.toList≠s.toList) (.nx ⟨rfl,HV.nil,λz hz=>by cases hz⟩) ?_ ?_
 ·rintro p y q _ H O e ⟨rfl,hH,hp⟩;have cC:=vy e;have dp:=congrArg List.length e;rw[uf]at dp;simp only[ab3,ab9]at dp;refine wC (λhc=>?_) λhc=>?_;exact⟨_,rfl,by rw[mA e hp (by assumption)];rfl⟩;exact .nx ⟨rfl,hH,λz hz=>by rcases ab2.1 hz with h |h;exact hp z h;simp at h;rw[h];assumption⟩
 ·rintro _ H O ⟨rfl,hH,hp⟩;rw[uf];refine wA ?_;exact⟨_,rfl,by rw[sy hp];rfl⟩
theorem L4(k s o l)(hl:l.length<1000000000)(hk:(ch s).k≠0):aI C 302 [enc (.mk k s o l)] (.bool (decide ((ch s).a<=(l.length:Int)/\(l.length:Int)<=(ch s).b))):=by
 have hs:=ue;have jt:bN.length=21:=zD;have cz:=ai l;rw[bh];refine aI.x T6 Tryz.func302 rfl ?_;refine wA ?_;refine .p hs ?_;refine wA ?_;refine cU.zip T6 MP (λp q L H=>L=[(1,.ptr 0 0 0 0),(3,.aa false bN),(4,.int .i64 p.length)]/\HV H/\H[0]?=some ⟨.m,0,4,[.agg [.int .i64 k,.str s,.int .i64 o,.aa false (ae l)]]⟩/\∀z∈p,z.n.toList≠s.toList) (.nx ⟨rfl,HV.one (by simp),rfl,λz hz=>by cases hz⟩) ?_ ?_
 ·rintro p y q _ H O e ⟨rfl,hH,h0,hp⟩;have cC:=vy e;have dp:=congrArg List.length e;rw[uf]at dp;simp only[ab3,ab9]at dp
  (repeat' (first |(refine Rn.go ?_;conv=>whnf)|refine .mk ?_ |refine .tt ?_ |refine .mk (λhc=>?_) λhc=>?_ |fail))
  exact⟨_,rfl,by rw[mA e hp (by assumption)];simp[aR];omega⟩;exact⟨_,rfl,by rw[mA e hp (by assumption)];simp[aR];omega⟩;exact⟨_,rfl,by rw[mA e hp (by assumption)];simp[aR];omega⟩;exact .nx ⟨rfl,hH,h0,λz hz=>by rcases ab2.1 hz with h |h;exact hp z h;simp at h;rw[h];assumption⟩
 ·rintro _ H O ⟨rfl,hH,h0,hp⟩;exact absurd (by rw[sy hp];rfl) hk
def Z8:List Tm->Bool
 |u::_=>decide (u.k=2)
 |[]=>true
def UD(s:ByteArray)(l:List Tm):Bool:=if eP s ot=true then Z8 l else l.all dE
theorem Ik(k s o l)(hl:l.length<1000000000)(bO:eP s ot=true->l≠[]):aI C 303 [enc (.mk k s o l)] (.bool (UD s l)):=by
 have cz:=ai l;rw[bh];refine aI.x T6 Tryz.func303 rfl ?_;refine wC (λhc=>?_) λhc=>?_
 ·have hn:eP s ot=true:=kQ (by assumption);obtain⟨u,r,rfl⟩:∃u r,l=u::r:=by cases l with |nil=>exact absurd rfl (bO hn)|cons u r=>exact⟨u,r,rfl⟩
  have cC:(ae (u::r))[0]?=some (.agg [.int .i64 u.k,.str u.s,.int .i64 u.o,.aa false (ae u.l)]):=by rw[ae,<-ar];rfl
  have hg:UD s (u::r)=decide (u.k=2):=by unfold UD;rw[if_pos hn];rfl
  refine .mk (n:=0) ?_ rfl cC rfl;refine wC (λhc=>?_) λhc=>?_
  all_goals exact⟨_,rfl,by rw[hg];simp[aR, *]⟩
 ·have hn:eP s ot=false:=jk (by assumption);have hg:UD s l=l.all dE:=by unfold UD;rw[if_neg (by rw[hn];simp)]
  refine cU.zip T6 l (λp q L H=>L=[(1,.ptr 0 0 0 0),(3,.int .i64 p.length)]/\HV H/\H[0]?=some ⟨.m,0,4,[.agg [.int .i64 k,.str s,.int .i64 o,.aa false (ae l)]]⟩/\∀u∈p,dE u=true) (.nx ⟨rfl,HV.one (by simp),rfl,λz hz=>by cases hz⟩) ?_ ?_
  ·rintro p u q _ H O e ⟨rfl,hH,h0,hp⟩;have cC:=ba e;have dp:=lenE e;have G9:dE u=false->l.all dE=false:=λh=>by rw[e];simp[h]
   refine wI (λhc=>?_) (λhc hc=>?_) λhc hc=>?_;exact⟨_,rfl,by rw[hg,G9 (by simp[dE, *])];rfl⟩;exact .nx ⟨rfl,hH,h0,λv hv=>by rcases ab2.1 hv with h |h;exact hp v h;simp at h;rw[h];simp[dE, *]⟩;exact⟨_,rfl,by rw[hg,G9 (by simp[dE, *])];rfl⟩
  ·rintro _ H O ⟨rfl,hH,h0,hp⟩;have ha:l.all dE=true:=by rw[abX];exact hp
   refine wA ?_;exact⟨_,rfl,by rw[hg,ha];rfl⟩
theorem Il:MP.all (λy=>decide (y.k≠2)||(y.n.toList==Ao.toList ||y.n.toList==td.toList ||y.n.toList==ot.toList))=true:=by kernel_rfl
theorem sA:(ch Ao).k=2/\(ch td).k=2/\(ch ot).k=2:=⟨by kernel_rfl,by kernel_rfl,by kernel_rfl⟩
theorem L8{s:ByteArray}(h:(ch s).k≠0):ch s∈MP/\(ch s).n.toList=s.toList:=by
 unfold ch at h ⊢
 cases hf:MP.find? (λy=>y.n.toList==s.toList)with
 |none=>rw[hf]at h;exact absurd rfl h
 |some y=>exact⟨List.mem_of_find?_eq_some hf,by simpa using List.find?_some hf⟩
theorem PX(s:ByteArray):(ch s).k=2↔(eP s Ao=true\/eP s td=true\/eP s ot=true):=by
 constructor
 ·intro h
  obtain⟨h1,h2⟩:=L8 (s:=s) (by omega);have:=abX.1 Il _ h1;rw[h2,h]at this;simpa[eP,or_assoc]using this
 ·rintro(h |h |h);rw[oa (t:=Ao) (by simpa[eP]using h)];exact sA.1;rw[oa (t:=td) (by simpa[eP]using h)];exact sA.2.1;rw[oa (t:=ot) (by simpa[eP]using h)];exact sA.2.2
theorem qF:eP Ao ot=false/\eP td ot=false:=⟨by kernel_rfl,by kernel_rfl⟩
theorem L9(s:ByteArray)(l:List Tm):fg s l=if(ch s).k=2 then UD s l else true:=by
 have hp:=PX s;unfold fg UD
 by_cases h1:eP s Ao=true
 ·have:eP s ot=false:=by
   have:=qF.1;unfold eP at this h1 ⊢;rw[beq_iff_eq]at h1;rw[h1];exact this
  rw[if_pos (hp.2 (.inl h1)),h1,this];rfl
 ·by_cases h2:eP s td=true
  ·have:eP s ot=false:=by
    have:=qF.2;unfold eP at this h2 ⊢;rw[beq_iff_eq]at h2;rw[h2];exact this
   rw[if_pos (hp.2 (.inr (.inl h2))),h2,this];simp
  ·by_cases h3:eP s ot=true
   rw[if_pos (hp.2 (.inr (.inr h3))),if_pos h3];simp[h1,h2,h3];rfl
   ·have hq:¬(ch s).k=2:=λh=>by rcases hp.1 h with h |h |h <;>contradiction
    simp[h1,h2,h3,hq]
theorem Ma(k s o l)(hl:l.length<1000000000)(ih:∀t∈l,aI C 241 [enc t] (.int .i64 (kM t))):aI C 241 [enc (.mk k s o l)] (.int .i64 (kM (.mk k s o l))):=by
 have hk:=rc s;have cz:=ai l;have hf:=L4 k s o l hl;have G9:=Ik k s o l hl;rw[bh]at hf G9 ⊢;refine aI.x T6 Tryz.func241 rfl ?_;refine wC (λhc=>?_) λhc=>?_
 ·refine .p hk ?_;refine wC (λhc=>?_) λhc=>?_;exact⟨_,rfl,by rw[kM,if_neg (by simp[*]),if_pos (by assumption)];rfl⟩
  ·refine .p (hf (by assumption)) ?_
   by_cases Dk:(ch s).a<=(l.length:Int)/\(l.length:Int)<=(ch s).b
   ·rw[decide_eq_true Dk];have Aa:fg s l=true->kM (.mk k s o l)=rA l:=λh=>by rw[kM,if_neg (by simp[*]),if_neg (by assumption),if_neg (by omega),if_neg (by rw[h];simp)]
    have tT:=L9 s l
    have RK:eP s ot=true->l≠[]:=λh hn=>by
     rw[oa (t:=ot) (by simpa[eP]using h),BR,hn]at Dk;simp at Dk
    refine wC (λhc=>?_) λhc=>?_
    ·refine .p (G9 RK) ?_;rw[if_pos (by assumption)]at tT
     cases Qq:UD s l
     ·refine wA ?_;exact⟨_,rfl,by rw[kM,if_neg (by simp[*]),if_neg (by assumption),if_neg (by omega),if_pos (by rw[tT,Qq])];rfl⟩
     ·have Aa:=Aa (by rw[tT,Qq]);refine wA ?_;refine cU.zip T6 l (λp q L H=>L=[(1,.ptr 0 0 0 0),(4,.int .i64 p.length)]/\HV H/\H[0]?=some ⟨.m,0,4,[.agg [.int .i64 k,.str s,.int .i64 o,.aa false (ae l)]]⟩/\∀u∈p,kM u=0) (.nx ⟨rfl,HV.one (by simp),rfl,λu hu=>by cases hu⟩) ?_ ?_
      ·rintro p u q _ H O e ⟨rfl,hH,h0,hp⟩;have cC:=ba e;have dp:=lenE e;have hi:=ih u (by rw[e];simp);rw[ar]at hi;refine wA ?_;refine .p hi ?_;refine wC (λhc=>?_) λhc=>?_;exact .nx ⟨rfl,hH,h0,λv hv=>by rcases ab2.1 hv with h |h;exact hp v h;simp at h;rw[h];assumption⟩;exact⟨_,rfl,by rw[Aa,rn e hp (by assumption)];rfl⟩
      ·rintro _ H O ⟨rfl,hH,h0,hp⟩;refine wA ?_;exact⟨_,rfl,by rw[Aa,fA hp];rfl⟩
    ·have Aa:=Aa (by rw[tT,if_neg (by assumption)]);refine cU.zip T6 l (λp q L H=>L=[(1,.ptr 0 0 0 0),(4,.int .i64 p.length)]/\HV H/\H[0]?=some ⟨.m,0,4,[.agg [.int .i64 k,.str s,.int .i64 o,.aa false (ae l)]]⟩/\∀u∈p,kM u=0) (.nx ⟨rfl,HV.one (by simp),rfl,λu hu=>by cases hu⟩) ?_ ?_
     ·rintro p u q _ H O e ⟨rfl,hH,h0,hp⟩;have cC:=ba e;have dp:=lenE e;have hi:=ih u (by rw[e];simp);rw[ar]at hi;refine wA ?_;refine .p hi ?_;refine wC (λhc=>?_) λhc=>?_;exact .nx ⟨rfl,hH,h0,λv hv=>by rcases ab2.1 hv with h |h;exact hp v h;simp at h;rw[h];assumption⟩;exact⟨_,rfl,by rw[Aa,rn e hp (by assumption)];rfl⟩
     ·rintro _ H O ⟨rfl,hH,h0,hp⟩;refine wA ?_;exact⟨_,rfl,by rw[Aa,fA hp];rfl⟩
   ·rw[decide_eq_false Dk];refine wA ?_;exact⟨_,rfl,by rw[kM,if_neg (by simp[*]),if_neg (by assumption),if_pos (by omega)];rfl⟩
 exact⟨_,rfl,by rw[kM,if_pos (by assumption)];rfl⟩
theorem Im(t:Tm)(hb:ax t<1000000000):aI C 241 [enc t] (.int .i64 (kM t)):=by
 induction t using Tm.ind with
 |h k s o l ih=>
  have:=aY l;simp only[ax]at hb;exact Ma k s o l (by omega) λt ht=>ih t ht (by have:=bD ht;omega)
theorem qw(t:Tm)(hb:ax t<100000000):aI C 188 [enc t] (.int .i64 (gY t)):=by
 have h1:=(zp t (by omega)).nine;have h2:=Im t (by omega);rw[ar]at h1 h2 ⊢;refine aI.x T6 Tryz.func188 rfl ?_;refine wA ?_;refine .p h1 ?_;refine wC (λhc=>?_) λhc=>?_
 ·refine .p h2 ?_;refine wA ?_;exact⟨_,rfl,by unfold gY;rw[if_neg (by omega)];rfl⟩
 exact⟨_,rfl,by unfold gY;rw[if_pos (by assumption)];rfl⟩
theorem AG(s:ByteArray):aI C 242 [.str s] (.bool (nj s)):=by
 refine aI.x T6 Tryz.func242 rfl ?_;refine wL (λhc=>?_) (λhc hc=>?_) (λhc hc hc=>?_) (λhc hc hc hc=>?_) (λhc hc hc hc hc=>?_) (λhc hc hc hc hc hc=>?_) λhc hc hc hc hc hc=>?_;exact⟨_,rfl,by unfold nj;rw[kQ (n:=u7) (by assumption)];rfl⟩;exact⟨_,rfl,by unfold nj;rw[kQ (n:=il) (by assumption)];simp[aR]⟩;exact⟨_,rfl,by unfold nj;rw[kQ (n:=Hu) (by assumption)];simp[aR]⟩;exact⟨_,rfl,by unfold nj;rw[kQ (n:=yK) (by assumption)];simp[aR]⟩;exact⟨_,rfl,by unfold nj;rw[kQ (n:=yL) (by assumption)];simp[aR]⟩;exact⟨_,rfl,by unfold nj;rw[kQ (n:=ql) (by assumption)];simp[aR]⟩;exact⟨_,rfl,by unfold nj;rw[jk (n:=u7) (by assumption),jk (n:=il) (by assumption),jk (n:=Hu) (by assumption),jk (n:=yK) (by assumption),jk (n:=yL) (by assumption),jk (n:=ql) (by assumption)];rfl⟩
theorem lM(a b:List Tm):cd (a++b)=cd a++cd b:=by
 induction a with
 |nil=>rfl
 |cons t a ih=>simp[cd,ih]
theorem BS:∀{l:List Tm},(∀t∈l,(pre t).length<=ax t)->(cd l).length<=br l
 |[],_=>by simp[cd,br]
 |t::l,h=>by
  have h1:=h t (by simp);have h2:=BS (l:=l) λu hu=>h u (by simp[hu])
  simp only[cd,br,ab3];omega
theorem FJ(t:Tm):(pre t).length<=ax t:=by
 induction t using Tm.ind with
 |h k n o l ih=>
  have:=BS ih;simp only[pre,ax,ab9];omega
theorem PY{k s o l}(hb:ax (.mk k s o l)<100000000):(cd l).length<100000000:=by
 have:=FJ (.mk k s o l);simp only[pre,ab9]at this;omega
@[simp] theorem hC(l:List Tm):dC 4 (ae l):=by
 unfold dC;rw[abX]
 intro v hv
 rw[dm]at hv;obtain⟨t,_,rfl⟩:=aci.1 hv;rw[ar];rfl
theorem bS(a b:List Tm):ae (a++b)=ae a++ae b:=by rw[dm,dm,dm,acK]
theorem wk{p:ByteArray->Bool}:∀{l:List Tm},(∀t∈l,every p t=(pre t).all λu=>decide (u.k≠3)||p u.s)->gM p l=(cd l).all λu=>decide (u.k≠3)||p u.s
 |[],_=>rfl
 |t::l,h=>by
  rw[gM,cd,ac1,h t (by simp),wk λu hu=>h u (by simp[hu])]
theorem Io{p:ByteArray->Bool}(t:Tm):every p t=(pre t).all λu=>decide (u.k≠3)||p u.s:=by
 induction t using Tm.ind with
 |h k n o l ih=>
  rw[every,pre,acT,wk ih]
  rfl
theorem Xh(k s o l)(hb:ax (.mk k s o l)<100000000)(ih:∀t∈l,aI C 168 [enc t] (.aa false (ae (pre t)))):aI C 168 [enc (.mk k s o l)] (.aa false (ae (pre (.mk k s o l)))):=by
 have cz:=ai l;rw[bh];have jR:=PY hb;have DJ:br l<100000000:=by simp only[ax]at hb;omega
 have uj:=aY l;have one:∀u:Tm,ae [u]=[.agg [.int .i64 u.k,.str u.s,.int .i64 u.o,.aa false (ae u.l)]]:=λu=>by rw[ae,<-ar];rfl
 refine aI.x T6 Tryz.func168 rfl ?_;refine wA ?_;refine cU.zip T6 l (λp q L H=>∃v,L=[(1,.ptr 0 0 0 0),(3,v),(4,.int .i64 p.length)]/\HV H/\H[0]?=some ⟨.m,0,4,[.agg [.int .i64 k,.str s,.int .i64 o,.aa false (ae l)]]⟩/\((p=[]/\v=.aa true (ae [.mk k s o l])/\H=[⟨.m,0,4,[.agg [.int .i64 k,.str s,.int .i64 o,.aa false (ae l)]]⟩])\/(Out 4 H v (ae (.mk k s o l::cd p))/\∀ep n,v≠.ak 0 ep 0 n))) (.nx ⟨_,rfl,HV.one (by simp),rfl,.inl ⟨rfl,by rw[one],rfl⟩⟩) ?_ ?_
 ·rintro p u q _ H O e ⟨v,rfl,hH,h0,ho⟩;have cC:=ba e;have dp:=lenE e;have hi:=ih u (by rw[e];simp);rw[ar]at hi;have hpu:cd l=cd p++(pre u++cd q):=by rw[e,lM];simp[cd]
  have ME:=congrArg List.length hpu;simp only[ab3]at ME;have bO:(ae (pre u)).isEmpty=false:=by cases u;rfl
  have jt:dC 4 (ae (pre u)):=hC _;have hle:=ai (pre u);have lE:cd (p++[u])=cd p++pre u:=by rw[lM];simp[cd]
  refine wA ?_;refine .p hi ?_;rcases ho with⟨rfl,rfl,rfl⟩|⟨ho,Di⟩
  ·refine wA ?_;refine .sn ?_ bO (by rw[ai];simp;omega) rfl jt (hC _);refine wA ?_;have hv:∀(ep n:Nat) (m:Nat),(PV.ak 1 0 0 m:PV)≠.ak 0 ep 0 n:=λep n m h=>by cases h
   have e1:ae [Tm.mk k s o l]++ae (pre u)=ae (Tm.mk k s o l::cd ([]++[u])):=by rw[lE,<-bS];simp[cd]
   have e2:(ae [Tm.mk k s o l]).length+(ae (pre u)).length=(Tm.mk k s o l::cd ([]++[u])).length:=by rw[lE,ai,ai];simp[cd];omega
   refine .nx ⟨_,rfl,HV.yn (by simp) (by simp),rfl,.inr ⟨.inr ⟨1,0,?_,?_⟩,?_⟩⟩;rw[e2,<-ai];rfl;rw[<-e1];rfl;exact λep n=>hv ep n _
  ·have zX:=ai (Tm.mk k s o l::cd p);simp only[ab9]at zX;refine wG λv H lp=>?_;obtain⟨k1,k2⟩:=lp.obj h0 Di;exact .nx ⟨_,rfl,lp.hv,k1,.inr ⟨by have:=lp.out;rw[<-bS]at this;simpa[lE]using this,k2⟩⟩
 ·rintro _ H O ⟨v,rfl,hH,h0,ho⟩;refine wA ?_;rcases ho with⟨rfl,rfl,rfl⟩|⟨ho,_⟩;exact⟨_,rfl,by simp[aR,cj,pre,cd]⟩;exact Ls.Gy (.inl ho) (by simp) (by simp[pre])
theorem tZ(t:Tm)(hb:ax t<100000000):aI C 168 [enc t] (.aa false (ae (pre t))):=by
 induction t using Tm.ind with
 |h k s o l ih=>
  refine Xh k s o l hb λt ht=>ih t ht ?_;have:=bD ht;simp only[ax]at hb;omega
theorem Xi{l p q:List Tm}{u:Tm}{f:Tm->Bool}(e:l=p++u::q)(hu:f u=false):l.all f=false:=by rw[e];simp[hu]
theorem PZ(t:Tm):lq t=(decide (gY t=0)&& (pre t).all λu=>decide (u.k≠3)||um u.s):=by rw[lq,Io]
theorem Ip(t:Tm)(hb:ax t<100000000):aI C 189 [enc t] (.bool (lq t)):=by
 have h1:=qw t hb;have h2:=tZ t hb;have hf:=PZ t;have cz:=ai (pre t);have jR:=FJ t;rw[ar]at h1 h2 ⊢;refine aI.x T6 Tryz.func189 rfl ?_;refine wA ?_;refine .p h1 ?_;refine wC (λhc=>?_) λhc=>?_
 ·have hf:lq t=(pre t).all λu=>decide (u.k≠3)||um u.s:=by rw[hf];simp[*]
  refine .p h2 ?_;refine wA ?_;refine cU.zip T6 (pre t) (λp q L H=>L=[(3,.aa false (ae (pre t))),(4,.int .i64 p.length)]/\HV H/\∀u∈p,(decide (u.k≠3)||um u.s)=true) (.nx ⟨rfl,HV.one (by simp),λu hu=>by cases hu⟩) ?_ ?_
  ·rintro p u q _ H O e ⟨rfl,hH,hp⟩;have cC:=ba e;have dp:=lenE e;have ha:=AG u.s;have hk:=rc u.s;have zV:(decide (u.k≠3)||um u.s)=false->lq t=false:=λh=>by rw[hf];exact Xi e h
   have hnx:(decide (u.k≠3)||um u.s)=true->∀v∈p++[u],(decide (v.k≠3)||um v.s)=true:=λh v hv=>by
    rcases ab2.1 hv with h1 |h1;exact hp v h1;simp at h1;rw[h1];exact h
   refine wC (λhc=>?_) λhc=>?_
   ·refine .p ha ?_
    cases IT:nj u.s
    ·refine wA ?_;refine .p hk ?_;refine wC (λhc=>?_) λhc=>?_;exact⟨_,rfl,by rw[zV (by simp[um, *])];rfl⟩;exact .nx ⟨rfl,hH,hnx (by simp[um, *])⟩
    ·refine wA ?_;exact⟨_,rfl,by rw[zV (by simp[um, *])];rfl⟩
   exact .nx ⟨rfl,hH,hnx (by simp[*])⟩
  ·rintro _ H O ⟨rfl,hH,hp⟩;have ha:lq t=true:=by rw[hf,abX];exact hp
   refine wA ?_;exact⟨_,rfl,by rw[ha];rfl⟩
 exact⟨_,rfl,by rw[hf];simp[aR, *]⟩
end bC
open Go.Proofs
def atR(r:List Int)(c:Nat):Int:=r.getD c 0
def Kw(a b:List Int)(q:Int):List Int:=List.zipWith (λx y=>x - q * y) a b
def Vp(x:Int):Bool:=decide (-1099511627776<=x/\x<=1099511627776)
def small(r:List Int):Bool:=r.all Vp
theorem NO{a b:List Int}{q:Int}(h:a.length=b.length):(Kw a b q).length=a.length:=by simp[Kw,h]
structure Pr2 where
 d:Nat
 s:Nat
 a:List Int
 b:List Int
def Pr2.v(x:Pr2):PV:=.agg [.ak x.d 0 0 x.a.length,.ak x.s 0 0 x.b.length]
end Go.Pm
namespace Go.Pm
abbrev Row:=List Int×Bool
def k9(c:Nat)(R:Row):Bool:=!R.2&&decide (atR R.1 c≠0)
def Kx(c:Nat)(S:List Row):Nat:=(S.filter (k9 c)).length
structure An(c:Nat)(S:List Row)(bi:Nat)(b:List Int):Prop where
 at_:S[bi]?=some (b,false)
 nz:atR b c≠0
 min:∀(i:Nat) (R:Row),S[i]?=some R->k9 c R=true->(atR b c).natAbs<=(atR R.1 c).natAbs
 fst:∀(i:Nat) (R:Row),S[i]?=some R->k9 c R=true->i<bi->(atR b c).natAbs<(atR R.1 c).natAbs
theorem An.isc{c:Nat}{S:List Row}{bi:Nat}{b:List Int}(h:An c S bi b):k9 c (b,false)=true:=by simp[Pm.k9,h.nz]
def NP(c:Nat)(b:List Int)(R:Row):Row:=if k9 c R=true then(Kw R.1 b ((atR R.1 c).tdiv (atR b c)),R.2)else R
def vM(c:Nat)(b:List Int)(bi:Nat)(S:List Row):List Row:=S.mapIdx λi R=>if i=bi then R else NP c b R
def YW(S:List Row):Bool:=S.all λR=>small R.1
inductive T'(c:Nat):Nat->List Row->Option (List Row×Int)->Prop
 |zero {S:List Row}:Kx c S=0->T' c 0 S (some (S,-1))
 |one {S:List Row} {bi:Nat} {b:List Int}:An c S bi b->Kx c S=1->T' c 0 S (some (S.set bi (b,true),bi))
 |NQ {S:List Row} {bi:Nat} {b:List Int}:An c S bi b->2<=Kx c S->YW (vM c b bi S)=false->T' c 0 S none
 |step {S:List Row} {bi n:Nat} {b:List Int} {Rq:Option (List Row×Int)}:An c S bi b->2<=Kx c S->YW (vM c b bi S)=true->T' c n (vM c b bi S) Rq->T' c (n+1) S Rq
theorem Bc{c:Nat}{b:List Int}{bi:Nat}{S:List Row}{i:Nat}:(vM c b bi S)[i]?=(S[i]?).map λR=>if i=bi then R else NP c b R:=by
 unfold vM;rw[List.getElem?_mapIdx]
inductive El(n:Nat):Nat->List Row->List Int->Option (List Row×List Int)->Prop
 |done{S:List Row} {P:List Int}:El n n S P (some (S,P))
 |NQ {c k:Nat} {S:List Row} {P:List Int}:c<n->T' c k S none->El n c S P none
 |next {c k:Nat} {S S':List Row} {P:List Int} {i:Int} {Rq:Option (List Row×List Int)}:c<n->T' c k S (some (S',i))->El n (c+1) S' (P++[i]) Rq->El n c S P Rq
open Go.Proofs
set_option maxRecDepth 4000
structure Rw where
 r:Nat
 p:Nat
 c:Nat
 a:List Int
 b:List Int
 u:Bool
def Rw.m(R:Rw):Row:=(R.a++R.b,R.u)
def Rw.ids(R:Rw):List Nat:=[R.r,R.p,R.c]
def Rw.ptr(R:Rw):PV:=.ptr R.r 0 0 0
structure Vq(h:ab)(R:Rw):Prop where
 er:h[R.r]?=some ⟨.m,0,3,[.agg [.ak R.p 0 0 R.a.length,.ak R.c 0 0 R.b.length,.bool R.u]]⟩
 ea:h[R.p]?=some ⟨.m,0,1,gb R.a⟩
 eb:h[R.c]?=some ⟨.m,0,1,gb R.b⟩
def b9:PV->List Nat
 | .ak i _ _ _=>[i]
 |_=>[]
structure Lay(h:ab)(x:Nat)(cv rv pv:PV)(n k:Nat)(Rs:List Rw)(P:List Int)(lg:Bool):Prop where
 hr:HR h
 ex:h[x]?=some ⟨.m,0,4,[.agg [cv,rv,pv,.bool lg]]⟩
 er:Out 1 h rv (Rs.map Rw.ptr)
 ep:Out 1 h pv (gb P)
 at_:∀R∈Rs,Vq h R/\R.a.length=n/\R.b.length=k
 nd:(x::(b9 rv++(b9 pv++Rs.flatMap Rw.ids))).Nodup
theorem GM{n:Nat}:∀{p:PV},cN n p=true->bu (λi=>decide (i<n)) p=true:=by
 have one:∀{p:PV},dU n p=true->bu (λi=>decide (i<n)) p=true:=by
  intro p h
  unfold dU at h
  split at h
  simpa[bu]using h;simpa[bu]using h;exact xl _ _ h
 intro p h
 unfold cN at h
 split at h
 ·rename_i cs
  rw[bu,fX,abX];exact λc hc=>one (abX.1 h c hc)
 exact one h
theorem HR.take{h:ab}(H:HR h){n:Nat}(hn:n<=h.length)(hb:((h.take n).all λo=>o.es.all (cN n))=true):HR (h.take n):=by
 intro o ho
 refine⟨(H o (acI ho)).1,?_⟩;rw[acM,adU hn,fX,abX];exact λp hp=>GM (abX.1 (abX.1 hb o ho) p hp)
theorem aj.sm{C:cW}{f:FuncId}{args:List PV}{H:ab}{P Q:PV->ab->Prop}(a:ay C f args H P)(hl:∀r h',P r h'->HR h'/\H.length<=h'.length)(q1:∀r h',P r h'->Q r h')(q2:∀r h',P r h'->HR (h'.take H.length)->Q r (h'.take H.length))(hm:C.mode f=.opened:=by rfl):aj C 2 f args H Q:=by
 refine aj.opened hm (a.mono λr k hr=>?_)
 split
 ·rename_i hc
  rw[ab4]at hc;obtain⟨h1,h2⟩:=hl r k hr;exact q2 r k hr (h1.take h2 hc.2)
 exact q1 r k hr
theorem Out.of_eq{sz:Nat}{h h':ab}{v:PV}{es:List PV}(o:Out sz h v es)(he:∀i∈b9 v,h'[i]?=h[i]?):Out sz h' v es:=by
 rcases o with o |⟨id,ep,rfl,e⟩;exact .inl o;exact .inr ⟨id,ep,rfl,by rw[he id (by simp[b9])];exact e⟩
def Lay.all(x:Nat)(rv pv:PV)(Rs:List Rw):List Nat:=x::(b9 rv++(b9 pv++Rs.flatMap Rw.ids))
theorem Out.ls{sz:Nat}{h:ab}{v:PV}{es:List PV}(o:Out sz h v es):∀i∈b9 v,i<h.length:=by
 rcases o with⟨rfl,_⟩|⟨id,ep,rfl,e⟩;simp[b9]
 intro i hi;simp[b9]at hi;subst hi;exact ag e
theorem Vq.lt{h:ab}{R:Rw}(a:Vq h R):∀i∈R.ids,i<h.length:=by
 intro i hi
 simp only[Rw.ids,ab5,adh,or_false]at hi;rcases hi with rfl |rfl |rfl;exact ag a.er;exact ag a.ea;exact ag a.eb
theorem Lay.lt{h:ab}{x:Nat}{cv rv pv:PV}{n k:Nat}{Rs:List Rw}{P:List Int}{lg:Bool}(L:Lay h x cv rv pv n k Rs P lg):∀i∈Lay.all x rv pv Rs,i<h.length:=by
 intro i hi
 simp only[Lay.all,ab5,ab2,acL]at hi;rcases hi with rfl |hi |hi |⟨R,hR,hi⟩;exact ag L.ex;exact L.er.ls i hi;exact L.ep.ls i hi;exact(L.at_ R hR).1.lt i hi
theorem D7(c:Nat)(p:List Row)(R:Row):Kx c (p++[R])=Kx c p+if k9 c R=true then 1 else 0:=by
 unfold Kx;rw[adJ,ab3]
 congr 1
 by_cases h:k9 c R=true <;>simp[h]
theorem D8{c:Nat}{S:List Row}(h:Kx c S=0):∀R∈S,k9 c R=false:=by
 unfold Kx at h
 intro R hR
 cases hc:k9 c R with
 |false=>rfl
 |true=>
  have:R∈S.filter (k9 c):=acO.2 ⟨hR,hc⟩;rw[acd h]at this
  cases this
def BSt(c:Nat)(p:List Row)(best count:Int):Prop:=count=(Kx c p:Nat)/\((Kx c p=0/\best=-1)\/∃(bi:Nat) (b:List Int),best=bi/\An c p bi b)
theorem D9{p:List Row}{R Q:Row}{i:Nat}(h:(p++[R])[i]?=some Q):p[i]?=some Q\/(i=p.length/\Q=R):=by
 rcases adF i p.length with h1 |h1 |h1;rw[abW h1]at h;exact .inl h;subst h1;simp at h;exact .inr ⟨rfl,h.symm⟩;rw[ach (by simp;omega)]at h;cases h
theorem An.new{c:Nat}{p:List Row}{b:List Int}(hc:k9 c (b,false)=true)(h:∀Q∈p,k9 c Q=true->(atR b c).natAbs<(atR Q.1 c).natAbs):An c (p++[(b,false)]) p.length b where
 at_:=by simp
 nz:=by simpa[k9]using hc
 min i Q hQ hcQ:=by
  rcases D9 hQ with h1 |⟨rfl,rfl⟩;exact Nat.le_of_lt (h Q (acb h1) hcQ);exact abZ _
 fst i Q hQ hcQ hi:=by
  rcases D9 hQ with h1 |⟨rfl,rfl⟩;exact h Q (acb h1) hcQ;omega
theorem BSt.first{c:Nat}{p:List Row}{count:Int}{b:List Int}(h:BSt c p (-1) count)(hR:k9 c (b,false)=true):BSt c (p++[(b,false)]) p.length (count+1):=by
 obtain⟨h1,h2⟩:=h;rcases h2 with⟨a,_⟩|⟨bi,_,e,_⟩
 ·refine⟨by rw[D7,hR,if_pos rfl];omega,.inr ⟨_,b,rfl,An.new hR λQ hQ hc=>?_⟩⟩;rw[D8 a Q hQ]at hc;cases hc
 omega
structure Rf where
 i:Nat
 e:Nat
 r:List Int
 u:Bool
def Rf.v(z:Rf):PV:=.ak z.i z.e 0 z.r.length
def Rf.m(z:Rf):Row:=(z.r,z.u)
def Rf.b(z:Rf):PV:=.bool z.u
def I3(l:List Nat):List PV:=l.map λ(i:Nat)=>.int .i64 i
@[simp] theorem XB(l:List Nat):(I3 l).length=l.length:=by simp[I3]
@[simp] theorem Vr(l:List Nat):ao (I3 l)=true:=by induction l with |nil=>rfl |cons x l ih=>simpa[I3]using ih
structure RL(h:ab)(rv:PV)(iu eu w:Nat)(Z:List Rf):Prop where
 hr:HR h
 er:Out 1 h rv (Z.map Rf.v)
 eu:h[iu]?=some ⟨.m,eu,1,Z.map Rf.b⟩
 at_:∀z∈Z,h[z.i]?=some ⟨.m,z.e,1,gb z.r⟩/\z.r.length=w
def Qs(c:Nat)(S:List Row):List Nat:=(List.range S.length).filter λi=>match S[i]? with |some R=>k9 c R |none=>false
theorem NR(c:Nat)(p:List Row)(R:Row):Qs c (p++[R])=Qs c p++if k9 c R=true then[p.length]else[]:=by
 unfold Qs;rw[ab3,List.length_singleton,List.range_succ,adJ]
 congr 1
 ·apply List.filter_congr
  intro i hi
  rw[abW (adP.1 hi)]
 ·by_cases h:k9 c R=true <;>simp[h]
theorem NS{α:Type}{P:List α->Prop}(h0:P [])(hs:∀l a,P l->P (l++[a])):∀l,P l:=by
 intro l
 have:∀r:List α,P r.reverse:=by
  intro r
  induction r with
  |nil=>exact h0
  |cons a r ih=>rw[List.reverse_cons];exact hs _ _ ih
 simpa using this l.reverse
theorem Rp(c:Nat):∀S:List Row,(Qs c S).length=Kx c S:=by
 refine NS (P:=λS=>(Qs c S).length=Kx c S) rfl (λp R ih=>?_);rw[NR,D7,ab3,ih];by_cases h:k9 c R=true <;>simp[h]
theorem I2{c:Nat}{S:List Row}{i:Nat}:i∈Qs c S↔∃R,S[i]?=some R/\k9 c R=true:=by
 unfold Qs;rw[acO,adP]
 constructor
 ·rintro⟨h1,h2⟩;rw[ab1 h1]at h2;exact⟨_,ab1 h1,h2⟩
 ·rintro⟨R,h1,h2⟩;exact⟨ag h1,by rw[h1];exact h2⟩
theorem Out.bM{sz:Nat}{h:ab}{v:PV}{es:List PV}(o:Out sz h v es):Pm.bM v=true/\Pm.cells v=[v]:=by
 rcases o with⟨rfl,_⟩|⟨id,ep,rfl,_⟩ <;>exact⟨rfl,rfl⟩
theorem Out.bu{sz:Nat}{h:ab}{v:PV}{es:List PV}(o:Out sz h v es):Pm.bu (λi=>decide (i<h.length)) v=true:=by
 rcases o with⟨rfl,_⟩|⟨id,ep,rfl,e⟩
 rfl
 have:=ag e;simpa[Pm.bu]using this
theorem aj.fr{C:cW}{f:FuncId}{args:List PV}{H:ab}{P Q:PV->ab->Prop}(a:ay C f args H (λr h'=>HR h'/\H.length<=h'.length/\(∀j,j<H.length->h'[j]?=H[j]?)/\P r h'))(hP:∀r h',P r h'->dV H.length r=true->P r (h'.take H.length))
  (q:∀r h',HR h'->H.length<=h'.length->(∀j,j<H.length->h'[j]?=H[j]?)->P r h'->Q r h') (hm:C.mode f=.opened:=by rfl):aj C 2 f args H Q:=by
 refine aj.opened hm (a.mono λr k hr=>?_);obtain⟨r1,r2,r3,r4⟩:=hr
 split
 ·rename_i hc
  rw[ab4]at hc;exact q r _ (r1.take r2 hc.2) (by simp;omega) (λj hj=>by rw[acj,if_pos hj];exact r3 j hj) (hP r k r4 hc.1)
 exact q r k r1 r2 r3 r4
structure TB(H h:ab)(r6 iu w:Nat)(Vs:List Tm)(rv pv:PV)(Z:List Rf)(P:List Int):Prop where
 rl:RL h rv iu 0 w Z
 fr:∀j,j<H.length->h[j]?=H[j]?
 z0:h[H.length]?=some ⟨.m,0,3,[.agg [.aa true [],.aa true [],.aa true []]]⟩
 ex:h[r6]?=some ⟨.m,0,3,[.agg [.aa false (ae Vs),rv,pv]]⟩
 ep:Out 1 h pv (gb P)
 gt:∀i∈iu::(b9 rv++b9 pv),r6<i
 nd:(iu::(b9 rv++b9 pv)).Nodup
 zi:∀z∈Z,z.i∉iu::(b9 rv++b9 pv)/\r6<z.i
 h6:H.length<r6
theorem TB.lt{H h:ab}{r6 iu w:Nat}{Vs:List Tm}{rv pv:PV}{Z:List Rf}{P:List Int}(t:TB H h r6 iu w Vs rv pv Z P):∀i∈iu::(b9 rv++b9 pv),i<h.length:=by
 intro i hi
 simp only[ab5,ab2]at hi;rcases hi with rfl |hi |hi;exact ag t.rl.eu;exact t.rl.er.ls i hi;exact t.ep.ls i hi
theorem LR.b9{H h':ab}{v r:PV}{sz:Nat}{es:List PV}(l:LR H v sz es r h'):∀i∈Pm.b9 r,i∈Pm.b9 v\/H.length<=i:=by
 rcases l.out with⟨rfl,_⟩|⟨id,ep,rfl,_⟩
 intro i hi;simp[Pm.b9]at hi
 ·intro i hi
  simp only[Pm.b9,acv]at hi;subst hi;rcases l.ref i ep _ rfl with⟨iC,n',h⟩|h;exact .inl (by rw[h];simp[Pm.b9]);exact .inr h
end Go.Pm
namespace Go.Pm
set_option maxRecDepth 4000
theorem lG(ids:List Nat)(h:ab)(i:Nat):(cK ids h)[i]?=(h[i]?).map λo=>if ids.contains i then bY o else o:=by
 simp[cK,ace,ad3,aew,Function.comp_def]
theorem nI(ids:List Nat)(h h':ab)(i:Nat):(eG ids h h')[i]?=(h'[i]?).map λo=>if ids.contains i then(match h[i]? with |some o'=>o'|none=>o)else o:=by
 simp[eG,ace,ad3,aew,Function.comp_def]
 rfl
theorem DO{k k':ab}(hl:k.length<=k'.length)(hk:∀(j:Nat) (o:aw),k[j]?=some o->o.mu≠.m->k'[j]?=some o):nu k k'=k':=by
 apply ac9
 intro i
 unfold nu;have hz:(List.zipWith (λo o'=>if o.mu=.m then o' else o) k k').length=k.length:=by simp;omega
 by_cases hi:i<k.length
 ·rw[abW (by omega),ady];have e1:k[i]?=some k[i]:=ab1 hi;have e2:k'[i]?=some k'[i]:=ab1 (by omega);have:=hk i _ e1;rw[e1,e2];rw[e2]at this
  by_cases hm:k[i].mu=.m
  simp[hm];simp[hm,abV (this hm)]
 ·rw[ab6 (by omega),hz,acy]
  congr 1;omega
theorem uy{ids:List Nat}{h k:ab}(hk:∀(j:Nat) (o:aw),k[j]?=some o->o.mu≠.l\/(ids.contains j=true/\j<h.length)\/h[j]?=some o):rQ ids h k=true:=by
 unfold rQ;rw[abX];rintro⟨o,j⟩ hm;have hg:=List.mem_zipIdx_iff_getElem?.1 hm;rcases hk j o hg with h1 |⟨h1,h2⟩|h1;simp[h1];simp[List.contains_iff_mem.1 h1,h2]
 ·by_cases hl:o.mu=.l
  simp[h1,hl];simp[hl]
section
variable{C:cW}{run:iR}{ops:Array Oper}{b:List Nat}{h0:ab}{i:Nat}{L:Al}{O:Nat->PV}{h:ab}
theorem YA{d:Nat}{op:Op}{v:PV}{y:TypeId}{s:String}{a:Array Edge}(hh:di op=true)(hr:ie op=true)(hg:lP ops b h0 i (al L O) op=true)(e:aC C.P 1 op (al L O) h=some (v,h)):
  da C run ops b h0 i ⟨some d,op,y,s,a,none⟩ ⟨al L O,h⟩=some ⟨al ((d,v)::L) O,h⟩:=by
 unfold da;simp only[bA,hh,hr,hg,e,if_true,acH,if_false,cw]
theorem kBs{d:Nat}{op:Op}{v:PV}{y:TypeId}{s:String}{a:Array Edge}(hh:di op=true)(hr:ie op=false)(hb:jT op=true)(e:aC C.P 1 op (al L O) h=some (v,h)):
  da C run ops b h0 i ⟨some d,op,y,s,a,none⟩ ⟨al L O,h⟩=some ⟨al ((d,v)::L) O,h⟩:=by
 unfold da;simp only[bA,hh,hr,hb,e,if_true,acH,aca,if_false,cw]
theorem Xw{d:Nat}{op:Op}{v:PV}{h':ab}{y:TypeId}{s:String}{a:Array Edge}(hh:di op=true)(hr:ie op=false)(hb:jT op=false)(hl:jx ops b i false=true)(e:au C run 2 op (al L O) h=some (v,h'))(hle:h.length<=h'.length)(hk:∀(j:Nat) (o:aw),h[j]?=some o->o.mu≠.m->h'[j]?=some o):
  da C run ops b h0 i ⟨some d,op,y,s,a,none⟩ ⟨al L O,h⟩=some ⟨al ((d,v)::L) O,h'⟩:=by
 unfold da;simp only[bA,hh,hr,hb,hl,e,hle,if_true,acH,aca,if_false,cw,DO hle hk]
theorem kSt{op:Op}{v:PV}{h':ab}{y:TypeId}{s:String}{a:Array Edge}(hh:di op=true)(hr:ie op=false)(hb:jT op=false)(hl:jx ops b i false=true)(e:au C run 2 op (al L O) h=some (v,h'))(hle:h.length<=h'.length)(hk:∀(j:Nat) (o:aw),h[j]?=some o->o.mu≠.m->h'[j]?=some o):
  da C run ops b h0 i ⟨none,op,y,s,a,none⟩ ⟨al L O,h⟩=some ⟨al L O,h'⟩:=by
 unfold da;simp only[bA,hh,hr,hb,hl,e,hle,if_true,acH,aca,if_false,cm,DO hle hk]
end
theorem No{C:cW}(T:mD C.P){ops:Array Oper}{L:Al}{H:ab}{d0 d1 d2 d3 d4 d5 p q ip gu:Nat}{tl el:TypeId}{c:Operand}{z v:PV}{us es:List PV}
  {y0 y1 y2 y3 y4 y5 y6 y7:TypeId} {s0 s1 s2 s3 s4 s5 s6 s7:String} {a0 a1 a2 a3 a4 a5 a6 a7:Array Edge}
  (h2:H[ip]?=some ⟨.m,0,1,[v]⟩) (ho:Out 4 H v es) (hv:∀i∈b9 v,i≠ip) (hn:es.length<100000000) (Qr:us.length=4) (huo:us.all bM=true)
  (hp:lk L p=some (.ptr ip 0 0 0)) (hq:lk L q=some (.ptr H.length 0 0 0)) (hd:[p,q,d0,d1,d2,d3,d4,d5].Nodup)
  (vH:∀O,gT ops (before ops) (al L O)=[H.length])
  (Kf:ops.toList=[⟨some d0,.load tl (.tmp p),y0,s0,a0,none⟩,⟨some d1,.load el (.tmp q),y1,s1,a1,none⟩,⟨some d2,.call ⟨.builtin .len,#[.tmp d0],#[tl]⟩,y2,s2,a2,none⟩,
   ⟨some d3,.buildSlice tl 1 #[(0,c)],y3,s3,a3,none⟩,⟨some d4,.call ⟨.builtin .append,#[.tmp d0,.tmp d3],#[tl,tl]⟩,y4,s4,a4,none⟩,⟨some d5,.indexAddr tl (.tmp d4) (.tmp d2),y5,s5,a5,none⟩,
   ⟨none,.store el (.tmp d5) (.tmp d1),y6,s6,a6,none⟩,⟨none,.store tl (.tmp p) (.tmp d4),y7,s7,a7,none⟩])
  (FY:lO ops (before ops) 0=true) (hr5:lO ops (before ops) 5=true) (Ah:sinks ops (before ops)=some (.tmp d5,.tmp p))
  (c06:rP (before ops) 0 (ops.size - 2)=true) (c07:rP (before ops) 0 (ops.size - 1)=true) (c56:rP (before ops) 5 (ops.size - 2)=true)
  (dp:jx ops (before ops) 2 false=true) (Q9:jx ops (before ops) 4 false=true) (hl6:jx ops (before ops) 6 false=true) (hl7:jx ops (before ops) 7 false=true)
  (hk:T.kd tl=some (.sl el)) (hs:T.ts el=some 4) (ha:T.ta el=some true) (Dj:T.ts tl=some 1) (IV:T.ta tl=some false) (hb:T.tb el=some gu) (ju:gu<=1000) (hz:T.tz el=some z) (Ra:(cells z).length=4) (Xx:(cells z).all bM=true)
  (IS:∀(O:Nat->PV) (h:ab),dI C.P 1 h tl 1 [(0,ev O c)]=some (.aa true [z],h)):
  ∃id ep,∃h':ab,(∀run O,jy C run ops ⟨al L O,H++[⟨.m,0,4,[.agg us]⟩]⟩=some ⟨al ([(d5,.ptr id ep es.length 0),(d4,.ak id ep 0 (es.length+1)),(d3,.aa true [z]),(d2,.int .i64 es.length),(d1,.agg us),(d0,v)]++L) O,h'⟩)/\
   H.length+1<=h'.length/\id≠ip/\id≠H.length/\(id∈b9 v\/H.length<id)/\h'[id]?=some ⟨.m,ep,4,es++[.agg us]⟩/\h'[ip]?=some ⟨.m,0,1,[.ak id ep 0 (es.length+1)]⟩/\
   ∀j,j≠id->j≠ip->h'[j]?=(H++[⟨.m,0,4,[.agg us]⟩])[j]?:=by
 have YB:=ag h2;simp only[List.nodup_cons,ab5,adh,or_false,not_or,not_false_eq_true,List.nodup_nil,and_true]at hd;obtain⟨⟨e1,e2,e3,e4,e5,e6,e7⟩,⟨f2,f3,f4,f5,f6,f7⟩,⟨g3,g4,g5,g6,g7⟩,⟨i4,i5,i6,i7⟩,⟨j5,j6,j7⟩,⟨m6,m7⟩,l7⟩:=hd;have ap:∀O,al L O p=.ptr ip 0 0 0:=dJ hp;have aq:∀O,al L O q=.ptr H.length 0 0 0:=dJ hq;have hvc:=ho.bM
 let lb:aw:=⟨.l,0,4,[.agg us]⟩
 have YC:cK [H.length] (H++[⟨.m,0,4,[.agg us]⟩])=H++[lb]:=by
  apply ac9
  intro i
  rw[lG]
  by_cases hi:i<H.length
  ·rw[abW hi,abW hi];have:([H.length].contains i)=false:=by simp;omega
   simp only[this,aca,if_false,aeh]
  ·rw[ab6 (by omega),ab6 (by omega)]
   by_cases h0:i=H.length
   subst h0;simp[bY,lb]
   ·have:i - H.length≠0:=by omega
    obtain⟨m,hm⟩:∃m,i - H.length=m+1:=⟨i - H.length - 1,by omega⟩;rw[hm];simp
 obtain⟨id,ep,k4,oA,hk4,aar,U4,YD,aas,U5,aat⟩:∃id ep,∃k4:ab,bT C.P 2 (H++[lb]) tl tl v (.aa true [z])=some (.ak id ep 0 (es.length+1),k4)/\k4[id]?=some ⟨.m,ep,4,es++[z]⟩/\(H++[lb]).length<=k4.length/\id≠ip/\id≠H.length/\(id∈b9 v\/H.length<id)/\(∀j,j≠id->k4[j]?=(H++[lb])[j]?)/\∀o,(H++[lb])[id]?=some o->o.mu=.m:=by
  have jt:dC (3+1) [z]:=by simp[dC,Ra,abX.1 Xx];exact λx hx=>abX.1 Xx x hx
  rcases ho with⟨rfl,rfl⟩|⟨id,ep,rfl,bZ⟩
  ·refine⟨_,_,_,gJ T (lv:=2) (by omega) hk hk hs hb hz ju Ra Xx jt rfl (by simp),?_,?_,?_,?_,?_,?_,?_⟩;simp;simp;simp;omega;simp
   ·right;simp
   ·intro j hj
    by_cases vJ:j<(H++[lb]).length
    rw[abW vJ];rw[ach (by simp at hj vJ ⊢;omega),ach (by omega)]
   intro o h;rw[ach (by omega)]at h;cases h
  ·have cM:=ag bZ;have wN:(H++[lb])[id]?=some ⟨.m,ep,4,es⟩:=by rw[abW cM];exact bZ
   have:=lH T (h:=H++[lb]) (full:=true) (len:=es.length) (ys:=[z]) hk hk hs hb hz ju Ra Xx jt rfl (by simp;omega) (bp wN rfl (by simp)) rfl rfl (abZ _);refine⟨id,ep+1,_,this,?_,?_,?_,?_,?_,?_,?_⟩;rw[abY (by simp;omega)];simp;simp;exact hv id (by simp[b9]);omega
   ·left;simp[b9]
   intro j hj;rw[ab0 (by omega)]
   intro o h;rw[wN]at h;cases h;rfl
 have aau:=ag hk4;have YE:k4[ip]?=some ⟨.m,0,1,[v]⟩:=by rw[U5 ip (by omega),abW YB];exact h2
 let k6:ab:=k4.set id ⟨.m,ep,4,es++[.agg us]⟩
 let k7:ab:=k6.set ip ⟨.m,0,1,[.ak id ep 0 (es.length+1)]⟩
 have hk5:∀j,j≠id->j≠ip->k7[j]?=(H++[lb])[j]?:=λj h1 h2=>by
  show((k4.set id _).set ip _)[j]?=_;rw[ab0 (by omega),ab0 (by omega),U5 j h1]
 have YF:k6[ip]?=some ⟨.m,0,1,[v]⟩:=by rw[ab0 (by omega)];exact YE
 have YG:k7[ip]?=some ⟨.m,0,1,[.ak id ep 0 (es.length+1)]⟩:=abY (by show ip<(k4.set id _).length;rw[aer];exact ag YE);have YH:k7[id]?=some ⟨.m,ep,4,es++[.agg us]⟩:=by rw[ab0 (by omega)];exact abY aau
 have abz:k7.length=k4.length:=by simp[k7,k6]
 have xe:(H++[lb]).length=H.length+1:=by simp
 have Np:(H++[lb])[H.length]?=some lb:=by simp
 have kk4:∀(j:Nat) (o:aw),(H++[lb])[j]?=some o->o.mu≠.m->k4[j]?=some o:=λj o h hm=>by
  by_cases hj:j=id
  subst hj;exact absurd (aat o h) hm;rw[U5 j hj];exact h
 have kk6:∀(j:Nat) (o:aw),k4[j]?=some o->o.mu≠.m->k6[j]?=some o:=λj o h hm=>by
  by_cases hj:j=id
  subst hj;rw[hk4]at h;cases h;exact absurd rfl hm;rw[ab0 (by omega)];exact h
 have kk7:∀(j:Nat) (o:aw),k6[j]?=some o->o.mu≠.m->k7[j]?=some o:=λj o h hm=>by
  by_cases hj:j=ip
  subst hj;rw[YF]at h;cases h;exact absurd rfl hm;rw[ab0 (by omega)];exact h
 have zV:rQ [H.length] (H++[⟨.m,0,4,[.agg us]⟩]) k7=true:=uy λj o h=>by
  by_cases hj:j=id
  subst hj;rw[YH]at h;cases h;exact .inl (by simp)
  by_cases vJ:j=ip
  subst vJ;rw[YG]at h;cases h;exact .inl (by simp)
  by_cases YI:j=H.length
  exact .inr (.inl ⟨by simp[YI],by simp;omega⟩);rw[hk5 j hj vJ]at h;have cM:=ag h;rw[xe]at cM;rw[abW (by omega)]at h;exact .inr (.inr (by rw[abW (by omega)];exact h))
 have kV:∀j,(eG [H.length] (H++[⟨.m,0,4,[.agg us]⟩]) k7)[j]?=if j=H.length then some ⟨.m,0,4,[.agg us]⟩else k7[j]?:=λj=>by
  rw[nI]
  by_cases hj:j=H.length
  ·subst hj;rw[hk5 _ (by omega) (by omega),Np,if_pos rfl];simp
  ·rw[if_neg hj];have:([H.length].contains j)=false:=by simp;omega
   simp only[this,aca,if_false,aeh]
 refine⟨id,ep,eG [H.length] (H++[⟨.m,0,4,[.agg us]⟩]) k7,λrun O=>?_,?_,U4,YD,aas,?_,?_,?_⟩
 rotate_left
 ·have:(eG [H.length] (H++[⟨.m,0,4,[.agg us]⟩]) k7).length=k7.length:=by simp[eG]
  omega
 rw[kV,if_neg YD];exact YH;rw[kV,if_neg (by omega)];exact YG
 ·intro j h1 h2
  rw[kV]
  by_cases hj:j=H.length
  subst hj;rw[if_pos rfl];simp
  ·rw[if_neg hj,hk5 j h1 h2]
   by_cases vJ:j<H.length
   rw[abW vJ,abW vJ];rw[ach (by simp;omega),ach (by simp;omega)]
 unfold jy;rw[vH,YC,Kf];dsimp only
 have pc:∀{h:ab} {i:Nat} {mm:Mu} {e' n:Nat} {xs:List PV} {x:PV},h[i]?=some ⟨mm,e',n,xs⟩->mm≠.x->xs[0]?=some x->cT h (.ptr i e' 0 0)=some (cells x):=λ{h i mm e' n xs x} q1 q2 q3=>by
  simp[cT,getM,q1,q2,q3]
 have L0:ja C.P (H++[lb]) tl (.ptr ip 0 0 0)=some v:=by
  refine sU T ?_;have:cT (H++[lb]) (.ptr ip 0 0 0)=some (cells v):=pc (mm:=.m) (by rw[abW YB];exact h2) (by simp) rfl;rw[hvc.2]at this;simp only[loadT,Dj,IV,this]
 have L1:ja C.P (H++[lb]) el (.ptr H.length 0 0 0)=some (.agg us):=by
  refine sU T ?_;have:cT (H++[lb]) (.ptr H.length 0 0 0)=some us:=pc (mm:=.l) (x:=.agg us) Np (by simp) rfl;simp only[loadT,hs,ha,this];rw[if_pos (by rw[Qr];rfl),acu (by omega)]
 have L2:pO C.P (H++[lb]) tl v=some (.int .i64 es.length):=by
  rcases ho with⟨rfl,rfl⟩|⟨id,ep,rfl,bZ⟩;simp only[pO,bB (T.cY _ _ hk)]
  ·have wN:(H++[lb])[id]?=some ⟨.m,ep,4,es⟩:=by rw[abW (ag bZ)];exact bZ
   simp only[pO,bB (T.cY _ _ hk),bp wN rfl (by simp)];rw[if_pos (by show 0+es.length<=es.length;omega)]
 have L5:cJ C.P k4 tl (.ak id ep 0 (es.length+1)) (.int .i64 es.length)=some (.ptr id ep es.length 0):=by
  simp only[cJ,bB (T.cY _ _ hk),T.ez _ _ hs,bp hk4 rfl (by simp)];rw[if_pos ⟨by omega,by omega,trivial,by simp⟩];simp
 have L6:im C.P k4 el (.ptr id ep es.length 0) (.agg us)=some k6:=by
  have hg:getM k4 id ep=some ⟨.m,ep,4,es++[z]⟩:=bp hk4 rfl (by simp);have cC:(es++[z])[es.length]?=some z:=by simp
  simp only[im,T.ez _ _ hs,hg,cC];rw[if_pos ⟨trivial,Qr,huo,by rw[Ra];omega⟩];have hr:fE 0 4 z (.agg us)=.agg us:=by unfold fE;rw[if_pos ⟨rfl,Ra.symm⟩]
  rw[hr];simp[k6]
 have L7:im C.P k6 tl (.ptr ip 0 0 0) (.ak id ep 0 (es.length+1))=some k7:=by
  have hg:getM k6 ip 0=some ⟨.m,0,1,[v]⟩:=bp YF rfl (by simp);have cC:([v]:List PV)[0]?=some v:=rfl;simp only[im,T.ez _ _ Dj,hg,cC];rw[if_pos ⟨trivial,rfl,rfl,by rw[hvc.2];simp⟩];have hr:fE 0 1 v (.ak id ep 0 (es.length+1))=.ak id ep 0 (es.length+1):=by unfold fE;rw[if_pos ⟨rfl,by rw[hvc.2];rfl⟩]
  rw[hr];simp[k7]
 have G0:lP ops (before ops) (H++[lb]) 0 (al L O) (.load tl (.tmp p))=true:=by
  simp only[lP,sJ,ev,ap,FY,B8,Ah,c06,c07,aed,aek,Bool.or_true]
 have G1:lP ops (before ops) (H++[lb]) 1 (al ((d0,v)::L) O) (.load el (.tmp q))=true:=by
  simp[lP,sJ,ev,al,f2,aq,pP,lb]
 have aav:(ops.toList.any λo=>o.dst==some p)=false:=by
  rw[Kf];simp[acS e2,acS e3,acS e4,acS e5,acS e6,acS e7]
 have G5:lP ops (before ops) (H++[lb]) 5 (al ((d4,.ak id ep 0 (es.length+1))::(d3,.aa true [z])::(d2,.int .i64 es.length)::(d1,.agg us)::(d0,v)::L) O) (.indexAddr tl (.tmp d4) (.tmp d2))=true:=by
  have:Gc ops (al ((d4,.ak id ep 0 (es.length+1))::(d3,.aa true [z])::(d2,.int .i64 es.length)::(d1,.agg us)::(d0,v)::L) O) (.tmp p) id=true:=by
   simp[Gc,aav,ev,al,e2,e3,e4,e5,e6,ap,acS U4]
  have h4:ev (al ((d4,.ak id ep 0 (es.length+1))::(d3,.aa true [z])::(d2,.int .i64 es.length)::(d1,.agg us)::(d0,v)::L) O) (.tmp d4)=.ak id ep 0 (es.length+1):=by simp[ev,al]
  simp only[lP,sJ,h4,hr5,B8,Ah,c56,aed,ada,this,Bool.or_true]
 have nJ:cx C run ops (before ops) (H++[lb]) 0 [⟨some d0,.load tl (.tmp p),y0,s0,a0,none⟩,⟨some d1,.load el (.tmp q),y1,s1,a1,none⟩,⟨some d2,.call ⟨.builtin .len,#[.tmp d0],#[tl]⟩,y2,s2,a2,none⟩,
   ⟨some d3,.buildSlice tl 1 #[(0,c)],y3,s3,a3,none⟩,⟨some d4,.call ⟨.builtin .append,#[.tmp d0,.tmp d3],#[tl,tl]⟩,y4,s4,a4,none⟩,⟨some d5,.indexAddr tl (.tmp d4) (.tmp d2),y5,s5,a5,none⟩,
   ⟨none,.store el (.tmp d5) (.tmp d1),y6,s6,a6,none⟩,⟨none,.store tl (.tmp p) (.tmp d4),y7,s7,a7,none⟩] ⟨al L O,H++[lb]⟩=some ⟨al ([(d5,.ptr id ep es.length 0),(d4,.ak id ep 0 (es.length+1)),(d3,.aa true [z]),(d2,.int .i64 es.length),(d1,.agg us),(d0,v)]++L) O,k7⟩:=by
  rw[cx,YA rfl rfl G0 (v:=v) (by simp only[aC,ev,ap,L0,Option.map_some])];dsimp only;rw[cx,YA rfl rfl G1 (v:=.agg us) (by simp only[aC,ev,al,f2,if_false,aq,L1,Option.map_some])];dsimp only;rw[cx,Xw rfl rfl rfl dp (v:=.int .i64 es.length) (h':=H++[lb]) (by simp[au,bt,ev,al,g3,L2]) (Nat.le_refl _) (λ_ _ h _=>h)];dsimp only;rw[cx,kBs rfl rfl rfl (v:=.aa true [z]) (by simp only[aC,List.map_cons,List.map_nil,IS])];dsimp only;rw[cx,Xw rfl rfl rfl Q9 (v:=.ak id ep 0 (es.length+1)) (h':=k4) (by simp[au,bt,ev,al,g3,g4,g5,oA]) aar kk4];dsimp only;rw[cx,YA rfl rfl G5 (v:=.ptr id ep es.length 0) (by simp[aC,ev,al,j5,j6,L5])];dsimp only;rw[cx,kSt rfl rfl rfl hl6 (v:=.undef) (h':=k6) (by simp[au,aC,ev,al,i4,i5,i6,i7,L6]) (by simp[k6]) kk6];dsimp only;rw[cx,kSt rfl rfl rfl hl7 (v:=.undef) (h':=k7) (by simp[au,aC,ev,al,e2,e3,e4,e5,e6,e7,l7,ap,L7]) (by simp[k7]) kk7]
  rfl
 rw[nJ];dsimp only
 have Ni:rR ops (before ops) (al ([(d5,.ptr id ep es.length 0),(d4,.ak id ep 0 (es.length+1)),(d3,.aa true [z]),(d2,.int .i64 es.length),(d1,.agg us),(d0,v)]++L) O)=true:=by
  simp[rR,Ah,ev,al,e2,e3,e4,e5,e6,e7,ap,U4]
 rw[if_pos ⟨zV,Ni⟩]
theorem YJ{C:cW}(T:mD C.P){tl:TypeId}{c:Operand}{z:PV}(x:Ai T tl 1 [(0,c)] [] (λ_ es=>es=[z]))(hv:ao [z]=true)(O:Nat->PV)(h:ab):dI C.P 1 h tl 1 [(0,ev O c)]=some (.aa true [z],h):=by
 obtain⟨sz,es,rfl,e⟩:=nK T x;have:=e O h 1;rw[if_pos hv]at this;exact this
structure Apd(H:ab)(ip:Nat)(v:PV)(es us:List PV)(id ep:Nat)(h':ab):Prop where
 len:H.length+1<=h'.length
 idp:id≠ip
 idn:id≠H.length
 idv:id∈b9 v\/H.length<id
 at':h'[id]?=some ⟨.m,ep,4,es++[.agg us]⟩
 var:h'[ip]?=some ⟨.m,0,1,[.ak id ep 0 (es.length+1)]⟩
 fr:∀j,j≠id->j≠ip->h'[j]?=(H++[⟨.m,0,4,[.agg us]⟩])[j]?
theorem T0.apd{C:cW}{T:mD C.P}{ops:Array Oper}{L:Al}{H:ab}{Q:Al->ab->Prop}{d0 d1 d2 d3 d4 d5 p q ip gu:Nat}{tl el:TypeId}{c:Operand}{z v:PV}{us es:List PV}
  {y0 y1 y2 y3 y4 y5 y6 y7:TypeId} {s0 s1 s2 s3 s4 s5 s6 s7:String} {a0 a1 a2 a3 a4 a5 a6 a7:Array Edge}
  (h2:H[ip]?=some ⟨.m,0,1,[v]⟩) (ho:Out 4 H v es) (hv:∀i∈b9 v,i≠ip) (hn:es.length<100000000)
  (kk:∀id ep h',Apd H ip v es us id ep h'->Rn (Q ([(d5,.ptr id ep es.length 0),(d4,.ak id ep 0 (es.length+1)),(d3,.aa true [z]),(d2,.int .i64 es.length),(d1,.agg us),(d0,v)]++L) h'))
  (Kf:ops.toList=[⟨some d0,.load tl (.tmp p),y0,s0,a0,none⟩,⟨some d1,.load el (.tmp q),y1,s1,a1,none⟩,⟨some d2,.call ⟨.builtin .len,#[.tmp d0],#[tl]⟩,y2,s2,a2,none⟩,
   ⟨some d3,.buildSlice tl 1 #[(0,c)],y3,s3,a3,none⟩,⟨some d4,.call ⟨.builtin .append,#[.tmp d0,.tmp d3],#[tl,tl]⟩,y4,s4,a4,none⟩,⟨some d5,.indexAddr tl (.tmp d4) (.tmp d2),y5,s5,a5,none⟩,
   ⟨none,.store el (.tmp d5) (.tmp d1),y6,s6,a6,none⟩,⟨none,.store tl (.tmp p) (.tmp d4),y7,s7,a7,none⟩]:=by rfl)
  (Qr:us.length=4:=by rfl) (huo:us.all bM=true:=by rfl)
  (hp:lk L p=some (.ptr ip 0 0 0):=by rfl) (hq:lk L q=some (.ptr H.length 0 0 0):=by rfl) (hd:[p,q,d0,d1,d2,d3,d4,d5].Nodup:=by decide)
  (vH:∀O,gT ops (before ops) (al L O)=[H.length]:=by intro _;rfl)
  (FY:lO ops (before ops) 0=true:=by rfl) (hr5:lO ops (before ops) 5=true:=by rfl) (Ah:sinks ops (before ops)=some (.tmp d5,.tmp p):=by rfl)
  (c06:rP (before ops) 0 (ops.size - 2)=true:=by rfl) (c07:rP (before ops) 0 (ops.size - 1)=true:=by rfl) (c56:rP (before ops) 5 (ops.size - 2)=true:=by rfl)
  (dp:jx ops (before ops) 2 false=true:=by rfl) (Q9:jx ops (before ops) 4 false=true:=by rfl) (hl6:jx ops (before ops) 6 false=true:=by rfl) (hl7:jx ops (before ops) 7 false=true:=by rfl)
  (hk:T.kd tl=some (.sl el):=by rfl) (hs:T.ts el=some 4:=by rfl) (ha:T.ta el=some true:=by rfl) (Dj:T.ts tl=some 1:=by rfl) (IV:T.ta tl=some false:=by rfl) (hb:T.tb el=some gu:=by rfl) (ju:gu<=1000:=by decide) (hz:T.tz el=some z:=by rfl) (Ra:(cells z).length=4:=by rfl) (Xx:(cells z).all bM=true:=by rfl)
  (hx:Ai T tl 1 [(0,c)] [] (λ_ es=>es=[z]):=by exact rfl) (hxv:ao [z]=true:=by rfl) (aaw:sL ops=true:=by rfl):T0 T ops L (H++[⟨.m,0,4,[.agg us]⟩]) Q:=by
 obtain⟨id,ep,h',e,q1,q2,q3,q4,q5,q6,q7⟩:=No T h2 ho hv hn Qr huo hp hq hd vH Kf FY hr5 Ah c06 c07 c56 dp Q9 hl6 hl7 hk hs ha Dj IV hb ju hz Ra Xx (YJ T hx hxv);exact .calm _ h' e (kk id ep h' ⟨q1,q2,q3,q4,q5,q6,q7⟩) aaw
namespace bC
open Go.Proofs
attribute [local irreducible] aD az aL aJ Ev ah aj ay bg bN
theorem K5{h:ab}{v:PV}{k o:Int}{s:ByteArray}{es:List PV}(ho:Out 4 h v es)(hv:ao es=true)(hn:aQ es=es):∃r1,rb h (aR [.agg [.int .i64 k,.str s,.int .i64 o,v]])=some r1/\cj r1=.agg [.int .i64 k,.str s,.int .i64 o,.aa false es]:=by
 obtain⟨r,h1,h2⟩:∃r,pD h v=some r/\cj r=.aa false es:=by
  rcases ho with⟨rfl,rfl⟩|⟨id,ep,rfl,e2⟩;exact⟨_,rfl,rfl⟩;exact⟨.aa false es,by simp[pD,getM,e2,hv],by simp[cj,hn]⟩
 refine⟨.agg [.int .i64 k,.str s,.int .i64 o,r],?_,by simp[cj,aQ,h2]⟩;simp only[aR,rb,jP,oJ,h1]
 rfl
theorem x4(k s o l)(hl:l.length<100000000)(ih:∀t∈l,aI C 179 [enc t] (enc t)):aI C 179 [enc (.mk k s o l)] (enc (.mk k s o l)):=by
 have cz:=ai l;rw[bh];refine aI.x T6 Tryz.func179 rfl ?_;refine wA ?_
 have FY:HR [⟨.m,0,4,[.agg [.int .i64 k,.str s,.int .i64 o,.aa true []]]⟩,⟨.m,0,4,[.agg [.int .i64 0,.str ByteArray.empty,.int .i64 0,.aa true []]]⟩]:=by
  intro x hx
  simp at hx;rcases hx with rfl |rfl <;>simp[bG,bu]
 refine cU.zip T6 l (λp q L H=>∃v,L=[(1,.ptr 0 0 0 0),(2,.ptr 1 0 0 0),(9,.aa false (ae l)),(10,.int .i64 (ae l).length),(11,.int .i64 p.length)]/\HR H/\H[0]?=some ⟨.m,0,4,[.agg [.int .i64 k,.str s,.int .i64 o,v]]⟩/\H[1]?=some ⟨.m,0,4,[.agg [.int .i64 0,.str ByteArray.empty,.int .i64 0,.aa true []]]⟩/\Out 4 H v (ae p)/\∀i∈b9 v,2<=i) (.nx ⟨_,rfl,FY,rfl,rfl,.inl ⟨rfl,rfl⟩,by simp[b9]⟩) ?_ ?_
 ·rintro p u q _ H O e ⟨v,rfl,hH,h0,h1,ho,hv⟩;have cC:=ba e;have dp:=lenE e;have hi:=ih u (by rw[e];simp);have hle:=ai p;have pE:HR (H++[⟨.m,0,4,[.agg [.int .i64 u.k,.str u.s,.int .i64 u.o,.aa false (ae u.l)]]⟩]):=hH.du (HV.one (by simp));have x7:=ho.db [⟨.m,0,4,[.agg [.int .i64 u.k,.str u.s,.int .i64 u.o,.aa false (ae u.l)]]⟩];have Cj:=ag h1;have lE:ae p++[.agg [.int .i64 u.k,.str u.s,.int .i64 u.o,.aa false (ae u.l)]]=ae (p++[u]):=by rw[bS,<-ar];rfl
  rw[ar]at hi;refine wA ?_;refine .p hi ?_;refine wA ?_;refine .lr (λv' h' lr=>?_) x7;have Cs:∀j,j<2->∀ep n,v≠.ak j ep 0 n:=λj hj ep n hh=>by have:=hv j (by rw[hh];simp[b9]);omega
  have g0:=(lr.fr 0 (by simp) (Cs 0 (by omega))).trans ((abW (by omega)).trans h0);have g1:=(lr.fr 1 (by simp;omega) (Cs 1 (by omega))).trans ((abW (by omega)).trans h1);have hr3:=lr.hr
  have Ul:∀i∈b9 v',2<=i:=λi hi=>by
   rcases lr.b9 i hi with h |h;exact hv i h;simp at h;omega
  have lo:=lr.out;rw[lE]at lo;have RT:=lo.bu;rcases lo with⟨_,hx⟩|⟨id,ep,rfl,bZ⟩
  ·have:=congrArg List.length hx;rw[ai]at this;simp at this
  have k0:=ag g0;refine wA ?_;have QW:=Ul id (by simp[b9]);exact .nx ⟨_,rfl,hr3.set _ (by simp) (by simpa[bG,bu]using RT),abY k0,(ab0 (by omega)).trans g1,.inr ⟨id,ep,rfl,(ab0 (by omega)).trans bZ⟩,Ul⟩
 ·rintro _ H O ⟨v,rfl,hH,h0,h1,ho,hv⟩;have k1:=ag h1;have e2:=abY (a:=(⟨.m,0,4,[.agg [.int .i64 k,.str s,.int .i64 o,v]]⟩:aw)) k1;have Ck:Out 4 (H.set 1 ⟨.m,0,4,[.agg [.int .i64 k,.str s,.int .i64 o,v]]⟩) v (ae l):=ho.of_eq λi hi=>ab0 (by have:=hv i hi;omega)
  rcases ho with⟨rfl,he⟩|⟨id,ep,rfl,bZ⟩
  ·refine wA ?_;refine .mk ?_ (mg (T:=T6) rfl e2 rfl rfl rfl rfl);exact⟨K5 Ck (by simp) (by simp)⟩
  ·refine wA ?_;refine .mk ?_ (mg (T:=T6) rfl e2 rfl rfl rfl rfl);exact⟨K5 Ck (by simp) (by simp)⟩
theorem nL(t:Tm)(hb:ax t<100000000):aI C 179 [enc t] (enc t):=by
 induction t using Tm.ind with
 |h k s o l ih=>
  have:=aY l;simp only[ax]at hb;exact x4 k s o l (by omega) λt ht=>ih t ht (by have:=bD ht;omega)
structure KS(H:ab)(v:PV)(a:List Tm)(h':ab):Prop where
 hr:HR h'
 len:H.length<=h'.length
 var:∃v',h'[2]?=some ⟨.m,0,1,[v']⟩/\Out 4 h' v' (ae a)/\∀i∈b9 v',i∈b9 v\/H.length<=i
 fr:∀j,j<H.length->j≠2->j∉b9 v->h'[j]?=H[j]?
theorem KS.take{H h':ab}{v:PV}{a:List Tm}(s:KS H v a h')(h3:3<=H.length)(hr:HR (h'.take H.length)):KS H v a (h'.take H.length):=by
 have hl:=s.len;have cM:(h'.take H.length).length=H.length:=by simp;omega
 obtain⟨v',e1,e2,e3⟩:=s.var;have g1:(h'.take H.length)[2]?=some ⟨.m,0,1,[v']⟩:=by rw[acG (by omega)];exact e1
 have iv:=(hr _ (acb g1)).2;refine⟨hr,by omega,⟨v',g1,e2.of_eq λi hi=>?_,e3⟩,λj h1 h2 h3=>by rw[acG (by omega)];exact s.fr j h1 h2 h3⟩;rw[acG];rcases e2 with⟨rfl,_⟩|⟨id,ep,rfl,_⟩;simp[b9]at hi
 ·simp[b9]at hi;subst hi;simp[bG,bu]at iv;omega
theorem KS.trans{H h1 h2:ab}{v v1:PV}{a b:List Tm}(s:KS H v a h1)(e:h1[2]?=some ⟨.m,0,1,[v1]⟩)(t:KS h1 v1 b h2):KS H v b h2:=by
 obtain⟨v',q1,q2,q3⟩:=s.var;rw[q1]at e
 cases e
 obtain⟨v2,r1,r2,r3⟩:=t.var;have:=s.len;refine⟨t.hr,acR s.len t.len,⟨v2,r1,r2,λi hi=>?_⟩,λj h1 h2 h3=>?_⟩
 ·rcases r3 i hi with h |h;exact q3 i h;omega
 ·rw[t.fr j (by omega) h2 (λhh=>by rcases q3 j hh with h |h;exact h3 h;omega)];exact s.fr j h1 h2 h3
theorem aj.ks{f:FuncId}{args:List PV}{H:ab}{v:PV}{b:List Tm}{Q:PV->ab->Prop}(a:ay C f args H (λr h'=>r=.cA []/\KS H v b h'))(h3:3<=H.length)(q:∀h',KS H v b h'->Q (.cA []) h')(hm:C.mode f=.opened:=by rfl):aj C 2 f args H Q:=
 aj.sm a (λr h' p=>⟨p.2.hr,p.2.len⟩) (λr h' p=>by rw[p.1];exact q h' p.2) (λr h' p hr=>by rw[p.1];exact q _ (p.2.take h3 hr)) hm
theorem Tw(u:Tm)(n:Int)(H:ab)(v:PV)(a:List Tm)(hH:HR H)(h1:H[1]?=some ⟨.m,0,1,[.int .i64 n]⟩)(h2:H[2]?=some ⟨.m,0,1,[v]⟩)(ho:Out 4 H v (ae a))(hv:∀i∈b9 v,3<=i)(hn:a.length<100000000):
  ay C 154 [enc u,.ptr 1 0 0 0,.ptr 2 0 0 0] H (λr h'=>r=.cA []/\KS H v (a++if u.k=n then[u]else[]) h'):=by
 have hle:=ai a;have cM:=ag h2;have hu:ae a++[.agg [.int .i64 u.k,.str u.s,.int .i64 u.o,.aa false (ae u.l)]]=ae (a++[u]):=by rw[bS,<-ar];rfl
 rw[ar];refine ay.x T6 Tryz.func154 rfl ?_;refine wC (λhc=>?_) λhc=>?_
 ·refine T0.apd h2 ho (λi hi=>by have:=hv i hi;omega) (by omega) (λid ep h' ap=>?_);refine wA ?_;refine⟨rfl,?_⟩;rw[if_pos hc];have hl:=ap.len;have bZ:=ag ap.at';have hg:∀j,j<H.length->j≠id->j≠2->h'[j]?=H[j]?:=λj g1 g2 g3=>by rw[ap.fr j g2 g3,abW g1]
  refine⟨λo ho=>?_,by omega,⟨_,ap.var,.inr ⟨id,ep,by rw[ai];simp,by rw[<-hu];exact ap.at'⟩,λi hi=>?_⟩,λj g1 g2 g3=>hg j g1 (λhh=>?_) g2⟩
  ·obtain⟨j,hj⟩:=ac5 ho
   by_cases j1:j=id
   subst j1;rw[ap.at']at hj;cases hj;exact⟨by simp,bm _ _ (by rw[hu];simp)⟩
   by_cases j2:j=2
   subst j2;rw[ap.var]at hj;cases hj;exact⟨by simp,by simp[bG,bu];omega⟩;rw[ap.fr j j1 j2]at hj;have:=(hH.du (HV.one (ep:=0) (n:=4) (es:=[.agg [.int .i64 u.k,.str u.s,.int .i64 u.o,.aa false (ae u.l)]]) (by simp))) o (acb hj);exact⟨this.1,eA (λi hi=>by have:=of_decide_eq_true hi;simp at this;exact decide_eq_true (by omega)) _ this.2⟩
  ·simp[b9]at hi;subst hi;rcases ap.idv with h |h;exact .inl h;exact .inr (by omega)
  ·subst hh;rcases ap.idv with h |h;exact g3 h;omega
 ·refine⟨rfl,?_⟩;rw[if_neg hc,ack];refine⟨hH.du (HV.one (by simp)),by simp,⟨v,?_,ho.db _,λi hi=>.inl hi⟩,λj g1 g2 g3=>abW g1⟩;rw[abW cM];exact h2
def w9(n:Int)(l:List Tm):List Tm:=l.filter λu=>decide (u.k=n)
theorem xz(n:Int)(l:List Tm):(w9 n l).length<=l.length:=acV _ _
theorem FP(n:Int)(u:Tm)(l:List Tm):w9 n (u::l)=(if u.k=n then[u]else[])++w9 n l:=by
 unfold w9
 by_cases h:u.k=n <;>simp[List.filter_cons,h]
theorem JT(n:Int)(a b:List Tm):w9 n (a++b)=w9 n a++w9 n b:=by simp[w9]
theorem KS.wz{H J h':ab}{v:PV}{a:List Tm}(s:KS (H++J) v a h'):KS H v a h':=by
 have hl:=s.len;rw[ab3]at hl;obtain⟨v',e1,e2,e3⟩:=s.var;refine⟨s.hr,by omega,⟨v',e1,e2,λi hi=>?_⟩,λj h1 h2 h3=>by rw[s.fr j (by simp;omega) h2 h3,abW h1]⟩;rcases e3 i hi with h |h;exact .inl h;exact .inr (by simp at h;omega)
theorem ke(a b:List Tm):br (a++b)=br a+br b:=by
 induction a with
 |nil=>simp[br]
 |cons t a ih=>simp only[aco,br,ih];omega
theorem Tx (n:Int) (k s o l) (ih:∀t∈l,∀(H:ab) (v:PV) (a:List Tm),HR H->H[1]?=some ⟨.m,0,1,[.int .i64 n]⟩->H[2]?=some ⟨.m,0,1,[v]⟩->Out 4 H v (ae a)->(∀i∈b9 v,3<=i)->a.length+ax t<100000000->
   ay C 128 [enc t,.fn 154 [.ptr 1 0 0 0,.ptr 2 0 0 0]] H (λr h'=>r=.cA []/\KS H v (a++w9 n (pre t)) h'))
  (H:ab) (v:PV) (a:List Tm) (hH:HR H) (h1:H[1]?=some ⟨.m,0,1,[.int .i64 n]⟩) (h2:H[2]?=some ⟨.m,0,1,[v]⟩) (ho:Out 4 H v (ae a)) (hv:∀i∈b9 v,3<=i) (hn:a.length+ax (.mk k s o l)<100000000):
  ay C 128 [enc (.mk k s o l),.fn 154 [.ptr 1 0 0 0,.ptr 2 0 0 0]] H (λr h'=>r=.cA []/\KS H v (a++w9 n (pre (.mk k s o l))) h'):=by
 have cz:=ai l;have uj:=aY l;simp only[ax]at hn;have cM:=ag h2;have WM:HR (H++[⟨.m,0,4,[enc (.mk k s o l)]⟩]):=hH.du (HV.one (by simp));have b1:(H++[⟨.m,0,4,[enc (.mk k s o l)]⟩])[1]?=some ⟨.m,0,1,[.int .i64 n]⟩:=by rw[abW (by omega)];exact h1
 have b2:(H++[⟨.m,0,4,[enc (.mk k s o l)]⟩])[2]?=some ⟨.m,0,1,[v]⟩:=by rw[abW cM];exact h2
 have pk:=Tw (.mk k s o l) n (H++[⟨.m,0,4,[enc (.mk k s o l)]⟩]) v a WM b1 b2 (ho.db _) hv (by omega);rw[bh]at pk ⊢;refine ay.x T6 Tryz.func128 rfl ?_;refine wA ?_;refine aj.ks pk (by simp;omega) (λh' ks=>?_);refine wA ?_;have kw:=ks.wz
 have fv:h'[H.length]?=some ⟨.m,0,4,[.agg [.int .i64 k,.str s,.int .i64 o,.aa false (ae l)]]⟩:=by
  rw[ks.fr H.length (by simp) (by omega) (λhh=>by have:=ho.ls _ hh;omega)];simp
 refine wA ?_;have HE:a++(if(Tm.mk k s o l).k=n then[Tm.mk k s o l]else[])=a++w9 n (.mk k s o l::cd []):=by rw[FP];simp[cd,w9]
 rw[HE]at kw;refine cU.zip T6 l (λp q L K=>L=[(1,.fn 154 [.ptr 1 0 0 0,.ptr 2 0 0 0]),(10,.aa false (ae l)),(11,.int .i64 (ae l).length),(12,.int .i64 p.length)]/\KS H v (a++w9 n (.mk k s o l::cd p)) K) (.nx ⟨rfl,kw⟩) ?_ ?_
 ·rintro p u q _ K O e ⟨rfl,kp⟩;have cC:=ba e;have dp:=lenE e;obtain⟨v1,q1,q2,q3⟩:=kp.var;have Dr:=kp.len;have hKr:=kp.hr
  have uo:∀i∈b9 v1,3<=i:=λi hi=>by
   rcases q3 i hi with h |h;exact hv i h;omega
  have c1:K[1]?=some ⟨.m,0,1,[.int .i64 n]⟩:=by rw[kp.fr 1 (by omega) (by omega) (λhh=>by have:=hv 1 hh;omega)];exact h1
  have WG:br l=br p+(ax u+br q):=by rw[e,ke];simp[br]
  have jR:(cd p).length<=br p:=lZ p;have hol:=xz n (Tm.mk k s o l::cd p);simp only[ab9]at hol;have ih1:=ih u (by rw[e];simp) (K++[⟨.m,0,4,[enc u]⟩]) v1 (a++w9 n (Tm.mk k s o l::cd p)) (hKr.du (HV.one (by simp))) (by rw[abW (by omega)];exact c1) (by rw[abW (ag q1)];exact q1) (q2.db _) uo (by simp only[ab3];omega);rw[ar]at ih1;refine wA ?_;refine aj.ks ih1 (by simp;omega) (λh' ks=>?_);refine wA ?_;refine .nx ⟨rfl,?_⟩;have:=kp.trans q1 ks.wz;rwa[acp,<-JT,show Tm.mk k s o l::cd p++pre u=Tm.mk k s o l::cd (p++[u]) by rw[lM];simp[cd]]at this
 ·rintro _ K O ⟨rfl,kp⟩;refine wA ?_;exact⟨rfl,by rw[pre];exact kp⟩
theorem Tv(n:Int)(t:Tm):∀(H:ab) (v:PV) (a:List Tm),HR H->H[1]?=some ⟨.m,0,1,[.int .i64 n]⟩->H[2]?=some ⟨.m,0,1,[v]⟩->Out 4 H v (ae a)->(∀i∈b9 v,3<=i)->a.length+ax t<100000000->
   ay C 128 [enc t,.fn 154 [.ptr 1 0 0 0,.ptr 2 0 0 0]] H (λr h'=>r=.cA []/\KS H v (a++w9 n (pre t)) h'):=by
 induction t using Tm.ind with
 |h k s o l ih=>exact Tx n k s o l ih
theorem Qe(a b:Tm)(ha:ax a<1000000000)(hb:ax b<1000000000):aI C 178 [enc a,enc b] (.bool (decide (aW a b=0))):=by
 have h1:=(eY a b ha hb).nine;rw[ar,ar]at h1 ⊢;refine aI.x T6 Tryz.func178 rfl ?_;refine wA ?_;refine .p h1 ?_;refine wC (λhc=>?_) λhc=>?_
 all_goals exact⟨_,rfl,by simp[aR, *]⟩
theorem tL(g:FuncId)(H:ab):ay C 162 [.aa true [],.fn g []] H (λr h'=>r=.aa true []/\h'=H):=by
 refine ay.x T6 Tryz.func162 rfl ?_;refine wA ?_;exact⟨rfl,rfl⟩
theorem qp(g:FuncId)(hm:C.mode g=.pure)(hg:∀a b:Tm,ax a<1000000000->ax b<1000000000->aI C g [enc a,enc b] (.bool (decide (aW a b=0))))(x:Tm)(l:List Tm)(H:ab)(hH:HR H)(id ep:Nat)(e1:H[id]?=some ⟨.m,ep,4,ae (x::l)⟩)(hn:l.length<100000000)(hb:∀t∈x::l,ax t<1000000000):
  ay C 162 [.ak id ep 0 (ae (x::l)).length,.fn g []] H
   (λr h'=>r=.ak id ep 0 (dd (x::l)).length/\∃tl,ao tl=true/\h'=H.set id ⟨.m,ep,4,ae (dd (x::l))++tl⟩):=by
 have cz:(ae (x::l)).length=l.length+1:=by rw[ai];rfl
 refine ay.x T6 Tryz.func162 rfl ?_;refine wC (λhc=>?_) λhc=>?_
 ·obtain rfl:l=[]:=acd (by omega);exact⟨rfl,[],rfl,by rw[ack];exact(dj e1).symm⟩
 refine cU.zip T6 l (λp q L h=>h=H/\∃P' prev,x::p=P'++[prev]/\P'++prev::uk prev q=dd (x::l)/\L=[(0,.ak id ep 0 (ae (x::l)).length),(1,.fn g []),(5,.int .i64 ((p.length+1:Nat):Int))]) (.nx ⟨rfl,[],x,rfl,rfl,rfl⟩) ?_ ?_
 ·rintro p a q _ h O e ⟨rfl,P',prev,hp,hd,rfl⟩;have dp:=lenE e;have jR:=congrArg List.length hp;simp only[ab3,ab9,acz]at jR;have DV:(ae (x::l))[0+(p.length+1)]?=some (.agg [.int .i64 a.k,.str a.s,.int .i64 a.o,.aa false (ae a.l)]):=gX (by rw[e,acf];simp)
  have nh:(ae (x::l))[0+(((p.length+1:Nat):Int) - 1).toNat]?=some (.agg [.int .i64 prev.k,.str prev.s,.int .i64 prev.o,.aa false (ae prev.l)]):=gX (by
   rw[show(((p.length+1:Nat):Int) - 1).toNat=p.length by omega,e,<-aco,hp,acf,abW (by simp;omega),ab6 (by omega)];simp[show p.length - P'.length=0 by omega])
  have hq:=hg a prev (hb a (by rw[e];simp)) (hb prev (by rw[e,<-aco,hp];simp));rw[ar,ar]at hq;refine wA ?_;refine .p hq ?_ hm
  cases hc:decide (aW a prev=0)
  ·refine wA ?_;refine .nx ⟨rfl,P'++[prev],a,by rw[<-aco,hp],?_,rfl⟩;rw[<-hd,uk,if_neg (by simpa using hc)];simp
  ·refine wA ?_;rw[cz]at *;refine .sl rfl rfl (sY T6 rfl rfl e1 (by rw[ai];simp) (by omega) (by omega)) ?_;refine wA ?_
   refine cU.zip T6 q (λp2 q2 L h'=>∃R M0 pr,ax pr<1000000000/\R.length+M0.length=p.length+1+p2.length/\R++uk pr q2=dd (x::l)/\h'=h.set id ⟨.m,ep,4,ae (R++(M0++[pr]++q2))⟩/\
    L=[(0,.ak id ep 0 (l.length+1)),(1,.fn g []),(5,.int .i64 (R.length:Int)),(6,.ak id ep (0+(p.length+1)) (l.length+1 - (p.length+1))),(7,.int .i64 ((p2.length+1:Nat):Int))]) (.nx ⟨P'++[prev],[],a,hb a (by rw[e];simp),by simp only[ab3,ab9,acz];omega,?_,?_,rfl⟩) ?_ ?_
   rw[<-hd,uk,if_pos (by simpa using hc)];simp;rw[dj];rw[e1,e,<-aco,hp];simp
   ·rintro p2 b q2 _ _ O2 e2 ⟨R,M0,pr,T5,Cj,Kl,rfl,rfl⟩;have Q9:=lenE e2;have Kn:(h.set id ⟨.m,ep,4,ae (R++(M0++[pr]++b::q2))⟩)[id]?=some ⟨.m,ep,4,ae (R++(M0++[pr]++b::q2))⟩:=abY (ag e1);have Yz:HR (h.set id ⟨.m,ep,4,ae (R++(M0++[pr]++b::q2))⟩):=hH.set id (by simp) (bm _ _ (by simp));have T7:(ae (R++(M0++[pr]++b::q2))).length=l.length+1:=by rw[ai];simp;omega
    have aaz:(ae (R++(M0++[pr]++b::q2)))[0+(p.length+1)+(p2.length+1)]?=some (.agg [.int .i64 b.k,.str b.s,.int .i64 b.o,.aa false (ae b.l)]):=gX (uA (A:=R++M0++[pr]) (B:=q2) (by simp) (by simp;omega));have NG:(ae (R++(M0++[pr]++b::q2)))[0+(p.length+1)+(((p2.length+1:Nat):Int) - 1).toNat]?=some (.agg [.int .i64 pr.k,.str pr.s,.int .i64 pr.o,.aa false (ae pr.l)]):=gX (uA (A:=R++M0) (B:=b::q2) (by simp) (by simp;omega));have YN:=hg b pr (hb b (by rw[e,e2];simp)) T5;rw[ar,ar]at YN;obtain⟨m,M1,hM⟩:∃m M1,M0++[pr]=m::M1:=by cases M0 with |nil=>exact⟨_,_,rfl⟩|cons m M=>exact⟨m,M++[pr],rfl⟩
    have hM1:=congrArg List.length hM;simp only[ab3,ab9,acz]at hM1;have aaA:(ae (R++(M0++[pr]++b::q2)))[0+R.length]?=some (.agg [.int .i64 m.k,.str m.s,.int .i64 m.o,.aa false (ae m.l)]):=gX (uA (A:=R) (B:=M1++b::q2) (by rw[hM];simp) (by omega))
    have eT:(ae (R++(M0++[pr]++b::q2))).set (0+R.length) (.agg [.int .i64 b.k,.str b.s,.int .i64 b.o,.aa false (ae b.l)])=ae ((R++[b])++(M1++[b]++q2)):=by
     rw[<-ar,ya,hM,acf];simp
    clear hq DV nh;refine wA ?_;refine .p YN ?_ hm
    cases MC:decide (aW b pr=0)
    ·refine wA ?_;rw[eT,ac4];refine .nx ⟨R++[b],M1,b,hb b (by rw[e,e2];simp),by simp;omega,?_,rfl,rfl⟩;rw[<-Kl,uk,if_neg (by simpa using MC)];simp
    ·refine wA ?_;refine .nx ⟨R,M0++[pr],b,hb b (by rw[e,e2];simp),by simp;omega,?_,by simp,rfl⟩;rw[<-Kl,uk,if_pos (by simpa using MC)]
   ·rintro _ _ O2 ⟨R,M0,pr,T5,Cj,Kl,rfl,rfl⟩;have Kn:(h.set id ⟨.m,ep,4,ae (R++(M0++[pr]++[]))⟩)[id]?=some ⟨.m,ep,4,ae (R++(M0++[pr]++[]))⟩:=abY (ag e1);have Yz:HR (h.set id ⟨.m,ep,4,ae (R++(M0++[pr]++[]))⟩):=hH.set id (by simp) (bm _ _ (by simp));have T7:(ae (R++(M0++[pr]++[]))).length=l.length+1:=by rw[ai];simp;omega
    rw[uk,ack]at Kl;subst Kl;refine wA ?_;refine .sl rfl rfl (sY T6 rfl rfl Kn (by omega) ?_ (by omega)) ?_;simp[dd];refine wA ?_;refine .clr rfl (D3 T6 rfl rfl rfl Kn (by omega) rfl rfl) ?_;have pF:List.take (0+(dd (x::l)).length) (ae (dd (x::l)++(M0++[pr]++[])))=ae (dd (x::l)):=by rw[dm,dm,acf,acK,List.take_left' (by simp)]
    have AW:List.drop (0+(dd (x::l)).length+(l.length+1 - (dd (x::l)).length)) (ae (dd (x::l)++(M0++[pr]++[])))=[]:=acx (by omega);rw[pF,AW,ac4]
    obtain⟨tl,sF,cM,Ko⟩:∃tl:List PV,tl=List.replicate (l.length+1 - (dd (x::l)).length) (.agg [.int .i64 0,.str ByteArray.empty,.int .i64 0,.aa true []])/\tl.length=l.length+1 - (dd (x::l)).length/\ao tl=true:=
     ⟨_,rfl,by simp,by rw[bw,abX];intro y hy;rw[acY hy];rfl⟩
    have e3:(h.set id ⟨.m,ep,4,ae (dd (x::l))++tl⟩)[id]?=some ⟨.m,ep,4,ae (dd (x::l))++tl⟩:=abY (ag e1);rw[<-sF,ack];refine wA ?_;refine .sh rfl rfl (D0 T6 rfl rfl e3 (by rw[ab3,ai,cM];have:=GD (x::l);simp at this;omega) (by omega)) ?_;refine wA ?_;exact⟨rfl,tl,Ko,rfl⟩
 ·rintro _ h O ⟨rfl,P',prev,hp,hd,rfl⟩;have Vc:ae (dd (x::l))=ae (x::l):=by rw[<-hd,hp,uk]
  refine wA ?_;exact⟨congrArg (PV.ak id ep 0) (by rw[<-Vc,ai]),[],rfl,by rw[Vc,ack];exact(dj e1).symm⟩
theorem FR(g:FuncId)(H:ab)(id ep:Nat)(e1:H[id]?=some ⟨.m,ep,4,ae []⟩):ay C 162 [.ak id ep 0 0,.fn g []] H (λr h'=>r=.ak id ep 0 0/\h'=H):=by
 refine ay.x T6 Tryz.func162 rfl ?_;refine wA ?_;exact⟨rfl,rfl⟩
theorem vZ(H:ab):ay C 130 [.aa true []] H (λr h'=>r=.aa true []/\h'=H):=by
 refine ay.x T6 Tryz.func130 rfl ?_;refine wA ?_;refine aj.cV rfl rfl ?_;refine wA ?_;refine .ln (tL _ H) (λr h' hr=>by rw[hr.2]) (λr h' hr=>?_);obtain⟨rfl,rfl⟩:=hr;refine wA ?_;refine cU.zip T6 ([]:List Tm) (λp q L K=>L=[(0,.aa true []),(9,.int .i64 0),(10,.int .i64 p.length)]/\K=h') (.nx ⟨rfl,rfl⟩) ?_ ?_
 ·rintro p u q _ K O e _
  cases p <;>cases e
 ·rintro _ K O ⟨rfl,rfl⟩;refine wA ?_;exact⟨rfl,rfl⟩
theorem yS(H:ab)(hH:HR H)(id ep:Nat)(a:List Tm)(e1:H[id]?=some ⟨.m,ep,4,ae a⟩)(hn:a.length<100000000)(hb:∀t∈a,ax t<100000000):
  ay C 130 [.ak id ep 0 a.length] H (λr h'=>r=.ak id ep 0 (dd (eJ a)).length/\∃tl,ao tl=true/\h'=H.set id ⟨.m,ep,4,ae (dd (eJ a))++tl⟩):=by
 have oX:=ai a;have cM:=ag e1;refine ay.x T6 Tryz.func130 rfl ?_;refine wA ?_;refine aj.cV rfl (mN e1 (by omega) (λt ht=>by have:=hb t ht;omega)) ?_;have e2:(H.set id ⟨.m,ep,4,ae (eJ a)⟩)[id]?=some ⟨.m,ep,4,ae (eJ a)⟩:=abY (ag e1);have pE:HR (H.set id ⟨.m,ep,4,ae (eJ a)⟩):=hH.set id (by simp) (bm _ _ (by simp));have xi:=(fI a).length_eq;have ek:∀t∈eJ a,ax t<100000000:=λt ht=>hb t ((fI _).mem_iff.1 ht)
 rw[<-xi]at oX hn ⊢;generalize eJ a=S at *
 cases S with
 |nil=>
  refine wA ?_;refine .ln (FR _ _ id ep e2) (λr h' hr=>by rw[hr.2]) (λr h' hr=>?_);obtain⟨rfl,rfl⟩:=hr;refine wA ?_;refine cU.zip T6 ([]:List Tm) (λp q L K=>L=[(0,.ak id ep 0 0),(9,.int .i64 0),(10,.int .i64 p.length)]/\K=H.set id ⟨.m,ep,4,ae []⟩) (.nx ⟨rfl,rfl⟩) ?_ ?_
  ·rintro p u q _ K O e _
   cases p <;>cases e
  ·rintro _ K O ⟨rfl,rfl⟩;refine wA ?_;exact⟨rfl,[],rfl,by simp[dd]⟩
 |cons x r=>
  have hc:=qp _ rfl Qe x r _ pE id ep e2 (by simp at hn;omega) (λt ht=>by have:=ek t ht;omega);rw[ai]at hc;refine wA ?_;refine .ln hc (λr h' hr=>by obtain⟨_,_,_,rfl⟩:=hr;simp) (λr h' hr=>?_);obtain⟨rfl,tl,hv,rfl⟩:=hr;rw[ac4];have e3:(H.set id ⟨.m,ep,4,ae (dd (x::r))++tl⟩)[id]?=some ⟨.m,ep,4,ae (dd (x::r))++tl⟩:=abY (ag e1);have hK3:HR (H.set id ⟨.m,ep,4,ae (dd (x::r))++tl⟩):=hH.set id (by simp) (bm _ _ (by show ao (ae (dd (x::r))++tl)=true;rw[dF,hv];simp));have hDn:=GD (x::r);have hbD:∀t∈dd (x::r),ax t<100000000:=λt ht=>ek t ((NA (x::r) t).1 ht)
  generalize hD:dd (x::r)=D at *;generalize hK:H.set id ⟨.m,ep,4,ae D++tl⟩=K0 at *;refine wA ?_;have hDl:=ai D;refine cU.zip T6 D (λp q L K=>L=[(0,.ak id ep 0 D.length),(9,.int .i64 D.length),(10,.int .i64 p.length)]/\K=K0) (.nx ⟨rfl,rfl⟩) ?_ ?_
  ·rintro p u q _ _ O e ⟨rfl,rfl⟩;have dp:=lenE e
   have cC:(ae D++tl)[0+p.length]?=some (.agg [.int .i64 u.k,.str u.s,.int .i64 u.o,.aa false (ae u.l)]):=by
    rw[abW (by omega),acf];exact ba e
   have ee:=nL u (hbD u (by rw[e];simp));have eT:=dj cC;rw[ar]at ee;refine wA ?_;refine .p ee ?_;refine wA ?_;exact .nx ⟨rfl,by rw[eT];exact dj e3⟩
  ·rintro _ _ O ⟨rfl,rfl⟩;refine wA ?_;exact⟨rfl,tl,hv,hK.symm⟩
theorem ID(t:Tm)(n:Int)(hb:ax t<10000000):aI C 106 [enc t,.int .i64 n] (.aa false (ae (mQ n t))):=by
 have FY:HR [⟨.m,0,4,[enc t]⟩,⟨.m,0,1,[.int .i64 n]⟩,⟨.m,0,1,[.aa true []]⟩]:=by
  intro x hx
  simp at hx;rcases hx with rfl |rfl |rfl <;>simp[bG,bu,bm]
  exact xl _ _ (by simp)
 have hw:=Tv n t _ (.aa true []) [] FY rfl rfl (.inl ⟨rfl,rfl⟩) (by simp[b9]) (by simp;omega);have hol:=xz n (pre t);have jR:=qR t;rw[ar]at hw ⊢;refine aI.x T6 Tryz.func106 rfl ?_;refine wA ?_;refine aj.ks hw (by simp) (λh' ks=>?_);rw[acD]at ks;obtain⟨v',e1,e2,e3⟩:=ks.var;have hh:=ks.hr;refine wA ?_;have cY:dd (eJ (w9 n (pre t)))=mQ n t:=GI _;rcases e2 with⟨rfl,e0⟩|⟨id,ep,rfl,e2⟩
 ·have e4:w9 n (pre t)=[]:=acd (by rw[<-ai,e0];rfl);rw[e4]at cY
  skip
  refine .ln (vZ h') (λr h' hr=>by rw[hr.2]) (λr h' hr=>?_);obtain⟨rfl,rfl⟩:=hr;rw[<-cY];refine wA ?_;exact⟨_,rfl,rfl⟩
 ·have ho:=yS h' hh id ep (w9 n (pre t)) e2 (by omega) (λu hu=>by have:=nN t u (acO.1 hu).1;omega);rw[ai]
  skip
  refine .ln ho (λr h' hr=>by obtain⟨_,_,_,rfl⟩:=hr;simp) (λr h' hr=>?_);obtain⟨rfl,tl,hv,rfl⟩:=hr;rw[cY];have e5:=abY (a:=(⟨.m,ep,4,ae (mQ n t)++tl⟩:aw)) (ag e2);refine wA ?_;exact iL e5 (by rw[ai]) (by simp) (by simp)
theorem od(t:Tm)(hb:ax t<10000000):aI C 54 [enc t] (.aa false (ae (bL t))):=by
 have h1:=ID t 1 hb;rw[ar]at h1 ⊢;refine aI.x T6 Tryz.func54 rfl ?_;refine wA ?_;refine .p h1 ?_;refine wA ?_;exact⟨_,rfl,by simp[aR,bL]⟩
def iA(H:ab)(g:FuncId)(cs:List PV)(x:PV)(b:Bool):Prop:=∀H',iF H H'->∀Q:PV->ab->Prop,(∀h',iF H' h'->Q (.bool b) h')->aj C 2 g (x::cs) H' Q
theorem Tn(l:List Tm)(g:FuncId)(cs:List PV)(p:Tm->Bool)(H:ab)(hl:l.length<1000000000)(hp:∀x∈l,iA H g cs (enc x) (p x)):
  ay C 142 [.aa false (ae l),.fn g cs] H (λr h'=>r=.int .i64 (wU p l)/\iF H h'):=by
 have cz:=ai l;refine ay.x T6 Tryz.func142 rfl ?_;refine wA ?_;refine cU.zip T6 l (λa q L K=>L=[(0,.aa false (ae l)),(1,.fn g cs),(7,.int .i64 (ae l).length),(8,.int .i64 a.length)]/\iF H K/\∀y∈a,p y=false) (.nx ⟨rfl,iF.refl _,by simp⟩) ?_ ?_
 ·rintro a x q _ K O e ⟨rfl,hE,ha⟩;have cC:=ba e;have dp:=lenE e;have F6:=hp x (by rw[e];simp) _ hE;rw[ar]at F6;refine wA ?_;refine F6 _ (λh' WC=>?_)
  cases hb:p x
  ·refine wA ?_;exact .nx ⟨rfl,hE.trans WC,λy hy=>by rcases ab2.1 hy with h |h;exact ha y h;simp at h;rw[h];exact hb⟩
  ·refine wA ?_;exact⟨by rw[e,qV ha hb];rfl,hE.trans WC⟩
 ·rintro _ K O ⟨rfl,hE,ha⟩;refine wA ?_;exact⟨by rw[lK ha];rfl,hE⟩
theorem q9(l:List Tm)(g:FuncId)(cs:List PV)(p:Tm->Bool)(H:ab)(hl:l.length<1000000000)(hp:∀x∈l,iA H g cs (enc x) (p x)):
  ay C 86 [.aa false (ae l),.fn g cs] H (λr h'=>r=.bool (l.any p)/\iF H h'):=by
 have hi:=Tn l g cs p H hl hp;have ha:=th p l;refine ay.x T6 Tryz.func86 rfl ?_;refine wA ?_;refine .ex hi (λh' hE=>?_);refine wC (λhc=>?_) λhc=>?_
 all_goals exact⟨by rw[<-ha];simp[aR, *],hE⟩
theorem iA.pure{H:ab}{g:FuncId}{cs:List PV}{x:PV}{b:Bool}(a:aI C g (aQ (x::cs)) (.bool b))(hx:ao (x::cs)=true)(hm:C.mode g=.pure:=by rfl):iA H g cs x b:=
 λH' _ Q hQ=>aj.pure hm hx a (hQ _ (iF.refl _))
theorem iA.opened{H:ab}{g:FuncId}{cs:List PV}{x:PV}{b:Bool}(a:∀H',iF H H'->ay C g (x::cs) H' (λr h'=>r=.bool b/\iF H' h'))(hm:C.mode g=.opened:=by rfl):iA H g cs x b:=
 λH' hE Q hQ=>aj.ex (a H' hE) hQ hm
theorem To(t:Tm):aI C 141 [enc t] (.bool (Dl t)):=by
 rw[ar];refine aI.x T6 Tryz.func141 rfl ?_;refine wI (λhc=>?_) (λhc hc=>?_) λhc hc=>?_
 all_goals exact⟨_,rfl,by simp[aR,Dl, *]⟩
theorem Tp(t u:Tm)(ht:ax t<1000000000)(hu:ax u<1000000000)(id:Nat)(H:ab)(hH:aV (H++[⟨.m,0,4,[enc u]⟩])=true)(h0:H[id]?=some ⟨.m,0,4,[enc t]⟩):ay C 143 [enc u,.ptr id 0 0 0] H (λr h'=>r=.bool (decide (aW t u=0))/\iF H h'):=by
 have h1:=(eY t u ht hu).nine;have cM:=ag h0;rw[ar t]at h0 h1;rw[ar u]at h1 hH ⊢;refine ay.x T6 Tryz.func143 rfl ?_;refine wA ?_;refine .p h1 ?_;refine wC (λhc=>?_) λhc=>?_
 all_goals exact⟨by simp[aR, *],(iF.refl _).db (HV.one (by simp))⟩
theorem P6(l:List Tm)(t:Tm)(ht:ax t<1000000000)(hl:l.length<1000000000)(hb:∀u∈l,ax u<1000000000):aI C 88 [.aa false (ae l),enc t] (.bool (bJ l t)):=by
 have hc:=q9 l 143 [.ptr 0 0 0 0] (λu=>decide (aW t u=0)) [⟨.m,0,4,[enc t]⟩] hl (λx hx=>iA.opened λH' hE=>Tp t x ht (hb x hx) 0 H' ((hE.hv (HV.one (by simp))).db (HV.one (by simp))).closed (hE.at rfl));rw[ar t]at hc ⊢;refine aI.x T6 Tryz.func88 rfl ?_;refine wA ?_;refine .ex hc (λh' hE=>?_);refine wA ?_;exact⟨_,rfl,rfl⟩
theorem Ix(t:Tm)(hb:ax t<10000000):aI C 85 [enc t] (.int .i64 (cE t)):=by
 have h1:=tJ t (by omega);have h2:=Mg t (by omega);have h3:=od t hb;have h4:=(vv t (by omega)).nine;have RA:=fy t;rw[ar]at h1 h2 h3 h4 ⊢
 have h5:∀H,ay C 86 [.aa false (ae (bL t)),.fn 141 []] H (λr h'=>r=.bool ((bL t).any Dl)/\iF H h'):=λH=>
  q9 (bL t) 141 [] Dl H (by omega) (λx hx=>iA.pure (by simpa[aQ]using To x) (by simp[ao]))
 refine aI.x T6 Tryz.func85 rfl ?_;refine wA ?_;refine .p h1 ?_;refine wC (λhc=>?_) λhc=>?_
 ·have hth:gY t=0:=by omega
  have P7:cE t=if lq t=false\/(bL t).any Dl=true then 10 else if 60<size t then 3 else 0:=by rw[cE,if_neg (by omega)]
  refine .p h2 ?_
  cases hf:lq t
  ·refine wA ?_;exact⟨_,rfl,by rw[P7,if_pos (.inl hf)];rfl⟩
  ·refine wA ?_;refine .p h3 ?_;refine wA ?_;refine .ex (h5 _) (λh' hE=>?_);have k0:=hE.at (i:=0) rfl
   cases ha:(bL t).any Dl
   ·rw[hf,ha,if_neg (by simp)]at P7;refine wA ?_;refine .p h4 ?_;refine wC (λhc=>?_) λhc=>?_;exact⟨_,rfl,by rw[P7,if_pos (by omega)];rfl⟩;exact⟨_,rfl,by rw[P7,if_neg (by omega)];rfl⟩
   ·refine wA ?_;exact⟨_,rfl,by rw[P7,if_pos (.inr ha)];rfl⟩
 exact⟨_,rfl,by rw[cE,if_pos (by assumption)];rfl⟩
theorem _root_.Go.Pm.bg.F8{C:cW}{ops:Array Oper}{i d:Nat}{ty:TypeId}{pos:String}{af:Array Edge}{r:List Oper}{O:Nat->PV}{L:Al}{h:ab}{L0:Nat}{own:List Nat}{Q:St->Prop}{op:Op}{v:PV}{h':ab}(M J:ab)
  (hc:∃n0,∀n,n0<=n->au C (fF C n) 1 op (al L O) M=some (v,h')) (k:bg C ops (i+1) r ⟨⟨al ((d,v)::L) O,h++J⟩,L0,own++List.replicate J.length i⟩ Q) (hM:cI ((before ops).getD i 0).testBit L0 own h=M) (hJ:h'.drop h.length=J) (ee:aV M=true) (kV:(op.operands.toList.all λy=>bu (aO M) (ev (al L O) y))=true)
  (vH:(J.all λo=>decide (o.mu≠.l))=true) (hh:di op=true:=by rfl) (hl:(level ops (before ops) i==2)=false:=by rfl):bg C ops i (⟨some d,op,ty,pos,af,none⟩::r) ⟨⟨al L O,h⟩,L0,own⟩ Q:=by
 obtain⟨n0,hn⟩:=hc;have dp:level ops (before ops) i≠2:=by simpa using hl
 refine bg.step ⟨n0,λn h1=>?_⟩ k;subst hM hJ;simp only[cD,bA,hh,acH,if_false,dp,ee,kV,and_self,if_true,hn n h1,vH,cw]
theorem _root_.Go.Pm.EA{C:cW}{run:iR}{f:FuncId}{g:List PV->ab->Option (PV×ab)}{O:Nat->PV}{xs:List Operand}{Bu:Array TypeId}{M h':ab}{us:List PV}{v:PV}(hm:C.mode f=.cV g)(hx:xs.map (ev O)=us)(hg:g us (M.map bY)=some (v,h'))(vH:((h'.drop M.length).all λo=>decide (o.mu≠.l))=true):
  au C run 1 (.call ⟨.value (.func f),xs.toArray,Bu⟩) O M=some (v,M++h'.drop M.length):=by
 simp only[au,gA,ev,hx,ack];unfold dn;rw[hm];simp only[eF,hg,vH,if_true]
 rfl
theorem _root_.Go.Pm.KI{C:cW}(T:mD C.P){run:iR}{lv:Nat}{L:Al}{O:Nat->PV}{M:ab}{t:TypeId}{x:Operand}{p v:PV}(hx:cS L x=some p)(hl:loadT T M t p=some v):au C run lv (.load t x) (al L O) M=some (v,M):=by
 simp only[au,aC,an hx,sU T hl,ab8]
theorem _root_.Go.Pm.KH{C:cW}(T:mD C.P){run:iR}{L:Al}{O:Nat->PV}{M:ab}{t:TypeId}{n:Nat}{ps:Array (Nat×Operand)}{vs:List PV}(x:Ai T t n ps.toList L (λ_ es=>es=vs))(hv:ao vs=true):au C run 1 (.buildSlice t n ps) (al L O) M=some (.aa true vs,M):=by
 obtain⟨sz,es,rfl,e⟩:=nK T x;have:=e O M 1;rw[if_pos hv]at this;simpa only[au,aC]using this
theorem _root_.Go.Pm.Ar{C:cW}{run:iR}{lv:Nat}{L:Al}{O:Nat->PV}{h h':ab}{st xt:TypeId}{x y:Operand}{v u r:PV}(hx:cS L x=some v)(hy:cS L y=some u)(ha:bT C.P lv h st xt v u=some (r,h')):au C run lv (.call ⟨.builtin .append,#[x,y],#[st,xt]⟩) (al L O) h=some (r,h'):=by
 simp only[au,bt,acg,acr,an hx,an hy,ha]
theorem uU(d:fq)(hk:d.kn.length<10000000):aI C 71 [s9 d] (.aa false (ae (d.kn++[d.tm]))):=by
 have cz:=ai d.kn;rw[o8];refine aI.x T6 Tryz.func71 rfl ?_;refine Rn.go ?_;conv=>whnf
 refine .mk ?_;refine Rn.go ?_;conv=>whnf
 refine .raw (λO=>?_);refine D.fieldAddr T6 rfl rfl rfl rfl ?_;refine D.gH T6 rfl rfl rfl rfl rfl rfl ?_;have hen:(ae d.kn).isEmpty=d.kn.isEmpty:=by cases d.kn <;>rfl
 obtain⟨box,fv⟩:∃b:aw,b=⟨.m,0,5,[.agg [.aa false (ae d.kn),.int .i64 d.tm.k,.str d.tm.s,.int .i64 d.tm.o,.aa false (ae d.tm.l)]]⟩:=⟨_,rfl⟩
 by_cases he:d.kn=[]
 ·have OI:bE 4 [.aa false (ae d.kn)] ([box].map bY)=some (.aa true [],[box].map bY):=by simp[bE,he,ae]
  refine .F8 [box] [] ⟨0,λn _=>EA rfl rfl OI rfl⟩ ?_ (by rw[fv];rfl) rfl (by rw[fv];simp[aV,bG,bu]) rfl rfl;refine D.fieldAddr T6 rfl rfl rfl rfl ?_;refine .F8 [box] [] ⟨0,λn _=>KI T6 rfl (by rw[fv];rfl)⟩ ?_ (by rw[fv];rfl) rfl (by rw[fv];simp[aV,bG,bu]) (by rw[fv];rfl) rfl;refine .F8 [box] [] ⟨0,λn _=>KH T6 (vs:=[.agg [.int .i64 d.tm.k,.str d.tm.s,.int .i64 d.tm.o,.aa false (ae d.tm.l)]]) (by exact rfl) (by simp)⟩ ?_ (by rw[fv];rfl) rfl (by rw[fv];simp[aV,bG,bu]) (by rw[fv];rfl) rfl;subst fv;refine bg.two rfl rfl ⟨0,λn _=>Ar rfl rfl (gJ T6 (lv:=2) (full:=true) (ys:=[.agg [.int .i64 d.tm.k,.str d.tm.s,.int .i64 d.tm.o,.aa false (ae d.tm.l)]]) (by omega) rfl rfl rfl rfl rfl (by decide) rfl rfl rfl rfl (by simp))⟩ ?_;refine D.assign rfl ?_;refine bg.nil ⟨_,_,rfl,?_⟩
  conv=>whnf
  rw[he];exact iL (ep:=0) (sz:=4) (tl:=[]) (es:=ae ([]++[d.tm])) (by simp only[ack,acD,ae];rw[<-ar];rfl) (by rw[ai];simp) (by simp) (by simp)
 ·have OI:bE 4 [.aa false (ae d.kn)] ([box].map bY)=some (.ak 1 0 0 d.kn.length,[box].map bY++[⟨.m,0,4,ae d.kn⟩]):=by
   have h1:d.kn.isEmpty=false:=by cases h:d.kn with |nil=>exact absurd h he |cons=>rfl
   simp only[bE,hen,h1,aca,if_false];rw[if_pos ⟨oT _,by omega⟩,cz]
   rfl
  refine .F8 [box] [⟨.m,0,4,ae d.kn⟩] ⟨0,λn _=>EA rfl rfl OI rfl⟩ ?_ (by rw[fv];rfl) rfl (by rw[fv];simp[aV,bG,bu]) rfl rfl;refine D.fieldAddr T6 rfl rfl rfl rfl ?_;refine .F8 [box,eX ⟨.m,0,4,ae d.kn⟩] [] ⟨0,λn _=>KI T6 rfl (by rw[fv];rfl)⟩ ?_ (by rw[fv];rfl) rfl (by rw[fv];simp[aV,bG,bu,eX]) (by rw[fv];rfl) rfl;refine .F8 [box,eX ⟨.m,0,4,ae d.kn⟩] [] ⟨0,λn _=>KH T6 (vs:=[.agg [.int .i64 d.tm.k,.str d.tm.s,.int .i64 d.tm.o,.aa false (ae d.tm.l)]]) (by exact rfl) (by simp)⟩ ?_ (by rw[fv];rfl) rfl (by rw[fv];simp[aV,bG,bu,eX]) (by rw[fv];rfl) rfl;subst fv;refine bg.two rfl rfl ⟨0,λn _=>Ar rfl rfl (lH T6 (len:=d.kn.length) (o:=⟨.m,0,4,ae d.kn⟩) (full:=true) (ys:=[.agg [.int .i64 d.tm.k,.str d.tm.s,.int .i64 d.tm.o,.aa false (ae d.tm.l)]]) rfl rfl rfl rfl rfl (by decide) rfl rfl rfl rfl (by simp;omega) (bp rfl rfl (by simp)) rfl rfl (by simp[cz]))⟩ ?_;refine D.assign rfl ?_;refine bg.nil ⟨_,_,rfl,?_⟩
  conv=>whnf
  have MH:List.take d.kn.length (ae d.kn)=ae d.kn:=acu (by omega);exact iL (ep:=1) (sz:=4) (tl:=[]) (es:=ae (d.kn++[d.tm])) (by rw[bS];simp only[MH,ack,ae];rw[<-ar];rfl) (by rw[ai];simp) (by simp) (by simp)
end bC
theorem N1:∀(ids:List Nat) (h:ab),(∀id∈ids,∃o:aw,h[id]?=some o/\ao o.es=true/\(o.mu=.m\/o.mu=.f))->∃h',fm h ids=some h'
 |[],h,_=>⟨h,rfl⟩
 |id::r,h,hh=>by
  obtain⟨o,h1,h2,h3⟩:=hh id (by simp);have hf:ku h id=some (h.set id {o with mu:=.f}):=by simp only[ku,h1];rw[if_pos ⟨h2,h3⟩]
  obtain⟨h',e⟩:=N1 r (h.set id {o with mu:=.f}) λj hj=>by
   obtain⟨o',g1,g2,g3⟩:=hh j (by simp[hj])
   by_cases Af:id=j
   ·subst Af;exact⟨{o with mu:=.f},abY (ag h1),h2,.inr rfl⟩
   exact⟨o',by rw[ab0 Af];exact g1,g2,g3⟩
  exact⟨h',by simp only[fm,hf,e]⟩
theorem aj.any{C:cW}{f:FuncId}{args args':List PV}{h:ab}{rv:PV}{Q:PV->ab->Prop}(hb:gC h args=some args')(Cs:ao args=false)(xW:∀id∈jd args,∃o:aw,h[id]?=some o/\ao o.es=true/\(o.mu=.m\/o.mu=.f))(a:aI C f (aQ args') rv)(q:∀h',Q rv h')(hm:C.mode f=.pure:=by rfl):aj C 2 f args h Q:=by
 obtain⟨n0,hn⟩:=a;obtain⟨hf,ef⟩:=N1 _ _ xW;refine⟨rv,if(dT rv ||lB h (jd args))=true then h else hf,q _,n0,λn h1=>?_⟩;obtain⟨r0,hc,r1,e1,e3,e4⟩:=hn n h1;have zS:dT r1=dT rv:=by have:=ji r1;rw[e4]at this;exact this.symm
 unfold dn;rw[hm];simp only[dx,Cs,aca,if_false,hb,e1,e3,zS,e4]
 split
 rfl
 simp[ef]
namespace bC
open Go.Proofs
attribute [local irreducible] aD az aL aJ Ev ah aj ay bg
@[simp] theorem HG(l:List fq):dC 5 (bV l):=by
 unfold dC;rw[abX]
 intro v hv
 obtain⟨t,_,rfl⟩:=aci.1 hv
 rfl
@[simp] theorem WU(l:List eE):dC 8 (dR l):=by
 unfold dC;rw[abX]
 intro v hv
 obtain⟨t,_,rfl⟩:=aci.1 hv
 rfl
theorem Az{sz:Nat}{es:List PV}(ho:dC sz es)(hn:es.length<1000000000)(H:ab):∃r H',bE sz [.aa false es] H=some (r,H')/\Out sz H' r es/\(HV H->ao es=true->HV H')/\(∀(j:Nat) (o:aw),H[j]?=some o->H'[j]?=some o):=by
 unfold bE
 cases es with
 |nil=>exact⟨.aa true [],H,rfl,.inl ⟨rfl,rfl⟩,λh _=>h,λ_ _ h=>h⟩
 |cons x r=>
  unfold dC at ho;simp only[List.isEmpty_cons,aca,if_false];rw[if_pos ⟨ho,hn⟩];exact⟨_,_,rfl,.inr ⟨H.length,0,rfl,by simp[newObj]⟩,λh hv=>h.db (HV.one hv),λj o h=>by rw[newObj,abW (ag h)];exact h⟩
end bC
def vV(t:Tm):List Tm->Nat
 |[]=>0
 |p::l=>if aW p t<0 then vV t l+1 else 0
theorem Ho(t:Tm):∀l:List Tm,vV t l<=l.length
 |[]=>by simp[vV]
 |p::l=>by
  have:=Ho t l;rw[vV]
  split <;>simp <;>omega
theorem Jq(t:Tm):∀(l:List Tm),fu l->∀(m:Nat) (p:Tm),l[m]?=some p->(aW p t<0↔m<vV t l)
 |[],_,m,p,h=>by simp at h
 |q::l,s,m,p,h=>by
  obtain⟨s1,s2⟩:=acm.1 s;rw[vV]
  cases m with
  |zero=>
   simp at h;subst h
   split
   simp;assumption;simp;omega
  |succ m=>
   have h':l[m]?=some p:=by simpa using h
   have ih:=Jq t l s2 m p h';have hm:=s1 p (acb h')
   split
   rw[ih];omega
   ·rename_i hq
    constructor
    ·intro hp
     exact absurd (eC hm hp) hq
    intro hh;omega
def fdT(t:Tm)(l:List Tm):Bool:=match l[vV t l]? with |some p=>decide (aW p t=0)|none=>false
theorem Jr(t:Tm):∀{l:List Tm},fu l->fdT t l=bJ l t
 |[],_=>rfl
 |q::l,s=>by
  obtain⟨s1,s2⟩:=acm.1 s;have ih:=Jr t s2;have hng:=eI q t;unfold fdT at ih ⊢;rw[vV]
  by_cases hc:aW q t<0
  ·rw[if_pos hc];simp only[List.getElem?_cons_succ];rw[ih];simp only[bJ,aez];rw[decide_eq_false (by omega)]
   rfl
  ·rw[if_neg hc];simp only[List.getElem?_cons_zero,bJ,aez]
   by_cases h0:aW q t=0
   rw[decide_eq_true h0,decide_eq_true (by omega)];rfl
   ·rw[decide_eq_false h0,decide_eq_false (by omega),ado]
    symm
    rw[adi]
    intro u hu hz
    have hz:=cy (of_decide_eq_true hz);subst hz;have:=s1 t hu;omega
theorem Ew{t:Tm}:∀{l:List Tm},fu l->bJ l t=true->fC t l=l
 |[],_,h=>by cases h
 |q::l,s,h=>by
  obtain⟨s1,s2⟩:=acm.1 s;have hng:=eI q t;rw[fC]
  by_cases hc:aW t q<=0
  ·rw[if_pos hc]
   by_cases hd:aW t q<0
   ·exfalso;rcases ab5.1 (bX.1 h)with rfl |h2;rw[cc]at hd;omega;have:=s1 t h2;omega
   rw[if_neg hd]
  ·rw[if_neg hc]
   have h2:bJ l t=true:=by
    simp only[bJ,aez,acs,decide_eq_true_eq]at h ⊢;rcases h with h |h;omega;exact h
   rw[Ew s2 h2]
theorem Ey{t:Tm}:∀{l:List Tm},fu l->bJ l t=false->fC t l=l.take (vV t l)++t::l.drop (vV t l)
 |[],_,_=>rfl
 |q::l,s,h=>by
  obtain⟨s1,s2⟩:=acm.1 s;have hng:=eI q t;simp only[bJ,aez,adO,decide_eq_false_iff_not]at h;rw[fC,vV]
  by_cases hc:aW q t<0
  ·rw[if_pos hc,if_neg (by omega),Ey s2 h.2];simp
  ·rw[if_neg hc,if_pos (by omega),if_pos (by omega)];simp
namespace bC
open Go.Proofs
attribute [local irreducible] aD az aL aJ Ev ah aj ay bg bN
theorem Hq(a b:Tm)(ha:ax a<1000000000)(hb:ax b<1000000000):aI C 163 [enc a,enc b] (.bool (decide (aW a b=0))):=by
 have h1:=(eY a b ha hb).nine;rw[ar,ar]at h1 ⊢;refine aI.x T6 Tryz.func163 rfl ?_;refine wA ?_;refine .p h1 ?_;refine wC (λhc=>?_) λhc=>?_
 all_goals exact⟨_,rfl,by simp[aR, *]⟩
theorem nZ(a b:Tm)(ha:ax a<1000000000)(hb:ax b<1000000000):aI C 273 [enc a,enc b] (.bool (decide (aW a b=0))):=by
 have h1:=(eY a b ha hb).nine;rw[ar,ar]at h1 ⊢;refine aI.x T6 Tryz.func273 rfl ?_;refine wA ?_;refine .p h1 ?_;refine wC (λhc=>?_) λhc=>?_
 all_goals exact⟨_,rfl,by simp[aR, *]⟩
theorem Ez(l:List Tm)(t:Tm)(hs:fu l)(hl:l.length<100000000)(hb:∀b∈l,ax b<100000000)(ht:ax t<100000000):
  aI C 166 [.aa false (ae l),enc t,.fn 52 []] (.cA [.int .i64 (vV t l),.bool (bJ l t)]):=by
 have hle:=Ho t l;have Qm:=Jq t l hs;have pU:bJ l t=match l[vV t l]? with |some p=>decide (aW p t=0)|none=>false:=(Jr t hs).symm
 have cz:=ai l;generalize bJ l t=FD at pU ⊢;generalize vV t l=LB at hle Qm pU ⊢
 have elem:∀m,m<l.length->∃b,l[m]?=some b/\(ae l)[m]?=some (.agg [.int .i64 b.k,.str b.s,.int .i64 b.o,.aa false (ae b.l)])/\aI C 52 [enc b,enc t] (.int .i64 (aW b t)):=λm hm=>by
  have h1:l[m]?=some l[m]:=ab1 hm;exact⟨_,h1,gX h1,(eY _ t (by have:=hb _ (acb h1);omega) (by omega)).nine⟩
 rw[ar]at elem ⊢;refine aI.x T6 Tryz.func166 rfl ?_;refine wA ?_;refine cU.nat T6 (λk L H=>∃i j:Nat,L=[(0,.aa false (ae l)),(2,.fn 52 []),(4,.ptr 0 0 0 0),(8,.int .i64 (ae l).length),(9,.int .i64 i),(10,.int .i64 j)]/\H=[⟨.m,0,4,[.agg [.int .i64 t.k,.str t.s,.int .i64 t.o,.aa false (ae t.l)]]⟩]/\k=j - i/\i<=LB/\LB<=j/\j<=l.length) l.length (.nx ⟨0,(ae l).length,rfl,rfl,by omega,by omega,by omega,by omega⟩) ?_;rintro k _ _ O ⟨i,j,rfl,rfl,hk,i1,i2,i3⟩
 by_cases Ks:i<j
 ·obtain⟨m,hmm⟩:∃m:Nat,((i:Int)+j) / 2=m:=⟨(i+j) / 2,by omega⟩;obtain⟨b,h1,cC,rU⟩:=elem m (by omega);have QN:=Qm m _ h1;rw[ar]at rU;refine wA ?_;refine .mk (n:=m) ?_ hmm cC;refine wA ?_;refine .p rU ?_;refine wC (λhc=>?_) λhc=>?_;exact .nx ⟨j - (m+1),by omega,m+1,j,rfl,rfl,rfl,by omega,by omega,by omega⟩;exact .nx ⟨m - i,by omega,i,m,rfl,rfl,rfl,by omega,by omega,by omega⟩
 ·have hi:i=LB:=by omega
  subst hi
  by_cases lu:i<l.length
  ·obtain⟨b,h1,cC,rU⟩:=elem i lu;rw[h1]at pU;dsimp only at pU;rw[ar]at rU;refine wA ?_;refine .p rU ?_;refine wC (λhc=>?_) λhc=>?_
   all_goals exact⟨_,rfl,by rw[pU];simp[aR,cj,aQ, *]⟩
  ·rw[ach (by omega)]at pU;refine wA ?_;exact⟨_,rfl,by rw[pU];rfl⟩
theorem OG(s:List Tm)(t:Tm)(hs:fu s)(hl:s.length<100000000)(hb:∀b∈s,ax b<100000000)(ht:ax t<100000000):aI C 116 [.aa false (ae s),enc t] (.bool (bJ s t)):=by
 have h1:=Ez s t hs hl hb ht;rw[ar]at h1 ⊢;refine aI.x T6 Tryz.func116 rfl ?_;refine wA ?_;refine .p h1 ?_;refine wA ?_;exact⟨_,rfl,rfl⟩
theorem _root_.Go.Pm.Um{C:cW}{run:iR}{f:FuncId}{g:List PV->ab->Option (PV×ab)}{O:Nat->PV}{xs:List Operand}{Bu:Array TypeId}{M h':ab}{us:List PV}{v:PV}(hm:C.mode f=.cV g)(hx:xs.map (ev O)=us)(hg:g us M=some (v,h')):
  au C run 2 (.call ⟨.value (.func f),xs.toArray,Bu⟩) O M=some (v,h'):=by
 simp only[au,gA,ev,hx,ack];unfold dn;rw[hm];simp only[eF,abZ,if_true,hg]
theorem ka(o:aw)(J:ab)(hv:ao o.es=true)(hJ:∀x∈J,x.mu=.x):aV (o::J)=true:=by
 unfold aV;simp only[acT,ab4,abX];exact⟨by rw[bm _ _ hv];simp,λx hx=>by simp[hJ x hx]⟩
theorem OH(l:List Tm):(ae l).all (kY 4)=true:=by
 rw[abX]
 intro v hv
 rw[dm]at hv;obtain⟨t,_,rfl⟩:=aci.1 hv;rw[ar];simp[kY,aU,ao,cells,bM]
theorem La(s:List Tm)(t:Tm)(hs:fu s)(hl:s.length<10000000)(hb:∀b∈s,ax b<100000000)(ht:ax t<100000000):aI C 165 [.aa false (ae s),enc t] (.aa false (ae (fC t s))):=by
 have h1:=Ez s t hs (by omega) hb ht;have cz:=ai s;have hle:=Ho t s;have aaU:=Ey (t:=t) hs;have Sc:=Ew (t:=t) hs;rw[ar]at h1 ⊢;refine aI.x T6 Tryz.func165 rfl ?_;refine wA ?_;refine .p h1 ?_
 cases hf:bJ s t
 ·rw[aaU hf];refine wH ?_;refine .raw (λO=>?_);have hen:(ae s).isEmpty=s.isEmpty:=by cases s <;>rfl
  obtain⟨box,fv⟩:∃b:aw,b=⟨.m,0,4,[.agg [.int .i64 t.k,.str t.s,.int .i64 t.o,.aa false (ae t.l)]]⟩:=⟨_,rfl⟩;refine D.move rfl ?_
  by_cases he:s=[]
  ·have OI:bE 4 [.aa false (ae s)] ([box].map bY)=some (.aa true [],[box].map bY):=by simp[bE,he,ae]
   have Np:vV t s=0:=by rw[he];rfl
   refine .F8 [box] [] ⟨0,λn _=>EA rfl rfl OI rfl⟩ ?_ (by rw[fv];rfl) rfl (ka _ [] (by rw[fv];simp) (by simp)) rfl rfl;refine D.move rfl ?_;refine .F8 [box] [] ⟨0,λn _=>KI T6 rfl (by rw[fv];rfl)⟩ ?_ (by rw[fv];rfl) rfl (ka _ [] (by rw[fv];simp) (by simp)) (by rw[fv];rfl) rfl;refine .F8 [box] [] ⟨0,λn _=>KH T6 (vs:=[.agg [.int .i64 t.k,.str t.s,.int .i64 t.o,.aa false (ae t.l)]]) (by exact rfl) (by simp)⟩ ?_ (by rw[fv];rfl) rfl (ka _ [] (by rw[fv];simp) (by simp)) (by rw[fv];rfl) rfl;subst fv;refine bg.two rfl rfl ⟨0,λn _=>Um (v:=.ak 1 0 0 1) (h':=[⟨.m,0,4,[.agg [.int .i64 t.k,.str t.s,.int .i64 t.o,.aa false (ae t.l)]]⟩,⟨.m,0,4,[.agg [.int .i64 t.k,.str t.s,.int .i64 t.o,.aa false (ae t.l)]]⟩]) rfl (us:=[.aa true [],.int .i64 (vV t s),.aa true [.agg [.int .i64 t.k,.str t.s,.int .i64 t.o,.aa false (ae t.l)]]]) rfl (by simp[jf,kY,cells,bM,aU,ao,newObj,Np])⟩ ?_;refine D.assign rfl ?_;refine bg.nil ⟨_,_,rfl,?_⟩
   conv=>whnf
   rw[Np,he];exact iL (ep:=0) (sz:=4) (tl:=[]) (es:=ae ([]++[t])) (by simp only[ack,acD,ae];rw[<-ar];rfl) (by rw[ai];simp) (by simp) (by simp)
  ·have OI:bE 4 [.aa false (ae s)] ([box].map bY)=some (.ak 1 0 0 s.length,[box].map bY++[⟨.m,0,4,ae s⟩]):=by
    have h1:s.isEmpty=false:=by cases h:s with |nil=>exact absurd h he |cons=>rfl
    simp only[bE,hen,h1,aca,if_false];rw[if_pos ⟨oT _,by omega⟩,cz]
    rfl
   refine .F8 [box] [⟨.m,0,4,ae s⟩] ⟨0,λn _=>EA rfl rfl OI rfl⟩ ?_ (by rw[fv];rfl) rfl (ka _ [] (by rw[fv];simp) (by simp)) rfl rfl;refine D.move rfl ?_;refine .F8 [box,eX ⟨.m,0,4,ae s⟩] [] ⟨0,λn _=>KI T6 rfl (by rw[fv];rfl)⟩ ?_ (by rw[fv];rfl) rfl (ka _ [_] (by rw[fv];simp) (by simp[eX])) (by rw[fv];rfl) rfl;refine .F8 [box,eX ⟨.m,0,4,ae s⟩] [] ⟨0,λn _=>KH T6 (vs:=[.agg [.int .i64 t.k,.str t.s,.int .i64 t.o,.aa false (ae t.l)]]) (by exact rfl) (by simp)⟩ ?_ (by rw[fv];rfl) rfl (ka _ [_] (by rw[fv];simp) (by simp[eX])) (by rw[fv];rfl) rfl;have MH:(ae s).take s.length=ae s:=acu (by omega)
   have aaV:jf [.ak 1 0 0 s.length,.int .i64 (vV t s),.aa true [.agg [.int .i64 t.k,.str t.s,.int .i64 t.o,.aa false (ae t.l)]]] [box,⟨.m,0,4,ae s⟩]=some (.ak 1 1 0 (s.length+1),[box,⟨.m,1,4,(ae s).take (vV t s)++[.agg [.int .i64 t.k,.str t.s,.int .i64 t.o,.aa false (ae t.l)]]++(ae s).drop (vV t s)⟩]):=by
    have hg:getM [box,(⟨.m,0,4,ae s⟩:aw)] 1 0=some ⟨.m,0,4,ae s⟩:=by simp[getM]
    have gk:=OH s;have ee:aV [box,(⟨.m,0,4,ae s⟩:aw)]=true:=(HV.yn ⟨by rw[fv];simp,by rw[fv];simp⟩ ⟨by simp,by simp⟩).closed;simp only[jf,hg,MH];rw[if_pos ⟨trivial,trivial,by omega,by omega,by omega,by omega,by simp[kY,aU,ao,cells,bM],gk,ee⟩];simp
   subst fv;refine bg.two rfl rfl ⟨0,λn _=>Um rfl (us:=[.ak 1 0 0 s.length,.int .i64 (vV t s),.aa true [.agg [.int .i64 t.k,.str t.s,.int .i64 t.o,.aa false (ae t.l)]]]) rfl aaV⟩ ?_;refine D.assign rfl ?_;refine bg.nil ⟨_,_,rfl,?_⟩
   conv=>whnf
   have Kj:ae (s.take (vV t s)++t::s.drop (vV t s))=(ae s).take (vV t s)++[enc t]++(ae s).drop (vV t s):=by simp[dm]
   have xi:(ae (s.take (vV t s)++t::s.drop (vV t s))).length=s.length+1:=by rw[ai];simp;omega
   rw[Kj,ar]at xi;rw[Kj,ar];exact iL (ep:=1) (sz:=4) (tl:=[]) (by simp) xi (by rw[<-ar,<-Kj];simp) (by rw[<-ar,<-Kj];simp)
 ·rw[Sc hf];refine wA ?_;exact⟨_,rfl,by simp[aR,cj]⟩
theorem Iy(d:fq)(u:Tm)(hu:ax u<1000000000)(hk:d.kn.length<1000000000)(hb:∀t∈d.kn,ax t<1000000000)(id:Nat)(H:ab)(hH:aV (H++[⟨.m,0,4,[enc u]⟩])=true)(h0:H[id]?=some ⟨.m,0,5,[s9 d]⟩):
  ay C 87 [enc u,.ptr id 0 0 0] H (λr h'=>r=.bool (!bJ d.kn u)/\iF H h'):=by
 have h1:=P6 d.kn u hu hk hb;rw[o8]at h0;rw[ar]at h1 hH ⊢;refine ay.x T6 Tryz.func87 rfl ?_;refine wA ?_;refine .p h1 ?_
 cases bJ d.kn u
 all_goals
  refine wA ?_;exact⟨rfl,(iF.refl _).db (HV.one (by simp))⟩
theorem zG(b:List Tm)(v:PV)(u:Tm)(hu:ax u<1000000000)(hk:b.length<1000000000)(hb:∀t∈b,ax t<1000000000)(id:Nat)(H:ab)(hH:aV (H++[⟨.m,0,4,[enc u]⟩])=true)(h0:H[id]?=some ⟨.m,0,1,[v]⟩)(ho:Out 4 H v (ae b)):
  ay C 89 [enc u,.ptr id 0 0 0] H (λr h'=>r=.bool (!bJ b u)/\iF H h'):=by
 have h1:=P6 b u hu hk hb;have x7:=ho.db [⟨.m,0,4,[enc u]⟩];rw[ar]at h1 hH x7 ⊢;refine ay.x T6 Tryz.func89 rfl ?_;have Ck:=x7;rcases x7 with⟨rfl,e⟩|⟨eH,ep,rfl,e⟩
 all_goals
  refine wA ?_;refine aj.XN (.inl Ck) h1 ?_
  cases bJ b u
  all_goals
   refine wA ?_;exact⟨rfl,(iF.refl _).db (HV.one (by simp))⟩
def ov(p:List fq):Option (List Tm):=p.getLast?.map fq.kn
def eU(p:List fq):List Tm:=p.flatMap λd=>bL d.tm
theorem kq(p:List fq)(d:fq):ov (p++[d])=some d.kn:=by simp[ov]
theorem jq(p:List fq)(d:fq):eU (p++[d])=eU p++bL d.tm:=by simp[eU]
theorem BV{l p q:List Tm}{u:Tm}(e:l=p++u::q)(hp:∀v∈p,cE v=0)(hu:cE u≠0):gh l=cE u:=by
 subst e
 induction p with
 |nil=>simp only[acD,gh];rw[if_pos hu]
 |cons v p ih=>
  simp only[aco,gh];rw[if_neg (by rw[hp v (by simp)];simp),ih (λw hw=>hp w (by simp[hw]))]
theorem wu:∀{l:List Tm},(∀v∈l,cE v=0)->gh l=0
 |[],_=>rfl
 |v::l,h=>by
  rw[gh,if_neg (by rw[h v (by simp)];simp)];exact wu λu hu=>h u (by simp[hu])
theorem fk{t:Tm}(h:cE t=0):ax t<=10000:=fe (r9 h).1
theorem FN{p:List fq}(h:∀d∈p,cE d.tm=0):(eU p).length<=p.length * 10000:=by
 induction p with
 |nil=>simp[eU]
 |cons d p ih=>
  have h1:=ih λx hx=>h x (by simp[hx])
  have h2:=fy d.tm;have h3:=fk (h d (by simp));simp only[eU,adj,ab3,ab9]at h1 ⊢;omega
theorem BW{p:List fq}(h:∀d∈p,cE d.tm=0):∀t∈eU p,ax t<=10000:=by
 intro t ht
 obtain⟨d,hd,ht⟩:=acL.1 ht;have:=j4 ht;have:=fk (h d hd);omega
theorem yv(l:List fq)(hl:l.length<1000000000)(hb:∀d∈l,d.kn.length<10000000/\∀t∈d.kn++[d.tm],ax t<10000000):aI C 30 [.aa false (bV l)] (.int .i64 (kL l)):=by
 have cz:=gv l;refine aI.x T6 Tryz.func30 rfl ?_;refine wC (λhc=>?_) λhc=>?_;exact⟨_,rfl,by rw[kL,if_pos (by omega)];rfl⟩;have WI:kL l=mP none [] l:=by rw[kL,if_neg (by omega)]
 refine cU.zip T6 l (λp q L H=>∃v,L=[(0,.aa false (bV l)),(3,.ptr 0 0 0 0),(14,.aa false (bV l)),(15,.int .i64 (bV l).length),(16,.int .i64 p.length)]/\HR H/\H[0]?=some ⟨.m,0,1,[v]⟩/\Out 4 H v (ae (eU p))/\(∀i∈b9 v,1<=i)/\kL l=mP (ov p) (eU p) q/\∀d∈p,cE d.tm=0) (.nx ⟨_,rfl,(HV.one (by simp)).hr,rfl,.inl ⟨rfl,rfl⟩,by simp[b9],WI,by simp⟩) ?_ ?_
 ·rintro p d q _ H O e ⟨v,rfl,hH,h0,ho,hv,hs,hp⟩;have cC:=gL e;have dp:=lenE e;obtain⟨sZ,QC⟩:=hb d (by rw[e];simp);have htf:=uU d sZ;have hek:=ai d.kn;rw[mP]at hs;rw[o8]at htf;refine wC (λhc=>?_) λhc=>?_;exact⟨_,rfl,by rw[hs,if_pos (by omega)];rfl⟩;rw[if_neg (by omega)]at hs
  skip
  refine .p htf ?_;refine wA ?_;obtain⟨H2,pE⟩:∃x,x=H++[⟨.m,0,5,[.agg [.aa false (ae d.kn),.int .i64 d.tm.k,.str d.tm.s,.int .i64 d.tm.o,.aa false (ae d.tm.l)]]⟩]:=⟨_,rfl⟩;have b2:H2[H.length]?=some ⟨.m,0,5,[.agg [.aa false (ae d.kn),.int .i64 d.tm.k,.str d.tm.s,.int .i64 d.tm.o,.aa false (ae d.tm.l)]]⟩:=by rw[pE];simp
  have z2:H2[0]?=some ⟨.m,0,1,[v]⟩:=by rw[pE,abW (ag h0)];exact h0
  have r2:HR H2:=by rw[pE];exact hH.du (HV.one (by simp))
  have o2:Out 4 H2 v (ae (eU p)):=by rw[pE];exact ho.db _
  have ekt:=ai (d.kn++[d.tm]);rw[<-pE];refine cU.zip T6 (d.kn++[d.tm]) (λp2 q2 L K=>L=[(0,.aa false (bV l)),(3,.ptr 0 0 0 0),(4,.int .i64 p.length),(5,.ptr H.length 0 0 0),(14,.aa false (bV l)),(15,.int .i64 (bV l).length),(16,.int .i64 p.length),(26,.aa false (ae (d.kn++[d.tm]))),(27,.int .i64 (ae (d.kn++[d.tm])).length),(28,.int .i64 p2.length)]/\iF H2 K/\∀u∈p2,cE u=0) (.nx ⟨rfl,iF.refl _,by simp⟩) ?_ ?_
  ·rintro p2 u q2 _ K O e2 ⟨rfl,hE,Ga⟩;have nh:=ba e2;have Cj:=congrArg List.length e2;rw[ab3,ab3]at Cj;simp only[ab9,acz]at Cj;rw[ab3]at ekt;simp only[ab9,acz]at ekt;have hri:=Ix u (QC u (by rw[e2];simp));rw[ar]at hri;refine wA ?_;refine .p hri ?_;refine wC (λhc=>?_) λhc=>?_;exact .nx ⟨rfl,hE.db (HV.one (by simp)),λw hw=>by rcases ab2.1 hw with h |h;exact Ga w h;simp at h;rw[h];assumption⟩
   ·have hra:=BV e2 Ga (by assumption);exact⟨_,rfl,by rw[hs,hra,if_pos (by assumption)];rfl⟩
  ·rintro _ K O ⟨rfl,hE,Ga⟩;rw[if_neg (by rw[wu Ga];simp)]at hs;have bK:=hE.at b2;have zK:=hE.at z2;have rK:HR K:=by obtain⟨J,hJ,rfl⟩:=hE;exact r2.du hJ
   have oK:Out 4 K v (ae (eU p)):=by obtain⟨J,hJ,rfl⟩:=hE;exact o2.db _
   have KT:=BW hp;have DJ:=FN hp;have jR:p.length<41:=by omega
   by_cases Dq:p=[]
   ·have Uv:kept (ov p) d.kn=true:=by rw[Dq];rfl
    rw[Uv,if_neg (by simp)]at hs;have FX:p.length=0:=by rw[Dq];rfl
    refine wA ?_;obtain⟨K3,hK3⟩:∃x,x=K:=⟨_,rfl⟩;rw[<-hK3]at bK zK rK oK ⊢;have b3:=bK;have z3:=zK;have r3:=rK;have o3:=oK;have ekn:=ai d.kn;refine cU.zip T6 d.kn (λp4 q4 L K4=>L=[(0,.aa false (bV l)),(3,.ptr 0 0 0 0),(5,.ptr H.length 0 0 0),(14,.aa false (bV l)),(15,.int .i64 (bV l).length),(16,.int .i64 p.length),(51,.aa false (ae d.kn)),(52,.int .i64 (ae d.kn).length),(53,.int .i64 p4.length)]/\iF K3 K4/\∀u∈p4,((bL u).all λx=>bJ (eU p) x)=true) (.nx ⟨rfl,iF.refl _,by simp⟩) ?_ ?_
    ·rintro p4 u q4 _ K4 O e4 ⟨rfl,AH,Iz⟩;have NG:=ba e4;have Q9:=lenE e4;have Ya:cE u=0:=Ga u (by rw[e4];simp);have WG:=fk Ya;have VY:=od u (by omega);have RA:=fy u;have r5:HR (K4++[⟨.m,0,4,[enc u]⟩]):=by obtain⟨J,hJ,rfl⟩:=AH;exact(r3.du hJ).du (HV.one (by simp))
     have z5:(K4++[⟨.m,0,4,[enc u]⟩])[0]?=some ⟨.m,0,1,[v]⟩:=by rw[abW (ag (AH.at z3))];exact AH.at z3
     have o5:Out 4 (K4++[⟨.m,0,4,[enc u]⟩]) v (ae (eU p)):=by obtain⟨J,hJ,rfl⟩:=AH;exact(o3.db _).db _
     have IA:=q9 (bL u) 89 [.ptr 0 0 0 0] (λx=>!bJ (eU p) x) (K4++[⟨.m,0,4,[enc u]⟩]) (by omega) (λx hx=>iA.opened λH' hE=>by
      have rL:=j4 hx;obtain⟨J,hJ,rfl⟩:=hE;exact zG (eU p) v x (by omega) (by omega) (λt ht=>by have:=KT t ht;omega) 0 _ ((r5.du hJ).du (HV.one (by simp))).closed (by rw[abW (ag z5)];exact z5) (o5.db _))
     rw[ar]at VY IA;refine wA ?_;refine .p VY ?_;refine wA ?_;refine .ex IA (λh' hE5=>?_)
     cases rC:(bL u).any λx=>!bJ (eU p) x
     ·have eR:((bL u).all λx=>bJ (eU p) x)=true:=by
       rw[adi]at rC;rw[abX]
       intro x hx
       simpa using rC x hx
      refine wA ?_;exact .nx ⟨rfl,(AH.db (HV.one (by simp))).trans hE5,λw hw=>by rcases ab2.1 hw with h |h;exact Iz w h;simp at h;rw[h];exact eR⟩
     ·have sG:Dm (eU p) d.kn=false:=by
       unfold Dm;rw[adN];refine⟨u,by rw[e4];simp,?_⟩;obtain⟨x,hx,rL⟩:=adn.1 rC;rw[abX]
       intro h
       have:=h x hx;simp[this]at rL
      refine wA ?_;exact⟨_,rfl,by rw[hs,if_pos sG];rfl⟩
    ·rintro _ K4 O ⟨rfl,AH,Iz⟩
     have sG:Dm (eU p) d.kn=true:=by
      unfold Dm;rw[abX];exact Iz
     rw[sG,if_neg (by simp)]at hs;have b6:=AH.at b3;have z6:=AH.at z3;have r6:HR K4:=by obtain⟨J,hJ,rfl⟩:=AH;exact r3.du hJ
     have o6:Out 4 K4 v (ae (eU p)):=by obtain⟨J,hJ,rfl⟩:=AH;exact o3.db _
     have UF:cE d.tm=0:=Ga d.tm (by simp);have Dp:=fk UF;have Ko:=od d.tm (by omega);have RA:=fy d.tm;rw[ar]at Ko;have o7:=o6;have k6:=ag z6;have zZ:=ai (bL d.tm);have Np:=ai (eU p);rcases o7 with⟨rfl,e7⟩|⟨id7,ep7,rfl,e7⟩
     all_goals
      refine wA ?_;refine .p Ko ?_;refine wA ?_;refine .lr (λv' h' lr=>?_) o6;have f0:h'[0]?=K4[0]?:=lr.fr 0 k6 (λep n hh=>by have:=hv 0 (by rw[hh];simp[b9]);omega);rw[z6]at f0;have lo:=lr.out;have lh:=lr.hr;have kh:=ag f0
      have hw:∀i∈b9 v',1<=i:=λi hi=>by
       rcases lr.b9 i hi with h |h;exact hv i h;omega
      have RT:=lo.bu;rw[<-bS,<-jq]at lo;rcases lo with⟨rfl,e8⟩|⟨id8,ep8,rfl,e8⟩
      all_goals
       refine wA ?_;refine .nx ⟨_,rfl,lh.set _ (by simp) (by simpa[bG,bu]using RT),abY kh,?_,hw,by rw[kq,jq];exact hs,λw hw=>by rcases ab2.1 hw with h |h;exact hp w h;simp at h;rw[h];exact UF⟩
       first
        |exact .inl ⟨rfl,e8⟩
        |exact .inr ⟨id8,ep8,rfl,(ab0 (by have:=hw id8 (by simp[b9]);omega)).trans e8⟩
   ·obtain⟨p',e0,tT⟩:∃p' e0,p=p'++[e0]:=by
     rcases aeo p with h |⟨a,b,h⟩;exact absurd h Dq;exact⟨a,b,by rw[h];simp⟩
    have rz:=gL (l:=l) (p:=p') (d:=e0) (q:=d::q) (by rw[e,tT];simp);have FX:p.length=p'.length+1:=by rw[tT];simp
    have CC:ov p=some e0.kn:=by rw[tT,kq]
    obtain⟨abS,aby⟩:=hb e0 (by rw[e,tT];simp)
    have IA:=q9 e0.kn 87 [.ptr H.length 0 0 0] (λu=>!bJ d.kn u) K (by omega) (λx hx=>iA.opened λH' hE=>by
     obtain⟨J,hJ,rfl⟩:=hE;exact Iy d x (by have:=aby x (by simp[hx]);omega) (by omega) (λt ht=>by have:=QC t (by simp[ht]);omega) H.length _ ((rK.du hJ).du (HV.one (by simp))).closed (by rw[abW (ag bK)];exact bK))
    refine wA ?_;refine .mk (n:=p'.length) ?_ (by omega) rz rfl;refine wA ?_;refine .ex IA (λK3 hE3=>?_)
    cases rC:e0.kn.any λu=>!bJ d.kn u
    ·have JN:kept (ov p) d.kn=true:=by
      rw[CC];show(e0.kn.all λt=>bJ d.kn t)=true;rw[adi]at rC;rw[abX]
      intro x hx
      simpa using rC x hx
     rw[JN,if_neg (by simp)]at hs;have b3:=hE3.at bK;have z3:=hE3.at zK;have r3:HR K3:=by obtain⟨J,hJ,rfl⟩:=hE3;exact rK.du hJ
     have o3:Out 4 K3 v (ae (eU p)):=by obtain⟨J,hJ,rfl⟩:=hE3;exact oK.db _
     refine wA ?_;have ekn:=ai d.kn;refine cU.zip T6 d.kn (λp4 q4 L K4=>L=[(0,.aa false (bV l)),(3,.ptr 0 0 0 0),(5,.ptr H.length 0 0 0),(14,.aa false (bV l)),(15,.int .i64 (bV l).length),(16,.int .i64 p.length),(51,.aa false (ae d.kn)),(52,.int .i64 (ae d.kn).length),(53,.int .i64 p4.length)]/\iF K3 K4/\∀u∈p4,((bL u).all λx=>bJ (eU p) x)=true) (.nx ⟨rfl,iF.refl _,by simp⟩) ?_ ?_
     ·rintro p4 u q4 _ K4 O e4 ⟨rfl,AH,Iz⟩;have NG:=ba e4;have Q9:=lenE e4;have Ya:cE u=0:=Ga u (by rw[e4];simp);have WG:=fk Ya;have VY:=od u (by omega);have RA:=fy u;have r5:HR (K4++[⟨.m,0,4,[enc u]⟩]):=by obtain⟨J,hJ,rfl⟩:=AH;exact(r3.du hJ).du (HV.one (by simp))
      have z5:(K4++[⟨.m,0,4,[enc u]⟩])[0]?=some ⟨.m,0,1,[v]⟩:=by rw[abW (ag (AH.at z3))];exact AH.at z3
      have o5:Out 4 (K4++[⟨.m,0,4,[enc u]⟩]) v (ae (eU p)):=by obtain⟨J,hJ,rfl⟩:=AH;exact(o3.db _).db _
      have IA:=q9 (bL u) 89 [.ptr 0 0 0 0] (λx=>!bJ (eU p) x) (K4++[⟨.m,0,4,[enc u]⟩]) (by omega) (λx hx=>iA.opened λH' hE=>by
       have rL:=j4 hx;obtain⟨J,hJ,rfl⟩:=hE;exact zG (eU p) v x (by omega) (by omega) (λt ht=>by have:=KT t ht;omega) 0 _ ((r5.du hJ).du (HV.one (by simp))).closed (by rw[abW (ag z5)];exact z5) (o5.db _))
      rw[ar]at VY IA;refine wA ?_;refine .p VY ?_;refine wA ?_;refine .ex IA (λh' hE5=>?_)
      cases rC:(bL u).any λx=>!bJ (eU p) x
      ·have eR:((bL u).all λx=>bJ (eU p) x)=true:=by
        rw[adi]at rC;rw[abX]
        intro x hx
        simpa using rC x hx
       refine wA ?_;exact .nx ⟨rfl,(AH.db (HV.one (by simp))).trans hE5,λw hw=>by rcases ab2.1 hw with h |h;exact Iz w h;simp at h;rw[h];exact eR⟩
      ·have sG:Dm (eU p) d.kn=false:=by
        unfold Dm;rw[adN];refine⟨u,by rw[e4];simp,?_⟩;obtain⟨x,hx,rL⟩:=adn.1 rC;rw[abX]
        intro h
        have:=h x hx;simp[this]at rL
       refine wA ?_;exact⟨_,rfl,by rw[hs,if_pos sG];rfl⟩
     ·rintro _ K4 O ⟨rfl,AH,Iz⟩
      have sG:Dm (eU p) d.kn=true:=by
       unfold Dm;rw[abX];exact Iz
      rw[sG,if_neg (by simp)]at hs;have b6:=AH.at b3;have z6:=AH.at z3;have r6:HR K4:=by obtain⟨J,hJ,rfl⟩:=AH;exact r3.du hJ
      have o6:Out 4 K4 v (ae (eU p)):=by obtain⟨J,hJ,rfl⟩:=AH;exact o3.db _
      have UF:cE d.tm=0:=Ga d.tm (by simp);have Dp:=fk UF;have Ko:=od d.tm (by omega);have RA:=fy d.tm;rw[ar]at Ko;have o7:=o6;have k6:=ag z6;have zZ:=ai (bL d.tm);have Np:=ai (eU p);rcases o7 with⟨rfl,e7⟩|⟨id7,ep7,rfl,e7⟩
      all_goals
       refine wA ?_;refine .p Ko ?_;refine wA ?_;refine .lr (λv' h' lr=>?_) o6;have f0:h'[0]?=K4[0]?:=lr.fr 0 k6 (λep n hh=>by have:=hv 0 (by rw[hh];simp[b9]);omega);rw[z6]at f0;have lo:=lr.out;have lh:=lr.hr;have kh:=ag f0
       have hw:∀i∈b9 v',1<=i:=λi hi=>by
        rcases lr.b9 i hi with h |h;exact hv i h;omega
       have RT:=lo.bu;rw[<-bS,<-jq]at lo;rcases lo with⟨rfl,e8⟩|⟨id8,ep8,rfl,e8⟩
       all_goals
        refine wA ?_;refine .nx ⟨_,rfl,lh.set _ (by simp) (by simpa[bG,bu]using RT),abY kh,?_,hw,by rw[kq,jq];exact hs,λw hw=>by rcases ab2.1 hw with h |h;exact hp w h;simp at h;rw[h];exact UF⟩
        first
         |exact .inl ⟨rfl,e8⟩
         |exact .inr ⟨id8,ep8,rfl,(ab0 (by have:=hw id8 (by simp[b9]);omega)).trans e8⟩
    ·have JN:kept (ov p) d.kn=false:=by
      rw[CC];show(e0.kn.all λt=>bJ d.kn t)=false;obtain⟨x,hx,rL⟩:=adn.1 rC;rw[adN];exact⟨x,hx,by simpa using rL⟩
     refine wA ?_;exact⟨_,rfl,by rw[hs,if_pos JN];rfl⟩
 ·rintro _ H O ⟨v,rfl,hH,h0,ho,hv,hs,hp⟩;refine wA ?_;exact⟨_,rfl,by rw[hs,mP];rfl⟩
end bC
end Go.Pm
