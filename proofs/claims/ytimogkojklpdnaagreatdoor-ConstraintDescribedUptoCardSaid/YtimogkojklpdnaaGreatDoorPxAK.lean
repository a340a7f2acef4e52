/-
  Pm, a part. Conditions: none.
-/
import Derived.Test.YtimogkojklpdnaaGreatDoorPxAJ
set_option linter.unusedVariables false
set_option linter.unusedSimpArgs false
set_option linter.unnecessarySimpa false
namespace Go.Pm
set_option maxRecDepth 4000
theorem jY{C:cR}{T:lQ C.P}{L:Al}{h:ab}{a b n:Nat}{t:TypeId}{cs vs:List PV}{sz:Nat}{rs:List ResultVar}(ha:lk L a=some (.ptr b 0 0 0))(hb:h[b]?=some ⟨.m,0,n,[.agg cs]⟩)(hs:T.ts t=some (sz+1))(ht:T.ta t=some true)(hl:cs.length=sz+1)(hr:zp T L h rs=some vs):zp T L h (.cell a t::rs)=some (.agg cs::vs):=by
 have hp:cN h (.ptr b 0 0 0)=some cs:=(O2 hb).trans rfl
 have hld:loadT T h t (.ptr b 0 0 0)=some (.agg cs):=by
  unfold loadT;rw[hs,ht,hp];have:Nat.ble (sz+1) cs.length=true:=Nat.ble_eq_true_of_le (by omega);simp only[this,if_true];rw[abO (by omega)]
 simp only[zp,ha,hld,hr]
namespace bE
open Go.Proofs
def bJ:List PV:=Ma.map BP
theorem Fm:aI C 156 [] (.aa false bJ):=aI.oF (n:=100) (by kernel_rfl)
theorem tT:aI C 218 [] (.aa false bJ):=aI.oF (n:=100) (by kernel_rfl)
theorem u6{p q:List Sy}{y:Sy}(e:Ma=p++y::q):bJ[p.length]?=some (.agg [.str y.n,.int .i64 y.a,.int .i64 y.b,.int .i64 y.k]):=by rw[bJ,e];simp[BP]
@[simp] theorem zt:bJ.length=21:=rfl
theorem tU:Ma.length=21:=rfl
@[simp] theorem TY:ar bJ=true:=rfl
theorem mw{p q:List Sy}{y:Sy}{s:ByteArray}(e:Ma=p++y::q)(hp:∀z∈p,z.n.toList≠s.toList)(h:y.n.toList=s.toList):bZ s=y:=by
 unfold bZ;rw[e,List.find?_append,List.find?_eq_none.2 (λz hz=>by simpa using hp z hz)];simp[h]
theorem nT{s t:ByteArray}(h:s.toList=t.toList):bZ s=bZ t:=by unfold bZ;rw[h]
theorem jf{s n:ByteArray}(h:¬s.toList=n.toList):eI s n=false:=by unfold eI;simpa using h
theorem kO{s n:ByteArray}(h:s.toList=n.toList):eI s n=true:=by unfold eI;simpa using h
theorem BN:(bZ od).a=1:=by kernel_rfl
theorem sx{s:ByteArray}(hp:∀z∈Ma,z.n.toList≠s.toList):bZ s=sy0:=by
 unfold bZ;rw[List.find?_eq_none.2 (λz hz=>by simpa using hp z hz)]
 rfl
attribute [local irreducible] aD az aL aJ Ev ah aj ay aY bJ
theorem qd(s:ByteArray):aI C 111 [.str s] (BP (bZ s)):=by
 have hs:=Fm;refine aI.x T6 Tryz.func111 rfl ?_;refine wA ?_;refine .p hs ?_;refine wA ?_;refine cO.zip T6 Ma (λp q L H=>L=[(0,.str s),(2,.ptr 0 0 0 0),(5,.aa false bJ),(6,.int .i64 21),(7,.int .i64 p.length)]/\HV H/\H[0]?=some ⟨.m,0,4,[.agg [.str ByteArray.empty,.int .i64 0,.int .i64 0,.int .i64 0]]⟩/\∀z∈p,z.n.toList≠s.toList) (.nx ⟨rfl,HV.one rfl,rfl,λz hz=>by cases hz⟩) ?_ ?_
 ·rintro p y q _ H ρ e ⟨rfl,hH,h0,hp⟩;have cm:=u6 e;have di:=congrArg List.length e;rw[tU]at di;simp only[abr,abx]at di;refine wC (λhc=>?_) λhc=>?_
  ·refine .mk ?_ (jY (T:=T6) rfl (abl (by simp)) rfl rfl rfl rfl);refine wA ?_;exact⟨_,rfl,by rw[mw e hp hc];simp[aO,b9,aR,BP]⟩
  ·exact .nx ⟨rfl,hH.cB (HV.one (by simp)),by rw[abj (ag h0)];exact h0,λz hz=>by rcases abp.1 hz with h |h;exact hp z h;simp at h;rw[h];exact hc⟩
 ·rintro _ H ρ ⟨rfl,hH,h0,hp⟩;rw[tU];refine wA ?_;refine .mk ?_ (jY (T:=T6) rfl (abl (ag h0)) rfl rfl rfl rfl);refine wA ?_;exact⟨_,rfl,by rw[sx hp];simp[aO,b9,aR,BP,sy0]⟩
theorem Cv(y:Sy):BP y=.agg [.str y.n,.int .i64 y.a,.int .i64 y.b,.int .i64 y.k]:=rfl
theorem re{l p q:List Tm}{u:Tm}(e:l=p++u::q)(hp:∀v∈p,lI v=0)(hu:lI u≠0):si l=lI u:=by
 subst e
 induction p with
 |nil=>simp only[abT,si];rw[if_pos hu]
 |cons v p ih=>
  simp only[abH,si];rw[if_neg (by rw[hp v (by simp)];simp),ih (λw hw=>hp w (by simp[hw]))]
theorem gk:∀{l:List Tm},(∀v∈l,lI v=0)->si l=0
 |[],_=>rfl
 |v::l,h=>by rw[si,if_neg (by rw[h v (by simp)];simp),gk λw hw=>h w (by simp[hw])]
theorem HV.yg{o p:aw}(h1:o.mu≠.x/\ar o.es=true)(h2:p.mu≠.x/\ar p.es=true):HV [o,p]:=λx hx=>by
 simp only[abu,acB,or_false]at hx;rcases hx with rfl |rfl
 ·exact h1
 ·exact h2
theorem Ll(k s o l)(hl:l.length<1000000000)(ih:∀t∈l,aI C 186 [enc t] (.int .i64 (lI t))):aI C 186 [enc (.mk k s o l)] (.int .i64 (lI (.mk k s o l))):=by
 have hs:=qd s;have cr:=ai l;rw[Cv]at hs;rw[bh];refine aI.x T6 Tryz.func186 rfl ?_;refine wC (λhc=>?_) λhc=>?_
 ·refine .p hs ?_;refine wL (λhc=>?_) (λhc hc=>?_) (λhc hc hc=>?_) (λhc hc hc hc=>?_) (λhc hc hc hc hc=>?_) (λhc hc hc hc hc hc=>?_) λhc hc hc hc hc hc=>?_
  ·exact⟨_,rfl,by rw[lI,if_neg (by simp[*]),if_pos (by assumption)];rfl⟩
  ·exact⟨_,rfl,by rw[lI,if_neg (by simp[*]),if_neg (by assumption),if_pos (by omega)];rfl⟩
  ·exact⟨_,rfl,by rw[lI,if_neg (by simp[*]),if_neg (by assumption),if_pos (by omega)];rfl⟩
  ·have CL:fB s l=false->lI (.mk k s o l)=10:=λh=>by rw[lI,if_neg (by simp[*]),if_neg (by assumption),if_neg (by omega),if_pos h]
   have Od:fB s l=true->lI (.mk k s o l)=si l:=λh=>by rw[lI,if_neg (by simp[*]),if_neg (by assumption),if_neg (by omega),if_neg (by rw[h];simp)]
   have z7:(eI s Ah ||eI s sZ)=true:=by simp[eI,Ah, *]
   refine cO.zip T6 l (λp q L H=>L=[(1,.ptr 0 0 0 0),(38,.aa false (ae l)),(39,.int .i64 l.length),(40,.int .i64 p.length)]/\HV H/\H[0]?=some ⟨.m,0,4,[.agg [.int .i64 k,.str s,.int .i64 o,.aa false (ae l)]]⟩/\∀u∈p,eH u=true) (.nx ⟨rfl,by first |assumption |exact HV.yg (by simp) (by simp),rfl,λu hu=>by cases hu⟩) ?_ ?_
   ·rintro p u q _ H ρ e ⟨rfl,hH,h0,hp⟩;have cm:=bg e;have di:=lenE e
    have Pa:eH u=false->fB s l=false:=λh=>by
     have:l.all eH=false:=by rw[e];simp[h]
     simp[fB,z7,this]
    have nx:u.k≠3->u.o=1->∀v∈p++[u],eH v=true:=λh1 h2 v hv=>by
     rcases abp.1 hv with h |h
     ·exact hp v h
     ·simp at h;rw[h];simp[eH,h1,h2]
    refine wI (λhc=>?_) (λhc hc=>?_) λhc hc=>?_
    ·exact⟨_,rfl,by rw[CL (Pa (by simp[eH, *]))];rfl⟩
    ·exact .nx ⟨rfl,hH.cB (HV.one (by simp)),by rw[abj (ag h0)];exact h0,nx (by assumption) (by assumption)⟩
    ·exact⟨_,rfl,by rw[CL (Pa (by simp[eH, *]))];rfl⟩
   ·rintro _ H ρ ⟨rfl,hH,h0,hp⟩;have BM:=Od (by simp only[fB,z7,if_true];rw[abk];exact hp);refine wA ?_;refine cO.zip T6 l (λp q L H=>L=[(62,.aa false (ae l)),(63,.int .i64 l.length),(64,.int .i64 p.length)]/\HV H/\∀u∈p,lI u=0) (.nx ⟨rfl,by first |assumption |exact HV.yg (by simp) (by simp),λu hu=>by cases hu⟩) ?_ ?_
    ·rintro p u q _ H ρ e ⟨rfl,hH,hp⟩;have cm:=bg e;have di:=lenE e;have hi:=ih u (by rw[e];simp);rw[ao]at hi;refine wA ?_;refine .p hi ?_;refine wC (λhc=>?_) λhc=>?_
     ·exact .nx ⟨rfl,hH.cB (HV.one (by simp)),λv hv=>by rcases abp.1 hv with h |h;exact hp v h;simp at h;rw[h];assumption⟩
     ·exact⟨_,rfl,by rw[BM,re e hp (by assumption)];rfl⟩
    ·rintro _ H ρ ⟨rfl,hH,hp⟩;refine wA ?_;exact⟨_,rfl,by rw[BM,gk hp];rfl⟩
  ·have CL:fB s l=false->lI (.mk k s o l)=10:=λh=>by rw[lI,if_neg (by simp[*]),if_neg (by assumption),if_neg (by omega),if_pos h]
   have Od:fB s l=true->lI (.mk k s o l)=si l:=λh=>by rw[lI,if_neg (by simp[*]),if_neg (by assumption),if_neg (by omega),if_neg (by rw[h];simp)]
   have z7:(eI s Ah ||eI s sZ)=true:=by simp[eI,sZ, *]
   refine cO.zip T6 l (λp q L H=>L=[(1,.ptr 0 0 0 0),(38,.aa false (ae l)),(39,.int .i64 l.length),(40,.int .i64 p.length)]/\HV H/\H[0]?=some ⟨.m,0,4,[.agg [.int .i64 k,.str s,.int .i64 o,.aa false (ae l)]]⟩/\∀u∈p,eH u=true) (.nx ⟨rfl,by first |assumption |exact HV.yg (by simp) (by simp),rfl,λu hu=>by cases hu⟩) ?_ ?_
   ·rintro p u q _ H ρ e ⟨rfl,hH,h0,hp⟩;have cm:=bg e;have di:=lenE e
    have Pa:eH u=false->fB s l=false:=λh=>by
     have:l.all eH=false:=by rw[e];simp[h]
     simp[fB,z7,this]
    have nx:u.k≠3->u.o=1->∀v∈p++[u],eH v=true:=λh1 h2 v hv=>by
     rcases abp.1 hv with h |h
     ·exact hp v h
     ·simp at h;rw[h];simp[eH,h1,h2]
    refine wI (λhc=>?_) (λhc hc=>?_) λhc hc=>?_
    ·exact⟨_,rfl,by rw[CL (Pa (by simp[eH, *]))];rfl⟩
    ·exact .nx ⟨rfl,hH.cB (HV.one (by simp)),by rw[abj (ag h0)];exact h0,nx (by assumption) (by assumption)⟩
    ·exact⟨_,rfl,by rw[CL (Pa (by simp[eH, *]))];rfl⟩
   ·rintro _ H ρ ⟨rfl,hH,h0,hp⟩;have BM:=Od (by simp only[fB,z7,if_true];rw[abk];exact hp);refine wA ?_;refine cO.zip T6 l (λp q L H=>L=[(62,.aa false (ae l)),(63,.int .i64 l.length),(64,.int .i64 p.length)]/\HV H/\∀u∈p,lI u=0) (.nx ⟨rfl,by first |assumption |exact HV.yg (by simp) (by simp),λu hu=>by cases hu⟩) ?_ ?_
    ·rintro p u q _ H ρ e ⟨rfl,hH,hp⟩;have cm:=bg e;have di:=lenE e;have hi:=ih u (by rw[e];simp);rw[ao]at hi;refine wA ?_;refine .p hi ?_;refine wC (λhc=>?_) λhc=>?_
     ·exact .nx ⟨rfl,hH.cB (HV.one (by simp)),λv hv=>by rcases abp.1 hv with h |h;exact hp v h;simp at h;rw[h];assumption⟩
     ·exact⟨_,rfl,by rw[BM,re e hp (by assumption)];rfl⟩
    ·rintro _ H ρ ⟨rfl,hH,hp⟩;refine wA ?_;exact⟨_,rfl,by rw[BM,gk hp];rfl⟩
  ·have CL:fB s l=false->lI (.mk k s o l)=10:=λh=>by rw[lI,if_neg (by simp[*]),if_neg (by assumption),if_neg (by omega),if_pos h]
   have Od:fB s l=true->lI (.mk k s o l)=si l:=λh=>by rw[lI,if_neg (by simp[*]),if_neg (by assumption),if_neg (by omega),if_neg (by rw[h];simp)]
   have z7:(eI s Ah ||eI s sZ)=false:=by rw[jf (n:=Ah) (by assumption),jf (n:=sZ) (by assumption)];rfl
   have hnw:eI s od=true:=kO (by assumption);have ha:(bZ s).a=1:=by rw[nT (by assumption:s.toList=od.toList)];exact BN
   obtain⟨u,r,rfl⟩:∃u r,l=u::r:=by cases l with |nil=>simp at cr;simp at *;omega |cons u r=>exact⟨u,r,rfl⟩
   have cm:(ae (u::r))[0]?=some (.agg [.int .i64 u.k,.str u.s,.int .i64 u.o,.aa false (ae u.l)]):=by rw[ae,<-ao];rfl
   have hpk:fB s (u::r)=decide (u.k=2):=by unfold fB;rw[z7,hnw];rfl
   refine .mk (n:=0) ?_ rfl cm rfl;generalize u::r=l at *;refine wC (λhc=>?_) λhc=>?_
   ·have BM:=Od (by rw[hpk];simp[*]);refine cO.zip T6 l (λp q L H=>L=[(62,.aa false (ae l)),(63,.int .i64 l.length),(64,.int .i64 p.length)]/\HV H/\∀u∈p,lI u=0) (.nx ⟨rfl,by first |assumption |exact HV.yg (by simp) (by simp),λu hu=>by cases hu⟩) ?_ ?_
    ·rintro p u q _ H ρ e ⟨rfl,hH,hp⟩;have cm:=bg e;have di:=lenE e;have hi:=ih u (by rw[e];simp);rw[ao]at hi;refine wA ?_;refine .p hi ?_;refine wC (λhc=>?_) λhc=>?_
     ·exact .nx ⟨rfl,hH.cB (HV.one (by simp)),λv hv=>by rcases abp.1 hv with h |h;exact hp v h;simp at h;rw[h];assumption⟩
     ·exact⟨_,rfl,by rw[BM,re e hp (by assumption)];rfl⟩
    ·rintro _ H ρ ⟨rfl,hH,hp⟩;refine wA ?_;exact⟨_,rfl,by rw[BM,gk hp];rfl⟩
   ·exact⟨_,rfl,by rw[CL (by rw[hpk];simp[*])];rfl⟩
  ·have Od:lI (.mk k s o l)=si l:=by
    have h1:fB s l=true:=by unfold fB;rw[jf (n:=Ah) (by assumption),jf (n:=sZ) (by assumption),jf (n:=od) (by assumption)];rfl
    rw[lI,if_neg (by simp[*]),if_neg (by assumption),if_neg (by omega),if_neg (by rw[h1];simp)]
   have BM:=Od;refine cO.zip T6 l (λp q L H=>L=[(62,.aa false (ae l)),(63,.int .i64 l.length),(64,.int .i64 p.length)]/\HV H/\∀u∈p,lI u=0) (.nx ⟨rfl,by first |assumption |exact HV.yg (by simp) (by simp),λu hu=>by cases hu⟩) ?_ ?_
   ·rintro p u q _ H ρ e ⟨rfl,hH,hp⟩;have cm:=bg e;have di:=lenE e;have hi:=ih u (by rw[e];simp);rw[ao]at hi;refine wA ?_;refine .p hi ?_;refine wC (λhc=>?_) λhc=>?_
    ·exact .nx ⟨rfl,hH.cB (HV.one (by simp)),λv hv=>by rcases abp.1 hv with h |h;exact hp v h;simp at h;rw[h];assumption⟩
    ·exact⟨_,rfl,by rw[BM,re e hp (by assumption)];rfl⟩
   ·rintro _ H ρ ⟨rfl,hH,hp⟩;refine wA ?_;exact⟨_,rfl,by rw[BM,gk hp];rfl⟩
 ·exact⟨_,rfl,by rw[lI,if_pos (by assumption)];rfl⟩
theorem HU(t:Tm)(hb:ax t<1000000000):aI C 186 [enc t] (.int .i64 (lI t)):=by
 induction t using Tm.ind with
 |h k s o l ih=>
  have:=ba l;simp only[ax]at hb;exact Ll k s o l (by omega) λt ht=>ih t ht (by have:=bC ht;omega)
theorem tq(t:Tm)(hb:ax t<100000000):aI C 139 [enc t] (.int .i64 (gw t)):=by
 have h1:=(fM t hb).nine;have h2:=HU t (by omega);rw[ao]at h1 h2 ⊢;refine aI.x T6 Tryz.func139 rfl ?_;refine wA ?_;refine .p h1 ?_;refine wC (λhc=>?_) λhc=>?_
 ·refine .p h2 ?_;refine wA ?_;exact⟨_,rfl,by unfold gw;rw[if_neg (by omega)];rfl⟩
 ·exact⟨_,rfl,by unfold gw;rw[if_pos (by assumption)];rfl⟩
theorem BQ{p:ByteArray->Bool}{l a q:List Tm}{u:Tm}(e:l=a++u::q)(hu:every p u=false):gI p l=false:=by
 subst e
 induction a with
 |nil=>simp only[abT,gI,hu];rfl
 |cons v a ih=>simp only[abH,gI,ih];simp
theorem qy{p:ByteArray->Bool}:∀{l:List Tm},(∀v∈l,every p v=true)->gI p l=true
 |[],_=>rfl
 |v::l,h=>by rw[gI,h v (by simp),qy λw hw=>h w (by simp[hw])];rfl
theorem Lm(g:FuncId)(p:ByteArray->Bool)(hm:C.mode g=.pure)(hg:∀s,aI C g [.str s] (.bool (p s)))(k s o l)(hl:l.length<1000000000)(ih:∀t∈l,aI C 109 [enc t,.fn g []] (.bool (every p t))):
  aI C 109 [enc (.mk k s o l),.fn g []] (.bool (every p (.mk k s o l))):=by
 have cr:=ai l;have hgs:=hg s;have oQ:every p (.mk k s o l)=((decide (k≠3)||p s)&&gI p l):=rfl;rw[bh];refine aI.x T6 Tryz.func109 rfl ?_;refine wC (λhc=>?_) λhc=>?_
 ·refine .p hgs ?_ hm
  cases hps:p s
  ·refine wA ?_;exact⟨_,rfl,by rw[oQ,hps];simp[aO, *]⟩
  ·have oQ:every p (.mk k s o l)=gI p l:=by rw[oQ,hps];simp
   refine wA ?_;refine cO.zip T6 l (λa q L H=>L=[(1,.fn g []),(18,.aa false (ae l)),(19,.int .i64 l.length),(20,.int .i64 a.length)]/\HV H/\∀u∈a,every p u=true) (.nx ⟨rfl,by first |assumption |exact HV.one (by simp),λu hu=>by cases hu⟩) ?_ ?_
   ·rintro a u q _ H ρ e ⟨rfl,hH,hp⟩;have cm:=bg e;have di:=lenE e;have hi:=ih u (by rw[e];simp);rw[ao]at hi;refine wA ?_;refine .p hi ?_
    cases hu:every p u
    ·refine wA ?_;exact⟨_,rfl,by rw[oQ,BQ e hu];rfl⟩
    ·refine wA ?_;exact .nx ⟨rfl,hH.cB (HV.one (by simp)),λv hv=>by rcases abp.1 hv with h |h;exact hp v h;simp at h;rw[h];exact hu⟩
   ·rintro _ H ρ ⟨rfl,hH,hp⟩;refine wA ?_;exact⟨_,rfl,by rw[oQ,qy hp];rfl⟩
 ·have oQ:every p (.mk k s o l)=gI p l:=by rw[oQ];simp[*]
  refine cO.zip T6 l (λa q L H=>L=[(1,.fn g []),(18,.aa false (ae l)),(19,.int .i64 l.length),(20,.int .i64 a.length)]/\HV H/\∀u∈a,every p u=true) (.nx ⟨rfl,by first |assumption |exact HV.one (by simp),λu hu=>by cases hu⟩) ?_ ?_
  ·rintro a u q _ H ρ e ⟨rfl,hH,hp⟩;have cm:=bg e;have di:=lenE e;have hi:=ih u (by rw[e];simp);rw[ao]at hi;refine wA ?_;refine .p hi ?_
   cases hu:every p u
   ·refine wA ?_;exact⟨_,rfl,by rw[oQ,BQ e hu];rfl⟩
   ·refine wA ?_;exact .nx ⟨rfl,hH.cB (HV.one (by simp)),λv hv=>by rcases abp.1 hv with h |h;exact hp v h;simp at h;rw[h];exact hu⟩
  ·rintro _ H ρ ⟨rfl,hH,hp⟩;refine wA ?_;exact⟨_,rfl,by rw[oQ,qy hp];rfl⟩
theorem yA(g:FuncId)(p:ByteArray->Bool)(hm:C.mode g=.pure)(hg:∀s,aI C g [.str s] (.bool (p s)))(t:Tm)(hb:ax t<1000000000):aI C 109 [enc t,.fn g []] (.bool (every p t)):=by
 induction t using Tm.ind with
 |h k s o l ih=>
  have:=ba l;simp only[ax]at hb;exact Lm g p hm hg k s o l (by omega) λt ht=>ih t ht (by have:=bC ht;omega)
theorem Ln(s:ByteArray):aI C 187 [.str s] (.bool (ua s)):=by
 have hs:=qd s;rw[Cv]at hs;have Xf:nj s=true->ua s=false:=λh=>by simp[ua,h]
 refine aI.x T6 Tryz.func187 rfl ?_;refine wL (λhc=>?_) (λhc hc=>?_) (λhc hc hc=>?_) (λhc hc hc hc=>?_) (λhc hc hc hc hc=>?_) (λhc hc hc hc hc hc=>?_) λhc hc hc hc hc hc=>?_
 ·exact⟨_,rfl,by rw[Xf (by unfold nj;rw[kO (n:=uM) (by assumption)];simp)];rfl⟩
 ·exact⟨_,rfl,by rw[Xf (by unfold nj;rw[kO (n:=hC) (by assumption)];simp)];rfl⟩
 ·exact⟨_,rfl,by rw[Xf (by unfold nj;rw[kO (n:=GW) (by assumption)];simp)];rfl⟩
 ·exact⟨_,rfl,by rw[Xf (by unfold nj;rw[kO (n:=yy) (by assumption)];simp)];rfl⟩
 ·exact⟨_,rfl,by rw[Xf (by unfold nj;rw[kO (n:=yz) (by assumption)];simp)];rfl⟩
 ·exact⟨_,rfl,by rw[Xf (by unfold nj;rw[kO (n:=qc) (by assumption)];simp)];rfl⟩
 ·have FB:nj s=false:=by
   unfold nj;rw[jf (n:=uM) (by assumption),jf (n:=hC) (by assumption),jf (n:=GW) (by assumption),jf (n:=yy) (by assumption),jf (n:=yz) (by assumption),jf (n:=qc) (by assumption)]
   rfl
  refine .p hs ?_;refine wC (λhc=>?_) λhc=>?_
  all_goals exact⟨_,rfl,by simp[aO,ua,FB, *]⟩
theorem Lo(t:Tm)(hb:ax t<100000000):aI C 140 [enc t] (.bool (kK t)):=by
 have h1:=tq t hb;have h2:=yA 187 ua rfl Ln t (by omega);rw[ao]at h1 h2 ⊢;refine aI.x T6 Tryz.func140 rfl ?_;refine wA ?_;refine .p h1 ?_;refine wC (λhc=>?_) λhc=>?_
 ·refine .p h2 ?_
  cases he:every ua t
  all_goals(
   refine wA ?_;exact⟨_,rfl,by simp[aO,kK, *]⟩)
 ·exact⟨_,rfl,by simp[aO,kK, *]⟩
theorem qY(s:ByteArray):aI C 169 [.str s] (.int .i64 (bZ s).k):=by
 have hs:=tT;have iK:bJ.length=21:=zt;refine aI.x T6 Tryz.func169 rfl ?_;refine wA ?_;refine .p hs ?_;refine wA ?_;refine cO.zip T6 Ma (λp q L H=>L=[(0,.str s),(3,.aa false bJ),(4,.int .i64 p.length)]/\HV H/\∀z∈p,z.n.toList≠s.toList) (.nx ⟨rfl,HV.nil,λz hz=>by cases hz⟩) ?_ ?_
 ·rintro p y q _ H ρ e ⟨rfl,hH,hp⟩;have cm:=u6 e;have di:=congrArg List.length e;rw[tU]at di;simp only[abr,abx]at di;refine wC (λhc=>?_) λhc=>?_
  ·exact⟨_,rfl,by rw[mw e hp (by assumption)];rfl⟩
  ·exact .nx ⟨rfl,hH,λz hz=>by rcases abp.1 hz with h |h;exact hp z h;simp at h;rw[h];assumption⟩
 ·rintro _ H ρ ⟨rfl,hH,hp⟩;rw[tU];refine wA ?_;exact⟨_,rfl,by rw[sx hp];rfl⟩
theorem Lg(k s o l)(hl:l.length<1000000000)(hk:(bZ s).k≠0):aI C 302 [enc (.mk k s o l)] (.bool (decide ((bZ s).a<=(l.length:Int)/\(l.length:Int)<=(bZ s).b))):=by
 have hs:=tT;have iK:bJ.length=21:=zt;have cr:=ai l;rw[bh];refine aI.x T6 Tryz.func302 rfl ?_;refine wA ?_;refine .p hs ?_;refine wA ?_;refine cO.zip T6 Ma (λp q L H=>L=[(1,.ptr 0 0 0 0),(3,.aa false bJ),(4,.int .i64 p.length)]/\HV H/\H[0]?=some ⟨.m,0,4,[.agg [.int .i64 k,.str s,.int .i64 o,.aa false (ae l)]]⟩/\∀z∈p,z.n.toList≠s.toList) (.nx ⟨rfl,HV.one (by simp),rfl,λz hz=>by cases hz⟩) ?_ ?_
 ·rintro p y q _ H ρ e ⟨rfl,hH,h0,hp⟩;have cm:=u6 e;have di:=congrArg List.length e;rw[tU]at di;simp only[abr,abx]at di
  (repeat' (first |(refine Rn.go ?_;conv=>whnf)|refine .mk ?_ |refine .tt ?_ |refine .mk (λhc=>?_) λhc=>?_ |fail))
  ·exact⟨_,rfl,by rw[mw e hp (by assumption)];simp[aO];omega⟩
  ·exact⟨_,rfl,by rw[mw e hp (by assumption)];simp[aO];omega⟩
  ·exact⟨_,rfl,by rw[mw e hp (by assumption)];simp[aO];omega⟩
  ·exact .nx ⟨rfl,hH,h0,λz hz=>by rcases abp.1 hz with h |h;exact hp z h;simp at h;rw[h];assumption⟩
 ·rintro _ H ρ ⟨rfl,hH,h0,hp⟩;exact absurd (by rw[sx hp];rfl) hk
def Zs:List Tm->Bool
 |u::_=>decide (u.k=2)
 |[]=>true
def TX(s:ByteArray)(l:List Tm):Bool:=if eI s od=true then Zs l else l.all eH
theorem HN(k s o l)(hl:l.length<1000000000)(bN:eI s od=true->l≠[]):aI C 303 [enc (.mk k s o l)] (.bool (TX s l)):=by
 have cr:=ai l;rw[bh];refine aI.x T6 Tryz.func303 rfl ?_;refine wC (λhc=>?_) λhc=>?_
 ·have hn:eI s od=true:=kO (by assumption);obtain⟨u,r,rfl⟩:∃u r,l=u::r:=by cases l with |nil=>exact absurd rfl (bN hn)|cons u r=>exact⟨u,r,rfl⟩
  have cm:(ae (u::r))[0]?=some (.agg [.int .i64 u.k,.str u.s,.int .i64 u.o,.aa false (ae u.l)]):=by rw[ae,<-ao];rfl
  have hg:TX s (u::r)=decide (u.k=2):=by unfold TX;rw[if_pos hn];rfl
  refine .mk (n:=0) ?_ rfl cm rfl;refine wC (λhc=>?_) λhc=>?_
  all_goals exact⟨_,rfl,by rw[hg];simp[aO, *]⟩
 ·have hn:eI s od=false:=jf (by assumption);have hg:TX s l=l.all eH:=by unfold TX;rw[if_neg (by rw[hn];simp)]
  refine cO.zip T6 l (λp q L H=>L=[(1,.ptr 0 0 0 0),(3,.int .i64 p.length)]/\HV H/\H[0]?=some ⟨.m,0,4,[.agg [.int .i64 k,.str s,.int .i64 o,.aa false (ae l)]]⟩/\∀u∈p,eH u=true) (.nx ⟨rfl,HV.one (by simp),rfl,λz hz=>by cases hz⟩) ?_ ?_
  ·rintro p u q _ H ρ e ⟨rfl,hH,h0,hp⟩;have cm:=bg e;have di:=lenE e;have Pa:eH u=false->l.all eH=false:=λh=>by rw[e];simp[h]
   refine wI (λhc=>?_) (λhc hc=>?_) λhc hc=>?_
   ·exact⟨_,rfl,by rw[hg,Pa (by simp[eH, *])];rfl⟩
   ·exact .nx ⟨rfl,hH,h0,λv hv=>by rcases abp.1 hv with h |h;exact hp v h;simp at h;rw[h];simp[eH, *]⟩
   ·exact⟨_,rfl,by rw[hg,Pa (by simp[eH, *])];rfl⟩
  ·rintro _ H ρ ⟨rfl,hH,h0,hp⟩;have ha:l.all eH=true:=by rw[abk];exact hp
   refine wA ?_;exact⟨_,rfl,by rw[hg,ha];rfl⟩
theorem HO:Ma.all (λy=>decide (y.k≠2)||(y.n.toList==Ah.toList ||y.n.toList==sZ.toList ||y.n.toList==od.toList))=true:=by kernel_rfl
theorem sy:(bZ Ah).k=2/\(bZ sZ).k=2/\(bZ od).k=2:=⟨by kernel_rfl,by kernel_rfl,by kernel_rfl⟩
theorem Lh{s:ByteArray}(h:(bZ s).k≠0):bZ s∈Ma/\(bZ s).n.toList=s.toList:=by
 unfold bZ at h ⊢
 cases hf:Ma.find? (λy=>y.n.toList==s.toList)with
 |none=>rw[hf]at h;exact absurd rfl h
 |some y=>exact⟨List.mem_of_find?_eq_some hf,by simpa using List.find?_some hf⟩
theorem Pb(s:ByteArray):(bZ s).k=2↔(eI s Ah=true\/eI s sZ=true\/eI s od=true):=by
 constructor
 ·intro h
  obtain⟨h1,h2⟩:=Lh (s:=s) (by omega);have:=abk.1 HO _ h1;rw[h2,h]at this;simpa[eI,or_assoc]using this
 ·rintro(h |h |h)
  ·rw[nT (t:=Ah) (by simpa[eI]using h)];exact sy.1
  ·rw[nT (t:=sZ) (by simpa[eI]using h)];exact sy.2.1
  ·rw[nT (t:=od) (by simpa[eI]using h)];exact sy.2.2
theorem qx:eI Ah od=false/\eI sZ od=false:=⟨by kernel_rfl,by kernel_rfl⟩
theorem Li(s:ByteArray)(l:List Tm):fB s l=if(bZ s).k=2 then TX s l else true:=by
 have hp:=Pb s;unfold fB TX
 by_cases h1:eI s Ah=true
 ·have:eI s od=false:=by
   have:=qx.1;unfold eI at this h1 ⊢;rw[beq_iff_eq]at h1;rw[h1];exact this
  rw[if_pos (hp.2 (.inl h1)),h1,this];rfl
 ·by_cases h2:eI s sZ=true
  ·have:eI s od=false:=by
    have:=qx.2;unfold eI at this h2 ⊢;rw[beq_iff_eq]at h2;rw[h2];exact this
   rw[if_pos (hp.2 (.inr (.inl h2))),h2,this];simp
  ·by_cases h3:eI s od=true
   ·rw[if_pos (hp.2 (.inr (.inr h3))),if_pos h3];simp[h1,h2,h3];rfl
   ·have hq:¬(bZ s).k=2:=λh=>by rcases hp.1 h with h |h |h <;>contradiction
    simp[h1,h2,h3,hq]
theorem Lj(k s o l)(hl:l.length<1000000000)(ih:∀t∈l,aI C 241 [enc t] (.int .i64 (lI t))):aI C 241 [enc (.mk k s o l)] (.int .i64 (lI (.mk k s o l))):=by
 have hk:=qY s;have cr:=ai l;have hf:=Lg k s o l hl;have Pa:=HN k s o l hl;rw[bh]at hf Pa ⊢;refine aI.x T6 Tryz.func241 rfl ?_;refine wC (λhc=>?_) λhc=>?_
 ·refine .p hk ?_;refine wC (λhc=>?_) λhc=>?_
  ·exact⟨_,rfl,by rw[lI,if_neg (by simp[*]),if_pos (by assumption)];rfl⟩
  ·refine .p (hf (by assumption)) ?_
   by_cases C7:(bZ s).a<=(l.length:Int)/\(l.length:Int)<=(bZ s).b
   ·rw[decide_eq_true C7];have BM:fB s l=true->lI (.mk k s o l)=si l:=λh=>by rw[lI,if_neg (by simp[*]),if_neg (by assumption),if_neg (by omega),if_neg (by rw[h];simp)]
    have qW:=Li s l
    have TN:eI s od=true->l≠[]:=λh hn=>by
     rw[nT (t:=od) (by simpa[eI]using h),BN,hn]at C7;simp at C7
    refine wC (λhc=>?_) λhc=>?_
    ·refine .p (Pa TN) ?_;rw[if_pos (by assumption)]at qW
     cases PK:TX s l
     ·refine wA ?_;exact⟨_,rfl,by rw[lI,if_neg (by simp[*]),if_neg (by assumption),if_neg (by omega),if_pos (by rw[qW,PK])];rfl⟩
     ·have BM:=BM (by rw[qW,PK]);refine wA ?_;refine cO.zip T6 l (λp q L H=>L=[(1,.ptr 0 0 0 0),(4,.int .i64 p.length)]/\HV H/\H[0]?=some ⟨.m,0,4,[.agg [.int .i64 k,.str s,.int .i64 o,.aa false (ae l)]]⟩/\∀u∈p,lI u=0) (.nx ⟨rfl,HV.one (by simp),rfl,λu hu=>by cases hu⟩) ?_ ?_
      ·rintro p u q _ H ρ e ⟨rfl,hH,h0,hp⟩;have cm:=bg e;have di:=lenE e;have hi:=ih u (by rw[e];simp);rw[ao]at hi;refine wA ?_;refine .p hi ?_;refine wC (λhc=>?_) λhc=>?_
       ·exact .nx ⟨rfl,hH,h0,λv hv=>by rcases abp.1 hv with h |h;exact hp v h;simp at h;rw[h];assumption⟩
       ·exact⟨_,rfl,by rw[BM,re e hp (by assumption)];rfl⟩
      ·rintro _ H ρ ⟨rfl,hH,h0,hp⟩;refine wA ?_;exact⟨_,rfl,by rw[BM,gk hp];rfl⟩
    ·have BM:=BM (by rw[qW,if_neg (by assumption)]);refine cO.zip T6 l (λp q L H=>L=[(1,.ptr 0 0 0 0),(4,.int .i64 p.length)]/\HV H/\H[0]?=some ⟨.m,0,4,[.agg [.int .i64 k,.str s,.int .i64 o,.aa false (ae l)]]⟩/\∀u∈p,lI u=0) (.nx ⟨rfl,HV.one (by simp),rfl,λu hu=>by cases hu⟩) ?_ ?_
     ·rintro p u q _ H ρ e ⟨rfl,hH,h0,hp⟩;have cm:=bg e;have di:=lenE e;have hi:=ih u (by rw[e];simp);rw[ao]at hi;refine wA ?_;refine .p hi ?_;refine wC (λhc=>?_) λhc=>?_
      ·exact .nx ⟨rfl,hH,h0,λv hv=>by rcases abp.1 hv with h |h;exact hp v h;simp at h;rw[h];assumption⟩
      ·exact⟨_,rfl,by rw[BM,re e hp (by assumption)];rfl⟩
     ·rintro _ H ρ ⟨rfl,hH,h0,hp⟩;refine wA ?_;exact⟨_,rfl,by rw[BM,gk hp];rfl⟩
   ·rw[decide_eq_false C7];refine wA ?_;exact⟨_,rfl,by rw[lI,if_neg (by simp[*]),if_neg (by assumption),if_pos (by omega)];rfl⟩
 ·exact⟨_,rfl,by rw[lI,if_pos (by assumption)];rfl⟩
theorem HP(t:Tm)(hb:ax t<1000000000):aI C 241 [enc t] (.int .i64 (lI t)):=by
 induction t using Tm.ind with
 |h k s o l ih=>
  have:=ba l;simp only[ax]at hb;exact Lj k s o l (by omega) λt ht=>ih t ht (by have:=bC ht;omega)
theorem qm(t:Tm)(hb:ax t<100000000):aI C 188 [enc t] (.int .i64 (gw t)):=by
 have h1:=(gL t (by omega)).nine;have h2:=HP t (by omega);rw[ao]at h1 h2 ⊢;refine aI.x T6 Tryz.func188 rfl ?_;refine wA ?_;refine .p h1 ?_;refine wC (λhc=>?_) λhc=>?_
 ·refine .p h2 ?_;refine wA ?_;exact⟨_,rfl,by unfold gw;rw[if_neg (by omega)];rfl⟩
 ·exact⟨_,rfl,by unfold gw;rw[if_pos (by assumption)];rfl⟩
theorem AB(s:ByteArray):aI C 242 [.str s] (.bool (nj s)):=by
 refine aI.x T6 Tryz.func242 rfl ?_;refine wL (λhc=>?_) (λhc hc=>?_) (λhc hc hc=>?_) (λhc hc hc hc=>?_) (λhc hc hc hc hc=>?_) (λhc hc hc hc hc hc=>?_) λhc hc hc hc hc hc=>?_
 ·exact⟨_,rfl,by unfold nj;rw[kO (n:=uM) (by assumption)];rfl⟩
 ·exact⟨_,rfl,by unfold nj;rw[kO (n:=hC) (by assumption)];simp[aO]⟩
 ·exact⟨_,rfl,by unfold nj;rw[kO (n:=GW) (by assumption)];simp[aO]⟩
 ·exact⟨_,rfl,by unfold nj;rw[kO (n:=yy) (by assumption)];simp[aO]⟩
 ·exact⟨_,rfl,by unfold nj;rw[kO (n:=yz) (by assumption)];simp[aO]⟩
 ·exact⟨_,rfl,by unfold nj;rw[kO (n:=qc) (by assumption)];simp[aO]⟩
 ·exact⟨_,rfl,by unfold nj;rw[jf (n:=uM) (by assumption),jf (n:=hC) (by assumption),jf (n:=GW) (by assumption),jf (n:=yy) (by assumption),jf (n:=yz) (by assumption),jf (n:=qc) (by assumption)];rfl⟩
theorem lK(a b:List Tm):cQ (a++b)=cQ a++cQ b:=by
 induction a with
 |nil=>rfl
 |cons t a ih=>simp[cQ,ih]
theorem BO:∀{l:List Tm},(∀t∈l,(pre t).length<=ax t)->(cQ l).length<=bp l
 |[],_=>by simp[cQ,bp]
 |t::l,h=>by
  have h1:=h t (by simp);have h2:=BO (l:=l) λu hu=>h u (by simp[hu])
  simp only[cQ,bp,abr];omega
theorem Fk(t:Tm):(pre t).length<=ax t:=by
 induction t using Tm.ind with
 |h k n o l ih=>
  have:=BO ih;simp only[pre,ax,abx];omega
theorem Pc{k s o l}(hb:ax (.mk k s o l)<100000000):(cQ l).length<100000000:=by
 have:=Fk (.mk k s o l);simp only[pre,abx]at this;omega
@[simp] theorem je(l:List Tm):dK 4 (ae l):=by
 unfold dK;rw[abk]
 intro v hv
 rw[c9]at hv;obtain⟨t,_,rfl⟩:=abZ.1 hv;rw[ao];rfl
theorem bT(a b:List Tm):ae (a++b)=ae a++ae b:=by rw[c9,c9,c9,ab6]
theorem vX{p:ByteArray->Bool}:∀{l:List Tm},(∀t∈l,every p t=(pre t).all λu=>decide (u.k≠3)||p u.s)->gI p l=(cQ l).all λu=>decide (u.k≠3)||p u.s
 |[],_=>rfl
 |t::l,h=>by
  rw[gI,cQ,acj,h t (by simp),vX λu hu=>h u (by simp[hu])]
theorem HQ{p:ByteArray->Bool}(t:Tm):every p t=(pre t).all λu=>decide (u.k≠3)||p u.s:=by
 induction t using Tm.ind with
 |h k n o l ih=>
  rw[every,pre,ace,vX ih]
  rfl
theorem Wn(k s o l)(hb:ax (.mk k s o l)<100000000)(ih:∀t∈l,aI C 168 [enc t] (.aa false (ae (pre t)))):aI C 168 [enc (.mk k s o l)] (.aa false (ae (pre (.mk k s o l)))):=by
 have cr:=ai l;rw[bh];have kH:=Pc hb;have Du:bp l<100000000:=by simp only[ax]at hb;omega
 have tY:=ba l;have one:∀u:Tm,ae [u]=[.agg [.int .i64 u.k,.str u.s,.int .i64 u.o,.aa false (ae u.l)]]:=λu=>by rw[ae,<-ao];rfl
 refine aI.x T6 Tryz.func168 rfl ?_;refine wA ?_;refine cO.zip T6 l (λp q L H=>∃v,L=[(1,.ptr 0 0 0 0),(3,v),(4,.int .i64 p.length)]/\HV H/\H[0]?=some ⟨.m,0,4,[.agg [.int .i64 k,.str s,.int .i64 o,.aa false (ae l)]]⟩/\((p=[]/\v=.aa true (ae [.mk k s o l])/\H=[⟨.m,0,4,[.agg [.int .i64 k,.str s,.int .i64 o,.aa false (ae l)]]⟩])\/(Out 4 H v (ae (.mk k s o l::cQ p))/\∀ep n,v≠.ak 0 ep 0 n))) (.nx ⟨_,rfl,HV.one (by simp),rfl,.inl ⟨rfl,by rw[one],rfl⟩⟩) ?_ ?_
 ·rintro p u q _ H ρ e ⟨v,rfl,hH,h0,ho⟩;have cm:=bg e;have di:=lenE e;have hi:=ih u (by rw[e];simp);rw[ao]at hi;have hpu:cQ l=cQ p++(pre u++cQ q):=by rw[e,lK];simp[cQ]
  have LV:=congrArg List.length hpu;simp only[abr]at LV;have bN:(ae (pre u)).isEmpty=false:=by cases u;rfl
  have iK:dK 4 (ae (pre u)):=je _;have hle:=ai (pre u);have m':cQ (p++[u])=cQ p++pre u:=by rw[lK];simp[cQ]
  refine wA ?_;refine .p hi ?_;rcases ho with⟨rfl,rfl,rfl⟩|⟨ho,Dw⟩
  ·refine wA ?_;refine .sn ?_ bN (by rw[ai];simp;omega) rfl iK (je _);refine wA ?_;have hv:∀(ep n:Nat) (m:Nat),(PV.ak 1 0 0 m:PV)≠.ak 0 ep 0 n:=λep n m h=>by cases h
   have e1:ae [Tm.mk k s o l]++ae (pre u)=ae (Tm.mk k s o l::cQ ([]++[u])):=by rw[m',<-bT];simp[cQ]
   have e2:(ae [Tm.mk k s o l]).length+(ae (pre u)).length=(Tm.mk k s o l::cQ ([]++[u])).length:=by rw[m',ai,ai];simp[cQ];omega
   refine .nx ⟨_,rfl,HV.yg (by simp) (by simp),rfl,.inr ⟨.inr ⟨1,0,?_,?_⟩,?_⟩⟩
   ·rw[e2,<-ai];rfl
   ·rw[<-e1];rfl
   ·exact λep n=>hv ep n _
  ·have zP:=ai (Tm.mk k s o l::cQ p);simp only[abx]at zP;refine wG λv H lp=>?_;obtain⟨k1,k2⟩:=lp.obj h0 Dw;exact .nx ⟨_,rfl,lp.hv,k1,.inr ⟨by have:=lp.out;rw[<-bT]at this;simpa[m']using this,k2⟩⟩
 ·rintro _ H ρ ⟨v,rfl,hH,h0,ho⟩;refine wA ?_;rcases ho with⟨rfl,rfl,rfl⟩|⟨ho,_⟩
  ·exact⟨_,rfl,by simp[aO,b9,pre,cQ]⟩
  ·exact Ls.Gc (.inl ho) (by simp) (by simp[pre])
theorem tL(t:Tm)(hb:ax t<100000000):aI C 168 [enc t] (.aa false (ae (pre t))):=by
 induction t using Tm.ind with
 |h k s o l ih=>
  refine Wn k s o l hb λt ht=>ih t ht ?_;have:=bC ht;simp only[ax]at hb;omega
theorem Wo{l p q:List Tm}{u:Tm}{f:Tm->Bool}(e:l=p++u::q)(hu:f u=false):l.all f=false:=by rw[e];simp[hu]
theorem Pd(t:Tm):kK t=(decide (gw t=0)&& (pre t).all λu=>decide (u.k≠3)||ua u.s):=by rw[kK,HQ]
theorem HS(t:Tm)(hb:ax t<100000000):aI C 189 [enc t] (.bool (kK t)):=by
 have h1:=qm t hb;have h2:=tL t hb;have hf:=Pd t;have cr:=ai (pre t);have kH:=Fk t;rw[ao]at h1 h2 ⊢;refine aI.x T6 Tryz.func189 rfl ?_;refine wA ?_;refine .p h1 ?_;refine wC (λhc=>?_) λhc=>?_
 ·have hf:kK t=(pre t).all λu=>decide (u.k≠3)||ua u.s:=by rw[hf];simp[*]
  refine .p h2 ?_;refine wA ?_;refine cO.zip T6 (pre t) (λp q L H=>L=[(3,.aa false (ae (pre t))),(4,.int .i64 p.length)]/\HV H/\∀u∈p,(decide (u.k≠3)||ua u.s)=true) (.nx ⟨rfl,HV.one (by simp),λu hu=>by cases hu⟩) ?_ ?_
  ·rintro p u q _ H ρ e ⟨rfl,hH,hp⟩;have cm:=bg e;have di:=lenE e;have ha:=AB u.s;have hk:=qY u.s;have zM:(decide (u.k≠3)||ua u.s)=false->kK t=false:=λh=>by rw[hf];exact Wo e h
   have hnx:(decide (u.k≠3)||ua u.s)=true->∀v∈p++[u],(decide (v.k≠3)||ua v.s)=true:=λh v hv=>by
    rcases abp.1 hv with h1 |h1
    ·exact hp v h1
    ·simp at h1;rw[h1];exact h
   refine wC (λhc=>?_) λhc=>?_
   ·refine .p ha ?_
    cases FB:nj u.s
    ·refine wA ?_;refine .p hk ?_;refine wC (λhc=>?_) λhc=>?_
     ·exact⟨_,rfl,by rw[zM (by simp[ua, *])];rfl⟩
     ·exact .nx ⟨rfl,hH,hnx (by simp[ua, *])⟩
    ·refine wA ?_;exact⟨_,rfl,by rw[zM (by simp[ua, *])];rfl⟩
   ·exact .nx ⟨rfl,hH,hnx (by simp[*])⟩
  ·rintro _ H ρ ⟨rfl,hH,hp⟩;have ha:kK t=true:=by rw[hf,abk];exact hp
   refine wA ?_;exact⟨_,rfl,by rw[ha];rfl⟩
 ·exact⟨_,rfl,by rw[hf];simp[aO, *]⟩
theorem Lz{h:ab}{v:PV}{k o:Int}{s:ByteArray}{es:List PV}(ho:Out 4 h v es)(hv:ar es=true)(hn:aR es=es):∃r1,rb h (aO [.agg [.int .i64 k,.str s,.int .i64 o,v]])=some r1/\b9 r1=.agg [.int .i64 k,.str s,.int .i64 o,.aa false es]:=by
 obtain⟨r,h1,h2⟩:∃r,oB h v=some r/\b9 r=.aa false es:=by
  rcases ho with⟨rfl,rfl⟩|⟨id,ep,rfl,e2⟩
  ·exact⟨_,rfl,rfl⟩
  ·exact⟨.aa false es,by simp[oB,getM,e2,hv],by simp[b9,hn]⟩
 refine⟨.agg [.int .i64 k,.str s,.int .i64 o,r],?_,by simp[b9,aR,h2]⟩;simp only[aO,rb,ke,nw,h1]
 rfl
theorem xS(k s o l)(hl:l.length<100000000)(ih:∀t∈l,aI C 179 [enc t] (enc t)):aI C 179 [enc (.mk k s o l)] (enc (.mk k s o l)):=by
 have cr:=ai l;rw[bh];refine aI.x T6 Tryz.func179 rfl ?_;refine wA ?_
 have C6:HR [⟨.m,0,4,[.agg [.int .i64 k,.str s,.int .i64 o,.aa true []]]⟩,⟨.m,0,4,[.agg [.int .i64 0,.str ByteArray.empty,.int .i64 0,.aa true []]]⟩]:=by
  intro x hx
  simp at hx;rcases hx with rfl |rfl <;>simp[bw,bq]
 refine cO.zip T6 l (λp q L H=>∃v,L=[(1,.ptr 0 0 0 0),(2,.ptr 1 0 0 0),(9,.aa false (ae l)),(10,.int .i64 (ae l).length),(11,.int .i64 p.length)]/\HR H/\H[0]?=some ⟨.m,0,4,[.agg [.int .i64 k,.str s,.int .i64 o,v]]⟩/\H[1]?=some ⟨.m,0,4,[.agg [.int .i64 0,.str ByteArray.empty,.int .i64 0,.aa true []]]⟩/\Out 4 H v (ae p)/\∀i∈bV v,2<=i) (.nx ⟨_,rfl,C6,rfl,rfl,.inl ⟨rfl,rfl⟩,by simp[bV]⟩) ?_ ?_
 ·rintro p u q _ H ρ e ⟨v,rfl,hH,h0,h1,ho,hv⟩;have cm:=bg e;have di:=lenE e;have hi:=ih u (by rw[e];simp);have hle:=ai p;have oN:HR (H++[⟨.m,0,4,[.agg [.int .i64 u.k,.str u.s,.int .i64 u.o,.aa false (ae u.l)]]⟩]):=hH.dA (HV.one (by simp));have ui:=ho.cB [⟨.m,0,4,[.agg [.int .i64 u.k,.str u.s,.int .i64 u.o,.aa false (ae u.l)]]⟩];have AX:=ag h1;have m':ae p++[.agg [.int .i64 u.k,.str u.s,.int .i64 u.o,.aa false (ae u.l)]]=ae (p++[u]):=by rw[bT,<-ao];rfl
  rw[ao]at hi;refine wA ?_;refine .p hi ?_;refine wA ?_;refine .lr (λv' h' lr=>?_) ui;have yf:∀j,j<2->∀ep n,v≠.ak j ep 0 n:=λj hj ep n hh=>by have:=hv j (by rw[hh];simp[bV]);omega
  have g0:=(lr.fr 0 (by simp) (yf 0 (by omega))).trans ((abj (by omega)).trans h0);have g1:=(lr.fr 1 (by simp;omega) (yf 1 (by omega))).trans ((abj (by omega)).trans h1);have VH:=lr.hr
  have N5:∀i∈bV v',2<=i:=λi hi=>by
   rcases lr.bV i hi with h |h
   ·exact hv i h
   ·simp at h;omega
  have lo:=lr.out;rw[m']at lo;have N6:=lo.bq;rcases lo with⟨_,hx⟩|⟨id,ep,rfl,bW⟩
  ·have:=congrArg List.length hx;rw[ai]at this;simp at this
  have k0:=ag g0;refine wA ?_;have PJ:=N5 id (by simp[bV]);exact .nx ⟨_,rfl,VH.set _ (by simp) (by simpa[bw,bq]using N6),abl k0,(abm (by omega)).trans g1,.inr ⟨id,ep,rfl,(abm (by omega)).trans bW⟩,N5⟩
 ·rintro _ H ρ ⟨v,rfl,hH,h0,h1,ho,hv⟩;have k1:=ag h1;have e2:=abl (a:=(⟨.m,0,4,[.agg [.int .i64 k,.str s,.int .i64 o,v]]⟩:aw)) k1;have zO:Out 4 (H.set 1 ⟨.m,0,4,[.agg [.int .i64 k,.str s,.int .i64 o,v]]⟩) v (ae l):=ho.of_eq λi hi=>abm (by have:=hv i hi;omega)
  rcases ho with⟨rfl,he⟩|⟨id,ep,rfl,bW⟩
  ·refine wA ?_;refine .mk ?_ (jY (T:=T6) rfl e2 rfl rfl rfl rfl);exact⟨Lz zO (by simp) (by simp)⟩
  ·refine wA ?_;refine .mk ?_ (jY (T:=T6) rfl e2 rfl rfl rfl rfl);exact⟨Lz zO (by simp) (by simp)⟩
theorem nK(t:Tm)(hb:ax t<100000000):aI C 179 [enc t] (enc t):=by
 induction t using Tm.ind with
 |h k s o l ih=>
  have:=ba l;simp only[ax]at hb;exact xS k s o l (by omega) λt ht=>ih t ht (by have:=bC ht;omega)
structure KS(H:ab)(v:PV)(a:List Tm)(h':ab):Prop where
 hr:HR h'
 len:H.length<=h'.length
 var:∃v',h'[2]?=some ⟨.m,0,1,[v']⟩/\Out 4 h' v' (ae a)/\∀i∈bV v',i∈bV v\/H.length<=i
 fr:∀j,j<H.length->j≠2->j∉bV v->h'[j]?=H[j]?
theorem KS.take{H h':ab}{v:PV}{a:List Tm}(s:KS H v a h')(h3:3<=H.length)(hr:HR (h'.take H.length)):KS H v a (h'.take H.length):=by
 have hl:=s.len;have cG:(h'.take H.length).length=H.length:=by simp;omega
 obtain⟨v',e1,e2,e3⟩:=s.var;have g1:(h'.take H.length)[2]?=some ⟨.m,0,1,[v']⟩:=by rw[ab1 (by omega)];exact e1
 have ij:=(hr _ (aby g1)).2;refine⟨hr,by omega,⟨v',g1,e2.of_eq λi hi=>?_,e3⟩,λj h1 h2 h3=>by rw[ab1 (by omega)];exact s.fr j h1 h2 h3⟩;rw[ab1];rcases e2 with⟨rfl,_⟩|⟨id,ep,rfl,_⟩
 ·simp[bV]at hi
 ·simp[bV]at hi;subst hi;simp[bw,bq]at ij;omega
theorem KS.trans{H h1 h2:ab}{v v1:PV}{a b:List Tm}(s:KS H v a h1)(e:h1[2]?=some ⟨.m,0,1,[v1]⟩)(t:KS h1 v1 b h2):KS H v b h2:=by
 obtain⟨v',q1,q2,q3⟩:=s.var;rw[q1]at e
 cases e
 obtain⟨v2,r1,r2,r3⟩:=t.var;have:=s.len;refine⟨t.hr,acb s.len t.len,⟨v2,r1,r2,λi hi=>?_⟩,λj h1 h2 h3=>?_⟩
 ·rcases r3 i hi with h |h
  ·exact q3 i h
  ·omega
 ·rw[t.fr j (by omega) h2 (λhh=>by rcases q3 j hh with h |h;exact h3 h;omega)];exact s.fr j h1 h2 h3
theorem aj.ks{f:FuncId}{args:List PV}{H:ab}{v:PV}{b:List Tm}{Q:PV->ab->Prop}(a:ay C f args H (λr h'=>r=.ct []/\KS H v b h'))(h3:3<=H.length)(q:∀h',KS H v b h'->Q (.ct []) h')(hm:C.mode f=.opened:=by rfl):aj C 2 f args H Q:=
 aj.sm a (λr h' p=>⟨p.2.hr,p.2.len⟩) (λr h' p=>by rw[p.1];exact q h' p.2) (λr h' p hr=>by rw[p.1];exact q _ (p.2.take h3 hr)) hm
theorem SC(u:Tm)(n:Int)(H:ab)(v:PV)(a:List Tm)(hH:HR H)(h1:H[1]?=some ⟨.m,0,1,[.int .i64 n]⟩)(h2:H[2]?=some ⟨.m,0,1,[v]⟩)(ho:Out 4 H v (ae a))(hv:∀i∈bV v,3<=i)(hn:a.length<100000000):
  ay C 154 [enc u,.ptr 1 0 0 0,.ptr 2 0 0 0] H (λr h'=>r=.ct []/\KS H v (a++if u.k=n then[u]else[]) h'):=by
 have hle:=ai a;have cG:=ag h2;have hu:ae a++[.agg [.int .i64 u.k,.str u.s,.int .i64 u.o,.aa false (ae u.l)]]=ae (a++[u]):=by rw[bT,<-ao];rfl
 rw[ao];refine ay.x T6 Tryz.func154 rfl ?_;refine wC (λhc=>?_) λhc=>?_
 ·refine Tj.apd h2 ho (λi hi=>by have:=hv i hi;omega) (by omega) (λid ep h' ap=>?_);refine wA ?_;refine⟨rfl,?_⟩;rw[if_pos hc];have hl:=ap.len;have bW:=ag ap.at';have hg:∀j,j<H.length->j≠id->j≠2->h'[j]?=H[j]?:=λj g1 g2 g3=>by rw[ap.fr j g2 g3,abj g1]
  refine⟨λo ho=>?_,by omega,⟨_,ap.var,.inr ⟨id,ep,by rw[ai];simp,by rw[<-hu];exact ap.at'⟩,λi hi=>?_⟩,λj g1 g2 g3=>hg j g1 (λhh=>?_) g2⟩
  ·obtain⟨j,hj⟩:=aco ho
   by_cases j1:j=id
   ·subst j1;rw[ap.at']at hj;cases hj;exact⟨by simp,bj _ _ (by rw[hu];simp)⟩
   by_cases j2:j=2
   ·subst j2;rw[ap.var]at hj;cases hj;exact⟨by simp,by simp[bw,bq];omega⟩
   rw[ap.fr j j1 j2]at hj;have:=(hH.dA (HV.one (ep:=0) (n:=4) (es:=[.agg [.int .i64 u.k,.str u.s,.int .i64 u.o,.aa false (ae u.l)]]) (by simp))) o (aby hj);exact⟨this.1,dW (λi hi=>by have:=of_decide_eq_true hi;simp at this;exact decide_eq_true (by omega)) _ this.2⟩
  ·simp[bV]at hi;subst hi;rcases ap.idv with h |h
   ·exact .inl h
   ·exact .inr (by omega)
  ·subst hh;rcases ap.idv with h |h
   ·exact g3 h
   ·omega
 ·refine⟨rfl,?_⟩;rw[if_neg hc,abJ];refine⟨hH.dA (HV.one (by simp)),by simp,⟨v,?_,ho.cB _,λi hi=>.inl hi⟩,λj g1 g2 g3=>abj g1⟩;rw[abj cG];exact h2
def wM(n:Int)(l:List Tm):List Tm:=l.filter λu=>decide (u.k=n)
theorem xk(n:Int)(l:List Tm):(wM n l).length<=l.length:=acm _ _
theorem Fs(n:Int)(u:Tm)(l:List Tm):wM n (u::l)=(if u.k=n then[u]else[])++wM n l:=by
 unfold wM
 by_cases h:u.k=n <;>simp[List.filter_cons,h]
theorem Jt(n:Int)(a b:List Tm):wM n (a++b)=wM n a++wM n b:=by simp[wM]
theorem KS.wc{H J h':ab}{v:PV}{a:List Tm}(s:KS (H++J) v a h'):KS H v a h':=by
 have hl:=s.len;rw[abr]at hl;obtain⟨v',e1,e2,e3⟩:=s.var;refine⟨s.hr,by omega,⟨v',e1,e2,λi hi=>?_⟩,λj h1 h2 h3=>by rw[s.fr j (by simp;omega) h2 h3,abj h1]⟩;rcases e3 i hi with h |h
 ·exact .inl h
 ·exact .inr (by simp at h;omega)
theorem j0(a b:List Tm):bp (a++b)=bp a+bp b:=by
 induction a with
 |nil=>simp[bp]
 |cons t a ih=>simp only[abH,bp,ih];omega
theorem SE (n:Int) (k s o l) (ih:∀t∈l,∀(H:ab) (v:PV) (a:List Tm),HR H->H[1]?=some ⟨.m,0,1,[.int .i64 n]⟩->H[2]?=some ⟨.m,0,1,[v]⟩->Out 4 H v (ae a)->(∀i∈bV v,3<=i)->a.length+ax t<100000000->
   ay C 128 [enc t,.fn 154 [.ptr 1 0 0 0,.ptr 2 0 0 0]] H (λr h'=>r=.ct []/\KS H v (a++wM n (pre t)) h'))
  (H:ab) (v:PV) (a:List Tm) (hH:HR H) (h1:H[1]?=some ⟨.m,0,1,[.int .i64 n]⟩) (h2:H[2]?=some ⟨.m,0,1,[v]⟩) (ho:Out 4 H v (ae a)) (hv:∀i∈bV v,3<=i) (hn:a.length+ax (.mk k s o l)<100000000):
  ay C 128 [enc (.mk k s o l),.fn 154 [.ptr 1 0 0 0,.ptr 2 0 0 0]] H (λr h'=>r=.ct []/\KS H v (a++wM n (pre (.mk k s o l))) h'):=by
 have cr:=ai l;have tY:=ba l;simp only[ax]at hn;have cG:=ag h2;have P0:HR (H++[⟨.m,0,4,[enc (.mk k s o l)]⟩]):=hH.dA (HV.one (by simp));have b1:(H++[⟨.m,0,4,[enc (.mk k s o l)]⟩])[1]?=some ⟨.m,0,1,[.int .i64 n]⟩:=by rw[abj (by omega)];exact h1
 have b2:(H++[⟨.m,0,4,[enc (.mk k s o l)]⟩])[2]?=some ⟨.m,0,1,[v]⟩:=by rw[abj cG];exact h2
 have pk:=SC (.mk k s o l) n (H++[⟨.m,0,4,[enc (.mk k s o l)]⟩]) v a P0 b1 b2 (ho.cB _) hv (by omega);rw[bh]at pk ⊢;refine ay.x T6 Tryz.func128 rfl ?_;refine wA ?_;refine aj.ks pk (by simp;omega) (λh' ks=>?_);refine wA ?_;have kw:=ks.wc
 have fg:h'[H.length]?=some ⟨.m,0,4,[.agg [.int .i64 k,.str s,.int .i64 o,.aa false (ae l)]]⟩:=by
  rw[ks.fr H.length (by simp) (by omega) (λhh=>by have:=ho.ls _ hh;omega)];simp
 refine wA ?_;have Hd:a++(if(Tm.mk k s o l).k=n then[Tm.mk k s o l]else[])=a++wM n (.mk k s o l::cQ []):=by rw[Fs];simp[cQ,wM]
 rw[Hd]at kw;refine cO.zip T6 l (λp q L K=>L=[(1,.fn 154 [.ptr 1 0 0 0,.ptr 2 0 0 0]),(10,.aa false (ae l)),(11,.int .i64 (ae l).length),(12,.int .i64 p.length)]/\KS H v (a++wM n (.mk k s o l::cQ p)) K) (.nx ⟨rfl,kw⟩) ?_ ?_
 ·rintro p u q _ K ρ e ⟨rfl,kp⟩;have cm:=bg e;have di:=lenE e;obtain⟨v1,q1,q2,q3⟩:=kp.var;have G9:=kp.len;have YV:=kp.hr
  have zR:∀i∈bV v1,3<=i:=λi hi=>by
   rcases q3 i hi with h |h
   ·exact hv i h
   ·omega
  have c1:K[1]?=some ⟨.m,0,1,[.int .i64 n]⟩:=by rw[kp.fr 1 (by omega) (by omega) (λhh=>by have:=hv 1 hh;omega)];exact h1
  have VN:bp l=bp p+(ax u+bp q):=by rw[e,j0];simp[bp]
  have kH:(cQ p).length<=bp p:=lW p;have hol:=xk n (Tm.mk k s o l::cQ p);simp only[abx]at hol;have ih1:=ih u (by rw[e];simp) (K++[⟨.m,0,4,[enc u]⟩]) v1 (a++wM n (Tm.mk k s o l::cQ p)) (YV.dA (HV.one (by simp))) (by rw[abj (by omega)];exact c1) (by rw[abj (ag q1)];exact q1) (q2.cB _) zR (by simp only[abr];omega);rw[ao]at ih1;refine wA ?_;refine aj.ks ih1 (by simp;omega) (λh' ks=>?_);refine wA ?_;refine .nx ⟨rfl,?_⟩;have:=kp.trans q1 ks.wc;rwa[abI,<-Jt,show Tm.mk k s o l::cQ p++pre u=Tm.mk k s o l::cQ (p++[u]) by rw[lK];simp[cQ]]at this
 ·rintro _ K ρ ⟨rfl,kp⟩;refine wA ?_;exact⟨rfl,by rw[pre];exact kp⟩
theorem SB(n:Int)(t:Tm):∀(H:ab) (v:PV) (a:List Tm),HR H->H[1]?=some ⟨.m,0,1,[.int .i64 n]⟩->H[2]?=some ⟨.m,0,1,[v]⟩->Out 4 H v (ae a)->(∀i∈bV v,3<=i)->a.length+ax t<100000000->
   ay C 128 [enc t,.fn 154 [.ptr 1 0 0 0,.ptr 2 0 0 0]] H (λr h'=>r=.ct []/\KS H v (a++wM n (pre t)) h'):=by
 induction t using Tm.ind with
 |h k s o l ih=>exact SE n k s o l ih
theorem Pv(a b:Tm)(ha:ax a<1000000000)(hb:ax b<1000000000):aI C 178 [enc a,enc b] (.bool (decide (aT a b=0))):=by
 have h1:=(eB a b ha hb).nine;rw[ao,ao]at h1 ⊢;refine aI.x T6 Tryz.func178 rfl ?_;refine wA ?_;refine .p h1 ?_;refine wC (λhc=>?_) λhc=>?_
 all_goals exact⟨_,rfl,by simp[aO, *]⟩
theorem tx(g:FuncId)(H:ab):ay C 162 [.aa true [],.fn g []] H (λr h'=>r=.aa true []/\h'=H):=by
 refine ay.x T6 Tryz.func162 rfl ?_;refine wA ?_;exact⟨rfl,rfl⟩
theorem qh(g:FuncId)(hm:C.mode g=.pure)(hg:∀a b:Tm,ax a<1000000000->ax b<1000000000->aI C g [enc a,enc b] (.bool (decide (aT a b=0))))(x:Tm)(l:List Tm)(H:ab)(hH:HR H)(id ep:Nat)(e1:H[id]?=some ⟨.m,ep,4,ae (x::l)⟩)(hn:l.length<100000000)(hb:∀t∈x::l,ax t<1000000000):
  ay C 162 [.ak id ep 0 (ae (x::l)).length,.fn g []] H
   (λr h'=>r=.ak id ep 0 (dd (x::l)).length/\∃tl,ar tl=true/\h'=H.set id ⟨.m,ep,4,ae (dd (x::l))++tl⟩):=by
 have cr:(ae (x::l)).length=l.length+1:=by rw[ai];rfl
 refine ay.x T6 Tryz.func162 rfl ?_;refine wC (λhc=>?_) λhc=>?_
 ·obtain rfl:l=[]:=abA (by omega);exact⟨rfl,[],rfl,by rw[abJ];exact(c8 e1).symm⟩
 refine cO.zip T6 l (λp q L h=>h=H/\∃P' prev,x::p=P'++[prev]/\P'++prev::tZ prev q=dd (x::l)/\L=[(0,.ak id ep 0 (ae (x::l)).length),(1,.fn g []),(5,.int .i64 ((p.length+1:Nat):Int))]) (.nx ⟨rfl,[],x,rfl,rfl,rfl⟩) ?_ ?_
 ·rintro p a q _ h ρ e ⟨rfl,P',prev,hp,hd,rfl⟩;have di:=lenE e;have kH:=congrArg List.length hp;simp only[abr,abx,abX]at kH;have DG:(ae (x::l))[0+(p.length+1)]?=some (.agg [.int .i64 a.k,.str a.s,.int .i64 a.o,.aa false (ae a.l)]):=gR (by rw[e,abE];simp)
  have nf:(ae (x::l))[0+(((p.length+1:Nat):Int) - 1).toNat]?=some (.agg [.int .i64 prev.k,.str prev.s,.int .i64 prev.o,.aa false (ae prev.l)]):=gR (by
   rw[show(((p.length+1:Nat):Int) - 1).toNat=p.length by omega,e,<-abH,hp,abE,abj (by simp;omega),abt (by omega)];simp[show p.length - P'.length=0 by omega])
  have hq:=hg a prev (hb a (by rw[e];simp)) (hb prev (by rw[e,<-abH,hp];simp));rw[ao,ao]at hq;refine wA ?_;refine .p hq ?_ hm
  cases hc:decide (aT a prev=0)
  ·refine wA ?_;refine .nx ⟨rfl,P'++[prev],a,by rw[<-abH,hp],?_,rfl⟩;rw[<-hd,tZ,if_neg (by simpa using hc)];simp
  ·refine wA ?_;rw[cr]at *;refine .sl rfl rfl (sU T6 rfl rfl e1 (by rw[ai];simp) (by omega) (by omega)) ?_;refine wA ?_
   refine cO.zip T6 q (λp2 q2 L h'=>∃R M0 pr,ax pr<1000000000/\R.length+M0.length=p.length+1+p2.length/\R++tZ pr q2=dd (x::l)/\h'=h.set id ⟨.m,ep,4,ae (R++(M0++[pr]++q2))⟩/\
    L=[(0,.ak id ep 0 (l.length+1)),(1,.fn g []),(5,.int .i64 (R.length:Int)),(6,.ak id ep (0+(p.length+1)) (l.length+1 - (p.length+1))),(7,.int .i64 ((p2.length+1:Nat):Int))]) (.nx ⟨P'++[prev],[],a,hb a (by rw[e];simp),by simp only[abr,abx,abX];omega,?_,?_,rfl⟩) ?_ ?_
   ·rw[<-hd,tZ,if_pos (by simpa using hc)];simp
   ·rw[c8];rw[e1,e,<-abH,hp];simp
   ·rintro p2 b q2 _ _ ρ2 e2 ⟨R,M0,pr,Tp,AX,Gi,rfl,rfl⟩;have Qr:=lenE e2;have JU:(h.set id ⟨.m,ep,4,ae (R++(M0++[pr]++b::q2))⟩)[id]?=some ⟨.m,ep,4,ae (R++(M0++[pr]++b::q2))⟩:=abl (ag e1);have XC:HR (h.set id ⟨.m,ep,4,ae (R++(M0++[pr]++b::q2))⟩):=hH.set id (by simp) (bj _ _ (by simp));have Tq:(ae (R++(M0++[pr]++b::q2))).length=l.length+1:=by rw[ai];simp;omega
    have ZW:(ae (R++(M0++[pr]++b::q2)))[0+(p.length+1)+(p2.length+1)]?=some (.agg [.int .i64 b.k,.str b.s,.int .i64 b.o,.aa false (ae b.l)]):=gR (uj (A:=R++M0++[pr]) (B:=q2) (by simp) (by simp;omega));have MV:(ae (R++(M0++[pr]++b::q2)))[0+(p.length+1)+(((p2.length+1:Nat):Int) - 1).toNat]?=some (.agg [.int .i64 pr.k,.str pr.s,.int .i64 pr.o,.aa false (ae pr.l)]):=gR (uj (A:=R++M0) (B:=b::q2) (by simp) (by simp;omega));have XQ:=hg b pr (hb b (by rw[e,e2];simp)) Tp;rw[ao,ao]at XQ;obtain⟨m,M1,hM⟩:∃m M1,M0++[pr]=m::M1:=by cases M0 with |nil=>exact⟨_,_,rfl⟩|cons m M=>exact⟨m,M++[pr],rfl⟩
    have hM1:=congrArg List.length hM;simp only[abr,abx,abX]at hM1;have ZX:(ae (R++(M0++[pr]++b::q2)))[0+R.length]?=some (.agg [.int .i64 m.k,.str m.s,.int .i64 m.o,.aa false (ae m.l)]):=gR (uj (A:=R) (B:=M1++b::q2) (by rw[hM];simp) (by omega))
    have eL:(ae (R++(M0++[pr]++b::q2))).set (0+R.length) (.agg [.int .i64 b.k,.str b.s,.int .i64 b.o,.aa false (ae b.l)])=ae ((R++[b])++(M1++[b]++q2)):=by
     rw[<-ao,xX,hM,abE];simp
    clear hq DG nf;refine wA ?_;refine .p XQ ?_ hm
    cases LS:decide (aT b pr=0)
    ·refine wA ?_;rw[eL,acn];refine .nx ⟨R++[b],M1,b,hb b (by rw[e,e2];simp),by simp;omega,?_,rfl,rfl⟩;rw[<-Gi,tZ,if_neg (by simpa using LS)];simp
    ·refine wA ?_;refine .nx ⟨R,M0++[pr],b,hb b (by rw[e,e2];simp),by simp;omega,?_,by simp,rfl⟩;rw[<-Gi,tZ,if_pos (by simpa using LS)]
   ·rintro _ _ ρ2 ⟨R,M0,pr,Tp,AX,Gi,rfl,rfl⟩;have JU:(h.set id ⟨.m,ep,4,ae (R++(M0++[pr]++[]))⟩)[id]?=some ⟨.m,ep,4,ae (R++(M0++[pr]++[]))⟩:=abl (ag e1);have XC:HR (h.set id ⟨.m,ep,4,ae (R++(M0++[pr]++[]))⟩):=hH.set id (by simp) (bj _ _ (by simp));have Tq:(ae (R++(M0++[pr]++[]))).length=l.length+1:=by rw[ai];simp;omega
    rw[tZ,abJ]at Gi;subst Gi;refine wA ?_;refine .sl rfl rfl (sU T6 rfl rfl JU (by omega) ?_ (by omega)) ?_
    ·simp[dd]
    refine wA ?_;refine .clr rfl (DM T6 rfl rfl rfl JU (by omega) rfl rfl) ?_;have pu:List.take (0+(dd (x::l)).length) (ae (dd (x::l)++(M0++[pr]++[])))=ae (dd (x::l)):=by rw[c9,c9,abE,ab6,List.take_left' (by simp)]
    have B8:List.drop (0+(dd (x::l)).length+(l.length+1 - (dd (x::l)).length)) (ae (dd (x::l)++(M0++[pr]++[])))=[]:=abR (by omega);rw[pu,B8,acn]
    obtain⟨tl,uk,cG,JV⟩:∃tl:List PV,tl=List.replicate (l.length+1 - (dd (x::l)).length) (.agg [.int .i64 0,.str ByteArray.empty,.int .i64 0,.aa true []])/\tl.length=l.length+1 - (dd (x::l)).length/\ar tl=true:=
     ⟨_,rfl,by simp,by rw[bB,abk];intro y hy;rw[acg hy];rfl⟩
    have e3:(h.set id ⟨.m,ep,4,ae (dd (x::l))++tl⟩)[id]?=some ⟨.m,ep,4,ae (dd (x::l))++tl⟩:=abl (ag e1);rw[<-uk,abJ];refine wA ?_;refine .sh rfl rfl (DL T6 rfl rfl e3 (by rw[abr,ai,cG];have:=Gh (x::l);simp at this;omega) (by omega)) ?_;refine wA ?_;exact⟨rfl,tl,JV,rfl⟩
 ·rintro _ h ρ ⟨rfl,P',prev,hp,hd,rfl⟩;have Uu:ae (dd (x::l))=ae (x::l):=by rw[<-hd,hp,tZ]
  refine wA ?_;exact⟨congrArg (PV.ak id ep 0) (by rw[<-Uu,ai]),[],rfl,by rw[Uu,abJ];exact(c8 e1).symm⟩
theorem Fu(g:FuncId)(H:ab)(id ep:Nat)(e1:H[id]?=some ⟨.m,ep,4,ae []⟩):ay C 162 [.ak id ep 0 0,.fn g []] H (λr h'=>r=.ak id ep 0 0/\h'=H):=by
 refine ay.x T6 Tryz.func162 rfl ?_;refine wA ?_;exact⟨rfl,rfl⟩
theorem vM(H:ab):ay C 130 [.aa true []] H (λr h'=>r=.aa true []/\h'=H):=by
 refine ay.x T6 Tryz.func130 rfl ?_;refine wA ?_;refine aj.cS rfl rfl ?_;refine wA ?_;refine .ln (tx _ H) (λr h' hr=>by rw[hr.2]) (λr h' hr=>?_);obtain⟨rfl,rfl⟩:=hr;refine wA ?_;refine cO.zip T6 ([]:List Tm) (λp q L K=>L=[(0,.aa true []),(9,.int .i64 0),(10,.int .i64 p.length)]/\K=h') (.nx ⟨rfl,rfl⟩) ?_ ?_
 ·rintro p u q _ K ρ e _
  cases p <;>cases e
 ·rintro _ K ρ ⟨rfl,rfl⟩;refine wA ?_;exact⟨rfl,rfl⟩
theorem yI(H:ab)(hH:HR H)(id ep:Nat)(a:List Tm)(e1:H[id]?=some ⟨.m,ep,4,ae a⟩)(hn:a.length<100000000)(hb:∀t∈a,ax t<100000000):
  ay C 130 [.ak id ep 0 a.length] H (λr h'=>r=.ak id ep 0 (dd (eD a)).length/\∃tl,ar tl=true/\h'=H.set id ⟨.m,ep,4,ae (dd (eD a))++tl⟩):=by
 have oS:=ai a;have cG:=ag e1;refine ay.x T6 Tryz.func130 rfl ?_;refine wA ?_;refine aj.cS rfl (mM e1 (by omega) (λt ht=>by have:=hb t ht;omega)) ?_;have e2:(H.set id ⟨.m,ep,4,ae (eD a)⟩)[id]?=some ⟨.m,ep,4,ae (eD a)⟩:=abl (ag e1);have oN:HR (H.set id ⟨.m,ep,4,ae (eD a)⟩):=hH.set id (by simp) (bj _ _ (by simp));have zJ:=(fy a).length_eq;have fu:∀t∈eD a,ax t<100000000:=λt ht=>hb t ((fy _).mem_iff.1 ht)
 rw[<-zJ]at oS hn ⊢;generalize eD a=S at *
 cases S with
 |nil=>
  refine wA ?_;refine .ln (Fu _ _ id ep e2) (λr h' hr=>by rw[hr.2]) (λr h' hr=>?_);obtain⟨rfl,rfl⟩:=hr;refine wA ?_;refine cO.zip T6 ([]:List Tm) (λp q L K=>L=[(0,.ak id ep 0 0),(9,.int .i64 0),(10,.int .i64 p.length)]/\K=H.set id ⟨.m,ep,4,ae []⟩) (.nx ⟨rfl,rfl⟩) ?_ ?_
  ·rintro p u q _ K ρ e _
   cases p <;>cases e
  ·rintro _ K ρ ⟨rfl,rfl⟩;refine wA ?_;exact⟨rfl,[],rfl,by simp[dd]⟩
 |cons x r=>
  have hc:=qh _ rfl Pv x r _ oN id ep e2 (by simp at hn;omega) (λt ht=>by have:=fu t ht;omega);rw[ai]at hc;refine wA ?_;refine .ln hc (λr h' hr=>by obtain⟨_,_,_,rfl⟩:=hr;simp) (λr h' hr=>?_);obtain⟨rfl,tl,hv,rfl⟩:=hr;rw[acn];have e3:(H.set id ⟨.m,ep,4,ae (dd (x::r))++tl⟩)[id]?=some ⟨.m,ep,4,ae (dd (x::r))++tl⟩:=abl (ag e1);have hK3:HR (H.set id ⟨.m,ep,4,ae (dd (x::r))++tl⟩):=hH.set id (by simp) (bj _ _ (by show ar (ae (dd (x::r))++tl)=true;rw[dy,hv];simp));have hDn:=Gh (x::r);have hbD:∀t∈dd (x::r),ax t<100000000:=λt ht=>fu t ((MO (x::r) t).1 ht)
  generalize hD:dd (x::r)=D at *;generalize hK:H.set id ⟨.m,ep,4,ae D++tl⟩=K0 at *;refine wA ?_;have hDl:=ai D;refine cO.zip T6 D (λp q L K=>L=[(0,.ak id ep 0 D.length),(9,.int .i64 D.length),(10,.int .i64 p.length)]/\K=K0) (.nx ⟨rfl,rfl⟩) ?_ ?_
  ·rintro p u q _ _ ρ e ⟨rfl,rfl⟩;have di:=lenE e
   have cm:(ae D++tl)[0+p.length]?=some (.agg [.int .i64 u.k,.str u.s,.int .i64 u.o,.aa false (ae u.l)]):=by
    rw[abj (by omega),abE];exact bg e
   have dw:=nK u (hbD u (by rw[e];simp));have eL:=c8 cm;rw[ao]at dw;refine wA ?_;refine .p dw ?_;refine wA ?_;exact .nx ⟨rfl,by rw[eL];exact c8 e3⟩
  ·rintro _ _ ρ ⟨rfl,rfl⟩;refine wA ?_;exact⟨rfl,tl,hv,hK.symm⟩
theorem Ie(t:Tm)(n:Int)(hb:ax t<10000000):aI C 106 [enc t,.int .i64 n] (.aa false (ae (rB n t))):=by
 have C6:HR [⟨.m,0,4,[enc t]⟩,⟨.m,0,1,[.int .i64 n]⟩,⟨.m,0,1,[.aa true []]⟩]:=by
  intro x hx
  simp at hx;rcases hx with rfl |rfl |rfl <;>simp[bw,bq,bj]
  exact wW _ _ (by simp)
 have hw:=SB n t _ (.aa true []) [] C6 rfl rfl (.inl ⟨rfl,rfl⟩) (by simp[bV]) (by simp;omega);have hol:=xk n (pre t);have kH:=qJ t;rw[ao]at hw ⊢;refine aI.x T6 Tryz.func106 rfl ?_;refine wA ?_;refine aj.ks hw (by simp) (λh' ks=>?_);rw[abT]at ks;obtain⟨v',e1,e2,e3⟩:=ks.var;have hh:=ks.hr;refine wA ?_;have cT:dd (eD (wM n (pre t)))=rB n t:=Gm _;rcases e2 with⟨rfl,e0⟩|⟨id,ep,rfl,e2⟩
 ·have e4:wM n (pre t)=[]:=abA (by rw[<-ai,e0];rfl);rw[e4]at cT
  skip
  refine .ln (vM h') (λr h' hr=>by rw[hr.2]) (λr h' hr=>?_);obtain⟨rfl,rfl⟩:=hr;rw[<-cT];refine wA ?_;exact⟨_,rfl,rfl⟩
 ·have ho:=yI h' hh id ep (wM n (pre t)) e2 (by omega) (λu hu=>by have:=nM t u (acf.1 hu).1;omega);rw[ai]
  skip
  refine .ln ho (λr h' hr=>by obtain⟨_,_,_,rfl⟩:=hr;simp) (λr h' hr=>?_);obtain⟨rfl,tl,hv,rfl⟩:=hr;rw[cT];have e5:=abl (a:=(⟨.m,ep,4,ae (rB n t)++tl⟩:aw)) (ag e2);refine wA ?_;exact iC e5 (by rw[ai]) (by simp) (by simp)
theorem mf(t:Tm)(hb:ax t<10000000):aI C 54 [enc t] (.aa false (ae (bu t))):=by
 have h1:=Ie t 1 hb;rw[ao]at h1 ⊢;refine aI.x T6 Tryz.func54 rfl ?_;refine wA ?_;refine .p h1 ?_;refine wA ?_;exact⟨_,rfl,by simp[aO,bu]⟩
def il(H:ab)(g:FuncId)(cs:List PV)(x:PV)(b:Bool):Prop:=∀H',gq H H'->∀Q:PV->ab->Prop,(∀h',gq H' h'->Q (.bool b) h')->aj C 2 g (x::cs) H' Q
theorem Sr(l:List Tm)(g:FuncId)(cs:List PV)(p:Tm->Bool)(H:ab)(hl:l.length<1000000000)(hp:∀x∈l,il H g cs (enc x) (p x)):
  ay C 142 [.aa false (ae l),.fn g cs] H (λr h'=>r=.int .i64 (wo p l)/\gq H h'):=by
 have cr:=ai l;refine ay.x T6 Tryz.func142 rfl ?_;refine wA ?_;refine cO.zip T6 l (λa q L K=>L=[(0,.aa false (ae l)),(1,.fn g cs),(7,.int .i64 (ae l).length),(8,.int .i64 a.length)]/\gq H K/\∀y∈a,p y=false) (.nx ⟨rfl,gq.refl _,by simp⟩) ?_ ?_
 ·rintro a x q _ K ρ e ⟨rfl,hE,ha⟩;have cm:=bg e;have di:=lenE e;have Co:=hp x (by rw[e];simp) _ hE;rw[ao]at Co;refine wA ?_;refine Co _ (λh' PY=>?_)
  cases hb:p x
  ·refine wA ?_;exact .nx ⟨rfl,hE.trans PY,λy hy=>by rcases abp.1 hy with h |h;exact ha y h;simp at h;rw[h];exact hb⟩
  ·refine wA ?_;exact⟨by rw[e,qO ha hb];rfl,hE.trans PY⟩
 ·rintro _ K ρ ⟨rfl,hE,ha⟩;refine wA ?_;exact⟨by rw[lJ ha];rfl,hE⟩
theorem qU(l:List Tm)(g:FuncId)(cs:List PV)(p:Tm->Bool)(H:ab)(hl:l.length<1000000000)(hp:∀x∈l,il H g cs (enc x) (p x)):
  ay C 86 [.aa false (ae l),.fn g cs] H (λr h'=>r=.bool (l.any p)/\gq H h'):=by
 have hi:=Sr l g cs p H hl hp;have ha:=tf p l;refine ay.x T6 Tryz.func86 rfl ?_;refine wA ?_;refine .ex hi (λh' hE=>?_);refine wC (λhc=>?_) λhc=>?_
 all_goals exact⟨by rw[<-ha];simp[aO, *],hE⟩
theorem il.pure{H:ab}{g:FuncId}{cs:List PV}{x:PV}{b:Bool}(a:aI C g (aR (x::cs)) (.bool b))(hx:ar (x::cs)=true)(hm:C.mode g=.pure:=by rfl):il H g cs x b:=
 λH' _ Q hQ=>aj.pure hm hx a (hQ _ (gq.refl _))
theorem il.opened{H:ab}{g:FuncId}{cs:List PV}{x:PV}{b:Bool}(a:∀H',gq H H'->ay C g (x::cs) H' (λr h'=>r=.bool b/\gq H' h'))(hm:C.mode g=.opened:=by rfl):il H g cs x b:=
 λH' hE Q hQ=>aj.ex (a H' hE) hQ hm
theorem Ss(t:Tm):aI C 141 [enc t] (.bool (C8 t)):=by
 rw[ao];refine aI.x T6 Tryz.func141 rfl ?_;refine wI (λhc=>?_) (λhc hc=>?_) λhc hc=>?_
 all_goals exact⟨_,rfl,by simp[aO,C8, *]⟩
theorem Su(t u:Tm)(ht:ax t<1000000000)(hu:ax u<1000000000)(id:Nat)(H:ab)(hH:aV (H++[⟨.m,0,4,[enc u]⟩])=true)(h0:H[id]?=some ⟨.m,0,4,[enc t]⟩):ay C 143 [enc u,.ptr id 0 0 0] H (λr h'=>r=.bool (decide (aT t u=0))/\gq H h'):=by
 have h1:=(eB t u ht hu).nine;have cG:=ag h0;rw[ao t]at h0 h1;rw[ao u]at h1 hH ⊢;refine ay.x T6 Tryz.func143 rfl ?_;refine wA ?_;refine .p h1 ?_;refine wC (λhc=>?_) λhc=>?_
 all_goals exact⟨by simp[aO, *],(gq.refl _).cB (HV.one (by simp))⟩
theorem Pj(l:List Tm)(t:Tm)(ht:ax t<1000000000)(hl:l.length<1000000000)(hb:∀u∈l,ax u<1000000000):aI C 88 [.aa false (ae l),enc t] (.bool (bF l t)):=by
 have hc:=qU l 143 [.ptr 0 0 0 0] (λu=>decide (aT t u=0)) [⟨.m,0,4,[enc t]⟩] hl (λx hx=>il.opened λH' hE=>Su t x ht (hb x hx) 0 H' ((hE.hv (HV.one (by simp))).cB (HV.one (by simp))).closed (hE.at rfl));rw[ao t]at hc ⊢;refine aI.x T6 Tryz.func88 rfl ?_;refine wA ?_;refine .ex hc (λh' hE=>?_);refine wA ?_;exact⟨_,rfl,rfl⟩
theorem H6(t:Tm)(hb:ax t<10000000):aI C 85 [enc t] (.int .i64 (cx t)):=by
 have h1:=tq t (by omega);have h2:=Lo t (by omega);have h3:=mf t hb;have h4:=(uZ t (by omega)).nine;have PS:=eO t;rw[ao]at h1 h2 h3 h4 ⊢
 have h5:∀H,ay C 86 [.aa false (ae (bu t)),.fn 141 []] H (λr h'=>r=.bool ((bu t).any C8)/\gq H h'):=λH=>
  qU (bu t) 141 [] C8 H (by omega) (λx hx=>il.pure (by simpa[aR]using Ss x) (by simp[ar]))
 refine aI.x T6 Tryz.func85 rfl ?_;refine wA ?_;refine .p h1 ?_;refine wC (λhc=>?_) λhc=>?_
 ·have hth:gw t=0:=by omega
  have Pk:cx t=if kK t=false\/(bu t).any C8=true then 10 else if 60<size t then 3 else 0:=by rw[cx,if_neg (by omega)]
  refine .p h2 ?_
  cases hf:kK t
  ·refine wA ?_;exact⟨_,rfl,by rw[Pk,if_pos (.inl hf)];rfl⟩
  ·refine wA ?_;refine .p h3 ?_;refine wA ?_;refine .ex (h5 _) (λh' hE=>?_);have k0:=hE.at (i:=0) rfl
   cases ha:(bu t).any C8
   ·rw[hf,ha,if_neg (by simp)]at Pk;refine wA ?_;refine .p h4 ?_;refine wC (λhc=>?_) λhc=>?_
    ·exact⟨_,rfl,by rw[Pk,if_pos (by omega)];rfl⟩
    ·exact⟨_,rfl,by rw[Pk,if_neg (by omega)];rfl⟩
   ·refine wA ?_;exact⟨_,rfl,by rw[Pk,if_pos (.inr ha)];rfl⟩
 ·exact⟨_,rfl,by rw[cx,if_pos (by assumption)];rfl⟩
theorem _root_.Go.Pm.aY.C'{C:cR}{ops:Array Oper}{i d:Nat}{ty:TypeId}{pos:String}{af:Array Edge}{r:List Oper}{ρ:Nat->PV}{L:Al}{h:ab}{L0:Nat}{own:List Nat}{Q:St->Prop}{op:Op}{v:PV}{h':ab}(M J:ab)
  (hc:∃n0,∀n,n0<=n->au C (fo C n) 1 op (al L ρ) M=some (v,h')) (k:aY C ops (i+1) r ⟨⟨al ((d,v)::L) ρ,h++J⟩,L0,own++List.replicate J.length i⟩ Q) (hM:cy ((before ops).getD i 0).testBit L0 own h=M) (hJ:h'.drop h.length=J) (dw:aV M=true) (kU:(op.operands.toList.all λy=>bq (aQ M) (ev (al L ρ) y))=true)
  (vq:(J.all λo=>decide (o.mu≠.l))=true) (hh:cZ op=true:=by rfl) (hl:(level ops (before ops) i==2)=false:=by rfl):aY C ops i (⟨some d,op,ty,pos,af,none⟩::r) ⟨⟨al L ρ,h⟩,L0,own⟩ Q:=by
 obtain⟨n0,hn⟩:=hc;have di:level ops (before ops) i≠2:=by simpa using hl
 refine aY.step ⟨n0,λn h1=>?_⟩ k;subst hM hJ;simp only[cz,bA,hh,ab2,if_false,di,dw,kU,and_self,if_true,hn n h1,vq,cj]
theorem _root_.Go.Pm.D9{C:cR}{run:iI}{f:FuncId}{g:List PV->ab->Option (PV×ab)}{ρ:Nat->PV}{xs:List Operand}{Bh:Array TypeId}{M h':ab}{us:List PV}{v:PV}(hm:C.mode f=.cS g)(hx:xs.map (ev ρ)=us)(hg:g us (M.map bS)=some (v,h'))(vq:((h'.drop M.length).all λo=>decide (o.mu≠.l))=true):
  au C run 1 (.call ⟨.value (.func f),xs.toArray,Bh⟩) ρ M=some (v,M++h'.drop M.length):=by
 simp only[au,gr,ev,hx,abJ];unfold dg;rw[hm];simp only[ek,hg,vq,if_true]
 rfl
theorem _root_.Go.Pm.Ke{C:cR}(T:lQ C.P){run:iI}{lv:Nat}{L:Al}{ρ:Nat->PV}{M:ab}{t:TypeId}{x:Operand}{p v:PV}(hx:cM L x=some p)(hl:loadT T M t p=some v):au C run lv (.load t x) (al L ρ) M=some (v,M):=by
 simp only[au,aC,an hx,sQ T hl,abw]
theorem _root_.Go.Pm.Kc{C:cR}(T:lQ C.P){run:iI}{L:Al}{ρ:Nat->PV}{M:ab}{t:TypeId}{n:Nat}{ps:Array (Nat×Operand)}{vs:List PV}(x:z8 T t n ps.toList L (λ_ es=>es=vs))(hv:ar vs=true):au C run 1 (.buildSlice t n ps) (al L ρ) M=some (.aa true vs,M):=by
 obtain⟨sz,es,rfl,e⟩:=nJ T x;have:=e ρ M 1;rw[if_pos hv]at this;simpa only[au,aC]using this
theorem _root_.Go.Pm.An{C:cR}{run:iI}{lv:Nat}{L:Al}{ρ:Nat->PV}{h h':ab}{st xt:TypeId}{x y:Operand}{v u r:PV}(hx:cM L x=some v)(hy:cM L y=some u)(ha:bP C.P lv h st xt v u=some (r,h')):au C run lv (.call ⟨.builtin .append,#[x,y],#[st,xt]⟩) (al L ρ) h=some (r,h'):=by
 simp only[au,bt,abD,abM,an hx,an hy,ha]
theorem Bs(d:fV)(hk:d.kn.length<10000000):aI C 71 [sV d] (.aa false (ae (d.kn++[d.tm]))):=by
 have cr:=ai d.kn;rw[kZ];refine aI.x T6 Tryz.func71 rfl ?_;refine Rn.go ?_;conv=>whnf
 refine .mk ?_;refine Rn.go ?_;conv=>whnf
 refine .raw (λρ=>?_);refine D.fieldAddr T6 rfl rfl rfl rfl ?_;refine D.gD T6 rfl rfl rfl rfl rfl rfl ?_;have hen:(ae d.kn).isEmpty=d.kn.isEmpty:=by cases d.kn <;>rfl
 obtain⟨box,fg⟩:∃b:aw,b=⟨.m,0,5,[.agg [.aa false (ae d.kn),.int .i64 d.tm.k,.str d.tm.s,.int .i64 d.tm.o,.aa false (ae d.tm.l)]]⟩:=⟨_,rfl⟩
 by_cases he:d.kn=[]
 ·have NS:bG 4 [.aa false (ae d.kn)] ([box].map bS)=some (.aa true [],[box].map bS):=by simp[bG,he,ae]
  refine .C' [box] [] ⟨0,λn _=>D9 rfl rfl NS rfl⟩ ?_ (by rw[fg];rfl) rfl (by rw[fg];simp[aV,bw,bq]) rfl rfl;refine D.fieldAddr T6 rfl rfl rfl rfl ?_;refine .C' [box] [] ⟨0,λn _=>Ke T6 rfl (by rw[fg];rfl)⟩ ?_ (by rw[fg];rfl) rfl (by rw[fg];simp[aV,bw,bq]) (by rw[fg];rfl) rfl;refine .C' [box] [] ⟨0,λn _=>Kc T6 (vs:=[.agg [.int .i64 d.tm.k,.str d.tm.s,.int .i64 d.tm.o,.aa false (ae d.tm.l)]]) (by exact rfl) (by simp)⟩ ?_ (by rw[fg];rfl) rfl (by rw[fg];simp[aV,bw,bq]) (by rw[fg];rfl) rfl;subst fg;refine aY.two rfl rfl ⟨0,λn _=>An rfl rfl (gF T6 (lv:=2) (full:=true) (ys:=[.agg [.int .i64 d.tm.k,.str d.tm.s,.int .i64 d.tm.o,.aa false (ae d.tm.l)]]) (by omega) rfl rfl rfl rfl rfl (by decide) rfl rfl rfl rfl (by simp))⟩ ?_;refine D.assign rfl ?_;refine aY.nil ⟨_,_,rfl,?_⟩
  conv=>whnf
  rw[he];exact iC (ep:=0) (sz:=4) (tl:=[]) (es:=ae ([]++[d.tm])) (by simp only[abJ,abT,ae];rw[<-ao];rfl) (by rw[ai];simp) (by simp) (by simp)
 ·have NS:bG 4 [.aa false (ae d.kn)] ([box].map bS)=some (.ak 1 0 0 d.kn.length,[box].map bS++[⟨.m,0,4,ae d.kn⟩]):=by
   have h1:d.kn.isEmpty=false:=by cases h:d.kn with |nil=>exact absurd h he |cons=>rfl
   simp only[bG,hen,h1,abz,if_false];rw[if_pos ⟨oM _,by omega⟩,cr]
   rfl
  refine .C' [box] [⟨.m,0,4,ae d.kn⟩] ⟨0,λn _=>D9 rfl rfl NS rfl⟩ ?_ (by rw[fg];rfl) rfl (by rw[fg];simp[aV,bw,bq]) rfl rfl;refine D.fieldAddr T6 rfl rfl rfl rfl ?_;refine .C' [box,eT ⟨.m,0,4,ae d.kn⟩] [] ⟨0,λn _=>Ke T6 rfl (by rw[fg];rfl)⟩ ?_ (by rw[fg];rfl) rfl (by rw[fg];simp[aV,bw,bq,eT]) (by rw[fg];rfl) rfl;refine .C' [box,eT ⟨.m,0,4,ae d.kn⟩] [] ⟨0,λn _=>Kc T6 (vs:=[.agg [.int .i64 d.tm.k,.str d.tm.s,.int .i64 d.tm.o,.aa false (ae d.tm.l)]]) (by exact rfl) (by simp)⟩ ?_ (by rw[fg];rfl) rfl (by rw[fg];simp[aV,bw,bq,eT]) (by rw[fg];rfl) rfl;subst fg;refine aY.two rfl rfl ⟨0,λn _=>An rfl rfl (lG T6 (len:=d.kn.length) (o:=⟨.m,0,4,ae d.kn⟩) (full:=true) (ys:=[.agg [.int .i64 d.tm.k,.str d.tm.s,.int .i64 d.tm.o,.aa false (ae d.tm.l)]]) rfl rfl rfl rfl rfl (by decide) rfl rfl rfl rfl (by simp;omega) (bo rfl rfl (by simp)) rfl rfl (by simp[cr]))⟩ ?_;refine D.assign rfl ?_;refine aY.nil ⟨_,_,rfl,?_⟩
  conv=>whnf
  have PX:List.take d.kn.length (ae d.kn)=ae d.kn:=abO (by omega);exact iC (ep:=1) (sz:=4) (tl:=[]) (es:=ae (d.kn++[d.tm])) (by rw[bT];simp only[PX,abJ,ae];rw[<-ao];rfl) (by rw[ai];simp) (by simp) (by simp)
end bE
def vI(t:Tm):List Tm->Nat
 |[]=>0
 |p::l=>if aT p t<0 then vI t l+1 else 0
theorem GQ(t:Tm):∀l:List Tm,vI t l<=l.length
 |[]=>by simp[vI]
 |p::l=>by
  have:=GQ t l;rw[vI]
  split <;>simp <;>omega
theorem IV(t:Tm):∀(l:List Tm),fv l->∀(m:Nat) (p:Tm),l[m]?=some p->(aT p t<0↔m<vI t l)
 |[],_,m,p,h=>by simp at h
 |q::l,s,m,p,h=>by
  obtain⟨s1,s2⟩:=abG.1 s;rw[vI]
  cases m with
  |zero=>
   simp at h;subst h
   split
   ·simp;assumption
   ·simp;omega
  |succ m=>
   have h':l[m]?=some p:=by simpa using h
   have ih:=IV t l s2 m p h';have hm:=s1 p (aby h')
   split
   ·rw[ih];omega
   ·rename_i hq
    constructor
    ·intro hp
     exact absurd (eU hm hp) hq
    ·intro hh;omega
def fdT(t:Tm)(l:List Tm):Bool:=match l[vI t l]? with |some p=>decide (aT p t=0)|none=>false
theorem IW(t:Tm):∀{l:List Tm},fv l->fdT t l=bF l t
 |[],_=>rfl
 |q::l,s=>by
  obtain⟨s1,s2⟩:=abG.1 s;have ih:=IW t s2;have hng:=eC q t;unfold fdT at ih ⊢;rw[vI]
  by_cases hc:aT q t<0
  ·rw[if_pos hc];simp only[List.getElem?_cons_succ];rw[ih];simp only[bF,adH];rw[decide_eq_false (by omega)]
   rfl
  ·rw[if_neg hc];simp only[List.getElem?_cons_zero,bF,adH]
   by_cases h0:aT q t=0
   ·rw[decide_eq_true h0,decide_eq_true (by omega)];rfl
   ·rw[decide_eq_false h0,decide_eq_false (by omega),acD]
    symm
    rw[acH]
    intro u hu hz
    have hz:=cP (of_decide_eq_true hz);subst hz;have:=s1 t hu;omega
theorem D6{t:Tm}:∀{l:List Tm},fv l->bF l t=true->fj t l=l
 |[],_,h=>by cases h
 |q::l,s,h=>by
  obtain⟨s1,s2⟩:=abG.1 s;have hng:=eC q t;rw[fj]
  by_cases hc:aT t q<=0
  ·rw[if_pos hc]
   by_cases hd:aT t q<0
   ·exfalso;rcases abu.1 (bU.1 h)with rfl |h2
    ·rw[cq]at hd;omega
    ·have:=s1 t h2;omega
   ·rw[if_neg hd]
  ·rw[if_neg hc]
   have h2:bF l t=true:=by
    simp only[bF,adH,abN,decide_eq_true_eq]at h ⊢;rcases h with h |h
    ·omega
    ·exact h
   rw[D6 s2 h2]
theorem D7{t:Tm}:∀{l:List Tm},fv l->bF l t=false->fj t l=l.take (vI t l)++t::l.drop (vI t l)
 |[],_,_=>rfl
 |q::l,s,h=>by
  obtain⟨s1,s2⟩:=abG.1 s;have hng:=eC q t;simp only[bF,adH,ac5,decide_eq_false_iff_not]at h;rw[fj,vI]
  by_cases hc:aT q t<0
  ·rw[if_pos hc,if_neg (by omega),D7 s2 h.2];simp
  ·rw[if_neg hc,if_pos (by omega),if_pos (by omega)];simp
namespace bE
open Go.Proofs
attribute [local irreducible] aD az aL aJ Ev ah aj ay aY bJ
theorem GR(a b:Tm)(ha:ax a<1000000000)(hb:ax b<1000000000):aI C 163 [enc a,enc b] (.bool (decide (aT a b=0))):=by
 have h1:=(eB a b ha hb).nine;rw[ao,ao]at h1 ⊢;refine aI.x T6 Tryz.func163 rfl ?_;refine wA ?_;refine .p h1 ?_;refine wC (λhc=>?_) λhc=>?_
 all_goals exact⟨_,rfl,by simp[aO, *]⟩
theorem nS(a b:Tm)(ha:ax a<1000000000)(hb:ax b<1000000000):aI C 273 [enc a,enc b] (.bool (decide (aT a b=0))):=by
 have h1:=(eB a b ha hb).nine;rw[ao,ao]at h1 ⊢;refine aI.x T6 Tryz.func273 rfl ?_;refine wA ?_;refine .p h1 ?_;refine wC (λhc=>?_) λhc=>?_
 all_goals exact⟨_,rfl,by simp[aO, *]⟩
theorem D8(l:List Tm)(t:Tm)(hs:fv l)(hl:l.length<100000000)(hb:∀b∈l,ax b<100000000)(ht:ax t<100000000):
  aI C 166 [.aa false (ae l),enc t,.fn 52 []] (.ct [.int .i64 (vI t l),.bool (bF l t)]):=by
 have hle:=GQ t l;have PF:=IV t l hs;have pL:bF l t=match l[vI t l]? with |some p=>decide (aT p t=0)|none=>false:=(IW t hs).symm
 have cr:=ai l;generalize bF l t=FD at pL ⊢;generalize vI t l=LB at hle PF pL ⊢
 have elem:∀m,m<l.length->∃b,l[m]?=some b/\(ae l)[m]?=some (.agg [.int .i64 b.k,.str b.s,.int .i64 b.o,.aa false (ae b.l)])/\aI C 52 [enc b,enc t] (.int .i64 (aT b t)):=λm hm=>by
  have h1:l[m]?=some l[m]:=abo hm;exact⟨_,h1,gR h1,(eB _ t (by have:=hb _ (aby h1);omega) (by omega)).nine⟩
 rw[ao]at elem ⊢;refine aI.x T6 Tryz.func166 rfl ?_;refine wA ?_;refine cO.nat T6 (λk L H=>∃i j:Nat,L=[(0,.aa false (ae l)),(2,.fn 52 []),(4,.ptr 0 0 0 0),(8,.int .i64 (ae l).length),(9,.int .i64 i),(10,.int .i64 j)]/\H=[⟨.m,0,4,[.agg [.int .i64 t.k,.str t.s,.int .i64 t.o,.aa false (ae t.l)]]⟩]/\k=j - i/\i<=LB/\LB<=j/\j<=l.length) l.length (.nx ⟨0,(ae l).length,rfl,rfl,by omega,by omega,by omega,by omega⟩) ?_;rintro k _ _ ρ ⟨i,j,rfl,rfl,hk,i1,i2,i3⟩
 by_cases QC:i<j
 ·obtain⟨m,YG⟩:∃m:Nat,((i:Int)+j) / 2=m:=⟨(i+j) / 2,by omega⟩;obtain⟨b,h1,cm,rR⟩:=elem m (by omega);have Qc:=PF m _ h1;rw[ao]at rR;refine wA ?_;refine .mk (n:=m) ?_ YG cm;refine wA ?_;refine .p rR ?_;refine wC (λhc=>?_) λhc=>?_
  ·exact .nx ⟨j - (m+1),by omega,m+1,j,rfl,rfl,rfl,by omega,by omega,by omega⟩
  ·exact .nx ⟨m - i,by omega,i,m,rfl,rfl,rfl,by omega,by omega,by omega⟩
 ·have hi:i=LB:=by omega
  subst hi
  by_cases lu:i<l.length
  ·obtain⟨b,h1,cm,rR⟩:=elem i lu;rw[h1]at pL;dsimp only at pL;rw[ao]at rR;refine wA ?_;refine .p rR ?_;refine wC (λhc=>?_) λhc=>?_
   all_goals exact⟨_,rfl,by rw[pL];simp[aO,b9,aR, *]⟩
  ·rw[abC (by omega)]at pL;refine wA ?_;exact⟨_,rfl,by rw[pL];rfl⟩
theorem NQ(s:List Tm)(t:Tm)(hs:fv s)(hl:s.length<100000000)(hb:∀b∈s,ax b<100000000)(ht:ax t<100000000):aI C 116 [.aa false (ae s),enc t] (.bool (bF s t)):=by
 have h1:=D8 s t hs hl hb ht;rw[ao]at h1 ⊢;refine aI.x T6 Tryz.func116 rfl ?_;refine wA ?_;refine .p h1 ?_;refine wA ?_;exact⟨_,rfl,rfl⟩
theorem _root_.Go.Pm.TF{C:cR}{run:iI}{f:FuncId}{g:List PV->ab->Option (PV×ab)}{ρ:Nat->PV}{xs:List Operand}{Bh:Array TypeId}{M h':ab}{us:List PV}{v:PV}(hm:C.mode f=.cS g)(hx:xs.map (ev ρ)=us)(hg:g us M=some (v,h')):
  au C run 2 (.call ⟨.value (.func f),xs.toArray,Bh⟩) ρ M=some (v,h'):=by
 simp only[au,gr,ev,hx,abJ];unfold dg;rw[hm];simp only[ek,abn,if_true,hg]
theorem jX(o:aw)(J:ab)(hv:ar o.es=true)(hJ:∀x∈J,x.mu=.x):aV (o::J)=true:=by
 unfold aV;simp only[ace,abq,abk];exact⟨by rw[bj _ _ hv];simp,λx hx=>by simp[hJ x hx]⟩
theorem NR(l:List Tm):(ae l).all (kX 4)=true:=by
 rw[abk]
 intro v hv
 rw[c9]at hv;obtain⟨t,_,rfl⟩:=abZ.1 hv;rw[ao];simp[kX,aW,ar,cells,bH]
theorem Ko(s:List Tm)(t:Tm)(hs:fv s)(hl:s.length<10000000)(hb:∀b∈s,ax b<100000000)(ht:ax t<100000000):aI C 165 [.aa false (ae s),enc t] (.aa false (ae (fj t s))):=by
 have h1:=D8 s t hs (by omega) hb ht;have cr:=ai s;have hle:=GQ t s;have aah:=D7 (t:=t) hs;have Rc:=D6 (t:=t) hs;rw[ao]at h1 ⊢;refine aI.x T6 Tryz.func165 rfl ?_;refine wA ?_;refine .p h1 ?_
 cases hf:bF s t
 ·rw[aah hf];refine wH ?_;refine .raw (λρ=>?_);have hen:(ae s).isEmpty=s.isEmpty:=by cases s <;>rfl
  obtain⟨box,fg⟩:∃b:aw,b=⟨.m,0,4,[.agg [.int .i64 t.k,.str t.s,.int .i64 t.o,.aa false (ae t.l)]]⟩:=⟨_,rfl⟩;refine D.move rfl ?_
  by_cases he:s=[]
  ·have NS:bG 4 [.aa false (ae s)] ([box].map bS)=some (.aa true [],[box].map bS):=by simp[bG,he,ae]
   have ME:vI t s=0:=by rw[he];rfl
   refine .C' [box] [] ⟨0,λn _=>D9 rfl rfl NS rfl⟩ ?_ (by rw[fg];rfl) rfl (jX _ [] (by rw[fg];simp) (by simp)) rfl rfl;refine D.move rfl ?_;refine .C' [box] [] ⟨0,λn _=>Ke T6 rfl (by rw[fg];rfl)⟩ ?_ (by rw[fg];rfl) rfl (jX _ [] (by rw[fg];simp) (by simp)) (by rw[fg];rfl) rfl;refine .C' [box] [] ⟨0,λn _=>Kc T6 (vs:=[.agg [.int .i64 t.k,.str t.s,.int .i64 t.o,.aa false (ae t.l)]]) (by exact rfl) (by simp)⟩ ?_ (by rw[fg];rfl) rfl (jX _ [] (by rw[fg];simp) (by simp)) (by rw[fg];rfl) rfl;subst fg;refine aY.two rfl rfl ⟨0,λn _=>TF (v:=.ak 1 0 0 1) (h':=[⟨.m,0,4,[.agg [.int .i64 t.k,.str t.s,.int .i64 t.o,.aa false (ae t.l)]]⟩,⟨.m,0,4,[.agg [.int .i64 t.k,.str t.s,.int .i64 t.o,.aa false (ae t.l)]]⟩]) rfl (us:=[.aa true [],.int .i64 (vI t s),.aa true [.agg [.int .i64 t.k,.str t.s,.int .i64 t.o,.aa false (ae t.l)]]]) rfl (by simp[iX,kX,cells,bH,aW,ar,newObj,ME])⟩ ?_;refine D.assign rfl ?_;refine aY.nil ⟨_,_,rfl,?_⟩
   conv=>whnf
   rw[ME,he];exact iC (ep:=0) (sz:=4) (tl:=[]) (es:=ae ([]++[t])) (by simp only[abJ,abT,ae];rw[<-ao];rfl) (by rw[ai];simp) (by simp) (by simp)
  ·have NS:bG 4 [.aa false (ae s)] ([box].map bS)=some (.ak 1 0 0 s.length,[box].map bS++[⟨.m,0,4,ae s⟩]):=by
    have h1:s.isEmpty=false:=by cases h:s with |nil=>exact absurd h he |cons=>rfl
    simp only[bG,hen,h1,abz,if_false];rw[if_pos ⟨oM _,by omega⟩,cr]
    rfl
   refine .C' [box] [⟨.m,0,4,ae s⟩] ⟨0,λn _=>D9 rfl rfl NS rfl⟩ ?_ (by rw[fg];rfl) rfl (jX _ [] (by rw[fg];simp) (by simp)) rfl rfl;refine D.move rfl ?_;refine .C' [box,eT ⟨.m,0,4,ae s⟩] [] ⟨0,λn _=>Ke T6 rfl (by rw[fg];rfl)⟩ ?_ (by rw[fg];rfl) rfl (jX _ [_] (by rw[fg];simp) (by simp[eT])) (by rw[fg];rfl) rfl;refine .C' [box,eT ⟨.m,0,4,ae s⟩] [] ⟨0,λn _=>Kc T6 (vs:=[.agg [.int .i64 t.k,.str t.s,.int .i64 t.o,.aa false (ae t.l)]]) (by exact rfl) (by simp)⟩ ?_ (by rw[fg];rfl) rfl (jX _ [_] (by rw[fg];simp) (by simp[eT])) (by rw[fg];rfl) rfl;have PX:(ae s).take s.length=ae s:=abO (by omega)
   have aai:iX [.ak 1 0 0 s.length,.int .i64 (vI t s),.aa true [.agg [.int .i64 t.k,.str t.s,.int .i64 t.o,.aa false (ae t.l)]]] [box,⟨.m,0,4,ae s⟩]=some (.ak 1 1 0 (s.length+1),[box,⟨.m,1,4,(ae s).take (vI t s)++[.agg [.int .i64 t.k,.str t.s,.int .i64 t.o,.aa false (ae t.l)]]++(ae s).drop (vI t s)⟩]):=by
    have hg:getM [box,(⟨.m,0,4,ae s⟩:aw)] 1 0=some ⟨.m,0,4,ae s⟩:=by simp[getM]
    have ga:=NR s;have dw:aV [box,(⟨.m,0,4,ae s⟩:aw)]=true:=(HV.yg ⟨by rw[fg];simp,by rw[fg];simp⟩ ⟨by simp,by simp⟩).closed;simp only[iX,hg,PX];rw[if_pos ⟨trivial,trivial,by omega,by omega,by omega,by omega,by simp[kX,aW,ar,cells,bH],ga,dw⟩];simp
   subst fg;refine aY.two rfl rfl ⟨0,λn _=>TF rfl (us:=[.ak 1 0 0 s.length,.int .i64 (vI t s),.aa true [.agg [.int .i64 t.k,.str t.s,.int .i64 t.o,.aa false (ae t.l)]]]) rfl aai⟩ ?_;refine D.assign rfl ?_;refine aY.nil ⟨_,_,rfl,?_⟩
   conv=>whnf
   have JS:ae (s.take (vI t s)++t::s.drop (vI t s))=(ae s).take (vI t s)++[enc t]++(ae s).drop (vI t s):=by simp[c9]
   have zJ:(ae (s.take (vI t s)++t::s.drop (vI t s))).length=s.length+1:=by rw[ai];simp;omega
   rw[JS,ao]at zJ;rw[JS,ao];exact iC (ep:=1) (sz:=4) (tl:=[]) (by simp) zJ (by rw[<-ao,<-JS];simp) (by rw[<-ao,<-JS];simp)
 ·rw[Rc hf];refine wA ?_;exact⟨_,rfl,by simp[aO,b9]⟩
theorem H8(d:fV)(u:Tm)(hu:ax u<1000000000)(hk:d.kn.length<1000000000)(hb:∀t∈d.kn,ax t<1000000000)(id:Nat)(H:ab)(hH:aV (H++[⟨.m,0,4,[enc u]⟩])=true)(h0:H[id]?=some ⟨.m,0,5,[sV d]⟩):
  ay C 87 [enc u,.ptr id 0 0 0] H (λr h'=>r=.bool (!bF d.kn u)/\gq H h'):=by
 have h1:=Pj d.kn u hu hk hb;rw[kZ]at h0;rw[ao]at h1 hH ⊢;refine ay.x T6 Tryz.func87 rfl ?_;refine wA ?_;refine .p h1 ?_
 cases bF d.kn u
 all_goals
  refine wA ?_;exact⟨rfl,(gq.refl _).cB (HV.one (by simp))⟩
theorem zx(b:List Tm)(v:PV)(u:Tm)(hu:ax u<1000000000)(hk:b.length<1000000000)(hb:∀t∈b,ax t<1000000000)(id:Nat)(H:ab)(hH:aV (H++[⟨.m,0,4,[enc u]⟩])=true)(h0:H[id]?=some ⟨.m,0,1,[v]⟩)(ho:Out 4 H v (ae b)):
  ay C 89 [enc u,.ptr id 0 0 0] H (λr h'=>r=.bool (!bF b u)/\gq H h'):=by
 have h1:=Pj b u hu hk hb;have ui:=ho.cB [⟨.m,0,4,[enc u]⟩];rw[ao]at h1 hH ui ⊢;refine ay.x T6 Tryz.func89 rfl ?_;have zO:=ui;rcases ui with⟨rfl,e⟩|⟨eA,ep,rfl,e⟩
 all_goals
  refine wA ?_;refine aj.YX (.inl zO) h1 ?_
  cases bF b u
  all_goals
   refine wA ?_;exact⟨rfl,(gq.refl _).cB (HV.one (by simp))⟩
def og(p:List fV):Option (List Tm):=p.getLast?.map fV.kn
def eP(p:List fV):List Tm:=p.flatMap λd=>bu d.tm
theorem j'(p:List fV)(d:fV):og (p++[d])=some d.kn:=by simp[og]
theorem jk(p:List fV)(d:fV):eP (p++[d])=eP p++bu d.tm:=by simp[eP]
theorem BR{l p q:List Tm}{u:Tm}(e:l=p++u::q)(hp:∀v∈p,cx v=0)(hu:cx u≠0):fW l=cx u:=by
 subst e
 induction p with
 |nil=>simp only[abT,fW];rw[if_pos hu]
 |cons v p ih=>
  simp only[abH,fW];rw[if_neg (by rw[hp v (by simp)];simp),ih (λw hw=>hp w (by simp[hw]))]
theorem v8:∀{l:List Tm},(∀v∈l,cx v=0)->fW l=0
 |[],_=>rfl
 |v::l,h=>by
  rw[fW,if_neg (by rw[h v (by simp)];simp)];exact v8 λu hu=>h u (by simp[hu])
theorem dx{t:Tm}(h:cx t=0):ax t<=10000:=ee (x0 h).1
theorem Fo{p:List fV}(h:∀d∈p,cx d.tm=0):(eP p).length<=p.length * 10000:=by
 induction p with
 |nil=>simp[eP]
 |cons d p ih=>
  have h1:=ih λx hx=>h x (by simp[hx])
  have h2:=eO d.tm;have h3:=dx (h d (by simp));simp only[eP,acJ,abr,abx]at h1 ⊢;omega
theorem BS{p:List fV}(h:∀d∈p,cx d.tm=0):∀t∈eP p,ax t<=10000:=by
 intro t ht
 obtain⟨d,hd,ht⟩:=acp.1 ht;have:=jU ht;have:=dx (h d hd);omega
theorem Hf(l:List fV)(hl:l.length<1000000000)(hb:∀d∈l,d.kn.length<10000000/\∀t∈d.kn++[d.tm],ax t<10000000):aI C 30 [.aa false (cw l)] (.int .i64 (nL l)):=by
 have cr:=jT l;refine aI.x T6 Tryz.func30 rfl ?_;refine wC (λhc=>?_) λhc=>?_
 ·exact⟨_,rfl,by rw[nL,if_pos (by omega)];rfl⟩
 have Rt:nL l=mO none [] l:=by rw[nL,if_neg (by omega)]
 refine cO.zip T6 l (λp q L H=>∃v,L=[(0,.aa false (cw l)),(3,.ptr 0 0 0 0),(14,.aa false (cw l)),(15,.int .i64 (cw l).length),(16,.int .i64 p.length)]/\HR H/\H[0]?=some ⟨.m,0,1,[v]⟩/\Out 4 H v (ae (eP p))/\(∀i∈bV v,1<=i)/\nL l=mO (og p) (eP p) q/\∀d∈p,cx d.tm=0) (.nx ⟨_,rfl,(HV.one (by simp)).hr,rfl,.inl ⟨rfl,rfl⟩,by simp[bV],Rt,by simp⟩) ?_ ?_
 ·rintro p d q _ H ρ e ⟨v,rfl,hH,h0,ho,hv,hs,hp⟩;have cm:=kJ e;have di:=lenE e;obtain⟨Ae,LX⟩:=hb d (by rw[e];simp);have htf:=Bs d Ae;have hek:=ai d.kn;rw[mO]at hs;rw[kZ]at htf;refine wC (λhc=>?_) λhc=>?_
  ·exact⟨_,rfl,by rw[hs,if_pos (by omega)];rfl⟩
  rw[if_neg (by omega)]at hs
  skip
  refine .p htf ?_;refine wA ?_;obtain⟨H2,oN⟩:∃x,x=H++[⟨.m,0,5,[.agg [.aa false (ae d.kn),.int .i64 d.tm.k,.str d.tm.s,.int .i64 d.tm.o,.aa false (ae d.tm.l)]]⟩]:=⟨_,rfl⟩;have b2:H2[H.length]?=some ⟨.m,0,5,[.agg [.aa false (ae d.kn),.int .i64 d.tm.k,.str d.tm.s,.int .i64 d.tm.o,.aa false (ae d.tm.l)]]⟩:=by rw[oN];simp
  have z2:H2[0]?=some ⟨.m,0,1,[v]⟩:=by rw[oN,abj (ag h0)];exact h0
  have r2:HR H2:=by rw[oN];exact hH.dA (HV.one (by simp))
  have o2:Out 4 H2 v (ae (eP p)):=by rw[oN];exact ho.cB _
  have ekt:=ai (d.kn++[d.tm]);rw[<-oN];refine cO.zip T6 (d.kn++[d.tm]) (λp2 q2 L K=>L=[(0,.aa false (cw l)),(3,.ptr 0 0 0 0),(4,.int .i64 p.length),(5,.ptr H.length 0 0 0),(14,.aa false (cw l)),(15,.int .i64 (cw l).length),(16,.int .i64 p.length),(26,.aa false (ae (d.kn++[d.tm]))),(27,.int .i64 (ae (d.kn++[d.tm])).length),(28,.int .i64 p2.length)]/\gq H2 K/\∀u∈p2,cx u=0) (.nx ⟨rfl,gq.refl _,by simp⟩) ?_ ?_
  ·rintro p2 u q2 _ K ρ e2 ⟨rfl,hE,FO⟩;have nf:=bg e2;have AX:=congrArg List.length e2;rw[abr,abr]at AX;simp only[abx,abX]at AX;rw[abr]at ekt;simp only[abx,abX]at ekt;have hri:=H6 u (LX u (by rw[e2];simp));rw[ao]at hri;refine wA ?_;refine .p hri ?_;refine wC (λhc=>?_) λhc=>?_
   ·exact .nx ⟨rfl,hE.cB (HV.one (by simp)),λw hw=>by rcases abp.1 hw with h |h;exact FO w h;simp at h;rw[h];assumption⟩
   ·have Yi:=BR e2 FO (by assumption);exact⟨_,rfl,by rw[hs,Yi,if_pos (by assumption)];rfl⟩
  ·rintro _ K ρ ⟨rfl,hE,FO⟩;rw[if_neg (by rw[v8 FO];simp)]at hs;have bK:=hE.at b2;have zK:=hE.at z2;have rK:HR K:=by obtain⟨J,hJ,rfl⟩:=hE;exact r2.dA hJ
   have oK:Out 4 K v (ae (eP p)):=by obtain⟨J,hJ,rfl⟩:=hE;exact o2.cB _
   have Cj:=BS hp;have Du:=Fo hp;have kH:p.length<41:=by omega
   by_cases D4:p=[]
   ·have P4:kept (og p) d.kn=true:=by rw[D4];rfl
    rw[P4,if_neg (by simp)]at hs;have Dv:p.length=0:=by rw[D4];rfl
    refine wA ?_;obtain⟨K3,hK3⟩:∃x,x=K:=⟨_,rfl⟩;rw[<-hK3]at bK zK rK oK ⊢;have b3:=bK;have z3:=zK;have r3:=rK;have o3:=oK;have ekn:=ai d.kn;refine cO.zip T6 d.kn (λp4 q4 L K4=>L=[(0,.aa false (cw l)),(3,.ptr 0 0 0 0),(5,.ptr H.length 0 0 0),(14,.aa false (cw l)),(15,.int .i64 (cw l).length),(16,.int .i64 p.length),(51,.aa false (ae d.kn)),(52,.int .i64 (ae d.kn).length),(53,.int .i64 p4.length)]/\gq K3 K4/\∀u∈p4,((bu u).all λx=>bF (eP p) x)=true) (.nx ⟨rfl,gq.refl _,by simp⟩) ?_ ?_
    ·rintro p4 u q4 _ K4 ρ e4 ⟨rfl,AD,H9⟩;have MV:=bg e4;have Qr:=lenE e4;have Xg:cx u=0:=FO u (by rw[e4];simp);have VN:=dx Xg;have Ve:=mf u (by omega);have PS:=eO u;have r5:HR (K4++[⟨.m,0,4,[enc u]⟩]):=by obtain⟨J,hJ,rfl⟩:=AD;exact(r3.dA hJ).dA (HV.one (by simp))
     have z5:(K4++[⟨.m,0,4,[enc u]⟩])[0]?=some ⟨.m,0,1,[v]⟩:=by rw[abj (ag (AD.at z3))];exact AD.at z3
     have o5:Out 4 (K4++[⟨.m,0,4,[enc u]⟩]) v (ae (eP p)):=by obtain⟨J,hJ,rfl⟩:=AD;exact(o3.cB _).cB _
     have Ia:=qU (bu u) 89 [.ptr 0 0 0 0] (λx=>!bF (eP p) x) (K4++[⟨.m,0,4,[enc u]⟩]) (by omega) (λx hx=>il.opened λH' hE=>by
      have rE:=jU hx;obtain⟨J,hJ,rfl⟩:=hE;exact zx (eP p) v x (by omega) (by omega) (λt ht=>by have:=Cj t ht;omega) 0 _ ((r5.dA hJ).dA (HV.one (by simp))).closed (by rw[abj (ag z5)];exact z5) (o5.cB _))
     rw[ao]at Ve Ia;refine wA ?_;refine .p Ve ?_;refine wA ?_;refine .ex Ia (λh' hE5=>?_)
     cases rr:(bu u).any λx=>!bF (eP p) x
     ·have eK:((bu u).all λx=>bF (eP p) x)=true:=by
       rw[acH]at rr;rw[abk]
       intro x hx
       simpa using rr x hx
      refine wA ?_;exact .nx ⟨rfl,(AD.cB (HV.one (by simp))).trans hE5,λw hw=>by rcases abp.1 hw with h |h;exact H9 w h;simp at h;rw[h];exact eK⟩
     ·have sC:C9 (eP p) d.kn=false:=by
       unfold C9;rw[ac2];refine⟨u,by rw[e4];simp,?_⟩;obtain⟨x,hx,rE⟩:=aci.1 rr;rw[abk]
       intro h
       have:=h x hx;simp[this]at rE
      refine wA ?_;exact⟨_,rfl,by rw[hs,if_pos sC];rfl⟩
    ·rintro _ K4 ρ ⟨rfl,AD,H9⟩
     have sC:C9 (eP p) d.kn=true:=by
      unfold C9;rw[abk];exact H9
     rw[sC,if_neg (by simp)]at hs;have b6:=AD.at b3;have z6:=AD.at z3;have r6:HR K4:=by obtain⟨J,hJ,rfl⟩:=AD;exact r3.dA hJ
     have o6:Out 4 K4 v (ae (eP p)):=by obtain⟨J,hJ,rfl⟩:=AD;exact o3.cB _
     have TZ:cx d.tm=0:=FO d.tm (by simp);have FM:=dx TZ;have JV:=mf d.tm (by omega);have PS:=eO d.tm;rw[ao]at JV;have o7:=o6;have k6:=ag z6;have FH:=ai (bu d.tm);have ME:=ai (eP p);rcases o7 with⟨rfl,e7⟩|⟨id7,ep7,rfl,e7⟩
     all_goals
      refine wA ?_;refine .p JV ?_;refine wA ?_;refine .lr (λv' h' lr=>?_) o6;have f0:h'[0]?=K4[0]?:=lr.fr 0 k6 (λep n hh=>by have:=hv 0 (by rw[hh];simp[bV]);omega);rw[z6]at f0;have lo:=lr.out;have lh:=lr.hr;have kh:=ag f0
      have hw:∀i∈bV v',1<=i:=λi hi=>by
       rcases lr.bV i hi with h |h
       ·exact hv i h
       ·omega
      have N6:=lo.bq;rw[<-bT,<-jk]at lo;rcases lo with⟨rfl,e8⟩|⟨id8,ep8,rfl,e8⟩
      all_goals
       refine wA ?_;refine .nx ⟨_,rfl,lh.set _ (by simp) (by simpa[bw,bq]using N6),abl kh,?_,hw,by rw[j',jk];exact hs,λw hw=>by rcases abp.1 hw with h |h;exact hp w h;simp at h;rw[h];exact TZ⟩
       first
        |exact .inl ⟨rfl,e8⟩
        |exact .inr ⟨id8,ep8,rfl,(abm (by have:=hw id8 (by simp[bV]);omega)).trans e8⟩
   ·obtain⟨p',e0,qW⟩:∃p' e0,p=p'++[e0]:=by
     rcases adl p with h |⟨a,b,h⟩
     ·exact absurd h D4
     ·exact⟨a,b,by rw[h];simp⟩
    have rn:=kJ (l:=l) (p:=p') (d:=e0) (q:=d::q) (by rw[e,qW];simp);have Dv:p.length=p'.length+1:=by rw[qW];simp
    have CL:og p=some e0.kn:=by rw[qW,j']
    obtain⟨abf,aaU⟩:=hb e0 (by rw[e,qW];simp)
    have Ia:=qU e0.kn 87 [.ptr H.length 0 0 0] (λu=>!bF d.kn u) K (by omega) (λx hx=>il.opened λH' hE=>by
     obtain⟨J,hJ,rfl⟩:=hE;exact H8 d x (by have:=aaU x (by simp[hx]);omega) (by omega) (λt ht=>by have:=LX t (by simp[ht]);omega) H.length _ ((rK.dA hJ).dA (HV.one (by simp))).closed (by rw[abj (ag bK)];exact bK))
    refine wA ?_;refine .mk (n:=p'.length) ?_ (by omega) rn rfl;refine wA ?_;refine .ex Ia (λK3 hE3=>?_)
    cases rr:e0.kn.any λu=>!bF d.kn u
    ·have Jk:kept (og p) d.kn=true:=by
      rw[CL];show(e0.kn.all λt=>bF d.kn t)=true;rw[acH]at rr;rw[abk]
      intro x hx
      simpa using rr x hx
     rw[Jk,if_neg (by simp)]at hs;have b3:=hE3.at bK;have z3:=hE3.at zK;have r3:HR K3:=by obtain⟨J,hJ,rfl⟩:=hE3;exact rK.dA hJ
     have o3:Out 4 K3 v (ae (eP p)):=by obtain⟨J,hJ,rfl⟩:=hE3;exact oK.cB _
     refine wA ?_;have ekn:=ai d.kn;refine cO.zip T6 d.kn (λp4 q4 L K4=>L=[(0,.aa false (cw l)),(3,.ptr 0 0 0 0),(5,.ptr H.length 0 0 0),(14,.aa false (cw l)),(15,.int .i64 (cw l).length),(16,.int .i64 p.length),(51,.aa false (ae d.kn)),(52,.int .i64 (ae d.kn).length),(53,.int .i64 p4.length)]/\gq K3 K4/\∀u∈p4,((bu u).all λx=>bF (eP p) x)=true) (.nx ⟨rfl,gq.refl _,by simp⟩) ?_ ?_
     ·rintro p4 u q4 _ K4 ρ e4 ⟨rfl,AD,H9⟩;have MV:=bg e4;have Qr:=lenE e4;have Xg:cx u=0:=FO u (by rw[e4];simp);have VN:=dx Xg;have Ve:=mf u (by omega);have PS:=eO u;have r5:HR (K4++[⟨.m,0,4,[enc u]⟩]):=by obtain⟨J,hJ,rfl⟩:=AD;exact(r3.dA hJ).dA (HV.one (by simp))
      have z5:(K4++[⟨.m,0,4,[enc u]⟩])[0]?=some ⟨.m,0,1,[v]⟩:=by rw[abj (ag (AD.at z3))];exact AD.at z3
      have o5:Out 4 (K4++[⟨.m,0,4,[enc u]⟩]) v (ae (eP p)):=by obtain⟨J,hJ,rfl⟩:=AD;exact(o3.cB _).cB _
      have Ia:=qU (bu u) 89 [.ptr 0 0 0 0] (λx=>!bF (eP p) x) (K4++[⟨.m,0,4,[enc u]⟩]) (by omega) (λx hx=>il.opened λH' hE=>by
       have rE:=jU hx;obtain⟨J,hJ,rfl⟩:=hE;exact zx (eP p) v x (by omega) (by omega) (λt ht=>by have:=Cj t ht;omega) 0 _ ((r5.dA hJ).dA (HV.one (by simp))).closed (by rw[abj (ag z5)];exact z5) (o5.cB _))
      rw[ao]at Ve Ia;refine wA ?_;refine .p Ve ?_;refine wA ?_;refine .ex Ia (λh' hE5=>?_)
      cases rr:(bu u).any λx=>!bF (eP p) x
      ·have eK:((bu u).all λx=>bF (eP p) x)=true:=by
        rw[acH]at rr;rw[abk]
        intro x hx
        simpa using rr x hx
       refine wA ?_;exact .nx ⟨rfl,(AD.cB (HV.one (by simp))).trans hE5,λw hw=>by rcases abp.1 hw with h |h;exact H9 w h;simp at h;rw[h];exact eK⟩
      ·have sC:C9 (eP p) d.kn=false:=by
        unfold C9;rw[ac2];refine⟨u,by rw[e4];simp,?_⟩;obtain⟨x,hx,rE⟩:=aci.1 rr;rw[abk]
        intro h
        have:=h x hx;simp[this]at rE
       refine wA ?_;exact⟨_,rfl,by rw[hs,if_pos sC];rfl⟩
     ·rintro _ K4 ρ ⟨rfl,AD,H9⟩
      have sC:C9 (eP p) d.kn=true:=by
       unfold C9;rw[abk];exact H9
      rw[sC,if_neg (by simp)]at hs;have b6:=AD.at b3;have z6:=AD.at z3;have r6:HR K4:=by obtain⟨J,hJ,rfl⟩:=AD;exact r3.dA hJ
      have o6:Out 4 K4 v (ae (eP p)):=by obtain⟨J,hJ,rfl⟩:=AD;exact o3.cB _
      have TZ:cx d.tm=0:=FO d.tm (by simp);have FM:=dx TZ;have JV:=mf d.tm (by omega);have PS:=eO d.tm;rw[ao]at JV;have o7:=o6;have k6:=ag z6;have FH:=ai (bu d.tm);have ME:=ai (eP p);rcases o7 with⟨rfl,e7⟩|⟨id7,ep7,rfl,e7⟩
      all_goals
       refine wA ?_;refine .p JV ?_;refine wA ?_;refine .lr (λv' h' lr=>?_) o6;have f0:h'[0]?=K4[0]?:=lr.fr 0 k6 (λep n hh=>by have:=hv 0 (by rw[hh];simp[bV]);omega);rw[z6]at f0;have lo:=lr.out;have lh:=lr.hr;have kh:=ag f0
       have hw:∀i∈bV v',1<=i:=λi hi=>by
        rcases lr.bV i hi with h |h
        ·exact hv i h
        ·omega
       have N6:=lo.bq;rw[<-bT,<-jk]at lo;rcases lo with⟨rfl,e8⟩|⟨id8,ep8,rfl,e8⟩
       all_goals
        refine wA ?_;refine .nx ⟨_,rfl,lh.set _ (by simp) (by simpa[bw,bq]using N6),abl kh,?_,hw,by rw[j',jk];exact hs,λw hw=>by rcases abp.1 hw with h |h;exact hp w h;simp at h;rw[h];exact TZ⟩
        first
         |exact .inl ⟨rfl,e8⟩
         |exact .inr ⟨id8,ep8,rfl,(abm (by have:=hw id8 (by simp[bV]);omega)).trans e8⟩
    ·have Jk:kept (og p) d.kn=false:=by
      rw[CL];show(e0.kn.all λt=>bF d.kn t)=false;obtain⟨x,hx,rE⟩:=aci.1 rr;rw[ac2];exact⟨x,hx,by simpa using rE⟩
     refine wA ?_;exact⟨_,rfl,by rw[hs,if_pos Jk];rfl⟩
 ·rintro _ H ρ ⟨v,rfl,hH,h0,ho,hv,hs,hp⟩;refine wA ?_;exact⟨_,rfl,by rw[hs,mO];rfl⟩
theorem Lv(x t:Tm)(hx:ax x<100000000)(ht:ax t<100000000):aI C 99 [enc x,enc t] (.bool (lq x t)):=by
 have h1:=(fM x hx).nine;have h2:=(fM t ht).nine;rw[ao]at h1 h2 ⊢;rw[ao t];refine aI.x T6 Tryz.func99 rfl ?_;refine wA ?_;refine .p h1 ?_;refine wC (λhc=>?_) λhc=>?_
 ·refine .p h2 ?_
  (repeat' (first |(refine Rn.go ?_;conv=>whnf)|refine .mk ?_ |refine .mk (λhc=>?_) λhc=>?_ |fail))
  all_goals exact⟨_,rfl,by simp[aO,lq, *]⟩
 ·exact⟨_,rfl,by simp[aO,lq, *]⟩
theorem Pl{q:List dD}{b:dD}{o:Option Tm}(hb:vw b≠0):mP o (b::q)=vw b:=by rw[mP,if_pos hb]
def rJ(p:List dD):Option Tm:=p.getLast?.map dD.v
theorem ka(p:List dD)(d:dD):rJ (p++[d])=some d.v:=by simp[rJ]
theorem yK(s:List dD)(hl:s.length<1000000000)(hb:∀b∈s,ax b.v<100000000/\ax b.t<100000000):aI C 48 [.aa false (bD s)] (.int .i64 (iD s)):=by
 have cr:=gi s;refine aI.x T6 Tryz.func48 rfl ?_;refine wC (λhc=>?_) λhc=>?_
 ·exact⟨_,rfl,by rw[iD,if_pos (by omega)];rfl⟩
 have Rt:iD s=mP none s:=by rw[iD,if_neg (by omega)]
 refine cO.zip T6 s (λp q L H=>L=[(0,.aa false (bD s)),(10,.aa false (bD s)),(11,.int .i64 (bD s).length),(12,.int .i64 p.length)]/\HV H/\iD s=mP (rJ p) q) (.nx ⟨rfl,HV.nil,Rt⟩) ?_ ?_
 ·rintro p b q _ H ρ e ⟨rfl,hH,hs⟩;have cm:=gH e;have di:=lenE e;obtain⟨Yz,FM⟩:=hb b (by rw[e];simp);have h1:=(fM b.v Yz).nine;have h2:=(fM b.t FM).nine;have h3:=(eB b.v b.t (by omega) (by omega)).nine;have h4:=Lv b.v b.t Yz FM;rw[ao]at h1 h2 h3 h4;rw[ao b.t]at h3 h4;have hE:∀n,vw b=n->n≠0->iD s=n:=λn h h'=>by rw[hs,Pl (q:=q) (by rw[h];exact h'),h]
  have hN:vw b=0->iD s=if behind (rJ p) b.v=false then 5 else mP (some b.v) q:=λh=>by rw[hs,mP,if_neg (by rw[h];simp)]
  refine wA ?_;refine .p h1 ?_;refine wJ (λhc hc=>?_) (λhc hc=>?_) λhc=>?_
  ·have Dw:valid b.v=0:=by omega
   have hk1:b.v.k=1:=by omega
   refine .p h3 ?_;refine wC (λhc=>?_) λhc=>?_
   ·exact⟨_,rfl,by rw[hE 1 (by rw[vw,if_neg (by omega),if_pos (.inr (by assumption))]) (by decide)];rfl⟩
   ·have Au:¬(b.v.k≠1\/aT b.v b.t=0):=by omega
    refine .p h2 ?_;refine wC (λhc=>?_) λhc=>?_
    ·have ht0:valid b.t=0:=by omega
     refine .p h4 ?_
     cases hf:lq b.v b.t
     ·refine wA ?_;exact⟨_,rfl,by rw[hE 10 (by rw[vw,if_neg (by omega),if_neg Au,if_neg (by omega),if_pos hf]) (by decide)];rfl⟩
     ·have xL:=hN (by rw[vw,if_neg (by omega),if_neg Au,if_neg (by omega),if_neg (by rw[hf];simp)])
      by_cases D4:p=[]
      ·have P4:behind (rJ p) b.v=true:=by rw[D4];rfl
       rw[P4,if_neg (by simp)]at xL;have Dv:p.length=0:=by rw[D4];rfl
       refine wA ?_;exact .nx ⟨rfl,hH.cB (HV.one (by simp)),by rw[ka];exact xL⟩
      ·obtain⟨p',e0,qW⟩:∃p' e0,p=p'++[e0]:=by
        rcases adl p with h |⟨a,b,h⟩
        ·exact absurd h D4
        ·exact⟨a,b,by rw[h];simp⟩
       have rn:=gH (l:=s) (p:=p') (b:=e0) (q:=b::q) (by rw[e,qW];simp);have Dv:p.length=p'.length+1:=by rw[qW];simp
       have CL:rJ p=some e0.v:=by rw[qW,ka]
       have h5:=(eB e0.v b.v (by have:=(hb e0 (by rw[e,qW];simp)).1;omega) (by omega)).nine;rw[ao,ao b.v]at h5;rw[CL]at xL;refine wA ?_;refine .mk (n:=p'.length) ?_ (by omega) rn rfl;refine wA ?_;refine .p h5 ?_;refine wC (λhc=>?_) λhc=>?_
       ·exact⟨_,rfl,by rw[xL,if_pos (by simp[behind];omega)];rfl⟩
       ·exact .nx ⟨rfl,hH.cB (HV.one (by simp)),by rw[ka,xL,if_neg (by simp[behind];omega)]⟩
    ·exact⟨_,rfl,by rw[hE (valid b.t) (by rw[vw,if_neg (by omega),if_neg Au,if_pos (by omega)]) (by omega)];rfl⟩
  ·exact⟨_,rfl,by rw[hE 1 (by rw[vw,if_neg (by omega),if_pos (.inl (by assumption))]) (by decide)];rfl⟩
  ·exact⟨_,rfl,by rw[hE (valid b.v) (by rw[vw,if_pos (by omega)]) (by omega)];rfl⟩
 ·rintro _ H ρ ⟨rfl,hH,hs⟩;refine wA ?_;exact⟨_,rfl,by rw[hs];rfl⟩
end bE
def Pn(l:List dD):Prop:=l.Pairwise λp q=>aT p.v q.v<0
def CZ(t:Tm):List dD->Nat
 |[]=>0
 |p::l=>if aT p.v t<0 then CZ t l+1 else 0
theorem Po(t:Tm):∀l:List dD,CZ t l<=l.length
 |[]=>by simp[CZ]
 |p::l=>by
  have:=Po t l;rw[CZ]
  split <;>simp <;>omega
theorem Jo(t:Tm):∀(l:List dD),Pn l->∀(m:Nat) (p:dD),l[m]?=some p->(aT p.v t<0↔m<CZ t l)
 |[],_,m,p,h=>by simp at h
 |q::l,s,m,p,h=>by
  obtain⟨s1,s2⟩:=abG.1 s;rw[CZ]
  cases m with
  |zero=>
   simp at h;subst h
   split
   ·simp;assumption
   ·simp;omega
  |succ m=>
   have h':l[m]?=some p:=by simpa using h
   have ih:=Jo t l s2 m p h';have hm:=s1 p (aby h')
   split
   ·rw[ih];omega
   ·rename_i hq
    constructor
    ·intro hp
     exact absurd (eU hm hp) hq
    ·intro hh;omega
def Mc(t:Tm)(l:List dD):Bool:=match l[CZ t l]? with |some p=>decide (aT p.v t=0)|none=>false
theorem u7:∀{s:List dD} {x:Tm},(∀b∈s,aT b.v x≠0)->ly s x=x
 |[],_,_=>rfl
 |b::s,x,h=>by
  rw[ly,if_neg (h b (by simp))];exact u7 λc hc=>h c (by simp[hc])
theorem Jp(x:Tm):∀(s:List dD),Pn s->(∀b,s[CZ x s]?=some b->aT b.v x=0->ly s x=b.t)/\(Mc x s=false->ly s x=x)
 |[],_=>⟨λb h=>by simp at h,λ_=>rfl⟩
 |c::s,hs=>by
  obtain⟨s1,s2⟩:=abG.1 hs;obtain⟨ih1,ih2⟩:=Jp x s s2
  by_cases hc:aT c.v x<0
  ·have hl:CZ x (c::s)=CZ x s+1:=by rw[CZ,if_pos hc]
   have hg:ly (c::s) x=ly s x:=by rw[ly,if_neg (by omega)]
   have hf:Mc x (c::s)=Mc x s:=by unfold Mc;rw[hl];simp
   rw[hl,hg,hf];exact⟨λb h=>ih1 b (by simpa using h),ih2⟩
  ·have hl:CZ x (c::s)=0:=by rw[CZ,if_neg hc]
   have hf:Mc x (c::s)=decide (aT c.v x=0):=by unfold Mc;rw[hl];rfl
   rw[hl,hf];refine⟨λb h h0=>?_,λh=>?_⟩
   ·simp at h;subst h;rw[ly,if_pos h0]
   ·have h0:aT c.v x≠0:=of_decide_eq_false h;refine u7 λb hb=>?_;rcases abu.1 hb with rfl |hb
    ·exact h0
    ·intro h1
     have h2:=s1 b hb;have h3:=cP h1;subst h3;exact hc h2
namespace bE
open Go.Proofs
attribute [local irreducible] aD az aL aJ Ev ah aj ay aY bJ
theorem jd{h:ab}{k o:Int}{n:ByteArray}{l:List Tm}{x:PV}(hx:ke h x=some x:=by rfl)(hn:b9 x=x:=by rfl):∃r1,rb h (aO [.agg (List.take (3+1) (List.drop 0 (cells (.agg [.int .i64 k,.str n,.int .i64 o,.aa false (ae l)])))),x])=some r1/\b9 r1=.ct [.agg [.int .i64 k,.str n,.int .i64 o,.aa false (ae l)],x]:=by
 refine⟨.ct [.agg [.int .i64 k,.str n,.int .i64 o,.aa false (ae l)],x],?_,by simp[b9,aR,hn]⟩;simp only[aO,rb,gz,hx];simp[ke,nw,oB,cells]
theorem Lw(b:dD)(t:Tm)(hb:ax b.v<100000000)(ht:ax t<100000000):aI C 257 [uo b,enc t] (.int .i64 (aT b.v t)):=by
 have h1:=(eB b.v t (by omega) (by omega)).nine;rw[ao,ao t]at h1;rw[oW,ao];refine aI.x T6 Tryz.func257 rfl ?_;refine wA ?_;refine .p h1 ?_;refine wA ?_;exact⟨_,rfl,rfl⟩
theorem Pp(l:List dD)(t:Tm)(hs:Pn l)(hl:l.length<100000000)(hb:∀b∈l,ax b.v<100000000)(ht:ax t<100000000):
  aI C 256 [.aa false (bD l),enc t,.fn 257 []] (.ct [.int .i64 (CZ t l),.bool (Mc t l)]):=by
 have hle:=Po t l;have PF:=Jo t l hs;have pL:Mc t l=match l[CZ t l]? with |some p=>decide (aT p.v t=0)|none=>false:=rfl
 have cr:=gi l;generalize Mc t l=FD at pL ⊢;generalize CZ t l=LB at hle PF pL ⊢
 have elem:∀m,m<l.length->∃b,l[m]?=some b/\(bD l)[m]?=some (.agg [.int .i64 b.v.k,.str b.v.s,.int .i64 b.v.o,.aa false (ae b.v.l),.int .i64 b.t.k,.str b.t.s,.int .i64 b.t.o,.aa false (ae b.t.l)])/\aI C 257 [uo b,enc t] (.int .i64 (aT b.v t)):=λm hm=>by
  have h1:l[m]?=some l[m]:=abo hm;exact⟨_,h1,AY h1,Lw _ t (hb _ (aby h1)) ht⟩
 rw[ao]at elem ⊢;refine aI.x T6 Tryz.func256 rfl ?_;refine wA ?_;refine cO.nat T6 (λk L H=>∃i j:Nat,L=[(0,.aa false (bD l)),(2,.fn 257 []),(4,.ptr 0 0 0 0),(8,.int .i64 (bD l).length),(9,.int .i64 i),(10,.int .i64 j)]/\H=[⟨.m,0,4,[.agg [.int .i64 t.k,.str t.s,.int .i64 t.o,.aa false (ae t.l)]]⟩]/\k=j - i/\i<=LB/\LB<=j/\j<=l.length) l.length (.nx ⟨0,(bD l).length,rfl,rfl,by omega,by omega,by omega,by omega⟩) ?_;rintro k _ _ ρ ⟨i,j,rfl,rfl,hk,i1,i2,i3⟩
 by_cases QC:i<j
 ·obtain⟨m,YG⟩:∃m:Nat,((i:Int)+j) / 2=m:=⟨(i+j) / 2,by omega⟩;obtain⟨b,h1,cm,rR⟩:=elem m (by omega);have Qc:=PF m _ h1;rw[oW]at rR;refine wA ?_;refine .mk (n:=m) ?_ YG cm;refine wA ?_;refine .p rR ?_;refine wC (λhc=>?_) λhc=>?_
  ·exact .nx ⟨j - (m+1),by omega,m+1,j,rfl,rfl,rfl,by omega,by omega,by omega⟩
  ·exact .nx ⟨m - i,by omega,i,m,rfl,rfl,rfl,by omega,by omega,by omega⟩
 ·have hi:i=LB:=by omega
  subst hi
  by_cases lu:i<l.length
  ·obtain⟨b,h1,cm,rR⟩:=elem i lu;rw[h1]at pL;dsimp only at pL;rw[oW]at rR;refine wA ?_;refine .p rR ?_;refine wC (λhc=>?_) λhc=>?_
   all_goals exact⟨_,rfl,by rw[pL];simp[aO,b9,aR, *]⟩
  ·rw[abC (by omega)]at pL;refine wA ?_;exact⟨_,rfl,by rw[pL];rfl⟩
theorem Lx(l:List dD)(t:Tm)(hs:Pn l)(hl:l.length<100000000)(hb:∀b∈l,ax b.v<100000000)(ht:ax t<100000000):aI C 201 [.aa false (bD l),enc t] (.ct [enc (ly l t),.bool (Mc t l)]):=by
 have h1:=Pp l t hs hl hb ht;obtain⟨g1,g2⟩:=Jp t l hs;have pL:Mc t l=match l[CZ t l]? with |some p=>decide (aT p.v t=0)|none=>false:=rfl
 have cr:=gi l;rw[ao]at h1;rw[ao t];refine aI.x T6 Tryz.func201 rfl ?_;refine wA ?_;refine .p h1 ?_
 cases hf:Mc t l
 ·rw[g2 hf,ao];refine wA ?_;exact jd
 ·obtain⟨b,Vq,zW⟩:∃b,l[CZ t l]?=some b/\aT b.v t=0:=by
   rw[hf]at pL
   cases hx:l[CZ t l]? with
   |none=>rw[hx]at pL;cases pL
   |some b=>rw[hx]at pL;exact⟨b,rfl,of_decide_eq_true pL.symm⟩
  rw[g1 b Vq zW,ao];have cm:=AY Vq;have cG:=ag Vq;refine wA ?_;exact jd
theorem Eu{h:ab}{k o:Int}{n:ByteArray}{l:List Tm}:∃r1,rb h (aO [.agg (List.take (3+1) (List.drop 0 (cells (.agg [.int .i64 k,.str n,.int .i64 o,.aa false (ae l)]))))])=some r1/\b9 r1=.agg [.int .i64 k,.str n,.int .i64 o,.aa false (ae l)]:=by
 refine⟨.agg [.int .i64 k,.str n,.int .i64 o,.aa false (ae l)],?_,by simp[b9,aR]⟩;simp[aO,rb,ke,nw,oB,cells]
theorem Sv{A B:List Tm}{x y:Tm}{n:Nat}(h:n=A.length):(A++x::B).set n y=A++y::B:=by
 subst h
 induction A with
 |nil=>rfl
 |cons a A ih=>simpa using ih
theorem ml{l:List Tm}(h0:l≠[])(hl:l.length<1000000000)(H:ab):bG 4 [.aa false (ae l)] H=some (.ak H.length 0 0 l.length,H++[⟨.m,0,4,ae l⟩]):=by
 have cr:=ai l;have h1:(ae l).isEmpty=false:=by cases l with |nil=>exact absurd rfl h0 |cons=>rfl
 simp only[bG,h1,abz,if_false];rw[if_pos ⟨oM _,by omega⟩,cr]
 rfl
theorem Ly(k s o l)(hl:l.length<100000000)(ih:∀t∈l,aI C 202 [enc t] (enc t)):aI C 202 [enc (.mk k s o l)] (enc (.mk k s o l)):=by
 have cr:=ai l;rw[bh];refine aI.x T6 Tryz.func202 rfl ?_
 by_cases h0:l=[]
 ·subst h0;refine wA ?_;refine aj.cS rfl rfl ?_;refine wA ?_
  have C6:HR [⟨.m,0,4,[.agg [.int .i64 k,.str s,.int .i64 o,.aa true []]]⟩,⟨.m,0,4,[.agg [.int .i64 0,.str ByteArray.empty,.int .i64 0,.aa true []]]⟩]:=by
   intro x hx
   simp at hx;rcases hx with rfl |rfl <;>simp[bw,bq]
  refine cO.zip T6 ([]:List Tm) (λp q L K=>L=[(1,.ptr 0 0 0 0),(2,.ptr 1 0 0 0),(10,.aa true []),(11,.int .i64 0),(12,.int .i64 p.length)]/\K=[⟨.m,0,4,[.agg [.int .i64 k,.str s,.int .i64 o,.aa true []]]⟩,⟨.m,0,4,[.agg [.int .i64 0,.str ByteArray.empty,.int .i64 0,.aa true []]]⟩]) (.nx ⟨rfl,rfl⟩) ?_ ?_
  ·rintro p u q _ K ρ e _
   cases p <;>cases e
  ·rintro _ K ρ ⟨rfl,rfl⟩;refine wA ?_;exact⟨_,rfl,rfl⟩
 ·refine wA ?_;refine aj.cS rfl (ml h0 (by omega) _) ?_;refine wA ?_
  have C6:HR [⟨.m,0,4,[.agg [.int .i64 k,.str s,.int .i64 o,.ak 2 0 0 l.length]]⟩,⟨.m,0,4,[.agg [.int .i64 0,.str ByteArray.empty,.int .i64 0,.aa true []]]⟩,⟨.m,0,4,ae l⟩]:=by
   intro x hx
   simp at hx;rcases hx with rfl |rfl |rfl
   ·simp[bw,bq]
   ·simp[bw,bq]
   ·exact⟨by simp,bj _ _ (by simp)⟩
  refine cO.zip T6 l (λp q L H=>L=[(1,.ptr 0 0 0 0),(2,.ptr 1 0 0 0),(10,.ak 2 0 0 l.length),(11,.int .i64 l.length),(12,.int .i64 p.length)]/\HR H/\H[0]?=some ⟨.m,0,4,[.agg [.int .i64 k,.str s,.int .i64 o,.ak 2 0 0 l.length]]⟩/\H[1]?=some ⟨.m,0,4,[.agg [.int .i64 0,.str ByteArray.empty,.int .i64 0,.aa true []]]⟩/\H[2]?=some ⟨.m,0,4,ae l⟩) (.nx ⟨rfl,C6,rfl,rfl,rfl⟩) ?_ ?_
  ·rintro p u q _ H ρ e ⟨rfl,hH,g0,g1,g2⟩;have rn:=bg e;have cm:(ae l)[0+p.length]?=some (.agg [.int .i64 u.k,.str u.s,.int .i64 u.o,.aa false (ae u.l)]):=by rw[abE];exact rn
   have eL:=c8 cm;have di:=lenE e;have hi:=ih u (by rw[e];simp);rw[ao]at hi;have oN:HR (H++[⟨.m,0,4,[.agg [.int .i64 u.k,.str u.s,.int .i64 u.o,.aa false (ae u.l)]]⟩]):=hH.dA (HV.one (by simp));refine wA ?_;refine .p hi ?_;refine wA ?_;rw[eL];have k2:=ag g2;exact .nx ⟨rfl,oN.set 2 (by simp) (bj _ _ (by simp)),by rw[abm (by omega),abj (by omega)];exact g0,by rw[abm (by omega),abj (by omega)];exact g1,abl (by simp;omega)⟩
  ·rintro _ H ρ ⟨rfl,hH,g0,g1,g2⟩;have k1:=ag g1;have e2:=abl (a:=(⟨.m,0,4,[.agg [.int .i64 k,.str s,.int .i64 o,.ak 2 0 0 l.length]]⟩:aw)) k1;refine wA ?_;refine .mk ?_ (jY (T:=T6) rfl e2 rfl rfl rfl rfl);exact⟨Lz (.inr ⟨2,0,by rw[cr],(abm (by omega)).trans g2⟩) (by simp) (by simp)⟩
theorem Ib(t:Tm)(hb:ax t<100000000):aI C 202 [enc t] (enc t):=by
 induction t using Tm.ind with
 |h k s o l ih=>
  have:=ba l;simp only[ax]at hb;exact Ly k s o l (by omega) λt ht=>ih t ht (by have:=bC ht;omega)
structure rL(s:List dD):Prop where
 oT:Pn s
 len:s.length<100000000
 v:∀b∈s,ax b.v<10000000
 t:∀b∈s,ax b.t<10000000
theorem rL.get{s:List dD}(h:rL s){x:Tm}(hx:ax x<10000000):ax (ly s x)<10000000:=by
 have:=Cc (B:=9999999) (x:=x) (s:=s) λb hb=>by have:=h.t b hb;omega
 omega
theorem Sw(S:List dD)(hS:rL S)(k s o l)(hb:ax (.mk k s o l)<10000000)(ih:∀t∈l,aI C 157 [.aa false (bD S),enc t] (enc (da S t))):aI C 157 [.aa false (bD S),enc (.mk k s o l)] (enc (da S (.mk k s o l))):=by
 have cr:=ai l;have tY:=ba l;have hl:l.length<10000000:=by simp only[ax]at hb;omega
 have hfi:=Lx S (.mk k s o l) hS.oT hS.len (λb hb=>by have:=hS.v b hb;omega) (by omega);have dw:=Ib (ly S (.mk k s o l)) (by have:=hS.get hb;omega);obtain⟨g,hg⟩:∃g,g=ly S (.mk k s o l):=⟨_,rfl⟩;have hpv:k=1->da S (.mk k s o l)=g:=λh=>by rw[da,if_pos h,hg]
 have hpt:k≠1->da S (.mk k s o l)=.mk k s o (cc S l):=λh=>by rw[da,if_neg h]
 rw[<-hg]at hfi dw;rw[ao g]at hfi dw;rw[bh]at hfi ⊢;refine aI.x T6 Tryz.func157 rfl ?_
 by_cases hk:k=1
 ·rw[hpv hk,ao];refine wA ?_;refine .p hfi ?_;refine wA ?_;refine .p dw ?_;refine wA ?_;exact Eu
 ·rw[hpt hk,bh]
  by_cases h0:l=[]
  ·subst h0;refine wA ?_;refine aj.cS rfl rfl ?_;refine wA ?_;refine cO.zip T6 ([]:List Tm) (λp q L K=>L=[(0,.aa false (bD S)),(3,.ptr 0 0 0 0),(4,.ptr 1 0 0 0),(25,.aa true []),(26,.int .i64 0),(27,.int .i64 p.length)]/\K=[⟨.m,0,4,[.agg [.int .i64 k,.str s,.int .i64 o,.aa true []]]⟩,⟨.m,0,4,[.agg [.int .i64 0,.str ByteArray.empty,.int .i64 0,.aa true []]]⟩]) (.nx ⟨rfl,rfl⟩) ?_ ?_
   ·rintro p u q _ K ρ e _
    cases p <;>cases e
   ·rintro _ K ρ ⟨rfl,rfl⟩;refine wA ?_;exact⟨_,rfl,rfl⟩
  ·refine wA ?_;refine aj.cS rfl (ml h0 (by omega) _) ?_;refine wA ?_
   have C6:HR [⟨.m,0,4,[.agg [.int .i64 k,.str s,.int .i64 o,.ak 2 0 0 l.length]]⟩,⟨.m,0,4,[.agg [.int .i64 0,.str ByteArray.empty,.int .i64 0,.aa true []]]⟩,⟨.m,0,4,ae l⟩]:=by
    intro x hx
    simp at hx;rcases hx with rfl |rfl |rfl
    ·simp[bw,bq]
    ·simp[bw,bq]
    ·exact⟨by simp,bj _ _ (by simp)⟩
   refine cO.zip T6 l (λp q L H=>L=[(0,.aa false (bD S)),(3,.ptr 0 0 0 0),(4,.ptr 1 0 0 0),(25,.ak 2 0 0 l.length),(26,.int .i64 l.length),(27,.int .i64 p.length)]/\HR H/\H[0]?=some ⟨.m,0,4,[.agg [.int .i64 k,.str s,.int .i64 o,.ak 2 0 0 l.length]]⟩/\H[1]?=some ⟨.m,0,4,[.agg [.int .i64 0,.str ByteArray.empty,.int .i64 0,.aa true []]]⟩/\H[2]?=some ⟨.m,0,4,ae (cc S p++q)⟩) (.nx ⟨rfl,C6,rfl,rfl,rfl⟩) ?_ ?_
   ·rintro p u q _ H ρ e ⟨rfl,hH,g0,g1,g2⟩;have kH:=gS S p;have cm:(ae (cc S p++u::q))[0+p.length]?=some (.agg [.int .i64 u.k,.str u.s,.int .i64 u.o,.aa false (ae u.l)]):=by rw[abE,<-kH];exact bg rfl
    have eL:(ae (cc S p++u::q)).set (0+p.length) (enc (da S u))=ae (cc S (p++[u])++q):=by
     rw[xX,abE,Sv kH.symm,eN,eN,ab6];simp
    have di:=lenE e;have oS:(ae (cc S p++u::q)).length=l.length:=by rw[ai];simp;omega
    have hi:=ih u (by rw[e];simp);rw[ao u,ao (da S u)]at hi;rw[ao (da S u)]at eL;have oN:HR (H++[⟨.m,0,4,[.agg [.int .i64 u.k,.str u.s,.int .i64 u.o,.aa false (ae u.l)]]⟩]):=hH.dA (HV.one (by simp));refine wA ?_;refine .p hi ?_;refine wA ?_;rw[eL];have k2:=ag g2;exact .nx ⟨rfl,oN.set 2 (by simp) (bj _ _ (by simp)),by rw[abm (by omega),abj (by omega)];exact g0,by rw[abm (by omega),abj (by omega)];exact g1,abl (by simp;omega)⟩
   ·rintro _ H ρ ⟨rfl,hH,g0,g1,g2⟩;rw[abJ]at g2;have kH:=gS S l;have k1:=ag g1;have e2:=abl (a:=(⟨.m,0,4,[.agg [.int .i64 k,.str s,.int .i64 o,.ak 2 0 0 l.length]]⟩:aw)) k1;refine wA ?_;refine .mk ?_ (jY (T:=T6) rfl e2 rfl rfl rfl rfl);exact⟨Lz (.inr ⟨2,0,by rw[ai,kH],(abm (by omega)).trans g2⟩) (by simp) (by simp)⟩
theorem Pq(S:List dD)(hS:rL S)(t:Tm)(hb:ax t<10000000):aI C 157 [.aa false (bD S),enc t] (enc (da S t)):=by
 induction t using Tm.ind with
 |h k s o l ih=>
  refine Sw S hS k s o l hb λt ht=>ih t ht ?_;have:=bC ht;simp only[ax]at hb;omega
end bE
theorem Pr{s:ByteArray}(h:dR s=true):1<=s.size:=by
 rw[<-bsize];unfold dR wV at h
 cases e:s.toList with
 |nil=>rw[e]at h;simp at h
 |cons c l=>simp
theorem Fq{s:List dD}{B:Nat}:∀{l:List Tm},(∀t∈l,2 * ax (da s t)<=ax t * B)->2 * bp (cc s l)<=bp l * B
 |[],_=>by simp[cc,bp]
 |t::l,h=>by
  have h1:=h t (by simp);have h2:=Fq (l:=l) λu hu=>h u (by simp[hu])
  simp only[cc,bp,ab9];omega
theorem LA{s:List dD}{B:Nat}(hB:2<=B)(hs:∀b∈s,ax b.t<=B)(t:Tm):nodes t=0->2 * ax (da s t)<=ax t * B:=by
 induction t using Tm.ind with
 |h k n o l ih=>
  intro h0
  obtain⟨q1,q2⟩:=lV h0;have hn:=Pr (uq q1).1;have zW:2<=ax (.mk k n o l):=by simp only[ax];omega
  have h1:ax (.mk k n o l) * 2<=ax (.mk k n o l) * B:=Nat.mul_le_mul_left _ hB;have h2:2 * B<=ax (.mk k n o l) * B:=abY _ zW;unfold da
  split
  ·have:=Cc (x:=.mk k n o l) hs;omega
  ·have h3:=Fq (s:=s) (B:=B) (l:=l) λt ht=>ih t ht (oG q2 t ht)
   simp only[ax,ab9]at h1 ⊢;have h4:n.size * 2<=n.size * B:=Nat.mul_le_mul_left _ hB;omega
theorem rL.of{s:List dD}(h:iD s=0):bE.rL s:=by
 obtain⟨h1,h2,h3⟩:=qK h;refine⟨h3,by omega,λb hb=>?_,λb hb=>?_⟩
 ·have:=ee (lX (h2 b hb)).1;omega
 ·have:=ee (lX (h2 b hb)).2.2.1;omega
theorem Jq{s:List dD}(h:iD s=0){t:Tm}(ht:valid t=0):ax (da s t)<=50000000:=by
 obtain⟨h1,h2,h3⟩:=qK h;have h4:=LA (s:=s) (B:=10000) (by omega) (λb hb=>ee (lX (h2 b hb)).2.2.1) t (fq.1 ht).1;have h5:=ee ht;have h6:ax t * 10000<=10000 * 10000:=abY _ h5;omega
namespace bE
open Go.Proofs
attribute [local irreducible] aD az aL aJ Ev ah aj ay aY bJ
theorem kj:enc dM=.agg [.int .i64 0,.str ByteArray.empty,.int .i64 0,.aa false (ae [])]:=rfl
theorem zy(S:List dD)(hS:iD S=0)(t:Tm)(hb:ax t<10000000):aI C 112 [.aa false (bD S),enc t] (.ct [enc (bI S t).1,.int .i64 (bI S t).2]):=by
 have ga:=rL.of hS;have h1:=(fM t (by omega)).nine;have h2:=Pq S ga t hb;have h3:valid t=0->aI C 98 [enc (da S t)] (.int .i64 (valid (da S t))):=λh=>(fM (da S t) (by have:=Jq hS h;omega)).nine
 have a1:valid t≠0->bI S t=(dM,valid t):=λh=>by rw[bI,if_pos h]
 have a2:valid t=0->valid (da S t)≠0->bI S t=(dM,valid (da S t)):=λh h'=>by rw[bI,if_neg (by omega),if_pos h']
 have a3:valid t=0->valid (da S t)=0->bI S t=(da S t,0):=λh h'=>by rw[bI,if_neg (by omega),if_neg (by omega)]
 generalize bI S t=A at *;generalize da S t=u at *;rw[ao t]at h1 h2 ⊢;rw[ao u]at h2 h3;refine aI.x T6 Tryz.func112 rfl ?_;refine wA ?_;refine .p h1 ?_;refine wC (λhc=>?_) λhc=>?_
 ·have hv:valid t=0:=by omega
  refine .p h2 ?_;refine wA ?_;refine .p (h3 hv) ?_;refine wC (λhc=>?_) λhc=>?_
  ·rw[a3 hv (by omega),ao];exact jd
  ·rw[a2 hv (by omega),kj];exact⟨_,rfl,rfl⟩
 ·rw[a1 (by omega),kj];exact⟨_,rfl,rfl⟩
theorem nY{S:List dD}{t:Tm}(h:(bI S t).2=0):bI S t=(da S t,0)/\valid t=0/\valid (da S t)=0:=by
 unfold bI at h ⊢
 split at h
 ·rename_i h1;exact absurd h h1
 ·rename_i h1
  split at h
  ·rename_i h2;exact absurd h h2
  ·rename_i h2
   rw[if_neg h1,if_neg h2];exact⟨rfl,by omega,by omega⟩
theorem Jr{S:List dD}{l p q:List Tm}{u:Tm}(e:l=p++u::q)(hp:∀v∈p,(bI S v).2=0)(hu:(bI S u).2≠0):lz S l=(bI S u).2:=by
 subst e
 induction p with
 |nil=>simp only[abT,lz];rw[if_pos hu]
 |cons v p ih=>
  simp only[abH,lz];rw[if_neg (by rw[hp v (by simp)];simp),ih (λw hw=>hp w (by simp[hw]))]
theorem u9{S:List dD}:∀{l:List Tm},(∀v∈l,(bI S v).2=0)->lz S l=0
 |[],_=>rfl
 |v::l,h=>by
  rw[lz,if_neg (by rw[h v (by simp)];simp)];exact u9 λu hu=>h u (by simp[hu])
theorem Js{S:List dD}(hS:iD S=0):aI C 48 [.aa false (bD S)] (.int .i64 0):=by
 obtain⟨h1,h2,h3⟩:=qK hS
 have:=yK S (by omega) λb hb=>by
  have h4:=ee (lX (h2 b hb)).1;have h5:=ee (lX (h2 b hb)).2.2.1;exact⟨by omega,by omega⟩
 rwa[hS]at this
theorem Hg(S:List dD)(hS:iD S=0)(t:Tm)(hb:ax t<10000000):aI C 57 [.aa false (bD S),enc t] (.ct [enc (bI S t).1,.int .i64 (bI S t).2]):=by
 have h1:=Js hS;have h2:=zy S hS t hb;generalize bI S t=A at *;obtain⟨u,n⟩:=A;dsimp only at h2 ⊢;rw[ao t,ao u]at h2;rw[ao t,ao u];refine aI.x T6 Tryz.func57 rfl ?_;refine wA ?_;refine .p h1 ?_;refine wA ?_;refine .p h2 ?_;refine wA ?_;exact jd
theorem Ot(S:List dD)(hS:iD S=0)(l:List Tm)(hl:l.length<=200)(hb:∀t∈l,ax t<10000000):aI C 56 [.aa false (bD S),.aa false (ae l)] (.ct [.aa false (ae (if lz S l≠0 then[]else cc S l)),.int .i64 (lz S l)]):=by
 have h1:=Js hS;have cr:=ai l;refine aI.x T6 Tryz.func56 rfl ?_;refine wA ?_;refine .p h1 ?_;refine wA ?_;refine cO.zip T6 l (λp q L H=>∃v,L=[(0,.aa false (bD S)),(7,v),(20,.aa false (ae l)),(21,.int .i64 (ae l).length),(22,.int .i64 p.length)]/\HV H/\Out 4 H v (ae (cc S p))/\∀u∈p,(bI S u).2=0) (.nx ⟨_,rfl,HV.nil,.inl ⟨rfl,rfl⟩,by simp⟩) ?_ ?_
 ·rintro p u q _ H ρ e ⟨v,rfl,hH,ho,hp⟩;have cm:=bg e;have di:=lenE e;have mK:=zy S hS u (hb u (by rw[e];simp));have kH:=gS S p;have hle:=ai (cc S p);have h0:(bI S u).2=0->(bI S u).1=da S u:=λh=>by rw[(nY h).1]
  have hx:(bI S u).2≠0->lz S l=(bI S u).2:=Jr e hp;have m':cc S (p++[u])=cc S p++[da S u]:=by rw[eN,eN];simp
  have hpn:(bI S u).2=0->∀w∈p++[u],(bI S w).2=0:=λh w hw=>by
   rcases abp.1 hw with h1 |h1
   ·exact hp w h1
   ·simp at h1;rw[h1];exact h
  generalize(bI S u).1=w at *;generalize(bI S u).2=n at *;rw[ao u,ao w]at mK;have ui:=(ho.cB [⟨.m,0,4,[.agg [.int .i64 u.k,.str u.s,.int .i64 u.o,.aa false (ae u.l)]]⟩]).cB [⟨.m,0,4,[.agg [.int .i64 w.k,.str w.s,.int .i64 w.o,.aa false (ae w.l)]]⟩];refine wA ?_;have oN:HV (H++[⟨.m,0,4,[.agg [.int .i64 u.k,.str u.s,.int .i64 u.o,.aa false (ae u.l)]]⟩]++[⟨.m,0,4,[.agg [.int .i64 w.k,.str w.s,.int .i64 w.o,.aa false (ae w.l)]]⟩]):=(hH.cB (HV.one (by simp))).cB (HV.one (by simp));refine .p mK ?_;refine wK (λhc v H lp=>?_) λhc=>?_
  ·have hw:=h0 (by omega);refine .nx ⟨_,rfl,lp.hv,?_,hpn (by omega)⟩;have:=lp.out;have e9:ae (cc S p)++[.agg [.int .i64 w.k,.str w.s,.int .i64 w.o,.aa false (ae w.l)]]=ae (cc S p++[w]):=by rw[bT,<-ao];rfl
   rw[m',<-hw,<-e9];exact this
  ·have hxx:=hx (by omega);exact⟨_,rfl,by rw[hxx,if_pos (by omega)];rfl⟩
 ·rintro _ H ρ ⟨v,rfl,hH,ho,hp⟩;have he:=u9 hp;rw[he,if_neg (by simp)];refine wA ?_;exact Ls.VV (.inl ho)
end bE
end Go.Pm
