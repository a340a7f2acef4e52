/-
  Pm, a part. Conditions: none.
-/
import Derived.Test.YtimogkojklpdnaaGreatDoorPyAJ
set_option linter.unusedVariables false
set_option linter.unusedSimpArgs false
set_option linter.unnecessarySimpa false
set_option linter.unusedSectionVars false
namespace Go.Pm
set_option maxRecDepth 4000
theorem pT{C:cG}{T:kJ C.P}{L:Al}{h:ab}{a b n:Nat}{t:TypeId}{cs vs:List PV}{sz:Nat}{rs:List ResultVar}(ha:lk L a=some (.ptr b 0 0 0))(hb:h[b]?=some ⟨.m,0,n,[.agg cs]⟩)(hs:T.ts t=some (sz+1))(ht:T.ta t=some true)(hl:cs.length=sz+1)(hr:yH T L h rs=some vs):yH T L h (.cell a t::rs)=some (.agg cs::vs):=by
 have hp:cR h (.ptr b 0 0 0)=some cs:=(OQ hb).trans rfl
 have hld:loadT T h t (.ptr b 0 0 0)=some (.agg cs):=by
  unfold loadT;rw[hs,ht,hp];have:Nat.ble (sz+1) cs.length=true:=Nat.ble_eq_true_of_le (by omega);simp only[this,if_true];rw[abo (by omega)]
 simp only[yH,ha,hld,hr]
namespace bh
open Go.Proofs
def bE:List PV:=Lq.map A9
theorem EL:aL C 156 [] (.aa false bE):=aL.iE (n:=100) (by kernel_rfl)
theorem tx:aL C 218 [] (.aa false bE):=aL.iE (n:=100) (by kernel_rfl)
theorem uD{p q:List Sy}{y:Sy}(e:Lq=p++y::q):bE[p.length]?=some (.agg [.str y.n,.int .i64 y.a,.int .i64 y.b,.int .i64 y.k]):=by rw[bE,e];simp[A9]
@[simp] theorem yK:bE.length=21:=rfl
theorem tC:Lq.length=21:=rfl
@[simp] theorem TQ:ao bE=true:=rfl
theorem lT{p q:List Sy}{y:Sy}{s:ByteArray}(e:Lq=p++y::q)(hp:∀z∈p,z.n.toList≠s.toList)(h:y.n.toList=s.toList):bX s=y:=by
 unfold bX;rw[e,List.find?_append,List.find?_eq_none.2 (λz hz=>by simpa using hp z hz)];simp[h]
theorem nu{s t:ByteArray}(h:s.toList=t.toList):bX s=bX t:=by unfold bX;rw[h]
theorem iU{s n:ByteArray}(h:¬s.toList=n.toList):fu s n=false:=by unfold fu;simpa using h
theorem kz{s n:ByteArray}(h:s.toList=n.toList):fu s n=true:=by unfold fu;simpa using h
theorem A7:(bX nE).a=1:=by kernel_rfl
theorem rN{s:ByteArray}(hp:∀z∈Lq,z.n.toList≠s.toList):bX s=sy0:=by
 unfold bX;rw[List.find?_eq_none.2 (λz hz=>by simpa using hp z hz)]
 rfl
attribute [local irreducible] aD ay aJ aG Ev ah ai ax aZ bE
theorem pU(s:ByteArray):aL C 111 [.str s] (A9 (bX s)):=by
 have hs:=EL;refine aL.x T6 Tryz.func111 rfl ?_;refine wA ?_;refine .p hs ?_;refine wA ?_;refine dw.zip T6 Lq (λp q L H=>L=[(0,.str s),(2,.ptr 0 0 0 0),(5,.aa false bE),(6,.int .i64 21),(7,.int .i64 p.length)]/\HV H/\H[0]?=some ⟨.m,0,4,[.agg [.str ByteArray.empty,.int .i64 0,.int .i64 0,.int .i64 0]]⟩/\∀z∈p,z.n.toList≠s.toList) (.nx ⟨rfl,HV.one rfl,rfl,λz hz=>by cases hz⟩) ?_ ?_
 ·rintro p y q _ H Y e ⟨rfl,hH,h0,hp⟩;have cC:=uD e;have dO:=congrArg List.length e;rw[tC]at dO;simp only[aba,abg]at dO;refine wC (λhc=>?_) λhc=>?_
  ·refine .mk ?_ (pT (T:=T6) rfl (aa7 (by simp)) rfl rfl rfl rfl);refine wA ?_;exact⟨_,rfl,by rw[lT e hp hc];simp[aT,bW,aU,A9]⟩
  exact .nx ⟨rfl,hH.c8 (HV.one (by simp)),by rw[aa3 (ag h0)];exact h0,λz hz=>by rcases aa9.1 hz with h |h;exact hp z h;simp at h;rw[h];exact hc⟩
 ·rintro _ H Y ⟨rfl,hH,h0,hp⟩;rw[tC];refine wA ?_;refine .mk ?_ (pT (T:=T6) rfl (aa7 (ag h0)) rfl rfl rfl rfl);refine wA ?_;exact⟨_,rfl,by rw[rN hp];simp[aT,bW,aU,A9,sy0]⟩
theorem BV(y:Sy):A9 y=.agg [.str y.n,.int .i64 y.a,.int .i64 y.b,.int .i64 y.k]:=rfl
theorem qG{l p q:List Tm}{u:Tm}(e:l=p++u::q)(hp:∀v∈p,j8 v=0)(hu:j8 u≠0):qO l=j8 u:=by
 subst e
 induction p with
 |nil=>simp only[abK,qO];rw[if_pos hu]
 |cons v p ih=>
  simp only[abz,qO];rw[if_neg (by rw[hp v (by simp)];simp),ih (λw hw=>hp w (by simp[hw]))]
theorem fk:∀{l:List Tm},(∀v∈l,j8 v=0)->qO l=0
 |[],_=>rfl
 |v::l,h=>by rw[qO,if_neg (by rw[h v (by simp)];simp),fk λw hw=>h w (by simp[hw])]
theorem HV.xE{o p:au}(h1:o.mu≠.x/\ao o.es=true)(h2:p.mu≠.x/\ao p.es=true):HV [o,p]:=λx hx=>by
 simp only[abc,acn,or_false]at hx;rcases hx with rfl |rfl;exact h1;exact h2
theorem KU(k s o l)(hl:l.length<1000000000)(ih:∀t∈l,aL C 186 [enc t] (.int .i64 (j8 t))):aL C 186 [enc (.mk k s o l)] (.int .i64 (j8 (.mk k s o l))):=by
 have hs:=pU s;have cz:=ak l;rw[BV]at hs;rw[bo];refine aL.x T6 Tryz.func186 rfl ?_;refine wC (λhc=>?_) λhc=>?_
 ·refine .p hs ?_;refine wL (λhc=>?_) (λhc hc=>?_) (λhc hc hc=>?_) (λhc hc hc hc=>?_) (λhc hc hc hc hc=>?_) (λhc hc hc hc hc hc=>?_) λhc hc hc hc hc hc=>?_;exact⟨_,rfl,by rw[j8,if_neg (by simp[*]),if_pos (by assumption)];rfl⟩;exact⟨_,rfl,by rw[j8,if_neg (by simp[*]),if_neg (by assumption),if_pos (by omega)];rfl⟩;exact⟨_,rfl,by rw[j8,if_neg (by simp[*]),if_neg (by assumption),if_pos (by omega)];rfl⟩
  ·have BQ:eV s l=false->j8 (.mk k s o l)=10:=λh=>by rw[j8,if_neg (by simp[*]),if_neg (by assumption),if_neg (by omega),if_pos h]
   have N5:eV s l=true->j8 (.mk k s o l)=qO l:=λh=>by rw[j8,if_neg (by simp[*]),if_neg (by assumption),if_neg (by omega),if_neg (by rw[h];simp)]
   have zo:(fu s zx ||fu s sJ)=true:=by simp[fu,zx, *]
   refine dw.zip T6 l (λp q L H=>L=[(1,.ptr 0 0 0 0),(38,.aa false (ae l)),(39,.int .i64 l.length),(40,.int .i64 p.length)]/\HV H/\H[0]?=some ⟨.m,0,4,[.agg [.int .i64 k,.str s,.int .i64 o,.aa false (ae l)]]⟩/\∀u∈p,dB u=true) (.nx ⟨rfl,by first |assumption |exact HV.xE (by simp) (by simp),rfl,λu hu=>by cases hu⟩) ?_ ?_
   ·rintro p u q _ H Y e ⟨rfl,hH,h0,hp⟩;have cC:=bD e;have dO:=lenE e
    have Gf:dB u=false->eV s l=false:=λh=>by
     have:l.all dB=false:=by rw[e];simp[h]
     simp[eV,zo,this]
    have nx:u.k≠3->u.o=1->∀v∈p++[u],dB v=true:=λh1 h2 v hv=>by
     rcases aa9.1 hv with h |h;exact hp v h;simp at h;rw[h];simp[dB,h1,h2]
    refine wI (λhc=>?_) (λhc hc=>?_) λhc hc=>?_;exact⟨_,rfl,by rw[BQ (Gf (by simp[dB, *]))];rfl⟩;exact .nx ⟨rfl,hH.c8 (HV.one (by simp)),by rw[aa3 (ag h0)];exact h0,nx (by assumption) (by assumption)⟩;exact⟨_,rfl,by rw[BQ (Gf (by simp[dB, *]))];rfl⟩
   ·rintro _ H Y ⟨rfl,hH,h0,hp⟩;have ze:=N5 (by simp only[eV,zo,if_true];rw[aa4];exact hp);refine wA ?_;refine dw.zip T6 l (λp q L H=>L=[(62,.aa false (ae l)),(63,.int .i64 l.length),(64,.int .i64 p.length)]/\HV H/\∀u∈p,j8 u=0) (.nx ⟨rfl,by first |assumption |exact HV.xE (by simp) (by simp),λu hu=>by cases hu⟩) ?_ ?_
    ·rintro p u q _ H Y e ⟨rfl,hH,hp⟩;have cC:=bD e;have dO:=lenE e;have hi:=ih u (by rw[e];simp);rw[aw]at hi;refine wA ?_;refine .p hi ?_;refine wC (λhc=>?_) λhc=>?_;exact .nx ⟨rfl,hH.c8 (HV.one (by simp)),λv hv=>by rcases aa9.1 hv with h |h;exact hp v h;simp at h;rw[h];assumption⟩;exact⟨_,rfl,by rw[ze,qG e hp (by assumption)];rfl⟩
    ·rintro _ H Y ⟨rfl,hH,hp⟩;refine wA ?_;exact⟨_,rfl,by rw[ze,fk hp];rfl⟩
  ·have BQ:eV s l=false->j8 (.mk k s o l)=10:=λh=>by rw[j8,if_neg (by simp[*]),if_neg (by assumption),if_neg (by omega),if_pos h]
   have N5:eV s l=true->j8 (.mk k s o l)=qO l:=λh=>by rw[j8,if_neg (by simp[*]),if_neg (by assumption),if_neg (by omega),if_neg (by rw[h];simp)]
   have zo:(fu s zx ||fu s sJ)=true:=by simp[fu,sJ, *]
   refine dw.zip T6 l (λp q L H=>L=[(1,.ptr 0 0 0 0),(38,.aa false (ae l)),(39,.int .i64 l.length),(40,.int .i64 p.length)]/\HV H/\H[0]?=some ⟨.m,0,4,[.agg [.int .i64 k,.str s,.int .i64 o,.aa false (ae l)]]⟩/\∀u∈p,dB u=true) (.nx ⟨rfl,by first |assumption |exact HV.xE (by simp) (by simp),rfl,λu hu=>by cases hu⟩) ?_ ?_
   ·rintro p u q _ H Y e ⟨rfl,hH,h0,hp⟩;have cC:=bD e;have dO:=lenE e
    have Gf:dB u=false->eV s l=false:=λh=>by
     have:l.all dB=false:=by rw[e];simp[h]
     simp[eV,zo,this]
    have nx:u.k≠3->u.o=1->∀v∈p++[u],dB v=true:=λh1 h2 v hv=>by
     rcases aa9.1 hv with h |h;exact hp v h;simp at h;rw[h];simp[dB,h1,h2]
    refine wI (λhc=>?_) (λhc hc=>?_) λhc hc=>?_;exact⟨_,rfl,by rw[BQ (Gf (by simp[dB, *]))];rfl⟩;exact .nx ⟨rfl,hH.c8 (HV.one (by simp)),by rw[aa3 (ag h0)];exact h0,nx (by assumption) (by assumption)⟩;exact⟨_,rfl,by rw[BQ (Gf (by simp[dB, *]))];rfl⟩
   ·rintro _ H Y ⟨rfl,hH,h0,hp⟩;have ze:=N5 (by simp only[eV,zo,if_true];rw[aa4];exact hp);refine wA ?_;refine dw.zip T6 l (λp q L H=>L=[(62,.aa false (ae l)),(63,.int .i64 l.length),(64,.int .i64 p.length)]/\HV H/\∀u∈p,j8 u=0) (.nx ⟨rfl,by first |assumption |exact HV.xE (by simp) (by simp),λu hu=>by cases hu⟩) ?_ ?_
    ·rintro p u q _ H Y e ⟨rfl,hH,hp⟩;have cC:=bD e;have dO:=lenE e;have hi:=ih u (by rw[e];simp);rw[aw]at hi;refine wA ?_;refine .p hi ?_;refine wC (λhc=>?_) λhc=>?_;exact .nx ⟨rfl,hH.c8 (HV.one (by simp)),λv hv=>by rcases aa9.1 hv with h |h;exact hp v h;simp at h;rw[h];assumption⟩;exact⟨_,rfl,by rw[ze,qG e hp (by assumption)];rfl⟩
    ·rintro _ H Y ⟨rfl,hH,hp⟩;refine wA ?_;exact⟨_,rfl,by rw[ze,fk hp];rfl⟩
  ·have BQ:eV s l=false->j8 (.mk k s o l)=10:=λh=>by rw[j8,if_neg (by simp[*]),if_neg (by assumption),if_neg (by omega),if_pos h]
   have N5:eV s l=true->j8 (.mk k s o l)=qO l:=λh=>by rw[j8,if_neg (by simp[*]),if_neg (by assumption),if_neg (by omega),if_neg (by rw[h];simp)]
   have zo:(fu s zx ||fu s sJ)=false:=by rw[iU (n:=zx) (by assumption),iU (n:=sJ) (by assumption)];rfl
   have hnw:fu s nE=true:=kz (by assumption);have ha:(bX s).a=1:=by rw[nu (by assumption:s.toList=nE.toList)];exact A7
   obtain⟨u,r,rfl⟩:∃u r,l=u::r:=by cases l with |nil=>simp at cz;simp at *;omega |cons u r=>exact⟨u,r,rfl⟩
   have cC:(ae (u::r))[0]?=some (.agg [.int .i64 u.k,.str u.s,.int .i64 u.o,.aa false (ae u.l)]):=by rw[ae,<-aw];rfl
   have hpk:eV s (u::r)=decide (u.k=2):=by unfold eV;rw[zo,hnw];rfl
   refine .mk (n:=0) ?_ rfl cC rfl;generalize u::r=l at *;refine wC (λhc=>?_) λhc=>?_
   ·have ze:=N5 (by rw[hpk];simp[*]);refine dw.zip T6 l (λp q L H=>L=[(62,.aa false (ae l)),(63,.int .i64 l.length),(64,.int .i64 p.length)]/\HV H/\∀u∈p,j8 u=0) (.nx ⟨rfl,by first |assumption |exact HV.xE (by simp) (by simp),λu hu=>by cases hu⟩) ?_ ?_
    ·rintro p u q _ H Y e ⟨rfl,hH,hp⟩;have cC:=bD e;have dO:=lenE e;have hi:=ih u (by rw[e];simp);rw[aw]at hi;refine wA ?_;refine .p hi ?_;refine wC (λhc=>?_) λhc=>?_;exact .nx ⟨rfl,hH.c8 (HV.one (by simp)),λv hv=>by rcases aa9.1 hv with h |h;exact hp v h;simp at h;rw[h];assumption⟩;exact⟨_,rfl,by rw[ze,qG e hp (by assumption)];rfl⟩
    ·rintro _ H Y ⟨rfl,hH,hp⟩;refine wA ?_;exact⟨_,rfl,by rw[ze,fk hp];rfl⟩
   exact⟨_,rfl,by rw[BQ (by rw[hpk];simp[*])];rfl⟩
  ·have N5:j8 (.mk k s o l)=qO l:=by
    have h1:eV s l=true:=by unfold eV;rw[iU (n:=zx) (by assumption),iU (n:=sJ) (by assumption),iU (n:=nE) (by assumption)];rfl
    rw[j8,if_neg (by simp[*]),if_neg (by assumption),if_neg (by omega),if_neg (by rw[h1];simp)]
   have ze:=N5;refine dw.zip T6 l (λp q L H=>L=[(62,.aa false (ae l)),(63,.int .i64 l.length),(64,.int .i64 p.length)]/\HV H/\∀u∈p,j8 u=0) (.nx ⟨rfl,by first |assumption |exact HV.xE (by simp) (by simp),λu hu=>by cases hu⟩) ?_ ?_
   ·rintro p u q _ H Y e ⟨rfl,hH,hp⟩;have cC:=bD e;have dO:=lenE e;have hi:=ih u (by rw[e];simp);rw[aw]at hi;refine wA ?_;refine .p hi ?_;refine wC (λhc=>?_) λhc=>?_;exact .nx ⟨rfl,hH.c8 (HV.one (by simp)),λv hv=>by rcases aa9.1 hv with h |h;exact hp v h;simp at h;rw[h];assumption⟩;exact⟨_,rfl,by rw[ze,qG e hp (by assumption)];rfl⟩
   ·rintro _ H Y ⟨rfl,hH,hp⟩;refine wA ?_;exact⟨_,rfl,by rw[ze,fk hp];rfl⟩
 exact⟨_,rfl,by rw[j8,if_pos (by assumption)];rfl⟩
theorem He(t:Tm)(hb:az t<1000000000):aL C 186 [enc t] (.int .i64 (j8 t)):=by
 induction t using Tm.ind with
 |h k s o l ih=>
  have:=bH l;simp only[az]at hb;exact KU k s o l (by omega) λt ht=>ih t ht (by have:=bU ht;omega)
theorem sV(t:Tm)(hb:az t<100000000):aL C 139 [enc t] (.int .i64 (jc t)):=by
 have h1:=(fi t hb).nine;have h2:=He t (by omega);rw[aw]at h1 h2 ⊢;refine aL.x T6 Tryz.func139 rfl ?_;refine wA ?_;refine .p h1 ?_;refine wC (λhc=>?_) λhc=>?_
 ·refine .p h2 ?_;refine wA ?_;exact⟨_,rfl,by unfold jc;rw[if_neg (by omega)];rfl⟩
 exact⟨_,rfl,by unfold jc;rw[if_pos (by assumption)];rfl⟩
theorem Ba{p:ByteArray->Bool}{l a q:List Tm}{u:Tm}(e:l=a++u::q)(hu:every p u=false):gG p l=false:=by
 subst e
 induction a with
 |nil=>simp only[abK,gG,hu];rfl
 |cons v a ih=>simp only[abz,gG,ih];simp
theorem qg{p:ByteArray->Bool}:∀{l:List Tm},(∀v∈l,every p v=true)->gG p l=true
 |[],_=>rfl
 |v::l,h=>by rw[gG,h v (by simp),qg λw hw=>h w (by simp[hw])];rfl
theorem KW(g:FuncId)(p:ByteArray->Bool)(hm:C.mode g=.pure)(hg:∀s,aL C g [.str s] (.bool (p s)))(k s o l)(hl:l.length<1000000000)(ih:∀t∈l,aL C 109 [enc t,.fn g []] (.bool (every p t))):
  aL C 109 [enc (.mk k s o l),.fn g []] (.bool (every p (.mk k s o l))):=by
 have cz:=ak l;have hgs:=hg s;have qn:every p (.mk k s o l)=((decide (k≠3)||p s)&&gG p l):=rfl;rw[bo];refine aL.x T6 Tryz.func109 rfl ?_;refine wC (λhc=>?_) λhc=>?_
 ·refine .p hgs ?_ hm
  cases hps:p s
  ·refine wA ?_;exact⟨_,rfl,by rw[qn,hps];simp[aT, *]⟩
  ·have qn:every p (.mk k s o l)=gG p l:=by rw[qn,hps];simp
   refine wA ?_;refine dw.zip T6 l (λa q L H=>L=[(1,.fn g []),(18,.aa false (ae l)),(19,.int .i64 l.length),(20,.int .i64 a.length)]/\HV H/\∀u∈a,every p u=true) (.nx ⟨rfl,by first |assumption |exact HV.one (by simp),λu hu=>by cases hu⟩) ?_ ?_
   ·rintro a u q _ H Y e ⟨rfl,hH,hp⟩;have cC:=bD e;have dO:=lenE e;have hi:=ih u (by rw[e];simp);rw[aw]at hi;refine wA ?_;refine .p hi ?_
    cases hu:every p u
    ·refine wA ?_;exact⟨_,rfl,by rw[qn,Ba e hu];rfl⟩
    ·refine wA ?_;exact .nx ⟨rfl,hH.c8 (HV.one (by simp)),λv hv=>by rcases aa9.1 hv with h |h;exact hp v h;simp at h;rw[h];exact hu⟩
   ·rintro _ H Y ⟨rfl,hH,hp⟩;refine wA ?_;exact⟨_,rfl,by rw[qn,qg hp];rfl⟩
 ·have qn:every p (.mk k s o l)=gG p l:=by rw[qn];simp[*]
  refine dw.zip T6 l (λa q L H=>L=[(1,.fn g []),(18,.aa false (ae l)),(19,.int .i64 l.length),(20,.int .i64 a.length)]/\HV H/\∀u∈a,every p u=true) (.nx ⟨rfl,by first |assumption |exact HV.one (by simp),λu hu=>by cases hu⟩) ?_ ?_
  ·rintro a u q _ H Y e ⟨rfl,hH,hp⟩;have cC:=bD e;have dO:=lenE e;have hi:=ih u (by rw[e];simp);rw[aw]at hi;refine wA ?_;refine .p hi ?_
   cases hu:every p u
   ·refine wA ?_;exact⟨_,rfl,by rw[qn,Ba e hu];rfl⟩
   ·refine wA ?_;exact .nx ⟨rfl,hH.c8 (HV.one (by simp)),λv hv=>by rcases aa9.1 hv with h |h;exact hp v h;simp at h;rw[h];exact hu⟩
  ·rintro _ H Y ⟨rfl,hH,hp⟩;refine wA ?_;exact⟨_,rfl,by rw[qn,qg hp];rfl⟩
theorem xV(g:FuncId)(p:ByteArray->Bool)(hm:C.mode g=.pure)(hg:∀s,aL C g [.str s] (.bool (p s)))(t:Tm)(hb:az t<1000000000):aL C 109 [enc t,.fn g []] (.bool (every p t)):=by
 induction t using Tm.ind with
 |h k s o l ih=>
  have:=bH l;simp only[az]at hb;exact KW g p hm hg k s o l (by omega) λt ht=>ih t ht (by have:=bU ht;omega)
theorem KX(s:ByteArray):aL C 187 [.str s] (.bool (ue s)):=by
 have hs:=pU s;rw[BV]at hs;have W6:mH s=true->ue s=false:=λh=>by simp[ue,h]
 refine aL.x T6 Tryz.func187 rfl ?_;refine wL (λhc=>?_) (λhc hc=>?_) (λhc hc hc=>?_) (λhc hc hc hc=>?_) (λhc hc hc hc hc=>?_) (λhc hc hc hc hc hc=>?_) λhc hc hc hc hc hc=>?_;exact⟨_,rfl,by rw[W6 (by unfold mH;rw[kz (n:=uo) (by assumption)];simp)];rfl⟩;exact⟨_,rfl,by rw[W6 (by unfold mH;rw[kz (n:=iT) (by assumption)];simp)];rfl⟩;exact⟨_,rfl,by rw[W6 (by unfold mH;rw[kz (n:=Gt) (by assumption)];simp)];rfl⟩;exact⟨_,rfl,by rw[W6 (by unfold mH;rw[kz (n:=xT) (by assumption)];simp)];rfl⟩;exact⟨_,rfl,by rw[W6 (by unfold mH;rw[kz (n:=xU) (by assumption)];simp)];rfl⟩;exact⟨_,rfl,by rw[W6 (by unfold mH;rw[kz (n:=rE) (by assumption)];simp)];rfl⟩
 ·have vT:mH s=false:=by
   unfold mH;rw[iU (n:=uo) (by assumption),iU (n:=iT) (by assumption),iU (n:=Gt) (by assumption),iU (n:=xT) (by assumption),iU (n:=xU) (by assumption),iU (n:=rE) (by assumption)]
   rfl
  refine .p hs ?_;refine wC (λhc=>?_) λhc=>?_
  all_goals exact⟨_,rfl,by simp[aT,ue,vT, *]⟩
theorem KY(t:Tm)(hb:az t<100000000):aL C 140 [enc t] (.bool (km t)):=by
 have h1:=sV t hb;have h2:=xV 187 ue rfl KX t (by omega);rw[aw]at h1 h2 ⊢;refine aL.x T6 Tryz.func140 rfl ?_;refine wA ?_;refine .p h1 ?_;refine wC (λhc=>?_) λhc=>?_
 ·refine .p h2 ?_
  cases he:every ue t
  all_goals(
   refine wA ?_;exact⟨_,rfl,by simp[aT,km, *]⟩)
 exact⟨_,rfl,by simp[aT,km, *]⟩
theorem A6(s:ByteArray):aL C 169 [.str s] (.int .i64 (bX s).k):=by
 have hs:=tx;have gK:bE.length=21:=yK;refine aL.x T6 Tryz.func169 rfl ?_;refine wA ?_;refine .p hs ?_;refine wA ?_;refine dw.zip T6 Lq (λp q L H=>L=[(0,.str s),(3,.aa false bE),(4,.int .i64 p.length)]/\HV H/\∀z∈p,z.n.toList≠s.toList) (.nx ⟨rfl,HV.nil,λz hz=>by cases hz⟩) ?_ ?_
 ·rintro p y q _ H Y e ⟨rfl,hH,hp⟩;have cC:=uD e;have dO:=congrArg List.length e;rw[tC]at dO;simp only[aba,abg]at dO;refine wC (λhc=>?_) λhc=>?_;exact⟨_,rfl,by rw[lT e hp (by assumption)];rfl⟩;exact .nx ⟨rfl,hH,λz hz=>by rcases aa9.1 hz with h |h;exact hp z h;simp at h;rw[h];assumption⟩
 ·rintro _ H Y ⟨rfl,hH,hp⟩;rw[tC];refine wA ?_;exact⟨_,rfl,by rw[rN hp];rfl⟩
theorem KO(k s o l)(hl:l.length<1000000000)(hk:(bX s).k≠0):aL C 302 [enc (.mk k s o l)] (.bool (decide ((bX s).a<=(l.length:Int)/\(l.length:Int)<=(bX s).b))):=by
 have hs:=tx;have gK:bE.length=21:=yK;have cz:=ak l;rw[bo];refine aL.x T6 Tryz.func302 rfl ?_;refine wA ?_;refine .p hs ?_;refine wA ?_;refine dw.zip T6 Lq (λp q L H=>L=[(1,.ptr 0 0 0 0),(3,.aa false bE),(4,.int .i64 p.length)]/\HV H/\H[0]?=some ⟨.m,0,4,[.agg [.int .i64 k,.str s,.int .i64 o,.aa false (ae l)]]⟩/\∀z∈p,z.n.toList≠s.toList) (.nx ⟨rfl,HV.one (by simp),rfl,λz hz=>by cases hz⟩) ?_ ?_
 ·rintro p y q _ H Y e ⟨rfl,hH,h0,hp⟩;have cC:=uD e;have dO:=congrArg List.length e;rw[tC]at dO;simp only[aba,abg]at dO
  (repeat' (first |(refine Rn.go ?_;conv=>whnf)|refine .mk ?_ |refine .tt ?_ |refine .mk (λhc=>?_) λhc=>?_ |fail))
  exact⟨_,rfl,by rw[lT e hp (by assumption)];simp[aT];omega⟩;exact⟨_,rfl,by rw[lT e hp (by assumption)];simp[aT];omega⟩;exact⟨_,rfl,by rw[lT e hp (by assumption)];simp[aT];omega⟩;exact .nx ⟨rfl,hH,h0,λz hz=>by rcases aa9.1 hz with h |h;exact hp z h;simp at h;rw[h];assumption⟩
 ·rintro _ H Y ⟨rfl,hH,h0,hp⟩;exact absurd (by rw[rN hp];rfl) hk
def Zi:List Tm->Bool
 |u::_=>decide (u.k=2)
 |[]=>true
def TP(s:ByteArray)(l:List Tm):Bool:=if fu s nE=true then Zi l else l.all dB
theorem G7(k s o l)(hl:l.length<1000000000)(bN:fu s nE=true->l≠[]):aL C 303 [enc (.mk k s o l)] (.bool (TP s l)):=by
 have cz:=ak l;rw[bo];refine aL.x T6 Tryz.func303 rfl ?_;refine wC (λhc=>?_) λhc=>?_
 ·have hn:fu s nE=true:=kz (by assumption);obtain⟨u,r,rfl⟩:∃u r,l=u::r:=by cases l with |nil=>exact absurd rfl (bN hn)|cons u r=>exact⟨u,r,rfl⟩
  have cC:(ae (u::r))[0]?=some (.agg [.int .i64 u.k,.str u.s,.int .i64 u.o,.aa false (ae u.l)]):=by rw[ae,<-aw];rfl
  have hg:TP s (u::r)=decide (u.k=2):=by unfold TP;rw[if_pos hn];rfl
  refine .mk (n:=0) ?_ rfl cC rfl;refine wC (λhc=>?_) λhc=>?_
  all_goals exact⟨_,rfl,by rw[hg];simp[aT, *]⟩
 ·have hn:fu s nE=false:=iU (by assumption);have hg:TP s l=l.all dB:=by unfold TP;rw[if_neg (by rw[hn];simp)]
  refine dw.zip T6 l (λp q L H=>L=[(1,.ptr 0 0 0 0),(3,.int .i64 p.length)]/\HV H/\H[0]?=some ⟨.m,0,4,[.agg [.int .i64 k,.str s,.int .i64 o,.aa false (ae l)]]⟩/\∀u∈p,dB u=true) (.nx ⟨rfl,HV.one (by simp),rfl,λz hz=>by cases hz⟩) ?_ ?_
  ·rintro p u q _ H Y e ⟨rfl,hH,h0,hp⟩;have cC:=bD e;have dO:=lenE e;have Gf:dB u=false->l.all dB=false:=λh=>by rw[e];simp[h]
   refine wI (λhc=>?_) (λhc hc=>?_) λhc hc=>?_;exact⟨_,rfl,by rw[hg,Gf (by simp[dB, *])];rfl⟩;exact .nx ⟨rfl,hH,h0,λv hv=>by rcases aa9.1 hv with h |h;exact hp v h;simp at h;rw[h];simp[dB, *]⟩;exact⟨_,rfl,by rw[hg,Gf (by simp[dB, *])];rfl⟩
  ·rintro _ H Y ⟨rfl,hH,h0,hp⟩;have ha:l.all dB=true:=by rw[aa4];exact hp
   refine wA ?_;exact⟨_,rfl,by rw[hg,ha];rfl⟩
theorem G8:Lq.all (λy=>decide (y.k≠2)||(y.n.toList==zx.toList ||y.n.toList==sJ.toList ||y.n.toList==nE.toList))=true:=by kernel_rfl
theorem rO:(bX zx).k=2/\(bX sJ).k=2/\(bX nE).k=2:=⟨by kernel_rfl,by kernel_rfl,by kernel_rfl⟩
theorem KP{s:ByteArray}(h:(bX s).k≠0):bX s∈Lq/\(bX s).n.toList=s.toList:=by
 unfold bX at h ⊢
 cases hf:Lq.find? (λy=>y.n.toList==s.toList)with
 |none=>rw[hf]at h;exact absurd rfl h
 |some y=>exact⟨List.mem_of_find?_eq_some hf,by simpa using List.find?_some hf⟩
theorem O1(s:ByteArray):(bX s).k=2↔(fu s zx=true\/fu s sJ=true\/fu s nE=true):=by
 constructor
 ·intro h
  obtain⟨h1,h2⟩:=KP (s:=s) (by omega);have:=aa4.1 G8 _ h1;rw[h2,h]at this;simpa[fu,or_assoc]using this
 ·rintro(h |h |h)
  ·rw[nu (t:=zx) (by simpa[fu]using h)];exact rO.1
  ·rw[nu (t:=sJ) (by simpa[fu]using h)];exact rO.2.1
  ·rw[nu (t:=nE) (by simpa[fu]using h)];exact rO.2.2
theorem qf:fu zx nE=false/\fu sJ nE=false:=⟨by kernel_rfl,by kernel_rfl⟩
theorem KQ(s:ByteArray)(l:List Tm):eV s l=if(bX s).k=2 then TP s l else true:=by
 have hp:=O1 s;unfold eV TP
 by_cases h1:fu s zx=true
 ·have:fu s nE=false:=by
   have:=qf.1;unfold fu at this h1 ⊢;rw[beq_iff_eq]at h1;rw[h1];exact this
  rw[if_pos (hp.2 (.inl h1)),h1,this];rfl
 ·by_cases h2:fu s sJ=true
  ·have:fu s nE=false:=by
    have:=qf.2;unfold fu at this h2 ⊢;rw[beq_iff_eq]at h2;rw[h2];exact this
   rw[if_pos (hp.2 (.inr (.inl h2))),h2,this];simp
  ·by_cases h3:fu s nE=true
   ·rw[if_pos (hp.2 (.inr (.inr h3))),if_pos h3];simp[h1,h2,h3];rfl
   ·have hq:¬(bX s).k=2:=λh=>by rcases hp.1 h with h |h |h <;>contradiction
    simp[h1,h2,h3,hq]
theorem KR(k s o l)(hl:l.length<1000000000)(ih:∀t∈l,aL C 241 [enc t] (.int .i64 (j8 t))):aL C 241 [enc (.mk k s o l)] (.int .i64 (j8 (.mk k s o l))):=by
 have hk:=A6 s;have cz:=ak l;have hf:=KO k s o l hl;have Gf:=G7 k s o l hl;rw[bo]at hf Gf ⊢;refine aL.x T6 Tryz.func241 rfl ?_;refine wC (λhc=>?_) λhc=>?_
 ·refine .p hk ?_;refine wC (λhc=>?_) λhc=>?_;exact⟨_,rfl,by rw[j8,if_neg (by simp[*]),if_pos (by assumption)];rfl⟩
  ·refine .p (hf (by assumption)) ?_
   by_cases CC:(bX s).a<=(l.length:Int)/\(l.length:Int)<=(bX s).b
   ·rw[decide_eq_true CC];have ze:eV s l=true->j8 (.mk k s o l)=qO l:=λh=>by rw[j8,if_neg (by simp[*]),if_neg (by assumption),if_neg (by omega),if_neg (by rw[h];simp)]
    have va:=KQ s l
    have TG:fu s nE=true->l≠[]:=λh hn=>by
     rw[nu (t:=nE) (by simpa[fu]using h),A7,hn]at CC;simp at CC
    refine wC (λhc=>?_) λhc=>?_
    ·refine .p (Gf TG) ?_;rw[if_pos (by assumption)]at va
     cases Pt:TP s l
     ·refine wA ?_;exact⟨_,rfl,by rw[j8,if_neg (by simp[*]),if_neg (by assumption),if_neg (by omega),if_pos (by rw[va,Pt])];rfl⟩
     ·have ze:=ze (by rw[va,Pt]);refine wA ?_;refine dw.zip T6 l (λp q L H=>L=[(1,.ptr 0 0 0 0),(4,.int .i64 p.length)]/\HV H/\H[0]?=some ⟨.m,0,4,[.agg [.int .i64 k,.str s,.int .i64 o,.aa false (ae l)]]⟩/\∀u∈p,j8 u=0) (.nx ⟨rfl,HV.one (by simp),rfl,λu hu=>by cases hu⟩) ?_ ?_
      ·rintro p u q _ H Y e ⟨rfl,hH,h0,hp⟩;have cC:=bD e;have dO:=lenE e;have hi:=ih u (by rw[e];simp);rw[aw]at hi;refine wA ?_;refine .p hi ?_;refine wC (λhc=>?_) λhc=>?_;exact .nx ⟨rfl,hH,h0,λv hv=>by rcases aa9.1 hv with h |h;exact hp v h;simp at h;rw[h];assumption⟩;exact⟨_,rfl,by rw[ze,qG e hp (by assumption)];rfl⟩
      ·rintro _ H Y ⟨rfl,hH,h0,hp⟩;refine wA ?_;exact⟨_,rfl,by rw[ze,fk hp];rfl⟩
    ·have ze:=ze (by rw[va,if_neg (by assumption)]);refine dw.zip T6 l (λp q L H=>L=[(1,.ptr 0 0 0 0),(4,.int .i64 p.length)]/\HV H/\H[0]?=some ⟨.m,0,4,[.agg [.int .i64 k,.str s,.int .i64 o,.aa false (ae l)]]⟩/\∀u∈p,j8 u=0) (.nx ⟨rfl,HV.one (by simp),rfl,λu hu=>by cases hu⟩) ?_ ?_
     ·rintro p u q _ H Y e ⟨rfl,hH,h0,hp⟩;have cC:=bD e;have dO:=lenE e;have hi:=ih u (by rw[e];simp);rw[aw]at hi;refine wA ?_;refine .p hi ?_;refine wC (λhc=>?_) λhc=>?_;exact .nx ⟨rfl,hH,h0,λv hv=>by rcases aa9.1 hv with h |h;exact hp v h;simp at h;rw[h];assumption⟩;exact⟨_,rfl,by rw[ze,qG e hp (by assumption)];rfl⟩
     ·rintro _ H Y ⟨rfl,hH,h0,hp⟩;refine wA ?_;exact⟨_,rfl,by rw[ze,fk hp];rfl⟩
   ·rw[decide_eq_false CC];refine wA ?_;exact⟨_,rfl,by rw[j8,if_neg (by simp[*]),if_neg (by assumption),if_pos (by omega)];rfl⟩
 exact⟨_,rfl,by rw[j8,if_pos (by assumption)];rfl⟩
theorem G9(t:Tm)(hb:az t<1000000000):aL C 241 [enc t] (.int .i64 (j8 t)):=by
 induction t using Tm.ind with
 |h k s o l ih=>
  have:=bH l;simp only[az]at hb;exact KR k s o l (by omega) λt ht=>ih t ht (by have:=bU ht;omega)
theorem EH(t:Tm)(hb:az t<100000000):aL C 188 [enc t] (.int .i64 (jc t)):=by
 have h1:=(G' t (by omega)).nine;have h2:=G9 t (by omega);rw[aw]at h1 h2 ⊢;refine aL.x T6 Tryz.func188 rfl ?_;refine wA ?_;refine .p h1 ?_;refine wC (λhc=>?_) λhc=>?_
 ·refine .p h2 ?_;refine wA ?_;exact⟨_,rfl,by unfold jc;rw[if_neg (by omega)];rfl⟩
 exact⟨_,rfl,by unfold jc;rw[if_pos (by assumption)];rfl⟩
theorem zG(s:ByteArray):aL C 242 [.str s] (.bool (mH s)):=by
 refine aL.x T6 Tryz.func242 rfl ?_;refine wL (λhc=>?_) (λhc hc=>?_) (λhc hc hc=>?_) (λhc hc hc hc=>?_) (λhc hc hc hc hc=>?_) (λhc hc hc hc hc hc=>?_) λhc hc hc hc hc hc=>?_;exact⟨_,rfl,by unfold mH;rw[kz (n:=uo) (by assumption)];rfl⟩;exact⟨_,rfl,by unfold mH;rw[kz (n:=iT) (by assumption)];simp[aT]⟩;exact⟨_,rfl,by unfold mH;rw[kz (n:=Gt) (by assumption)];simp[aT]⟩;exact⟨_,rfl,by unfold mH;rw[kz (n:=xT) (by assumption)];simp[aT]⟩;exact⟨_,rfl,by unfold mH;rw[kz (n:=xU) (by assumption)];simp[aT]⟩;exact⟨_,rfl,by unfold mH;rw[kz (n:=rE) (by assumption)];simp[aT]⟩;exact⟨_,rfl,by unfold mH;rw[iU (n:=uo) (by assumption),iU (n:=iT) (by assumption),iU (n:=Gt) (by assumption),iU (n:=xT) (by assumption),iU (n:=xU) (by assumption),iU (n:=rE) (by assumption)];rfl⟩
theorem nC(a b:List Tm):cV (a++b)=cV a++cV b:=by
 induction a with
 |nil=>rfl
 |cons t a ih=>simp[cV,ih]
theorem A8:∀{l:List Tm},(∀t∈l,(pre t).length<=az t)->(cV l).length<=bF l
 |[],_=>by simp[cV,bF]
 |t::l,h=>by
  have h1:=h t (by simp);have h2:=A8 (l:=l) λu hu=>h u (by simp[hu])
  simp only[cV,bF,aba];omega
theorem EI(t:Tm):(pre t).length<=az t:=by
 induction t using Tm.ind with
 |h k n o l ih=>
  have:=A8 ih;simp only[pre,az,abg];omega
theorem O2{k s o l}(hb:az (.mk k s o l)<100000000):(cV l).length<100000000:=by
 have:=EI (.mk k s o l);simp only[pre,abg]at this;omega
@[simp] theorem iS(l:List Tm):dj 4 (ae l):=by
 unfold dj;rw[aa4]
 intro v hv
 rw[de]at hv;obtain⟨t,_,rfl⟩:=abB.1 hv;rw[aw];rfl
theorem cc(a b:List Tm):ae (a++b)=ae a++ae b:=by rw[de,de,de,abT]
theorem vq{p:ByteArray->Bool}:∀{l:List Tm},(∀t∈l,every p t=(pre t).all λu=>decide (u.k≠3)||p u.s)->gG p l=(cV l).all λu=>decide (u.k≠3)||p u.s
 |[],_=>rfl
 |t::l,h=>by
  rw[gG,cV,ab5,h t (by simp),vq λu hu=>h u (by simp[hu])]
theorem Ha{p:ByteArray->Bool}(t:Tm):every p t=(pre t).all λu=>decide (u.k≠3)||p u.s:=by
 induction t using Tm.ind with
 |h k n o l ih=>
  rw[every,pre,abZ,vq ih]
  rfl
theorem V9(k s o l)(hb:az (.mk k s o l)<100000000)(ih:∀t∈l,aL C 168 [enc t] (.aa false (ae (pre t)))):aL C 168 [enc (.mk k s o l)] (.aa false (ae (pre (.mk k s o l)))):=by
 have cz:=ak l;rw[bo];have oH:=O2 hb;have CA:bF l<100000000:=by simp only[az]at hb;omega
 have o8:=bH l;have one:∀u:Tm,ae [u]=[.agg [.int .i64 u.k,.str u.s,.int .i64 u.o,.aa false (ae u.l)]]:=λu=>by rw[ae,<-aw];rfl
 refine aL.x T6 Tryz.func168 rfl ?_;refine wA ?_;refine dw.zip T6 l (λp q L H=>∃v,L=[(1,.ptr 0 0 0 0),(3,v),(4,.int .i64 p.length)]/\HV H/\H[0]?=some ⟨.m,0,4,[.agg [.int .i64 k,.str s,.int .i64 o,.aa false (ae l)]]⟩/\((p=[]/\v=.aa true (ae [.mk k s o l])/\H=[⟨.m,0,4,[.agg [.int .i64 k,.str s,.int .i64 o,.aa false (ae l)]]⟩])\/(Out 4 H v (ae (.mk k s o l::cV p))/\∀ep n,v≠.aj 0 ep 0 n))) (.nx ⟨_,rfl,HV.one (by simp),rfl,.inl ⟨rfl,by rw[one],rfl⟩⟩) ?_ ?_
 ·rintro p u q _ H Y e ⟨v,rfl,hH,h0,ho⟩;have cC:=bD e;have dO:=lenE e;have hi:=ih u (by rw[e];simp);rw[aw]at hi;have hpu:cV l=cV p++(pre u++cV q):=by rw[e,nC];simp[cV]
  have MP:=congrArg List.length hpu;simp only[aba]at MP;have bN:(ae (pre u)).isEmpty=false:=by cases u;rfl
  have gK:dj 4 (ae (pre u)):=iS _;have hle:=ak (pre u);have tK:cV (p++[u])=cV p++pre u:=by rw[nC];simp[cV]
  refine wA ?_;refine .p hi ?_;rcases ho with⟨rfl,rfl,rfl⟩|⟨ho,C2⟩
  ·refine wA ?_;refine .sn ?_ bN (by rw[ak];simp;omega) rfl gK (iS _);refine wA ?_;have hv:∀(ep n:Nat) (m:Nat),(PV.aj 1 0 0 m:PV)≠.aj 0 ep 0 n:=λep n m h=>by cases h
   have e1:ae [Tm.mk k s o l]++ae (pre u)=ae (Tm.mk k s o l::cV ([]++[u])):=by rw[tK,<-cc];simp[cV]
   have e2:(ae [Tm.mk k s o l]).length+(ae (pre u)).length=(Tm.mk k s o l::cV ([]++[u])).length:=by rw[tK,ak,ak];simp[cV];omega
   refine .nx ⟨_,rfl,HV.xE (by simp) (by simp),rfl,.inr ⟨.inr ⟨1,0,?_,?_⟩,?_⟩⟩;rw[e2,<-ak];rfl;rw[<-e1];rfl;exact λep n=>hv ep n _
  ·have zc:=ak (Tm.mk k s o l::cV p);simp only[abg]at zc;refine wH λv H lp=>?_;obtain⟨k1,k2⟩:=lp.obj h0 C2;exact .nx ⟨_,rfl,lp.hv,k1,.inr ⟨by have:=lp.out;rw[<-cc]at this;simpa[tK]using this,k2⟩⟩
 ·rintro _ H Y ⟨v,rfl,hH,h0,ho⟩;refine wA ?_;rcases ho with⟨rfl,rfl,rfl⟩|⟨ho,_⟩;exact⟨_,rfl,by simp[aT,bW,pre,cV]⟩;exact Ls.Jf (.inl ho) (by simp) (by simp[pre])
theorem EJ(t:Tm)(hb:az t<100000000):aL C 168 [enc t] (.aa false (ae (pre t))):=by
 induction t using Tm.ind with
 |h k s o l ih=>
  refine V9 k s o l hb λt ht=>ih t ht ?_;have:=bU ht;simp only[az]at hb;omega
theorem V'{l p q:List Tm}{u:Tm}{f:Tm->Bool}(e:l=p++u::q)(hu:f u=false):l.all f=false:=by rw[e];simp[hu]
theorem O3(t:Tm):km t=(decide (jc t=0)&& (pre t).all λu=>decide (u.k≠3)||ue u.s):=by rw[km,Ha]
theorem Hb(t:Tm)(hb:az t<100000000):aL C 189 [enc t] (.bool (km t)):=by
 have h1:=EH t hb;have h2:=EJ t hb;have hf:=O3 t;have cz:=ak (pre t);have oH:=EI t;rw[aw]at h1 h2 ⊢;refine aL.x T6 Tryz.func189 rfl ?_;refine wA ?_;refine .p h1 ?_;refine wC (λhc=>?_) λhc=>?_
 ·have hf:km t=(pre t).all λu=>decide (u.k≠3)||ue u.s:=by rw[hf];simp[*]
  refine .p h2 ?_;refine wA ?_;refine dw.zip T6 (pre t) (λp q L H=>L=[(3,.aa false (ae (pre t))),(4,.int .i64 p.length)]/\HV H/\∀u∈p,(decide (u.k≠3)||ue u.s)=true) (.nx ⟨rfl,HV.one (by simp),λu hu=>by cases hu⟩) ?_ ?_
  ·rintro p u q _ H Y e ⟨rfl,hH,hp⟩;have cC:=bD e;have dO:=lenE e;have ha:=zG u.s;have hk:=A6 u.s;have y9:(decide (u.k≠3)||ue u.s)=false->km t=false:=λh=>by rw[hf];exact V' e h
   have hnx:(decide (u.k≠3)||ue u.s)=true->∀v∈p++[u],(decide (v.k≠3)||ue v.s)=true:=λh v hv=>by
    rcases aa9.1 hv with h1 |h1;exact hp v h1;simp at h1;rw[h1];exact h
   refine wC (λhc=>?_) λhc=>?_
   ·refine .p ha ?_
    cases vT:mH u.s
    ·refine wA ?_;refine .p hk ?_;refine wC (λhc=>?_) λhc=>?_;exact⟨_,rfl,by rw[y9 (by simp[ue, *])];rfl⟩;exact .nx ⟨rfl,hH,hnx (by simp[ue, *])⟩
    ·refine wA ?_;exact⟨_,rfl,by rw[y9 (by simp[ue, *])];rfl⟩
   exact .nx ⟨rfl,hH,hnx (by simp[*])⟩
  ·rintro _ H Y ⟨rfl,hH,hp⟩;have ha:km t=true:=by rw[hf,aa4];exact hp
   refine wA ?_;exact⟨_,rfl,by rw[ha];rfl⟩
 exact⟨_,rfl,by rw[hf];simp[aT, *]⟩
theorem Si{h:ab}{v:PV}{k o:Int}{s:ByteArray}{es:List PV}(ho:Out 4 h v es)(hv:ao es=true)(hn:aU es=es):∃r1,rb h (aT [.agg [.int .i64 k,.str s,.int .i64 o,v]])=some r1/\bW r1=.agg [.int .i64 k,.str s,.int .i64 o,.aa false es]:=by
 obtain⟨r,h1,h2⟩:∃r,oE h v=some r/\bW r=.aa false es:=by
  rcases ho with⟨rfl,rfl⟩|⟨id,ep,rfl,e2⟩;exact⟨_,rfl,rfl⟩;exact⟨.aa false es,by simp[oE,getM,e2,hv],by simp[bW,hn]⟩
 refine⟨.agg [.int .i64 k,.str s,.int .i64 o,r],?_,by simp[bW,aU,h2]⟩;simp only[aT,rb,kY,nP,h1]
 rfl
theorem w9(k s o l)(hl:l.length<100000000)(ih:∀t∈l,aL C 179 [enc t] (enc t)):aL C 179 [enc (.mk k s o l)] (enc (.mk k s o l)):=by
 have cz:=ak l;rw[bo];refine aL.x T6 Tryz.func179 rfl ?_;refine wA ?_
 have HG:HR [⟨.m,0,4,[.agg [.int .i64 k,.str s,.int .i64 o,.aa true []]]⟩,⟨.m,0,4,[.agg [.int .i64 0,.str ByteArray.empty,.int .i64 0,.aa true []]]⟩]:=by
  intro x hx
  simp at hx;rcases hx with rfl |rfl <;>simp[bL,bw]
 refine dw.zip T6 l (λp q L H=>∃v,L=[(1,.ptr 0 0 0 0),(2,.ptr 1 0 0 0),(9,.aa false (ae l)),(10,.int .i64 (ae l).length),(11,.int .i64 p.length)]/\HR H/\H[0]?=some ⟨.m,0,4,[.agg [.int .i64 k,.str s,.int .i64 o,v]]⟩/\H[1]?=some ⟨.m,0,4,[.agg [.int .i64 0,.str ByteArray.empty,.int .i64 0,.aa true []]]⟩/\Out 4 H v (ae p)/\∀i∈cg v,2<=i) (.nx ⟨_,rfl,HG,rfl,rfl,.inl ⟨rfl,rfl⟩,by simp[cg]⟩) ?_ ?_
 ·rintro p u q _ H Y e ⟨v,rfl,hH,h0,h1,ho,hv⟩;have cC:=bD e;have dO:=lenE e;have hi:=ih u (by rw[e];simp);have hle:=ak p;have oR:HR (H++[⟨.m,0,4,[.agg [.int .i64 u.k,.str u.s,.int .i64 u.o,.aa false (ae u.l)]]⟩]):=hH.dg (HV.one (by simp));have Aa:=ho.c8 [⟨.m,0,4,[.agg [.int .i64 u.k,.str u.s,.int .i64 u.o,.aa false (ae u.l)]]⟩];have CB:=ag h1;have tK:ae p++[.agg [.int .i64 u.k,.str u.s,.int .i64 u.o,.aa false (ae u.l)]]=ae (p++[u]):=by rw[cc,<-aw];rfl
  rw[aw]at hi;refine wA ?_;refine .p hi ?_;refine wA ?_;refine .lr (λv' h' lr=>?_) Aa;have Tr:∀j,j<2->∀ep n,v≠.aj j ep 0 n:=λj hj ep n hh=>by have:=hv j (by rw[hh];simp[cg]);omega
  have g0:=(lr.fr 0 (by simp) (Tr 0 (by omega))).trans ((aa3 (by omega)).trans h0);have g1:=(lr.fr 1 (by simp;omega) (Tr 1 (by omega))).trans ((aa3 (by omega)).trans h1);have hr3:=lr.hr
  have YO:∀i∈cg v',2<=i:=λi hi=>by
   rcases lr.cg i hi with h |h;exact hv i h;simp at h;omega
  have lo:=lr.out;rw[tK]at lo;have Vz:=lo.bw;rcases lo with⟨_,hx⟩|⟨id,ep,rfl,hid⟩
  ·have:=congrArg List.length hx;rw[ak]at this;simp at this
  have k0:=ag g0;refine wA ?_;have Wu:=YO id (by simp[cg]);exact .nx ⟨_,rfl,hr3.set _ (by simp) (by simpa[bL,bw]using Vz),aa7 k0,(aa8 (by omega)).trans g1,.inr ⟨id,ep,rfl,(aa8 (by omega)).trans hid⟩,YO⟩
 ·rintro _ H Y ⟨v,rfl,hH,h0,h1,ho,hv⟩;have k1:=ag h1;have e2:=aa7 (a:=(⟨.m,0,4,[.agg [.int .i64 k,.str s,.int .i64 o,v]]⟩:au)) k1;have Lm:Out 4 (H.set 1 ⟨.m,0,4,[.agg [.int .i64 k,.str s,.int .i64 o,v]]⟩) v (ae l):=ho.of_eq λi hi=>aa8 (by have:=hv i hi;omega)
  rcases ho with⟨rfl,he⟩|⟨id,ep,rfl,hid⟩
  ·refine wA ?_;refine .mk ?_ (pT (T:=T6) rfl e2 rfl rfl rfl rfl);exact⟨Si Lm (by simp) (by simp)⟩
  ·refine wA ?_;refine .mk ?_ (pT (T:=T6) rfl e2 rfl rfl rfl rfl);exact⟨Si Lm (by simp) (by simp)⟩
theorem m'(t:Tm)(hb:az t<100000000):aL C 179 [enc t] (enc t):=by
 induction t using Tm.ind with
 |h k s o l ih=>
  have:=bH l;simp only[az]at hb;exact w9 k s o l (by omega) λt ht=>ih t ht (by have:=bU ht;omega)
structure KS(H:ab)(v:PV)(a:List Tm)(h':ab):Prop where
 hr:HR h'
 len:H.length<=h'.length
 var:∃v',h'[2]?=some ⟨.m,0,1,[v']⟩/\Out 4 h' v' (ae a)/\∀i∈cg v',i∈cg v\/H.length<=i
 fr:∀j,j<H.length->j≠2->j∉cg v->h'[j]?=H[j]?
theorem KS.take{H h':ab}{v:PV}{a:List Tm}(s:KS H v a h')(h3:3<=H.length)(hr:HR (h'.take H.length)):KS H v a (h'.take H.length):=by
 have hl:=s.len;have cL:(h'.take H.length).length=H.length:=by simp;omega
 obtain⟨v',e1,e2,e3⟩:=s.var;have g1:(h'.take H.length)[2]?=some ⟨.m,0,1,[v']⟩:=by rw[abE (by omega)];exact e1
 have iG:=(hr _ (abh g1)).2;refine⟨hr,by omega,⟨v',g1,e2.of_eq λi hi=>?_,e3⟩,λj h1 h2 h3=>by rw[abE (by omega)];exact s.fr j h1 h2 h3⟩;rw[abE];rcases e2 with⟨rfl,_⟩|⟨id,ep,rfl,_⟩;simp[cg]at hi
 ·simp[cg]at hi;subst hi;simp[bL,bw]at iG;omega
theorem KS.trans{H h1 h2:ab}{v v1:PV}{a b:List Tm}(s:KS H v a h1)(e:h1[2]?=some ⟨.m,0,1,[v1]⟩)(t:KS h1 v1 b h2):KS H v b h2:=by
 obtain⟨v',q1,q2,q3⟩:=s.var;rw[q1]at e
 cases e
 obtain⟨v2,r1,r2,r3⟩:=t.var;have:=s.len;refine⟨t.hr,abQ s.len t.len,⟨v2,r1,r2,λi hi=>?_⟩,λj h1 h2 h3=>?_⟩
 ·rcases r3 i hi with h |h
  ·exact q3 i h
  ·omega
 ·rw[t.fr j (by omega) h2 (λhh=>by rcases q3 j hh with h |h;exact h3 h;omega)];exact s.fr j h1 h2 h3
theorem ai.ks{f:FuncId}{args:List PV}{H:ab}{v:PV}{b:List Tm}{Q:PV->ab->Prop}(a:ax C f args H (λr h'=>r=.cy []/\KS H v b h'))(h3:3<=H.length)(q:∀h',KS H v b h'->Q (.cy []) h')(hm:C.mode f=.opened:=by rfl):ai C 2 f args H Q:=
 ai.sm a (λr h' p=>⟨p.2.hr,p.2.len⟩) (λr h' p=>by rw[p.1];exact q h' p.2) (λr h' p hr=>by rw[p.1];exact q _ (p.2.take h3 hr)) hm
theorem Sr(u:Tm)(n:Int)(H:ab)(v:PV)(a:List Tm)(hH:HR H)(h1:H[1]?=some ⟨.m,0,1,[.int .i64 n]⟩)(h2:H[2]?=some ⟨.m,0,1,[v]⟩)(ho:Out 4 H v (ae a))(hv:∀i∈cg v,3<=i)(hn:a.length<100000000):
  ax C 154 [enc u,.ptr 1 0 0 0,.ptr 2 0 0 0] H (λr h'=>r=.cy []/\KS H v (a++if u.k=n then[u]else[]) h'):=by
 have hle:=ak a;have cL:=ag h2;have hu:ae a++[.agg [.int .i64 u.k,.str u.s,.int .i64 u.o,.aa false (ae u.l)]]=ae (a++[u]):=by rw[cc,<-aw];rfl
 rw[aw];refine ax.x T6 Tryz.func154 rfl ?_;refine wC (λhc=>?_) λhc=>?_
 ·refine SY.apd h2 ho (λi hi=>by have:=hv i hi;omega) (by omega) (λid ep h' ap=>?_);refine wA ?_;refine⟨rfl,?_⟩;rw[if_pos hc];have hl:=ap.len;have hid:=ag ap.at';have hg:∀j,j<H.length->j≠id->j≠2->h'[j]?=H[j]?:=λj g1 g2 g3=>by rw[ap.fr j g2 g3,aa3 g1]
  refine⟨λo ho=>?_,by omega,⟨_,ap.var,.inr ⟨id,ep,by rw[ak];simp,by rw[<-hu];exact ap.at'⟩,λi hi=>?_⟩,λj g1 g2 g3=>hg j g1 (λhh=>?_) g2⟩
  ·obtain⟨j,hj⟩:=ab6 ho
   by_cases j1:j=id
   subst j1;rw[ap.at']at hj;cases hj;exact⟨by simp,bt _ _ (by rw[hu];simp)⟩
   by_cases j2:j=2
   subst j2;rw[ap.var]at hj;cases hj;exact⟨by simp,by simp[bL,bw];omega⟩;rw[ap.fr j j1 j2]at hj;have:=(hH.dg (HV.one (ep:=0) (n:=4) (es:=[.agg [.int .i64 u.k,.str u.s,.int .i64 u.o,.aa false (ae u.l)]]) (by simp))) o (abh hj);exact⟨this.1,eQ (λi hi=>by have:=of_decide_eq_true hi;simp at this;exact decide_eq_true (by omega)) _ this.2⟩
  ·simp[cg]at hi;subst hi;rcases ap.idv with h |h;exact .inl h;exact .inr (by omega)
  ·subst hh;rcases ap.idv with h |h;exact g3 h;omega
 ·refine⟨rfl,?_⟩;rw[if_neg hc,abv];refine⟨hH.dg (HV.one (by simp)),by simp,⟨v,?_,ho.c8 _,λi hi=>.inl hi⟩,λj g1 g2 g3=>aa3 g1⟩;rw[aa3 cL];exact h2
def vL(n:Int)(l:List Tm):List Tm:=l.filter λu=>decide (u.k=n)
theorem we(n:Int)(l:List Tm):(vL n l).length<=l.length:=acm _ _
theorem EQ(n:Int)(u:Tm)(l:List Tm):vL n (u::l)=(if u.k=n then[u]else[])++vL n l:=by
 unfold vL
 by_cases h:u.k=n <;>simp[ads,h]
theorem IR(n:Int)(a b:List Tm):vL n (a++b)=vL n a++vL n b:=by simp[vL]
theorem KS.kL{H J h':ab}{v:PV}{a:List Tm}(s:KS (H++J) v a h'):KS H v a h':=by
 have hl:=s.len;rw[aba]at hl;obtain⟨v',e1,e2,e3⟩:=s.var;refine⟨s.hr,by omega,⟨v',e1,e2,λi hi=>?_⟩,λj h1 h2 h3=>by rw[s.fr j (by simp;omega) h2 h3,aa3 h1]⟩;rcases e3 i hi with h |h;exact .inl h;exact .inr (by simp at h;omega)
theorem nk(a b:List Tm):bF (a++b)=bF a+bF b:=by
 induction a with
 |nil=>simp[bF]
 |cons t a ih=>simp only[abz,bF,ih];omega
theorem Ss (n:Int) (k s o l) (ih:∀t∈l,∀(H:ab) (v:PV) (a:List Tm),HR H->H[1]?=some ⟨.m,0,1,[.int .i64 n]⟩->H[2]?=some ⟨.m,0,1,[v]⟩->Out 4 H v (ae a)->(∀i∈cg v,3<=i)->a.length+az t<100000000->
   ax C 128 [enc t,.fn 154 [.ptr 1 0 0 0,.ptr 2 0 0 0]] H (λr h'=>r=.cy []/\KS H v (a++vL n (pre t)) h'))
  (H:ab) (v:PV) (a:List Tm) (hH:HR H) (h1:H[1]?=some ⟨.m,0,1,[.int .i64 n]⟩) (h2:H[2]?=some ⟨.m,0,1,[v]⟩) (ho:Out 4 H v (ae a)) (hv:∀i∈cg v,3<=i) (hn:a.length+az (.mk k s o l)<100000000):
  ax C 128 [enc (.mk k s o l),.fn 154 [.ptr 1 0 0 0,.ptr 2 0 0 0]] H (λr h'=>r=.cy []/\KS H v (a++vL n (pre (.mk k s o l))) h'):=by
 have cz:=ak l;have o8:=bH l;simp only[az]at hn;have cL:=ag h2;have VL:HR (H++[⟨.m,0,4,[enc (.mk k s o l)]⟩]):=hH.dg (HV.one (by simp));have b1:(H++[⟨.m,0,4,[enc (.mk k s o l)]⟩])[1]?=some ⟨.m,0,1,[.int .i64 n]⟩:=by rw[aa3 (by omega)];exact h1
 have b2:(H++[⟨.m,0,4,[enc (.mk k s o l)]⟩])[2]?=some ⟨.m,0,1,[v]⟩:=by rw[aa3 cL];exact h2
 have pk:=Sr (.mk k s o l) n (H++[⟨.m,0,4,[enc (.mk k s o l)]⟩]) v a VL b1 b2 (ho.c8 _) hv (by omega);rw[bo]at pk ⊢;refine ax.x T6 Tryz.func128 rfl ?_;refine wA ?_;refine ai.ks pk (by simp;omega) (λh' ks=>?_);refine wA ?_;have kw:=ks.kL
 have fg:h'[H.length]?=some ⟨.m,0,4,[.agg [.int .i64 k,.str s,.int .i64 o,.aa false (ae l)]]⟩:=by
  rw[ks.fr H.length (by simp) (by omega) (λhh=>by have:=ho.oU _ hh;omega)];simp
 refine wA ?_;have GF:a++(if(Tm.mk k s o l).k=n then[Tm.mk k s o l]else[])=a++vL n (.mk k s o l::cV []):=by rw[EQ];simp[cV,vL]
 rw[GF]at kw;refine dw.zip T6 l (λp q L K=>L=[(1,.fn 154 [.ptr 1 0 0 0,.ptr 2 0 0 0]),(10,.aa false (ae l)),(11,.int .i64 (ae l).length),(12,.int .i64 p.length)]/\KS H v (a++vL n (.mk k s o l::cV p)) K) (.nx ⟨rfl,kw⟩) ?_ ?_
 ·rintro p u q _ K Y e ⟨rfl,kp⟩;have cC:=bD e;have dO:=lenE e;obtain⟨v1,q1,q2,q3⟩:=kp.var;have Qo:=kp.len;have hKr:=kp.hr
  have zq:∀i∈cg v1,3<=i:=λi hi=>by
   rcases q3 i hi with h |h;exact hv i h;omega
  have c1:K[1]?=some ⟨.m,0,1,[.int .i64 n]⟩:=by rw[kp.fr 1 (by omega) (by omega) (λhh=>by have:=hv 1 hh;omega)];exact h1
  have VF:bF l=bF p+(az u+bF q):=by rw[e,nk];simp[bF]
  have oH:(cV p).length<=bF p:=pH p;have hol:=we n (Tm.mk k s o l::cV p);simp only[abg]at hol;have ih1:=ih u (by rw[e];simp) (K++[⟨.m,0,4,[enc u]⟩]) v1 (a++vL n (Tm.mk k s o l::cV p)) (hKr.dg (HV.one (by simp))) (by rw[aa3 (by omega)];exact c1) (by rw[aa3 (ag q1)];exact q1) (q2.c8 _) zq (by simp only[aba];omega);rw[aw]at ih1;refine wA ?_;refine ai.ks ih1 (by simp;omega) (λh' ks=>?_);refine wA ?_;refine .nx ⟨rfl,?_⟩;have:=kp.trans q1 ks.kL;rwa[abu,<-IR,show Tm.mk k s o l::cV p++pre u=Tm.mk k s o l::cV (p++[u]) by rw[nC];simp[cV]]at this
 ·rintro _ K Y ⟨rfl,kp⟩;refine wA ?_;exact⟨rfl,by rw[pre];exact kp⟩
theorem Sq(n:Int)(t:Tm):∀(H:ab) (v:PV) (a:List Tm),HR H->H[1]?=some ⟨.m,0,1,[.int .i64 n]⟩->H[2]?=some ⟨.m,0,1,[v]⟩->Out 4 H v (ae a)->(∀i∈cg v,3<=i)->a.length+az t<100000000->
   ax C 128 [enc t,.fn 154 [.ptr 1 0 0 0,.ptr 2 0 0 0]] H (λr h'=>r=.cy []/\KS H v (a++vL n (pre t)) h'):=by
 induction t using Tm.ind with
 |h k s o l ih=>exact Ss n k s o l ih
theorem Pf(a b:Tm)(ha:az a<1000000000)(hb:az b<1000000000):aL C 178 [enc a,enc b] (.bool (decide (aW a b=0))):=by
 have h1:=(eF a b ha hb).nine;rw[aw,aw]at h1 ⊢;refine aL.x T6 Tryz.func178 rfl ?_;refine wA ?_;refine .p h1 ?_;refine wC (λhc=>?_) λhc=>?_
 all_goals exact⟨_,rfl,by simp[aT, *]⟩
theorem td(g:FuncId)(H:ab):ax C 162 [.aa true [],.fn g []] H (λr h'=>r=.aa true []/\h'=H):=by
 refine ax.x T6 Tryz.func162 rfl ?_;refine wA ?_;exact⟨rfl,rfl⟩
theorem pX(g:FuncId)(hm:C.mode g=.pure)(hg:∀a b:Tm,az a<1000000000->az b<1000000000->aL C g [enc a,enc b] (.bool (decide (aW a b=0))))(x:Tm)(l:List Tm)(H:ab)(hH:HR H)(id ep:Nat)(e1:H[id]?=some ⟨.m,ep,4,ae (x::l)⟩)(hn:l.length<100000000)(hb:∀t∈x::l,az t<1000000000):
  ax C 162 [.aj id ep 0 (ae (x::l)).length,.fn g []] H
   (λr h'=>r=.aj id ep 0 (dd (x::l)).length/\∃tl,ao tl=true/\h'=H.set id ⟨.m,ep,4,ae (dd (x::l))++tl⟩):=by
 have cz:(ae (x::l)).length=l.length+1:=by rw[ak];rfl
 refine ax.x T6 Tryz.func162 rfl ?_;refine wC (λhc=>?_) λhc=>?_
 ·obtain rfl:l=[]:=abj (by omega);exact⟨rfl,[],rfl,by rw[abv];exact(da e1).symm⟩
 refine dw.zip T6 l (λp q L h=>h=H/\∃P' prev,x::p=P'++[prev]/\P'++prev::tG prev q=dd (x::l)/\L=[(0,.aj id ep 0 (ae (x::l)).length),(1,.fn g []),(5,.int .i64 ((p.length+1:Nat):Int))]) (.nx ⟨rfl,[],x,rfl,rfl,rfl⟩) ?_ ?_
 ·rintro p a q _ h Y e ⟨rfl,P',prev,hp,hd,rfl⟩;have dO:=lenE e;have oH:=congrArg List.length hp;simp only[aba,abg,abH]at oH;have Da:(ae (x::l))[0+(p.length+1)]?=some (.agg [.int .i64 a.k,.str a.s,.int .i64 a.o,.aa false (ae a.l)]):=gR (by rw[e,abp];simp)
  have na:(ae (x::l))[0+(((p.length+1:Nat):Int) - 1).toNat]?=some (.agg [.int .i64 prev.k,.str prev.s,.int .i64 prev.o,.aa false (ae prev.l)]):=gR (by
   rw[show(((p.length+1:Nat):Int) - 1).toNat=p.length by omega,e,<-abz,hp,abp,aa3 (by simp;omega),abd (by omega)];simp[show p.length - P'.length=0 by omega])
  have hq:=hg a prev (hb a (by rw[e];simp)) (hb prev (by rw[e,<-abz,hp];simp));rw[aw,aw]at hq;refine wA ?_;refine .p hq ?_ hm
  cases hc:decide (aW a prev=0)
  ·refine wA ?_;refine .nx ⟨rfl,P'++[prev],a,by rw[<-abz,hp],?_,rfl⟩;rw[<-hd,tG,if_neg (by simpa using hc)];simp
  ·refine wA ?_;rw[cz]at *;refine .sl rfl rfl (su T6 rfl rfl e1 (by rw[ak];simp) (by omega) (by omega)) ?_;refine wA ?_
   refine dw.zip T6 q (λp2 q2 L h'=>∃R M0 pr,az pr<1000000000/\R.length+M0.length=p.length+1+p2.length/\R++tG pr q2=dd (x::l)/\h'=h.set id ⟨.m,ep,4,ae (R++(M0++[pr]++q2))⟩/\
    L=[(0,.aj id ep 0 (l.length+1)),(1,.fn g []),(5,.int .i64 (R.length:Int)),(6,.aj id ep (0+(p.length+1)) (l.length+1 - (p.length+1))),(7,.int .i64 ((p2.length+1:Nat):Int))]) (.nx ⟨P'++[prev],[],a,hb a (by rw[e];simp),by simp only[aba,abg,abH];omega,?_,?_,rfl⟩) ?_ ?_
   rw[<-hd,tG,if_pos (by simpa using hc)];simp;rw[da];rw[e1,e,<-abz,hp];simp
   ·rintro p2 b q2 _ _ Y2 e2 ⟨R,M0,pr,XH,CB,FO,rfl,rfl⟩;have Qa:=lenE e2;have Jn:(h.set id ⟨.m,ep,4,ae (R++(M0++[pr]++b::q2))⟩)[id]?=some ⟨.m,ep,4,ae (R++(M0++[pr]++b::q2))⟩:=aa7 (ag e1);have hH':HR (h.set id ⟨.m,ep,4,ae (R++(M0++[pr]++b::q2))⟩):=hH.set id (by simp) (bt _ _ (by simp));have Qk:(ae (R++(M0++[pr]++b::q2))).length=l.length+1:=by rw[ak];simp;omega
    have ZL:(ae (R++(M0++[pr]++b::q2)))[0+(p.length+1)+(p2.length+1)]?=some (.agg [.int .i64 b.k,.str b.s,.int .i64 b.o,.aa false (ae b.l)]):=gR (tV (A:=R++M0++[pr]) (B:=q2) (by simp) (by simp;omega));have Mv:(ae (R++(M0++[pr]++b::q2)))[0+(p.length+1)+(((p2.length+1:Nat):Int) - 1).toNat]?=some (.agg [.int .i64 pr.k,.str pr.s,.int .i64 pr.o,.aa false (ae pr.l)]):=gR (tV (A:=R++M0) (B:=b::q2) (by simp) (by simp;omega));have XI:=hg b pr (hb b (by rw[e,e2];simp)) XH;rw[aw,aw]at XI;obtain⟨m,M1,hM⟩:∃m M1,M0++[pr]=m::M1:=by cases M0 with |nil=>exact⟨_,_,rfl⟩|cons m M=>exact⟨m,M++[pr],rfl⟩
    have hM1:=congrArg List.length hM;simp only[aba,abg,abH]at hM1;have ZM:(ae (R++(M0++[pr]++b::q2)))[0+R.length]?=some (.agg [.int .i64 m.k,.str m.s,.int .i64 m.o,.aa false (ae m.l)]):=gR (tV (A:=R) (B:=M1++b::q2) (by rw[hM];simp) (by omega))
    have jm:(ae (R++(M0++[pr]++b::q2))).set (0+R.length) (.agg [.int .i64 b.k,.str b.s,.int .i64 b.o,.aa false (ae b.l)])=ae ((R++[b])++(M1++[b]++q2)):=by
     rw[<-aw,xh,hM,abp];simp
    clear hq Da na;refine wA ?_;refine .p XI ?_ hm
    cases FP:decide (aW b pr=0)
    ·refine wA ?_;rw[jm,ab4];refine .nx ⟨R++[b],M1,b,hb b (by rw[e,e2];simp),by simp;omega,?_,rfl,rfl⟩;rw[<-FO,tG,if_neg (by simpa using FP)];simp
    ·refine wA ?_;refine .nx ⟨R,M0++[pr],b,hb b (by rw[e,e2];simp),by simp;omega,?_,by simp,rfl⟩;rw[<-FO,tG,if_pos (by simpa using FP)]
   ·rintro _ _ Y2 ⟨R,M0,pr,XH,CB,FO,rfl,rfl⟩;have Jn:(h.set id ⟨.m,ep,4,ae (R++(M0++[pr]++[]))⟩)[id]?=some ⟨.m,ep,4,ae (R++(M0++[pr]++[]))⟩:=aa7 (ag e1);have hH':HR (h.set id ⟨.m,ep,4,ae (R++(M0++[pr]++[]))⟩):=hH.set id (by simp) (bt _ _ (by simp));have Qk:(ae (R++(M0++[pr]++[]))).length=l.length+1:=by rw[ak];simp;omega
    rw[tG,abv]at FO;subst FO;refine wA ?_;refine .sl rfl rfl (su T6 rfl rfl Jn (by omega) ?_ (by omega)) ?_;simp[dd];refine wA ?_;refine .clr rfl (Dk T6 rfl rfl rfl Jn (by omega) rfl rfl) ?_;have oS:List.take (0+(dd (x::l)).length) (ae (dd (x::l)++(M0++[pr]++[])))=ae (dd (x::l)):=by rw[de,de,abp,abT,List.take_left' (by simp)]
    have E1:List.drop (0+(dd (x::l)).length+(l.length+1 - (dd (x::l)).length)) (ae (dd (x::l)++(M0++[pr]++[])))=[]:=abG (by omega);rw[oS,E1,ab4]
    obtain⟨tl,FQ,cL,Jo⟩:∃tl:List PV,tl=List.replicate (l.length+1 - (dd (x::l)).length) (.agg [.int .i64 0,.str ByteArray.empty,.int .i64 0,.aa true []])/\tl.length=l.length+1 - (dd (x::l)).length/\ao tl=true:=
     ⟨_,rfl,by simp,by rw[bj,aa4];intro y hy;rw[abU hy];rfl⟩
    have e3:(h.set id ⟨.m,ep,4,ae (dd (x::l))++tl⟩)[id]?=some ⟨.m,ep,4,ae (dd (x::l))++tl⟩:=aa7 (ag e1);rw[<-FQ,abv];refine wA ?_;refine .sh rfl rfl (Dj T6 rfl rfl e3 (by rw[aba,ak,cL];have:=FN (x::l);simp at this;omega) (by omega)) ?_;refine wA ?_;exact⟨rfl,tl,Jo,rfl⟩
 ·rintro _ h Y ⟨rfl,P',prev,hp,hd,rfl⟩;have Uq:ae (dd (x::l))=ae (x::l):=by rw[<-hd,hp,tG]
  refine wA ?_;exact⟨congrArg (PV.aj id ep 0) (by rw[<-Uq,ak]),[],rfl,by rw[Uq,abv];exact(da e1).symm⟩
theorem ET(g:FuncId)(H:ab)(id ep:Nat)(e1:H[id]?=some ⟨.m,ep,4,ae []⟩):ax C 162 [.aj id ep 0 0,.fn g []] H (λr h'=>r=.aj id ep 0 0/\h'=H):=by
 refine ax.x T6 Tryz.func162 rfl ?_;refine wA ?_;exact⟨rfl,rfl⟩
theorem u6(H:ab):ax C 130 [.aa true []] H (λr h'=>r=.aa true []/\h'=H):=by
 refine ax.x T6 Tryz.func130 rfl ?_;refine wA ?_;refine ai.cD rfl rfl ?_;refine wA ?_;refine .ln (td _ H) (λr h' hr=>by rw[hr.2]) (λr h' hr=>?_);obtain⟨rfl,rfl⟩:=hr;refine wA ?_;refine dw.zip T6 ([]:List Tm) (λp q L K=>L=[(0,.aa true []),(9,.int .i64 0),(10,.int .i64 p.length)]/\K=h') (.nx ⟨rfl,rfl⟩) ?_ ?_
 ·rintro p u q _ K Y e _
  cases p <;>cases e
 ·rintro _ K Y ⟨rfl,rfl⟩;refine wA ?_;exact⟨rfl,rfl⟩
theorem x8(H:ab)(hH:HR H)(id ep:Nat)(a:List Tm)(e1:H[id]?=some ⟨.m,ep,4,ae a⟩)(hn:a.length<100000000)(hb:∀t∈a,az t<100000000):
  ax C 130 [.aj id ep 0 a.length] H (λr h'=>r=.aj id ep 0 (dd (eH a)).length/\∃tl,ao tl=true/\h'=H.set id ⟨.m,ep,4,ae (dd (eH a))++tl⟩):=by
 have pB:=ak a;have cL:=ag e1;refine ax.x T6 Tryz.func130 rfl ?_;refine wA ?_;refine ai.cD rfl (ml e1 (by omega) (λt ht=>by have:=hb t ht;omega)) ?_;have e2:(H.set id ⟨.m,ep,4,ae (eH a)⟩)[id]?=some ⟨.m,ep,4,ae (eH a)⟩:=aa7 (ag e1);have oR:HR (H.set id ⟨.m,ep,4,ae (eH a)⟩):=hH.set id (by simp) (bt _ _ (by simp));have zm:=(fD a).length_eq;have fy:∀t∈eH a,az t<100000000:=λt ht=>hb t ((fD _).mem_iff.1 ht)
 rw[<-zm]at pB hn ⊢;generalize eH a=S at *
 cases S with
 |nil=>
  refine wA ?_;refine .ln (ET _ _ id ep e2) (λr h' hr=>by rw[hr.2]) (λr h' hr=>?_);obtain⟨rfl,rfl⟩:=hr;refine wA ?_;refine dw.zip T6 ([]:List Tm) (λp q L K=>L=[(0,.aj id ep 0 0),(9,.int .i64 0),(10,.int .i64 p.length)]/\K=H.set id ⟨.m,ep,4,ae []⟩) (.nx ⟨rfl,rfl⟩) ?_ ?_
  ·rintro p u q _ K Y e _
   cases p <;>cases e
  ·rintro _ K Y ⟨rfl,rfl⟩;refine wA ?_;exact⟨rfl,[],rfl,by simp[dd]⟩
 |cons x r=>
  have hc:=pX _ rfl Pf x r _ oR id ep e2 (by simp at hn;omega) (λt ht=>by have:=fy t ht;omega);rw[ak]at hc;refine wA ?_;refine .ln hc (λr h' hr=>by obtain⟨_,_,_,rfl⟩:=hr;simp) (λr h' hr=>?_);obtain⟨rfl,tl,hv,rfl⟩:=hr;rw[ab4];have e3:(H.set id ⟨.m,ep,4,ae (dd (x::r))++tl⟩)[id]?=some ⟨.m,ep,4,ae (dd (x::r))++tl⟩:=aa7 (ag e1);have hK3:HR (H.set id ⟨.m,ep,4,ae (dd (x::r))++tl⟩):=hH.set id (by simp) (bt _ _ (by show ao (ae (dd (x::r))++tl)=true;rw[ck,hv];simp));have hDn:=FN (x::r);have hbD:∀t∈dd (x::r),az t<100000000:=λt ht=>fy t ((Mh (x::r) t).1 ht)
  generalize hD:dd (x::r)=D at *;generalize hK:H.set id ⟨.m,ep,4,ae D++tl⟩=K0 at *;refine wA ?_;have hDl:=ak D;refine dw.zip T6 D (λp q L K=>L=[(0,.aj id ep 0 D.length),(9,.int .i64 D.length),(10,.int .i64 p.length)]/\K=K0) (.nx ⟨rfl,rfl⟩) ?_ ?_
  ·rintro p u q _ _ Y e ⟨rfl,rfl⟩;have dO:=lenE e
   have cC:(ae D++tl)[0+p.length]?=some (.agg [.int .i64 u.k,.str u.s,.int .i64 u.o,.aa false (ae u.l)]):=by
    rw[aa3 (by omega),abp];exact bD e
   have dG:=m' u (hbD u (by rw[e];simp));have jm:=da cC;rw[aw]at dG;refine wA ?_;refine .p dG ?_;refine wA ?_;exact .nx ⟨rfl,by rw[jm];exact da e3⟩
  ·rintro _ _ Y ⟨rfl,rfl⟩;refine wA ?_;exact⟨rfl,tl,hv,hK.symm⟩
theorem Hr(t:Tm)(n:Int)(hb:az t<10000000):aL C 106 [enc t,.int .i64 n] (.aa false (ae (qT n t))):=by
 have HG:HR [⟨.m,0,4,[enc t]⟩,⟨.m,0,1,[.int .i64 n]⟩,⟨.m,0,1,[.aa true []]⟩]:=by
  intro x hx
  simp at hx;rcases hx with rfl |rfl |rfl <;>simp[bL,bw,bt]
  exact sy _ _ (by simp)
 have hw:=Sq n t _ (.aa true []) [] HG rfl rfl (.inl ⟨rfl,rfl⟩) (by simp[cg]) (by simp;omega);have hol:=we n (pre t);have oH:=vX t;rw[aw]at hw ⊢;refine aL.x T6 Tryz.func106 rfl ?_;refine wA ?_;refine ai.ks hw (by simp) (λh' ks=>?_);rw[abK]at ks;obtain⟨v',e1,e2,e3⟩:=ks.var;have hh:=ks.hr;refine wA ?_;have cQ:dd (eH (vL n (pre t)))=qT n t:=FX _;rcases e2 with⟨rfl,e0⟩|⟨id,ep,rfl,e2⟩
 ·have e4:vL n (pre t)=[]:=abj (by rw[<-ak,e0];rfl);rw[e4]at cQ
  skip
  refine .ln (u6 h') (λr h' hr=>by rw[hr.2]) (λr h' hr=>?_);obtain⟨rfl,rfl⟩:=hr;rw[<-cQ];refine wA ?_;exact⟨_,rfl,rfl⟩
 ·have ho:=x8 h' hh id ep (vL n (pre t)) e2 (by omega) (λu hu=>by have:=pG t u (abV.1 hu).1;omega);rw[ak]
  skip
  refine .ln ho (λr h' hr=>by obtain⟨_,_,_,rfl⟩:=hr;simp) (λr h' hr=>?_);obtain⟨rfl,tl,hv,rfl⟩:=hr;rw[cQ];have e5:=aa7 (a:=(⟨.m,ep,4,ae (qT n t)++tl⟩:au)) (ag e2);refine wA ?_;exact iq e5 (by rw[ak]) (by simp) (by simp)
theorem lL(t:Tm)(hb:az t<10000000):aL C 54 [enc t] (.aa false (ae (bz t))):=by
 have h1:=Hr t 1 hb;rw[aw]at h1 ⊢;refine aL.x T6 Tryz.func54 rfl ?_;refine wA ?_;refine .p h1 ?_;refine wA ?_;exact⟨_,rfl,by simp[aT,bz]⟩
def hZ(H:ab)(g:FuncId)(cs:List PV)(x:PV)(b:Bool):Prop:=∀H',fW H H'->∀Q:PV->ab->Prop,(∀h',fW H' h'->Q (.bool b) h')->ai C 2 g (x::cs) H' Q
theorem Se(l:List Tm)(g:FuncId)(cs:List PV)(p:Tm->Bool)(H:ab)(hl:l.length<1000000000)(hp:∀x∈l,hZ H g cs (enc x) (p x)):
  ax C 142 [.aa false (ae l),.fn g cs] H (λr h'=>r=.int .i64 (qM p l)/\fW H h'):=by
 have cz:=ak l;refine ax.x T6 Tryz.func142 rfl ?_;refine wA ?_;refine dw.zip T6 l (λa q L K=>L=[(0,.aa false (ae l)),(1,.fn g cs),(7,.int .i64 (ae l).length),(8,.int .i64 a.length)]/\fW H K/\∀y∈a,p y=false) (.nx ⟨rfl,fW.refl _,by simp⟩) ?_ ?_
 ·rintro a x q _ K Y e ⟨rfl,hE,ha⟩;have cC:=bD e;have dO:=lenE e;have vF:=hp x (by rw[e];simp) _ hE;rw[aw]at vF;refine wA ?_;refine vF _ (λh' PG=>?_)
  cases hb:p x
  ·refine wA ?_;exact .nx ⟨rfl,hE.trans PG,λy hy=>by rcases aa9.1 hy with h |h;exact ha y h;simp at h;rw[h];exact hb⟩
  ·refine wA ?_;exact⟨by rw[e,j4 ha hb];rfl,hE.trans PG⟩
 ·rintro _ K Y ⟨rfl,hE,ha⟩;refine wA ?_;exact⟨by rw[gi ha];rfl,hE⟩
theorem qB(l:List Tm)(g:FuncId)(cs:List PV)(p:Tm->Bool)(H:ab)(hl:l.length<1000000000)(hp:∀x∈l,hZ H g cs (enc x) (p x)):
  ax C 86 [.aa false (ae l),.fn g cs] H (λr h'=>r=.bool (l.any p)/\fW H h'):=by
 have hi:=Se l g cs p H hl hp;have ha:=sN p l;refine ax.x T6 Tryz.func86 rfl ?_;refine wA ?_;refine .ex hi (λh' hE=>?_);refine wC (λhc=>?_) λhc=>?_
 all_goals exact⟨by rw[<-ha];simp[aT, *],hE⟩
theorem hZ.pure{H:ab}{g:FuncId}{cs:List PV}{x:PV}{b:Bool}(a:aL C g (aU (x::cs)) (.bool b))(hx:ao (x::cs)=true)(hm:C.mode g=.pure:=by rfl):hZ H g cs x b:=
 λH' _ Q hQ=>ai.pure hm hx a (hQ _ (fW.refl _))
theorem hZ.opened{H:ab}{g:FuncId}{cs:List PV}{x:PV}{b:Bool}(a:∀H',fW H H'->ax C g (x::cs) H' (λr h'=>r=.bool b/\fW H' h'))(hm:C.mode g=.opened:=by rfl):hZ H g cs x b:=
 λH' hE Q hQ=>ai.ex (a H' hE) hQ hm
theorem Sf(t:Tm):aL C 141 [enc t] (.bool (CG t)):=by
 rw[aw];refine aL.x T6 Tryz.func141 rfl ?_;refine wI (λhc=>?_) (λhc hc=>?_) λhc hc=>?_
 all_goals exact⟨_,rfl,by simp[aT,CG, *]⟩
theorem Sg(t u:Tm)(ht:az t<1000000000)(hu:az u<1000000000)(id:Nat)(H:ab)(hH:aY (H++[⟨.m,0,4,[enc u]⟩])=true)(h0:H[id]?=some ⟨.m,0,4,[enc t]⟩):ax C 143 [enc u,.ptr id 0 0 0] H (λr h'=>r=.bool (decide (aW t u=0))/\fW H h'):=by
 have h1:=(eF t u ht hu).nine;have cL:=ag h0;rw[aw t]at h0 h1;rw[aw u]at h1 hH ⊢;refine ax.x T6 Tryz.func143 rfl ?_;refine wA ?_;refine .p h1 ?_;refine wC (λhc=>?_) λhc=>?_
 all_goals exact⟨by simp[aT, *],(fW.refl _).c8 (HV.one (by simp))⟩
theorem O8(l:List Tm)(t:Tm)(ht:az t<1000000000)(hl:l.length<1000000000)(hb:∀u∈l,az u<1000000000):aL C 88 [.aa false (ae l),enc t] (.bool (cm l t)):=by
 have hc:=qB l 143 [.ptr 0 0 0 0] (λu=>decide (aW t u=0)) [⟨.m,0,4,[enc t]⟩] hl (λx hx=>hZ.opened λH' hE=>Sg t x ht (hb x hx) 0 H' ((hE.hv (HV.one (by simp))).c8 (HV.one (by simp))).closed (hE.at rfl));rw[aw t]at hc ⊢;refine aL.x T6 Tryz.func88 rfl ?_;refine wA ?_;refine .ex hc (λh' hE=>?_);refine wA ?_;exact⟨_,rfl,rfl⟩
theorem Hk(t:Tm)(hb:az t<10000000):aL C 85 [enc t] (.int .i64 (cq t)):=by
 have h1:=sV t (by omega);have h2:=KY t (by omega);have h3:=lL t hb;have h4:=(uB t (by omega)).nine;have MZ:=fj t;rw[aw]at h1 h2 h3 h4 ⊢
 have h5:∀H,ax C 86 [.aa false (ae (bz t)),.fn 141 []] H (λr h'=>r=.bool ((bz t).any CG)/\fW H h'):=λH=>
  qB (bz t) 141 [] CG H (by omega) (λx hx=>hZ.pure (by simpa[aU]using Sf x) (by simp[ao]))
 refine aL.x T6 Tryz.func85 rfl ?_;refine wA ?_;refine .p h1 ?_;refine wC (λhc=>?_) λhc=>?_
 ·have hth:jc t=0:=by omega
  have O9:cq t=if km t=false\/(bz t).any CG=true then 10 else if 60<size t then 3 else 0:=by rw[cq,if_neg (by omega)]
  refine .p h2 ?_
  cases hf:km t
  ·refine wA ?_;exact⟨_,rfl,by rw[O9,if_pos (.inl hf)];rfl⟩
  ·refine wA ?_;refine .p h3 ?_;refine wA ?_;refine .ex (h5 _) (λh' hE=>?_);have k0:=hE.at (i:=0) rfl
   cases ha:(bz t).any CG
   ·rw[hf,ha,if_neg (by simp)]at O9;refine wA ?_;refine .p h4 ?_;refine wC (λhc=>?_) λhc=>?_;exact⟨_,rfl,by rw[O9,if_pos (by omega)];rfl⟩;exact⟨_,rfl,by rw[O9,if_neg (by omega)];rfl⟩
   ·refine wA ?_;exact⟨_,rfl,by rw[O9,if_pos (.inr ha)];rfl⟩
 exact⟨_,rfl,by rw[cq,if_pos (by assumption)];rfl⟩
theorem _root_.Go.Pm.aZ.Dy{C:cG}{ops:Array Oper}{i d:Nat}{ty:TypeId}{pos:String}{af:Array Edge}{r:List Oper}{Y:Nat->PV}{L:Al}{h:ab}{L0:Nat}{own:List Nat}{Q:St->Prop}{op:Op}{v:PV}{h':ab}(M J:ab)
  (hc:∃n0,∀n,n0<=n->ar C (fa C n) 1 op (al L Y) M=some (v,h')) (k:aZ C ops (i+1) r ⟨⟨al ((d,v)::L) Y,h++J⟩,L0,own++List.replicate J.length i⟩ Q) (hM:cB ((before ops).getD i 0).testBit L0 own h=M) (hJ:h'.drop h.length=J) (dG:aY M=true) (lz:(op.operands.toList.all λy=>bw (aO M) (ev (al L Y) y))=true)
  (tO:(J.all λo=>decide (o.mu≠.l))=true) (hh:c9 op=true:=by rfl) (hl:(level ops (before ops) i==2)=false:=by rfl):aZ C ops i (⟨some d,op,ty,pos,af,none⟩::r) ⟨⟨al L Y,h⟩,L0,own⟩ Q:=by
 obtain⟨n0,hn⟩:=hc;have dO:level ops (before ops) i≠2:=by simpa using hl
 refine aZ.step ⟨n0,λn h1=>?_⟩ k;subst hM hJ;simp only[ct,bu,hh,abL,if_false,dO,dG,lz,and_self,if_true,hn n h1,tO,b8]
theorem _root_.Go.Pm.DK{C:cG}{run:gW}{f:FuncId}{g:List PV->ab->Option (PV×ab)}{Y:Nat->PV}{xs:List Operand}{zf:Array TypeId}{M h':ab}{us:List PV}{v:PV}(hm:C.mode f=.cD g)(hx:xs.map (ev Y)=us)(hg:g us (M.map bI)=some (v,h'))(tO:((h'.drop M.length).all λo=>decide (o.mu≠.l))=true):
  ar C run 1 (.call ⟨.value (.func f),xs.toArray,zf⟩) Y M=some (v,M++h'.drop M.length):=by
 simp only[ar,fQ,ev,hx,abv];unfold di;rw[hm];simp only[dI,hg,tO,if_true]
 rfl
theorem _root_.Go.Pm.Gc{C:cG}(T:kJ C.P){run:gW}{lv:Nat}{L:Al}{Y:Nat->PV}{M:ab}{t:TypeId}{x:Operand}{p v:PV}(hx:cO L x=some p)(hl:loadT T M t p=some v):ar C run lv (.load t x) (al L Y) M=some (v,M):=by
 simp only[ar,aC,an hx,si T hl,abf]
theorem _root_.Go.Pm.JK{C:cG}(T:kJ C.P){run:gW}{L:Al}{Y:Nat->PV}{M:ab}{t:TypeId}{n:Nat}{ps:Array (Nat×Operand)}{vs:List PV}(x:zp T t n ps.toList L (λ_ es=>es=vs))(hv:ao vs=true):ar C run 1 (.buildSlice t n ps) (al L Y) M=some (.aa true vs,M):=by
 obtain⟨sz,es,rfl,e⟩:=mZ T x;have:=e Y M 1;rw[if_pos hv]at this;simpa only[ar,aC]using this
theorem _root_.Go.Pm.vE{C:cG}{run:gW}{lv:Nat}{L:Al}{Y:Nat->PV}{h h':ab}{st xt:TypeId}{x y:Operand}{v u r:PV}(hx:cO L x=some v)(hy:cO L y=some u)(ha:bJ C.P lv h st xt v u=some (r,h')):ar C run lv (.call ⟨.builtin .append,#[x,y],#[st,xt]⟩) (al L Y) h=some (r,h'):=by
 simp only[ar,br,abk,abx,an hx,an hy,ha]
theorem AL(d:cW)(hk:d.kn.length<10000000):aL C 71 [jz d] (.aa false (ae (d.kn++[d.tm]))):=by
 have cz:=ak d.kn;rw[oh];refine aL.x T6 Tryz.func71 rfl ?_;refine Rn.go ?_;conv=>whnf
 refine .mk ?_;refine Rn.go ?_;conv=>whnf
 refine .raw (λY=>?_);refine D.fieldAddr T6 rfl rfl rfl rfl ?_;refine D.gB T6 rfl rfl rfl rfl rfl rfl ?_;have hen:(ae d.kn).isEmpty=d.kn.isEmpty:=by cases d.kn <;>rfl
 obtain⟨box,fg⟩:∃b:au,b=⟨.m,0,5,[.agg [.aa false (ae d.kn),.int .i64 d.tm.k,.str d.tm.s,.int .i64 d.tm.o,.aa false (ae d.tm.l)]]⟩:=⟨_,rfl⟩
 by_cases he:d.kn=[]
 ·have NK:bB 4 [.aa false (ae d.kn)] ([box].map bI)=some (.aa true [],[box].map bI):=by simp[bB,he,ae]
  refine .Dy [box] [] ⟨0,λn _=>DK rfl rfl NK rfl⟩ ?_ (by rw[fg];rfl) rfl (by rw[fg];simp[aY,bL,bw]) rfl rfl;refine D.fieldAddr T6 rfl rfl rfl rfl ?_;refine .Dy [box] [] ⟨0,λn _=>Gc T6 rfl (by rw[fg];rfl)⟩ ?_ (by rw[fg];rfl) rfl (by rw[fg];simp[aY,bL,bw]) (by rw[fg];rfl) rfl;refine .Dy [box] [] ⟨0,λn _=>JK T6 (vs:=[.agg [.int .i64 d.tm.k,.str d.tm.s,.int .i64 d.tm.o,.aa false (ae d.tm.l)]]) (by exact rfl) (by simp)⟩ ?_ (by rw[fg];rfl) rfl (by rw[fg];simp[aY,bL,bw]) (by rw[fg];rfl) rfl;subst fg;refine aZ.two rfl rfl ⟨0,λn _=>vE rfl rfl (gE T6 (lv:=2) (full:=true) (ys:=[.agg [.int .i64 d.tm.k,.str d.tm.s,.int .i64 d.tm.o,.aa false (ae d.tm.l)]]) (by omega) rfl rfl rfl rfl rfl (by decide) rfl rfl rfl rfl (by simp))⟩ ?_;refine D.assign rfl ?_;refine aZ.nil ⟨_,_,rfl,?_⟩
  conv=>whnf
  rw[he];exact iq (ep:=0) (sz:=4) (tl:=[]) (es:=ae ([]++[d.tm])) (by simp only[abv,abK,ae];rw[<-aw];rfl) (by rw[ak];simp) (by simp) (by simp)
 ·have NK:bB 4 [.aa false (ae d.kn)] ([box].map bI)=some (.aj 1 0 0 d.kn.length,[box].map bI++[⟨.m,0,4,ae d.kn⟩]):=by
   have h1:d.kn.isEmpty=false:=by cases h:d.kn with |nil=>exact absurd h he |cons=>rfl
   simp only[bB,hen,h1,abi,if_false];rw[if_pos ⟨nX _,by omega⟩,cz]
   rfl
  refine .Dy [box] [⟨.m,0,4,ae d.kn⟩] ⟨0,λn _=>DK rfl rfl NK rfl⟩ ?_ (by rw[fg];rfl) rfl (by rw[fg];simp[aY,bL,bw]) rfl rfl;refine D.fieldAddr T6 rfl rfl rfl rfl ?_;refine .Dy [box,ez ⟨.m,0,4,ae d.kn⟩] [] ⟨0,λn _=>Gc T6 rfl (by rw[fg];rfl)⟩ ?_ (by rw[fg];rfl) rfl (by rw[fg];simp[aY,bL,bw,ez]) (by rw[fg];rfl) rfl;refine .Dy [box,ez ⟨.m,0,4,ae d.kn⟩] [] ⟨0,λn _=>JK T6 (vs:=[.agg [.int .i64 d.tm.k,.str d.tm.s,.int .i64 d.tm.o,.aa false (ae d.tm.l)]]) (by exact rfl) (by simp)⟩ ?_ (by rw[fg];rfl) rfl (by rw[fg];simp[aY,bL,bw,ez]) (by rw[fg];rfl) rfl;subst fg;refine aZ.two rfl rfl ⟨0,λn _=>vE rfl rfl (lc T6 (len:=d.kn.length) (o:=⟨.m,0,4,ae d.kn⟩) (full:=true) (ys:=[.agg [.int .i64 d.tm.k,.str d.tm.s,.int .i64 d.tm.o,.aa false (ae d.tm.l)]]) rfl rfl rfl rfl rfl (by decide) rfl rfl rfl rfl (by simp;omega) (bm rfl rfl (by simp)) rfl rfl (by simp[cz]))⟩ ?_;refine D.assign rfl ?_;refine aZ.nil ⟨_,_,rfl,?_⟩
  conv=>whnf
  have Di:List.take d.kn.length (ae d.kn)=ae d.kn:=abo (by omega);exact iq (ep:=1) (sz:=4) (tl:=[]) (es:=ae (d.kn++[d.tm])) (by rw[cc];simp only[Di,abv,ae];rw[<-aw];rfl) (by rw[ak];simp) (by simp) (by simp)
end bh
def uX(t:Tm):List Tm->Nat
 |[]=>0
 |p::l=>if aW p t<0 then uX t l+1 else 0
theorem Gm(t:Tm):∀l:List Tm,uX t l<=l.length
 |[]=>by simp[uX]
 |p::l=>by
  have:=Gm t l;rw[uX]
  split <;>simp <;>omega
theorem Io(t:Tm):∀(l:List Tm),fZ l->∀(m:Nat) (p:Tm),l[m]?=some p->(aW p t<0↔m<uX t l)
 |[],_,m,p,h=>by simp at h
 |q::l,s,m,p,h=>by
  obtain⟨s1,s2⟩:=abr.1 s;rw[uX]
  cases m with
  |zero=>
   simp at h;subst h
   split
   simp;assumption;simp;omega
  |succ m=>
   have h':l[m]?=some p:=by simpa using h
   have ih:=Io t l s2 m p h';have hm:=s1 p (abh h')
   split
   rw[ih];omega
   ·rename_i hq
    constructor
    ·intro hp
     exact absurd (eD hm hp) hq
    intro hh;omega
def fdT(t:Tm)(l:List Tm):Bool:=match l[uX t l]? with |some p=>decide (aW p t=0)|none=>false
theorem Ip(t:Tm):∀{l:List Tm},fZ l->fdT t l=cm l t
 |[],_=>rfl
 |q::l,s=>by
  obtain⟨s1,s2⟩:=abr.1 s;have ih:=Ip t s2;have hng:=eG q t;unfold fdT at ih ⊢;rw[uX]
  by_cases hc:aW q t<0
  ·rw[if_pos hc];simp only[acf];rw[ih];simp only[cm,acL];rw[decide_eq_false (by omega)]
   rfl
  ·rw[if_neg hc];simp only[ab0,cm,acL]
   by_cases h0:aW q t=0
   rw[decide_eq_true h0,decide_eq_true (by omega)];rfl
   ·rw[decide_eq_false h0,decide_eq_false (by omega),acG]
    symm
    rw[ab9]
    intro u hu hz
    have hz:=dm (of_decide_eq_true hz);subst hz;have:=s1 t hu;omega
theorem DH{t:Tm}:∀{l:List Tm},fZ l->cm l t=true->fo t l=l
 |[],_,h=>by cases h
 |q::l,s,h=>by
  obtain⟨s1,s2⟩:=abr.1 s;have hng:=eG q t;rw[fo]
  by_cases hc:aW t q<=0
  ·rw[if_pos hc]
   by_cases hd:aW t q<0
   ·exfalso;rcases abc.1 (dq.1 h)with rfl |h2;rw[cH]at hd;omega;have:=s1 t h2;omega
   rw[if_neg hd]
  ·rw[if_neg hc]
   have h2:cm l t=true:=by
    simp only[cm,acL,abA,decide_eq_true_eq]at h ⊢;rcases h with h |h;omega;exact h
   rw[DH s2 h2]
theorem DI{t:Tm}:∀{l:List Tm},fZ l->cm l t=false->fo t l=l.take (uX t l)++t::l.drop (uX t l)
 |[],_,_=>rfl
 |q::l,s,h=>by
  obtain⟨s1,s2⟩:=abr.1 s;have hng:=eG q t;simp only[cm,acL,ady,decide_eq_false_iff_not]at h;rw[fo,uX]
  by_cases hc:aW q t<0
  ·rw[if_pos hc,if_neg (by omega),DI s2 h.2];simp
  ·rw[if_neg hc,if_pos (by omega),if_pos (by omega)];simp
namespace bh
open Go.Proofs
attribute [local irreducible] aD ay aJ aG Ev ah ai ax aZ bE
theorem Gn(a b:Tm)(ha:az a<1000000000)(hb:az b<1000000000):aL C 163 [enc a,enc b] (.bool (decide (aW a b=0))):=by
 have h1:=(eF a b ha hb).nine;rw[aw,aw]at h1 ⊢;refine aL.x T6 Tryz.func163 rfl ?_;refine wA ?_;refine .p h1 ?_;refine wC (λhc=>?_) λhc=>?_
 all_goals exact⟨_,rfl,by simp[aT, *]⟩
theorem nt(a b:Tm)(ha:az a<1000000000)(hb:az b<1000000000):aL C 273 [enc a,enc b] (.bool (decide (aW a b=0))):=by
 have h1:=(eF a b ha hb).nine;rw[aw,aw]at h1 ⊢;refine aL.x T6 Tryz.func273 rfl ?_;refine wA ?_;refine .p h1 ?_;refine wC (λhc=>?_) λhc=>?_
 all_goals exact⟨_,rfl,by simp[aT, *]⟩
theorem DJ(l:List Tm)(t:Tm)(hs:fZ l)(hl:l.length<100000000)(hb:∀b∈l,az b<100000000)(ht:az t<100000000):
  aL C 166 [.aa false (ae l),enc t,.fn 52 []] (.cy [.int .i64 (uX t l),.bool (cm l t)]):=by
 have hle:=Gm t l;have Pp:=Io t l hs;have pq:cm l t=match l[uX t l]? with |some p=>decide (aW p t=0)|none=>false:=(Ip t hs).symm
 have cz:=ak l;generalize cm l t=FD at pq ⊢;generalize uX t l=LB at hle Pp pq ⊢
 have elem:∀m,m<l.length->∃b,l[m]?=some b/\(ae l)[m]?=some (.agg [.int .i64 b.k,.str b.s,.int .i64 b.o,.aa false (ae b.l)])/\aL C 52 [enc b,enc t] (.int .i64 (aW b t)):=λm hm=>by
  have h1:l[m]?=some l[m]:=aa6 hm;exact⟨_,h1,gR h1,(eF _ t (by have:=hb _ (abh h1);omega) (by omega)).nine⟩
 rw[aw]at elem ⊢;refine aL.x T6 Tryz.func166 rfl ?_;refine wA ?_;refine dw.nat T6 (λk L H=>∃i j:Nat,L=[(0,.aa false (ae l)),(2,.fn 52 []),(4,.ptr 0 0 0 0),(8,.int .i64 (ae l).length),(9,.int .i64 i),(10,.int .i64 j)]/\H=[⟨.m,0,4,[.agg [.int .i64 t.k,.str t.s,.int .i64 t.o,.aa false (ae t.l)]]⟩]/\k=j - i/\i<=LB/\LB<=j/\j<=l.length) l.length (.nx ⟨0,(ae l).length,rfl,rfl,by omega,by omega,by omega,by omega⟩) ?_;rintro k _ _ Y ⟨i,j,rfl,rfl,hk,i1,i2,i3⟩
 by_cases Qr:i<j
 ·obtain⟨m,YH⟩:∃m:Nat,((i:Int)+j) / 2=m:=⟨(i+j) / 2,by omega⟩;obtain⟨b,h1,cC,rf⟩:=elem m (by omega);have PO:=Pp m _ h1;rw[aw]at rf;refine wA ?_;refine .mk (n:=m) ?_ YH cC;refine wA ?_;refine .p rf ?_;refine wC (λhc=>?_) λhc=>?_;exact .nx ⟨j - (m+1),by omega,m+1,j,rfl,rfl,rfl,by omega,by omega,by omega⟩;exact .nx ⟨m - i,by omega,i,m,rfl,rfl,rfl,by omega,by omega,by omega⟩
 ·have hi:i=LB:=by omega
  subst hi
  by_cases mR:i<l.length
  ·obtain⟨b,h1,cC,rf⟩:=elem i mR;rw[h1]at pq;dsimp only at pq;rw[aw]at rf;refine wA ?_;refine .p rf ?_;refine wC (λhc=>?_) λhc=>?_
   all_goals exact⟨_,rfl,by rw[pq];simp[aT,bW,aU, *]⟩
  ·rw[abl (by omega)]at pq;refine wA ?_;exact⟨_,rfl,by rw[pq];rfl⟩
theorem NI(s:List Tm)(t:Tm)(hs:fZ s)(hl:s.length<100000000)(hb:∀b∈s,az b<100000000)(ht:az t<100000000):aL C 116 [.aa false (ae s),enc t] (.bool (cm s t)):=by
 have h1:=DJ s t hs hl hb ht;rw[aw]at h1 ⊢;refine aL.x T6 Tryz.func116 rfl ?_;refine wA ?_;refine .p h1 ?_;refine wA ?_;exact⟨_,rfl,rfl⟩
theorem _root_.Go.Pm.Tv{C:cG}{run:gW}{f:FuncId}{g:List PV->ab->Option (PV×ab)}{Y:Nat->PV}{xs:List Operand}{zf:Array TypeId}{M h':ab}{us:List PV}{v:PV}(hm:C.mode f=.cD g)(hx:xs.map (ev Y)=us)(hg:g us M=some (v,h')):
  ar C run 2 (.call ⟨.value (.func f),xs.toArray,zf⟩) Y M=some (v,h'):=by
 simp only[ar,fQ,ev,hx,abv];unfold di;rw[hm];simp only[dI,aa5,if_true,hg]
theorem jW(o:au)(J:ab)(hv:ao o.es=true)(hJ:∀x∈J,x.mu=.x):aY (o::J)=true:=by
 unfold aY;simp only[abZ,abb,aa4];exact⟨by rw[bt _ _ hv];simp,λx hx=>by simp[hJ x hx]⟩
theorem NJ(l:List Tm):(ae l).all (kK 4)=true:=by
 rw[aa4]
 intro v hv
 rw[de]at hv;obtain⟨t,_,rfl⟩:=abB.1 hv;rw[aw];simp[kK,aV,ao,cells,bC]
theorem JY(s:List Tm)(t:Tm)(hs:fZ s)(hl:s.length<10000000)(hb:∀b∈s,az b<100000000)(ht:az t<100000000):aL C 165 [.aa false (ae s),enc t] (.aa false (ae (fo t s))):=by
 have h1:=DJ s t hs (by omega) hb ht;have cz:=ak s;have hle:=Gm t s;have aaa:=DI (t:=t) hs;have QW:=DH (t:=t) hs;rw[aw]at h1 ⊢;refine aL.x T6 Tryz.func165 rfl ?_;refine wA ?_;refine .p h1 ?_
 cases hf:cm s t
 ·rw[aaa hf];refine wG ?_;refine .raw (λY=>?_);have hen:(ae s).isEmpty=s.isEmpty:=by cases s <;>rfl
  obtain⟨box,fg⟩:∃b:au,b=⟨.m,0,4,[.agg [.int .i64 t.k,.str t.s,.int .i64 t.o,.aa false (ae t.l)]]⟩:=⟨_,rfl⟩;refine D.move rfl ?_
  by_cases he:s=[]
  ·have NK:bB 4 [.aa false (ae s)] ([box].map bI)=some (.aa true [],[box].map bI):=by simp[bB,he,ae]
   have LZ:uX t s=0:=by rw[he];rfl
   refine .Dy [box] [] ⟨0,λn _=>DK rfl rfl NK rfl⟩ ?_ (by rw[fg];rfl) rfl (jW _ [] (by rw[fg];simp) (by simp)) rfl rfl;refine D.move rfl ?_;refine .Dy [box] [] ⟨0,λn _=>Gc T6 rfl (by rw[fg];rfl)⟩ ?_ (by rw[fg];rfl) rfl (jW _ [] (by rw[fg];simp) (by simp)) (by rw[fg];rfl) rfl;refine .Dy [box] [] ⟨0,λn _=>JK T6 (vs:=[.agg [.int .i64 t.k,.str t.s,.int .i64 t.o,.aa false (ae t.l)]]) (by exact rfl) (by simp)⟩ ?_ (by rw[fg];rfl) rfl (jW _ [] (by rw[fg];simp) (by simp)) (by rw[fg];rfl) rfl;subst fg;refine aZ.two rfl rfl ⟨0,λn _=>Tv (v:=.aj 1 0 0 1) (h':=[⟨.m,0,4,[.agg [.int .i64 t.k,.str t.s,.int .i64 t.o,.aa false (ae t.l)]]⟩,⟨.m,0,4,[.agg [.int .i64 t.k,.str t.s,.int .i64 t.o,.aa false (ae t.l)]]⟩]) rfl (us:=[.aa true [],.int .i64 (uX t s),.aa true [.agg [.int .i64 t.k,.str t.s,.int .i64 t.o,.aa false (ae t.l)]]]) rfl (by simp[iN,kK,cells,bC,aV,ao,newObj,LZ])⟩ ?_;refine D.assign rfl ?_;refine aZ.nil ⟨_,_,rfl,?_⟩
   conv=>whnf
   rw[LZ,he];exact iq (ep:=0) (sz:=4) (tl:=[]) (es:=ae ([]++[t])) (by simp only[abv,abK,ae];rw[<-aw];rfl) (by rw[ak];simp) (by simp) (by simp)
  ·have NK:bB 4 [.aa false (ae s)] ([box].map bI)=some (.aj 1 0 0 s.length,[box].map bI++[⟨.m,0,4,ae s⟩]):=by
    have h1:s.isEmpty=false:=by cases h:s with |nil=>exact absurd h he |cons=>rfl
    simp only[bB,hen,h1,abi,if_false];rw[if_pos ⟨nX _,by omega⟩,cz]
    rfl
   refine .Dy [box] [⟨.m,0,4,ae s⟩] ⟨0,λn _=>DK rfl rfl NK rfl⟩ ?_ (by rw[fg];rfl) rfl (jW _ [] (by rw[fg];simp) (by simp)) rfl rfl;refine D.move rfl ?_;refine .Dy [box,ez ⟨.m,0,4,ae s⟩] [] ⟨0,λn _=>Gc T6 rfl (by rw[fg];rfl)⟩ ?_ (by rw[fg];rfl) rfl (jW _ [_] (by rw[fg];simp) (by simp[ez])) (by rw[fg];rfl) rfl;refine .Dy [box,ez ⟨.m,0,4,ae s⟩] [] ⟨0,λn _=>JK T6 (vs:=[.agg [.int .i64 t.k,.str t.s,.int .i64 t.o,.aa false (ae t.l)]]) (by exact rfl) (by simp)⟩ ?_ (by rw[fg];rfl) rfl (jW _ [_] (by rw[fg];simp) (by simp[ez])) (by rw[fg];rfl) rfl;have Di:(ae s).take s.length=ae s:=abo (by omega)
   have aab:iN [.aj 1 0 0 s.length,.int .i64 (uX t s),.aa true [.agg [.int .i64 t.k,.str t.s,.int .i64 t.o,.aa false (ae t.l)]]] [box,⟨.m,0,4,ae s⟩]=some (.aj 1 1 0 (s.length+1),[box,⟨.m,1,4,(ae s).take (uX t s)++[.agg [.int .i64 t.k,.str t.s,.int .i64 t.o,.aa false (ae t.l)]]++(ae s).drop (uX t s)⟩]):=by
    have hg:getM [box,(⟨.m,0,4,ae s⟩:au)] 1 0=some ⟨.m,0,4,ae s⟩:=by simp[getM]
    have gh:=NJ s;have dG:aY [box,(⟨.m,0,4,ae s⟩:au)]=true:=(HV.xE ⟨by rw[fg];simp,by rw[fg];simp⟩ ⟨by simp,by simp⟩).closed;simp only[iN,hg,Di];rw[if_pos ⟨trivial,trivial,by omega,by omega,by omega,by omega,by simp[kK,aV,ao,cells,bC],gh,dG⟩];simp
   subst fg;refine aZ.two rfl rfl ⟨0,λn _=>Tv rfl (us:=[.aj 1 0 0 s.length,.int .i64 (uX t s),.aa true [.agg [.int .i64 t.k,.str t.s,.int .i64 t.o,.aa false (ae t.l)]]]) rfl aab⟩ ?_;refine D.assign rfl ?_;refine aZ.nil ⟨_,_,rfl,?_⟩
   conv=>whnf
   have Jg:ae (s.take (uX t s)++t::s.drop (uX t s))=(ae s).take (uX t s)++[enc t]++(ae s).drop (uX t s):=by simp[de]
   have zm:(ae (s.take (uX t s)++t::s.drop (uX t s))).length=s.length+1:=by rw[ak];simp;omega
   rw[Jg,aw]at zm;rw[Jg,aw];exact iq (ep:=1) (sz:=4) (tl:=[]) (by simp) zm (by rw[<-aw,<-Jg];simp) (by rw[<-aw,<-Jg];simp)
 ·rw[QW hf];refine wA ?_;exact⟨_,rfl,by simp[aT,bW]⟩
theorem Hl(d:cW)(u:Tm)(hu:az u<1000000000)(hk:d.kn.length<1000000000)(hb:∀t∈d.kn,az t<1000000000)(id:Nat)(H:ab)(hH:aY (H++[⟨.m,0,4,[enc u]⟩])=true)(h0:H[id]?=some ⟨.m,0,5,[jz d]⟩):
  ax C 87 [enc u,.ptr id 0 0 0] H (λr h'=>r=.bool (!cm d.kn u)/\fW H h'):=by
 have h1:=O8 d.kn u hu hk hb;rw[oh]at h0;rw[aw]at h1 hH ⊢;refine ax.x T6 Tryz.func87 rfl ?_;refine wA ?_;refine .p h1 ?_
 cases cm d.kn u
 all_goals
  refine wA ?_;exact⟨rfl,(fW.refl _).c8 (HV.one (by simp))⟩
theorem yN(b:List Tm)(v:PV)(u:Tm)(hu:az u<1000000000)(hk:b.length<1000000000)(hb:∀t∈b,az t<1000000000)(id:Nat)(H:ab)(hH:aY (H++[⟨.m,0,4,[enc u]⟩])=true)(h0:H[id]?=some ⟨.m,0,1,[v]⟩)(ho:Out 4 H v (ae b)):
  ax C 89 [enc u,.ptr id 0 0 0] H (λr h'=>r=.bool (!cm b u)/\fW H h'):=by
 have h1:=O8 b u hu hk hb;have Aa:=ho.c8 [⟨.m,0,4,[enc u]⟩];rw[aw]at h1 hH Aa ⊢;refine ax.x T6 Tryz.func89 rfl ?_;have Lm:=Aa;rcases Aa with⟨rfl,e⟩|⟨dF,ep,rfl,e⟩
 all_goals
  refine wA ?_;refine ai.plS (.inl Lm) h1 ?_
  cases cm b u
  all_goals
   refine wA ?_;exact⟨rfl,(fW.refl _).c8 (HV.one (by simp))⟩
def nH(p:List cW):Option (List Tm):=p.getLast?.map cW.kn
def eR(p:List cW):List Tm:=p.flatMap λd=>bz d.tm
theorem j0(p:List cW)(d:cW):nH (p++[d])=some d.kn:=by simp[nH]
theorem iY(p:List cW)(d:cW):eR (p++[d])=eR p++bz d.tm:=by simp[eR]
theorem Bb{l p q:List Tm}{u:Tm}(e:l=p++u::q)(hp:∀v∈p,cq v=0)(hu:cq u≠0):fT l=cq u:=by
 subst e
 induction p with
 |nil=>simp only[abK,fT];rw[if_pos hu]
 |cons v p ih=>
  simp only[abz,fT];rw[if_neg (by rw[hp v (by simp)];simp),ih (λw hw=>hp w (by simp[hw]))]
theorem vw:∀{l:List Tm},(∀v∈l,cq v=0)->fT l=0
 |[],_=>rfl
 |v::l,h=>by
  rw[fT,if_neg (by rw[h v (by simp)];simp)];exact vw λu hu=>h u (by simp[hu])
theorem dP{t:Tm}(h:cq t=0):az t<=10000:=fE (lF h).1
theorem EN{p:List cW}(h:∀d∈p,cq d.tm=0):(eR p).length<=p.length * 10000:=by
 induction p with
 |nil=>simp[eR]
 |cons d p ih=>
  have h1:=ih λx hx=>h x (by simp[hx])
  have h2:=fj d.tm;have h3:=dP (h d (by simp));simp only[eR,acM,aba,abg]at h1 ⊢;omega
theorem Bc{p:List cW}(h:∀d∈p,cq d.tm=0):∀t∈eR p,az t<=10000:=by
 intro t ht
 obtain⟨d,hd,ht⟩:=abY.1 ht;have:=jP ht;have:=dP (h d hd);omega
theorem xv(l:List cW)(hl:l.length<1000000000)(hb:∀d∈l,d.kn.length<10000000/\∀t∈d.kn++[d.tm],az t<10000000):aL C 30 [.aa false (aQ l)] (.int .i64 (iv l)):=by
 have cz:=cj l;refine aL.x T6 Tryz.func30 rfl ?_;refine wC (λhc=>?_) λhc=>?_;exact⟨_,rfl,by rw[iv,if_pos (by omega)];rfl⟩;have VH:iv l=mo none [] l:=by rw[iv,if_neg (by omega)]
 refine dw.zip T6 l (λp q L H=>∃v,L=[(0,.aa false (aQ l)),(3,.ptr 0 0 0 0),(14,.aa false (aQ l)),(15,.int .i64 (aQ l).length),(16,.int .i64 p.length)]/\HR H/\H[0]?=some ⟨.m,0,1,[v]⟩/\Out 4 H v (ae (eR p))/\(∀i∈cg v,1<=i)/\iv l=mo (nH p) (eR p) q/\∀d∈p,cq d.tm=0) (.nx ⟨_,rfl,(HV.one (by simp)).hr,rfl,.inl ⟨rfl,rfl⟩,by simp[cg],VH,by simp⟩) ?_ ?_
 ·rintro p d q _ H Y e ⟨v,rfl,hH,h0,ho,hv,hs,hp⟩;have cC:=ir e;have dO:=lenE e;obtain⟨FU,CF⟩:=hb d (by rw[e];simp);have htf:=AL d FU;have hek:=ak d.kn;rw[mo]at hs;rw[oh]at htf;refine wC (λhc=>?_) λhc=>?_;exact⟨_,rfl,by rw[hs,if_pos (by omega)];rfl⟩;rw[if_neg (by omega)]at hs
  skip
  refine .p htf ?_;refine wA ?_;obtain⟨H2,oR⟩:∃x,x=H++[⟨.m,0,5,[.agg [.aa false (ae d.kn),.int .i64 d.tm.k,.str d.tm.s,.int .i64 d.tm.o,.aa false (ae d.tm.l)]]⟩]:=⟨_,rfl⟩;have b2:H2[H.length]?=some ⟨.m,0,5,[.agg [.aa false (ae d.kn),.int .i64 d.tm.k,.str d.tm.s,.int .i64 d.tm.o,.aa false (ae d.tm.l)]]⟩:=by rw[oR];simp
  have z2:H2[0]?=some ⟨.m,0,1,[v]⟩:=by rw[oR,aa3 (ag h0)];exact h0
  have r2:HR H2:=by rw[oR];exact hH.dg (HV.one (by simp))
  have o2:Out 4 H2 v (ae (eR p)):=by rw[oR];exact ho.c8 _
  have ekt:=ak (d.kn++[d.tm]);rw[<-oR];refine dw.zip T6 (d.kn++[d.tm]) (λp2 q2 L K=>L=[(0,.aa false (aQ l)),(3,.ptr 0 0 0 0),(4,.int .i64 p.length),(5,.ptr H.length 0 0 0),(14,.aa false (aQ l)),(15,.int .i64 (aQ l).length),(16,.int .i64 p.length),(26,.aa false (ae (d.kn++[d.tm]))),(27,.int .i64 (ae (d.kn++[d.tm])).length),(28,.int .i64 p2.length)]/\fW H2 K/\∀u∈p2,cq u=0) (.nx ⟨rfl,fW.refl _,by simp⟩) ?_ ?_
  ·rintro p2 u q2 _ K Y e2 ⟨rfl,hE,Kr⟩;have na:=bD e2;have CB:=congrArg List.length e2;rw[aba,aba]at CB;simp only[abg,abH]at CB;rw[aba]at ekt;simp only[abg,abH]at ekt;have hri:=Hk u (CF u (by rw[e2];simp));rw[aw]at hri;refine wA ?_;refine .p hri ?_;refine wC (λhc=>?_) λhc=>?_;exact .nx ⟨rfl,hE.c8 (HV.one (by simp)),λw hw=>by rcases aa9.1 hw with h |h;exact Kr w h;simp at h;rw[h];assumption⟩
   ·have hra:=Bb e2 Kr (by assumption);exact⟨_,rfl,by rw[hs,hra,if_pos (by assumption)];rfl⟩
  ·rintro _ K Y ⟨rfl,hE,Kr⟩;rw[if_neg (by rw[vw Kr];simp)]at hs;have bK:=hE.at b2;have zK:=hE.at z2;have rK:HR K:=by obtain⟨J,hJ,rfl⟩:=hE;exact r2.dg hJ
   have oK:Out 4 K v (ae (eR p)):=by obtain⟨J,hJ,rfl⟩:=hE;exact o2.c8 _
   have BU:=Bc hp;have CA:=EN hp;have oH:p.length<41:=by omega
   by_cases JX:p=[]
   ·have Pu:kept (nH p) d.kn=true:=by rw[JX];rfl
    rw[Pu,if_neg (by simp)]at hs;have Uf:p.length=0:=by rw[JX];rfl
    refine wA ?_;obtain⟨K3,hK3⟩:∃x,x=K:=⟨_,rfl⟩;rw[<-hK3]at bK zK rK oK ⊢;have b3:=bK;have z3:=zK;have r3:=rK;have o3:=oK;have ekn:=ak d.kn;refine dw.zip T6 d.kn (λp4 q4 L K4=>L=[(0,.aa false (aQ l)),(3,.ptr 0 0 0 0),(5,.ptr H.length 0 0 0),(14,.aa false (aQ l)),(15,.int .i64 (aQ l).length),(16,.int .i64 p.length),(51,.aa false (ae d.kn)),(52,.int .i64 (ae d.kn).length),(53,.int .i64 p4.length)]/\fW K3 K4/\∀u∈p4,((bz u).all λx=>cm (eR p) x)=true) (.nx ⟨rfl,fW.refl _,by simp⟩) ?_ ?_
    ·rintro p4 u q4 _ K4 Y e4 ⟨rfl,zH,Hm⟩;have Mv:=bD e4;have Qa:=lenE e4;have W7:cq u=0:=Kr u (by rw[e4];simp);have VF:=dP W7;have Ve:=lL u (by omega);have MZ:=fj u;have r5:HR (K4++[⟨.m,0,4,[enc u]⟩]):=by obtain⟨J,hJ,rfl⟩:=zH;exact(r3.dg hJ).dg (HV.one (by simp))
     have z5:(K4++[⟨.m,0,4,[enc u]⟩])[0]?=some ⟨.m,0,1,[v]⟩:=by rw[aa3 (ag (zH.at z3))];exact zH.at z3
     have o5:Out 4 (K4++[⟨.m,0,4,[enc u]⟩]) v (ae (eR p)):=by obtain⟨J,hJ,rfl⟩:=zH;exact(o3.c8 _).c8 _
     have Ho:=qB (bz u) 89 [.ptr 0 0 0 0] (λx=>!cm (eR p) x) (K4++[⟨.m,0,4,[enc u]⟩]) (by omega) (λx hx=>hZ.opened λH' hE=>by
      have DY:=jP hx;obtain⟨J,hJ,rfl⟩:=hE;exact yN (eR p) v x (by omega) (by omega) (λt ht=>by have:=BU t ht;omega) 0 _ ((r5.dg hJ).dg (HV.one (by simp))).closed (by rw[aa3 (ag z5)];exact z5) (o5.c8 _))
     rw[aw]at Ve Ho;refine wA ?_;refine .p Ve ?_;refine wA ?_;refine .ex Ho (λh' hE5=>?_)
     cases mF:(bz u).any λx=>!cm (eR p) x
     ·have ek:((bz u).all λx=>cm (eR p) x)=true:=by
       rw[ab9]at mF;rw[aa4]
       intro x hx
       simpa using mF x hx
      refine wA ?_;exact .nx ⟨rfl,(zH.c8 (HV.one (by simp))).trans hE5,λw hw=>by rcases aa9.1 hw with h |h;exact Hm w h;simp at h;rw[h];exact ek⟩
     ·have rU:CH (eR p) d.kn=false:=by
       unfold CH;rw[acN];refine⟨u,by rw[e4];simp,?_⟩;obtain⟨x,hx,DY⟩:=ab3.1 mF;rw[aa4]
       intro h
       have:=h x hx;simp[this]at DY
      refine wA ?_;exact⟨_,rfl,by rw[hs,if_pos rU];rfl⟩
    ·rintro _ K4 Y ⟨rfl,zH,Hm⟩
     have rU:CH (eR p) d.kn=true:=by
      unfold CH;rw[aa4];exact Hm
     rw[rU,if_neg (by simp)]at hs;have b6:=zH.at b3;have z6:=zH.at z3;have r6:HR K4:=by obtain⟨J,hJ,rfl⟩:=zH;exact r3.dg hJ
     have o6:Out 4 K4 v (ae (eR p)):=by obtain⟨J,hJ,rfl⟩:=zH;exact o3.c8 _
     have TR:cq d.tm=0:=Kr d.tm (by simp);have TF:=dP TR;have Jo:=lL d.tm (by omega);have MZ:=fj d.tm;rw[aw]at Jo;have o7:=o6;have k6:=ag z6;have E5:=ak (bz d.tm);have LZ:=ak (eR p);rcases o7 with⟨rfl,e7⟩|⟨id7,ep7,rfl,e7⟩
     all_goals
      refine wA ?_;refine .p Jo ?_;refine wA ?_;refine .lr (λv' h' lr=>?_) o6;have f0:h'[0]?=K4[0]?:=lr.fr 0 k6 (λep n hh=>by have:=hv 0 (by rw[hh];simp[cg]);omega);rw[z6]at f0;have lo:=lr.out;have lh:=lr.hr;have kh:=ag f0
      have hw:∀i∈cg v',1<=i:=λi hi=>by
       rcases lr.cg i hi with h |h;exact hv i h;omega
      have Vz:=lo.bw;rw[<-cc,<-iY]at lo;rcases lo with⟨rfl,e8⟩|⟨id8,ep8,rfl,e8⟩
      all_goals
       refine wA ?_;refine .nx ⟨_,rfl,lh.set _ (by simp) (by simpa[bL,bw]using Vz),aa7 kh,?_,hw,by rw[j0,iY];exact hs,λw hw=>by rcases aa9.1 hw with h |h;exact hp w h;simp at h;rw[h];exact TR⟩
       first
        |exact .inl ⟨rfl,e8⟩
        |exact .inr ⟨id8,ep8,rfl,(aa8 (by have:=hw id8 (by simp[cg]);omega)).trans e8⟩
   ·obtain⟨p',e0,va⟩:∃p' e0,p=p'++[e0]:=by
     rcases adu p with h |⟨a,b,h⟩;exact absurd h JX;exact⟨a,b,by rw[h];simp⟩
    have sj:=ir (l:=l) (p:=p') (d:=e0) (q:=d::q) (by rw[e,va];simp);have Uf:p.length=p'.length+1:=by rw[va];simp
    have BQ:nH p=some e0.kn:=by rw[va,j0]
    obtain⟨aaZ,aaH⟩:=hb e0 (by rw[e,va];simp)
    have Ho:=qB e0.kn 87 [.ptr H.length 0 0 0] (λu=>!cm d.kn u) K (by omega) (λx hx=>hZ.opened λH' hE=>by
     obtain⟨J,hJ,rfl⟩:=hE;exact Hl d x (by have:=aaH x (by simp[hx]);omega) (by omega) (λt ht=>by have:=CF t (by simp[ht]);omega) H.length _ ((rK.dg hJ).dg (HV.one (by simp))).closed (by rw[aa3 (ag bK)];exact bK))
    refine wA ?_;refine .mk (n:=p'.length) ?_ (by omega) sj rfl;refine wA ?_;refine .ex Ho (λK3 hE3=>?_)
    cases mF:e0.kn.any λu=>!cm d.kn u
    ·have Wa:kept (nH p) d.kn=true:=by
      rw[BQ];show(e0.kn.all λt=>cm d.kn t)=true;rw[ab9]at mF;rw[aa4]
      intro x hx
      simpa using mF x hx
     rw[Wa,if_neg (by simp)]at hs;have b3:=hE3.at bK;have z3:=hE3.at zK;have r3:HR K3:=by obtain⟨J,hJ,rfl⟩:=hE3;exact rK.dg hJ
     have o3:Out 4 K3 v (ae (eR p)):=by obtain⟨J,hJ,rfl⟩:=hE3;exact oK.c8 _
     refine wA ?_;have ekn:=ak d.kn;refine dw.zip T6 d.kn (λp4 q4 L K4=>L=[(0,.aa false (aQ l)),(3,.ptr 0 0 0 0),(5,.ptr H.length 0 0 0),(14,.aa false (aQ l)),(15,.int .i64 (aQ l).length),(16,.int .i64 p.length),(51,.aa false (ae d.kn)),(52,.int .i64 (ae d.kn).length),(53,.int .i64 p4.length)]/\fW K3 K4/\∀u∈p4,((bz u).all λx=>cm (eR p) x)=true) (.nx ⟨rfl,fW.refl _,by simp⟩) ?_ ?_
     ·rintro p4 u q4 _ K4 Y e4 ⟨rfl,zH,Hm⟩;have Mv:=bD e4;have Qa:=lenE e4;have W7:cq u=0:=Kr u (by rw[e4];simp);have VF:=dP W7;have Ve:=lL u (by omega);have MZ:=fj u;have r5:HR (K4++[⟨.m,0,4,[enc u]⟩]):=by obtain⟨J,hJ,rfl⟩:=zH;exact(r3.dg hJ).dg (HV.one (by simp))
      have z5:(K4++[⟨.m,0,4,[enc u]⟩])[0]?=some ⟨.m,0,1,[v]⟩:=by rw[aa3 (ag (zH.at z3))];exact zH.at z3
      have o5:Out 4 (K4++[⟨.m,0,4,[enc u]⟩]) v (ae (eR p)):=by obtain⟨J,hJ,rfl⟩:=zH;exact(o3.c8 _).c8 _
      have Ho:=qB (bz u) 89 [.ptr 0 0 0 0] (λx=>!cm (eR p) x) (K4++[⟨.m,0,4,[enc u]⟩]) (by omega) (λx hx=>hZ.opened λH' hE=>by
       have DY:=jP hx;obtain⟨J,hJ,rfl⟩:=hE;exact yN (eR p) v x (by omega) (by omega) (λt ht=>by have:=BU t ht;omega) 0 _ ((r5.dg hJ).dg (HV.one (by simp))).closed (by rw[aa3 (ag z5)];exact z5) (o5.c8 _))
      rw[aw]at Ve Ho;refine wA ?_;refine .p Ve ?_;refine wA ?_;refine .ex Ho (λh' hE5=>?_)
      cases mF:(bz u).any λx=>!cm (eR p) x
      ·have ek:((bz u).all λx=>cm (eR p) x)=true:=by
        rw[ab9]at mF;rw[aa4]
        intro x hx
        simpa using mF x hx
       refine wA ?_;exact .nx ⟨rfl,(zH.c8 (HV.one (by simp))).trans hE5,λw hw=>by rcases aa9.1 hw with h |h;exact Hm w h;simp at h;rw[h];exact ek⟩
      ·have rU:CH (eR p) d.kn=false:=by
        unfold CH;rw[acN];refine⟨u,by rw[e4];simp,?_⟩;obtain⟨x,hx,DY⟩:=ab3.1 mF;rw[aa4]
        intro h
        have:=h x hx;simp[this]at DY
       refine wA ?_;exact⟨_,rfl,by rw[hs,if_pos rU];rfl⟩
     ·rintro _ K4 Y ⟨rfl,zH,Hm⟩
      have rU:CH (eR p) d.kn=true:=by
       unfold CH;rw[aa4];exact Hm
      rw[rU,if_neg (by simp)]at hs;have b6:=zH.at b3;have z6:=zH.at z3;have r6:HR K4:=by obtain⟨J,hJ,rfl⟩:=zH;exact r3.dg hJ
      have o6:Out 4 K4 v (ae (eR p)):=by obtain⟨J,hJ,rfl⟩:=zH;exact o3.c8 _
      have TR:cq d.tm=0:=Kr d.tm (by simp);have TF:=dP TR;have Jo:=lL d.tm (by omega);have MZ:=fj d.tm;rw[aw]at Jo;have o7:=o6;have k6:=ag z6;have E5:=ak (bz d.tm);have LZ:=ak (eR p);rcases o7 with⟨rfl,e7⟩|⟨id7,ep7,rfl,e7⟩
      all_goals
       refine wA ?_;refine .p Jo ?_;refine wA ?_;refine .lr (λv' h' lr=>?_) o6;have f0:h'[0]?=K4[0]?:=lr.fr 0 k6 (λep n hh=>by have:=hv 0 (by rw[hh];simp[cg]);omega);rw[z6]at f0;have lo:=lr.out;have lh:=lr.hr;have kh:=ag f0
       have hw:∀i∈cg v',1<=i:=λi hi=>by
        rcases lr.cg i hi with h |h;exact hv i h;omega
       have Vz:=lo.bw;rw[<-cc,<-iY]at lo;rcases lo with⟨rfl,e8⟩|⟨id8,ep8,rfl,e8⟩
       all_goals
        refine wA ?_;refine .nx ⟨_,rfl,lh.set _ (by simp) (by simpa[bL,bw]using Vz),aa7 kh,?_,hw,by rw[j0,iY];exact hs,λw hw=>by rcases aa9.1 hw with h |h;exact hp w h;simp at h;rw[h];exact TR⟩
        first
         |exact .inl ⟨rfl,e8⟩
         |exact .inr ⟨id8,ep8,rfl,(aa8 (by have:=hw id8 (by simp[cg]);omega)).trans e8⟩
    ·have Wa:kept (nH p) d.kn=false:=by
      rw[BQ];show(e0.kn.all λt=>cm d.kn t)=false;obtain⟨x,hx,DY⟩:=ab3.1 mF;rw[acN];exact⟨x,hx,by simpa using DY⟩
     refine wA ?_;exact⟨_,rfl,by rw[hs,if_pos Wa];rfl⟩
 ·rintro _ H Y ⟨v,rfl,hH,h0,ho,hv,hs,hp⟩;refine wA ?_;exact⟨_,rfl,by rw[hs,mo];rfl⟩
theorem K9(x t:Tm)(hx:az x<100000000)(ht:az t<100000000):aL C 99 [enc x,enc t] (.bool (xk x t)):=by
 have h1:=(fi x hx).nine;have h2:=(fi t ht).nine;rw[aw]at h1 h2 ⊢;rw[aw t];refine aL.x T6 Tryz.func99 rfl ?_;refine wA ?_;refine .p h1 ?_;refine wC (λhc=>?_) λhc=>?_
 ·refine .p h2 ?_
  (repeat' (first |(refine Rn.go ?_;conv=>whnf)|refine .mk ?_ |refine .mk (λhc=>?_) λhc=>?_ |fail))
  all_goals exact⟨_,rfl,by simp[aT,xk, *]⟩
 exact⟨_,rfl,by simp[aT,xk, *]⟩
theorem Wb{q:List dp}{b:dp}{o:Option Tm}(hb:CJ b≠0):oI o (b::q)=CJ b:=by rw[oI,if_pos hb]
def Be(p:List dp):Option Tm:=p.getLast?.map dp.v
theorem rP(p:List dp)(d:dp):Be (p++[d])=some d.v:=by simp[Be]
theorem ya(s:List dp)(hl:s.length<1000000000)(hb:∀b∈s,az b.v<100000000/\az b.t<100000000):aL C 48 [.aa false (bO s)] (.int .i64 (lY s)):=by
 have cz:=jO s;refine aL.x T6 Tryz.func48 rfl ?_;refine wC (λhc=>?_) λhc=>?_;exact⟨_,rfl,by rw[lY,if_pos (by omega)];rfl⟩;have VH:lY s=oI none s:=by rw[lY,if_neg (by omega)]
 refine dw.zip T6 s (λp q L H=>L=[(0,.aa false (bO s)),(10,.aa false (bO s)),(11,.int .i64 (bO s).length),(12,.int .i64 p.length)]/\HV H/\lY s=oI (Be p) q) (.nx ⟨rfl,HV.nil,VH⟩) ?_ ?_
 ·rintro p b q _ H Y e ⟨rfl,hH,hs⟩;have cC:=nf e;have dO:=lenE e;obtain⟨hbv,TF⟩:=hb b (by rw[e];simp);have h1:=(fi b.v hbv).nine;have h2:=(fi b.t TF).nine;have h3:=(eF b.v b.t (by omega) (by omega)).nine;have h4:=K9 b.v b.t hbv TF;rw[aw]at h1 h2 h3 h4;rw[aw b.t]at h3 h4;have hE:∀n,CJ b=n->n≠0->lY s=n:=λn h h'=>by rw[hs,Wb (q:=q) (by rw[h];exact h'),h]
  have hN:CJ b=0->lY s=if behind (Be p) b.v=false then 5 else oI (some b.v) q:=λh=>by rw[hs,oI,if_neg (by rw[h];simp)]
  refine wA ?_;refine .p h1 ?_;refine wJ (λhc hc=>?_) (λhc hc=>?_) λhc=>?_
  ·have C2:valid b.v=0:=by omega
   have hk1:b.v.k=1:=by omega
   refine .p h3 ?_;refine wC (λhc=>?_) λhc=>?_;exact⟨_,rfl,by rw[hE 1 (by rw[CJ,if_neg (by omega),if_pos (.inr (by assumption))]) (by decide)];rfl⟩
   ·have Eh:¬(b.v.k≠1\/aW b.v b.t=0):=by omega
    refine .p h2 ?_;refine wC (λhc=>?_) λhc=>?_
    ·have ht0:valid b.t=0:=by omega
     refine .p h4 ?_
     cases hf:xk b.v b.t
     ·refine wA ?_;exact⟨_,rfl,by rw[hE 10 (by rw[CJ,if_neg (by omega),if_neg Eh,if_neg (by omega),if_pos hf]) (by decide)];rfl⟩
     ·have HE:=hN (by rw[CJ,if_neg (by omega),if_neg Eh,if_neg (by omega),if_neg (by rw[hf];simp)])
      by_cases JX:p=[]
      ·have Pu:behind (Be p) b.v=true:=by rw[JX];rfl
       rw[Pu,if_neg (by simp)]at HE;have Uf:p.length=0:=by rw[JX];rfl
       refine wA ?_;exact .nx ⟨rfl,hH.c8 (HV.one (by simp)),by rw[rP];exact HE⟩
      ·obtain⟨p',e0,va⟩:∃p' e0,p=p'++[e0]:=by
        rcases adu p with h |⟨a,b,h⟩;exact absurd h JX;exact⟨a,b,by rw[h];simp⟩
       have sj:=nf (l:=s) (p:=p') (b:=e0) (q:=b::q) (by rw[e,va];simp);have Uf:p.length=p'.length+1:=by rw[va];simp
       have BQ:Be p=some e0.v:=by rw[va,rP]
       have h5:=(eF e0.v b.v (by have:=(hb e0 (by rw[e,va];simp)).1;omega) (by omega)).nine;rw[aw,aw b.v]at h5;rw[BQ]at HE;refine wA ?_;refine .mk (n:=p'.length) ?_ (by omega) sj rfl;refine wA ?_;refine .p h5 ?_;refine wC (λhc=>?_) λhc=>?_;exact⟨_,rfl,by rw[HE,if_pos (by simp[behind];omega)];rfl⟩;exact .nx ⟨rfl,hH.c8 (HV.one (by simp)),by rw[rP,HE,if_neg (by simp[behind];omega)]⟩
    exact⟨_,rfl,by rw[hE (valid b.t) (by rw[CJ,if_neg (by omega),if_neg Eh,if_pos (by omega)]) (by omega)];rfl⟩
  exact⟨_,rfl,by rw[hE 1 (by rw[CJ,if_neg (by omega),if_pos (.inl (by assumption))]) (by decide)];rfl⟩;exact⟨_,rfl,by rw[hE (valid b.v) (by rw[CJ,if_pos (by omega)]) (by omega)];rfl⟩
 ·rintro _ H Y ⟨rfl,hH,hs⟩;refine wA ?_;exact⟨_,rfl,by rw[hs];rfl⟩
end bh
def O'(l:List dp):Prop:=l.Pairwise λp q=>aW p.v q.v<0
def Cu(t:Tm):List dp->Nat
 |[]=>0
 |p::l=>if aW p.v t<0 then Cu t l+1 else 0
theorem Pa(t:Tm):∀l:List dp,Cu t l<=l.length
 |[]=>by simp[Cu]
 |p::l=>by
  have:=Pa t l;rw[Cu]
  split <;>simp <;>omega
theorem IN(t:Tm):∀(l:List dp),O' l->∀(m:Nat) (p:dp),l[m]?=some p->(aW p.v t<0↔m<Cu t l)
 |[],_,m,p,h=>by simp at h
 |q::l,s,m,p,h=>by
  obtain⟨s1,s2⟩:=abr.1 s;rw[Cu]
  cases m with
  |zero=>
   simp at h;subst h
   split
   simp;assumption;simp;omega
  |succ m=>
   have h':l[m]?=some p:=by simpa using h
   have ih:=IN t l s2 m p h';have hm:=s1 p (abh h')
   split
   rw[ih];omega
   ·rename_i hq
    constructor
    ·intro hp
     exact absurd (eD hm hp) hq
    intro hh;omega
def Lr(t:Tm)(l:List dp):Bool:=match l[Cu t l]? with |some p=>decide (aW p.v t=0)|none=>false
theorem Bf:∀{s:List dp} {x:Tm},(∀b∈s,aW b.v x≠0)->lE s x=x
 |[],_,_=>rfl
 |b::s,x,h=>by
  rw[lE,if_neg (h b (by simp))];exact Bf λc hc=>h c (by simp[hc])
theorem IP(x:Tm):∀(s:List dp),O' s->(∀b,s[Cu x s]?=some b->aW b.v x=0->lE s x=b.t)/\(Lr x s=false->lE s x=x)
 |[],_=>⟨λb h=>by simp at h,λ_=>rfl⟩
 |c::s,hs=>by
  obtain⟨s1,s2⟩:=abr.1 hs;obtain⟨ih1,ih2⟩:=IP x s s2
  by_cases hc:aW c.v x<0
  ·have hl:Cu x (c::s)=Cu x s+1:=by rw[Cu,if_pos hc]
   have hg:lE (c::s) x=lE s x:=by rw[lE,if_neg (by omega)]
   have hf:Lr x (c::s)=Lr x s:=by unfold Lr;rw[hl];simp
   rw[hl,hg,hf];exact⟨λb h=>ih1 b (by simpa using h),ih2⟩
  ·have hl:Cu x (c::s)=0:=by rw[Cu,if_neg hc]
   have hf:Lr x (c::s)=decide (aW c.v x=0):=by unfold Lr;rw[hl];rfl
   rw[hl,hf];refine⟨λb h h0=>?_,λh=>?_⟩
   ·simp at h;subst h;rw[lE,if_pos h0]
   ·have h0:aW c.v x≠0:=of_decide_eq_false h;refine Bf λb hb=>?_;rcases abc.1 hb with rfl |hb;exact h0
    ·intro h1
     have h2:=s1 b hb;have h3:=dm h1;subst h3;exact hc h2
namespace bh
open Go.Proofs
attribute [local irreducible] aD ay aJ aG Ev ah ai ax aZ bE
theorem mr{h:ab}{k o:Int}{n:ByteArray}{l:List Tm}{x:PV}(hx:kY h x=some x:=by rfl)(hn:bW x=x:=by rfl):∃r1,rb h (aT [.agg (List.take (3+1) (List.drop 0 (cells (.agg [.int .i64 k,.str n,.int .i64 o,.aa false (ae l)])))),x])=some r1/\bW r1=.cy [.agg [.int .i64 k,.str n,.int .i64 o,.aa false (ae l)],x]:=by
 refine⟨.cy [.agg [.int .i64 k,.str n,.int .i64 o,.aa false (ae l)],x],?_,by simp[bW,aU,hn]⟩;simp only[aT,rb,ie,hx];simp[kY,nP,oE,cells]
theorem K'(b:dp)(t:Tm)(hb:az b.v<100000000)(ht:az t<100000000):aL C 257 [rr b,enc t] (.int .i64 (aW b.v t)):=by
 have h1:=(eF b.v t (by omega) (by omega)).nine;rw[aw,aw t]at h1;rw[xj,aw];refine aL.x T6 Tryz.func257 rfl ?_;refine wA ?_;refine .p h1 ?_;refine wA ?_;exact⟨_,rfl,rfl⟩
theorem Pb(l:List dp)(t:Tm)(hs:O' l)(hl:l.length<100000000)(hb:∀b∈l,az b.v<100000000)(ht:az t<100000000):
  aL C 256 [.aa false (bO l),enc t,.fn 257 []] (.cy [.int .i64 (Cu t l),.bool (Lr t l)]):=by
 have hle:=Pa t l;have Pp:=IN t l hs;have pq:Lr t l=match l[Cu t l]? with |some p=>decide (aW p.v t=0)|none=>false:=rfl
 have cz:=jO l;generalize Lr t l=FD at pq ⊢;generalize Cu t l=LB at hle Pp pq ⊢
 have elem:∀m,m<l.length->∃b,l[m]?=some b/\(bO l)[m]?=some (.agg [.int .i64 b.v.k,.str b.v.s,.int .i64 b.v.o,.aa false (ae b.v.l),.int .i64 b.t.k,.str b.t.s,.int .i64 b.t.o,.aa false (ae b.t.l)])/\aL C 257 [rr b,enc t] (.int .i64 (aW b.v t)):=λm hm=>by
  have h1:l[m]?=some l[m]:=aa6 hm;exact⟨_,h1,Ac h1,K' _ t (hb _ (abh h1)) ht⟩
 rw[aw]at elem ⊢;refine aL.x T6 Tryz.func256 rfl ?_;refine wA ?_;refine dw.nat T6 (λk L H=>∃i j:Nat,L=[(0,.aa false (bO l)),(2,.fn 257 []),(4,.ptr 0 0 0 0),(8,.int .i64 (bO l).length),(9,.int .i64 i),(10,.int .i64 j)]/\H=[⟨.m,0,4,[.agg [.int .i64 t.k,.str t.s,.int .i64 t.o,.aa false (ae t.l)]]⟩]/\k=j - i/\i<=LB/\LB<=j/\j<=l.length) l.length (.nx ⟨0,(bO l).length,rfl,rfl,by omega,by omega,by omega,by omega⟩) ?_;rintro k _ _ Y ⟨i,j,rfl,rfl,hk,i1,i2,i3⟩
 by_cases Qr:i<j
 ·obtain⟨m,YH⟩:∃m:Nat,((i:Int)+j) / 2=m:=⟨(i+j) / 2,by omega⟩;obtain⟨b,h1,cC,rf⟩:=elem m (by omega);have PO:=Pp m _ h1;rw[xj]at rf;refine wA ?_;refine .mk (n:=m) ?_ YH cC;refine wA ?_;refine .p rf ?_;refine wC (λhc=>?_) λhc=>?_;exact .nx ⟨j - (m+1),by omega,m+1,j,rfl,rfl,rfl,by omega,by omega,by omega⟩;exact .nx ⟨m - i,by omega,i,m,rfl,rfl,rfl,by omega,by omega,by omega⟩
 ·have hi:i=LB:=by omega
  subst hi
  by_cases mR:i<l.length
  ·obtain⟨b,h1,cC,rf⟩:=elem i mR;rw[h1]at pq;dsimp only at pq;rw[xj]at rf;refine wA ?_;refine .p rf ?_;refine wC (λhc=>?_) λhc=>?_
   all_goals exact⟨_,rfl,by rw[pq];simp[aT,bW,aU, *]⟩
  ·rw[abl (by omega)]at pq;refine wA ?_;exact⟨_,rfl,by rw[pq];rfl⟩
theorem qs(l:List dp)(t:Tm)(hs:O' l)(hl:l.length<100000000)(hb:∀b∈l,az b.v<100000000)(ht:az t<100000000):aL C 201 [.aa false (bO l),enc t] (.cy [enc (lE l t),.bool (Lr t l)]):=by
 have h1:=Pb l t hs hl hb ht;obtain⟨g1,g2⟩:=IP t l hs;have pq:Lr t l=match l[Cu t l]? with |some p=>decide (aW p.v t=0)|none=>false:=rfl
 have cz:=jO l;rw[aw]at h1;rw[aw t];refine aL.x T6 Tryz.func201 rfl ?_;refine wA ?_;refine .p h1 ?_
 cases hf:Lr t l
 ·rw[g2 hf,aw];refine wA ?_;exact mr
 ·obtain⟨b,xg,tL⟩:∃b,l[Cu t l]?=some b/\aW b.v t=0:=by
   rw[hf]at pq
   cases hx:l[Cu t l]? with
   |none=>rw[hx]at pq;cases pq
   |some b=>rw[hx]at pq;exact⟨b,rfl,of_decide_eq_true pq.symm⟩
  rw[g1 b xg tL,aw];have cC:=Ac xg;have cL:=ag xg;refine wA ?_;exact mr
theorem TE{h:ab}{k o:Int}{n:ByteArray}{l:List Tm}:∃r1,rb h (aT [.agg (List.take (3+1) (List.drop 0 (cells (.agg [.int .i64 k,.str n,.int .i64 o,.aa false (ae l)]))))])=some r1/\bW r1=.agg [.int .i64 k,.str n,.int .i64 o,.aa false (ae l)]:=by
 refine⟨.agg [.int .i64 k,.str n,.int .i64 o,.aa false (ae l)],?_,by simp[bW,aU]⟩;simp[aT,rb,kY,nP,oE,cells]
theorem Sh{A B:List Tm}{x y:Tm}{n:Nat}(h:n=A.length):(A++x::B).set n y=A++y::B:=by
 subst h
 induction A with
 |nil=>rfl
 |cons a A ih=>simpa using ih
theorem lN{l:List Tm}(h0:l≠[])(hl:l.length<1000000000)(H:ab):bB 4 [.aa false (ae l)] H=some (.aj H.length 0 0 l.length,H++[⟨.m,0,4,ae l⟩]):=by
 have cz:=ak l;have h1:(ae l).isEmpty=false:=by cases l with |nil=>exact absurd rfl h0 |cons=>rfl
 simp only[bB,h1,abi,if_false];rw[if_pos ⟨nX _,by omega⟩,cz]
 rfl
theorem La(k s o l)(hl:l.length<100000000)(ih:∀t∈l,aL C 202 [enc t] (enc t)):aL C 202 [enc (.mk k s o l)] (enc (.mk k s o l)):=by
 have cz:=ak l;rw[bo];refine aL.x T6 Tryz.func202 rfl ?_
 by_cases h0:l=[]
 ·subst h0;refine wA ?_;refine ai.cD rfl rfl ?_;refine wA ?_
  have HG:HR [⟨.m,0,4,[.agg [.int .i64 k,.str s,.int .i64 o,.aa true []]]⟩,⟨.m,0,4,[.agg [.int .i64 0,.str ByteArray.empty,.int .i64 0,.aa true []]]⟩]:=by
   intro x hx
   simp at hx;rcases hx with rfl |rfl <;>simp[bL,bw]
  refine dw.zip T6 ([]:List Tm) (λp q L K=>L=[(1,.ptr 0 0 0 0),(2,.ptr 1 0 0 0),(10,.aa true []),(11,.int .i64 0),(12,.int .i64 p.length)]/\K=[⟨.m,0,4,[.agg [.int .i64 k,.str s,.int .i64 o,.aa true []]]⟩,⟨.m,0,4,[.agg [.int .i64 0,.str ByteArray.empty,.int .i64 0,.aa true []]]⟩]) (.nx ⟨rfl,rfl⟩) ?_ ?_
  ·rintro p u q _ K Y e _
   cases p <;>cases e
  ·rintro _ K Y ⟨rfl,rfl⟩;refine wA ?_;exact⟨_,rfl,rfl⟩
 ·refine wA ?_;refine ai.cD rfl (lN h0 (by omega) _) ?_;refine wA ?_
  have HG:HR [⟨.m,0,4,[.agg [.int .i64 k,.str s,.int .i64 o,.aj 2 0 0 l.length]]⟩,⟨.m,0,4,[.agg [.int .i64 0,.str ByteArray.empty,.int .i64 0,.aa true []]]⟩,⟨.m,0,4,ae l⟩]:=by
   intro x hx
   simp at hx;rcases hx with rfl |rfl |rfl;simp[bL,bw];simp[bL,bw];exact⟨by simp,bt _ _ (by simp)⟩
  refine dw.zip T6 l (λp q L H=>L=[(1,.ptr 0 0 0 0),(2,.ptr 1 0 0 0),(10,.aj 2 0 0 l.length),(11,.int .i64 l.length),(12,.int .i64 p.length)]/\HR H/\H[0]?=some ⟨.m,0,4,[.agg [.int .i64 k,.str s,.int .i64 o,.aj 2 0 0 l.length]]⟩/\H[1]?=some ⟨.m,0,4,[.agg [.int .i64 0,.str ByteArray.empty,.int .i64 0,.aa true []]]⟩/\H[2]?=some ⟨.m,0,4,ae l⟩) (.nx ⟨rfl,HG,rfl,rfl,rfl⟩) ?_ ?_
  ·rintro p u q _ H Y e ⟨rfl,hH,g0,g1,g2⟩;have sj:=bD e;have cC:(ae l)[0+p.length]?=some (.agg [.int .i64 u.k,.str u.s,.int .i64 u.o,.aa false (ae u.l)]):=by rw[abp];exact sj
   have jm:=da cC;have dO:=lenE e;have hi:=ih u (by rw[e];simp);rw[aw]at hi;have oR:HR (H++[⟨.m,0,4,[.agg [.int .i64 u.k,.str u.s,.int .i64 u.o,.aa false (ae u.l)]]⟩]):=hH.dg (HV.one (by simp));refine wA ?_;refine .p hi ?_;refine wA ?_;rw[jm];have k2:=ag g2;exact .nx ⟨rfl,oR.set 2 (by simp) (bt _ _ (by simp)),by rw[aa8 (by omega),aa3 (by omega)];exact g0,by rw[aa8 (by omega),aa3 (by omega)];exact g1,aa7 (by simp;omega)⟩
  ·rintro _ H Y ⟨rfl,hH,g0,g1,g2⟩;have k1:=ag g1;have e2:=aa7 (a:=(⟨.m,0,4,[.agg [.int .i64 k,.str s,.int .i64 o,.aj 2 0 0 l.length]]⟩:au)) k1;refine wA ?_;refine .mk ?_ (pT (T:=T6) rfl e2 rfl rfl rfl rfl);exact⟨Si (.inr ⟨2,0,by rw[cz],(aa8 (by omega)).trans g2⟩) (by simp) (by simp)⟩
theorem Hq(t:Tm)(hb:az t<100000000):aL C 202 [enc t] (enc t):=by
 induction t using Tm.ind with
 |h k s o l ih=>
  have:=bH l;simp only[az]at hb;exact La k s o l (by omega) λt ht=>ih t ht (by have:=bU ht;omega)
structure yO(s:List dp):Prop where
 CD:O' s
 len:s.length<100000000
 v:∀b∈s,az b.v<10000000
 t:∀b∈s,az b.t<10000000
theorem yO.get{s:List dp}(h:yO s){x:Tm}(hx:az x<10000000):az (lE s x)<10000000:=by
 have:=BC (B:=9999999) (x:=x) (s:=s) λb hb=>by have:=h.t b hb;omega
 omega
theorem Sj(S:List dp)(hS:yO S)(k s o l)(hb:az (.mk k s o l)<10000000)(ih:∀t∈l,aL C 157 [.aa false (bO S),enc t] (enc (cx S t))):aL C 157 [.aa false (bO S),enc (.mk k s o l)] (enc (cx S (.mk k s o l))):=by
 have cz:=ak l;have o8:=bH l;have hl:l.length<10000000:=by simp only[az]at hb;omega
 have hfi:=qs S (.mk k s o l) hS.CD hS.len (λb hb=>by have:=hS.v b hb;omega) (by omega);have dG:=Hq (lE S (.mk k s o l)) (by have:=hS.get hb;omega);obtain⟨g,hg⟩:∃g,g=lE S (.mk k s o l):=⟨_,rfl⟩;have hpv:k=1->cx S (.mk k s o l)=g:=λh=>by rw[cx,if_pos h,hg]
 have hpt:k≠1->cx S (.mk k s o l)=.mk k s o (b9 S l):=λh=>by rw[cx,if_neg h]
 rw[<-hg]at hfi dG;rw[aw g]at hfi dG;rw[bo]at hfi ⊢;refine aL.x T6 Tryz.func157 rfl ?_
 by_cases hk:k=1
 ·rw[hpv hk,aw];refine wA ?_;refine .p hfi ?_;refine wA ?_;refine .p dG ?_;refine wA ?_;exact TE
 ·rw[hpt hk,bo]
  by_cases h0:l=[]
  ·subst h0;refine wA ?_;refine ai.cD rfl rfl ?_;refine wA ?_;refine dw.zip T6 ([]:List Tm) (λp q L K=>L=[(0,.aa false (bO S)),(3,.ptr 0 0 0 0),(4,.ptr 1 0 0 0),(25,.aa true []),(26,.int .i64 0),(27,.int .i64 p.length)]/\K=[⟨.m,0,4,[.agg [.int .i64 k,.str s,.int .i64 o,.aa true []]]⟩,⟨.m,0,4,[.agg [.int .i64 0,.str ByteArray.empty,.int .i64 0,.aa true []]]⟩]) (.nx ⟨rfl,rfl⟩) ?_ ?_
   ·rintro p u q _ K Y e _
    cases p <;>cases e
   ·rintro _ K Y ⟨rfl,rfl⟩;refine wA ?_;exact⟨_,rfl,rfl⟩
  ·refine wA ?_;refine ai.cD rfl (lN h0 (by omega) _) ?_;refine wA ?_
   have HG:HR [⟨.m,0,4,[.agg [.int .i64 k,.str s,.int .i64 o,.aj 2 0 0 l.length]]⟩,⟨.m,0,4,[.agg [.int .i64 0,.str ByteArray.empty,.int .i64 0,.aa true []]]⟩,⟨.m,0,4,ae l⟩]:=by
    intro x hx
    simp at hx;rcases hx with rfl |rfl |rfl;simp[bL,bw];simp[bL,bw];exact⟨by simp,bt _ _ (by simp)⟩
   refine dw.zip T6 l (λp q L H=>L=[(0,.aa false (bO S)),(3,.ptr 0 0 0 0),(4,.ptr 1 0 0 0),(25,.aj 2 0 0 l.length),(26,.int .i64 l.length),(27,.int .i64 p.length)]/\HR H/\H[0]?=some ⟨.m,0,4,[.agg [.int .i64 k,.str s,.int .i64 o,.aj 2 0 0 l.length]]⟩/\H[1]?=some ⟨.m,0,4,[.agg [.int .i64 0,.str ByteArray.empty,.int .i64 0,.aa true []]]⟩/\H[2]?=some ⟨.m,0,4,ae (b9 S p++q)⟩) (.nx ⟨rfl,HG,rfl,rfl,rfl⟩) ?_ ?_
   ·rintro p u q _ H Y e ⟨rfl,hH,g0,g1,g2⟩;have oH:=lf S p;have cC:(ae (b9 S p++u::q))[0+p.length]?=some (.agg [.int .i64 u.k,.str u.s,.int .i64 u.o,.aa false (ae u.l)]):=by rw[abp,<-oH];exact bD rfl
    have jm:(ae (b9 S p++u::q)).set (0+p.length) (enc (cx S u))=ae (b9 S (p++[u])++q):=by
     rw[xh,abp,Sh oH.symm,eC,eC,abT];simp
    have dO:=lenE e;have pB:(ae (b9 S p++u::q)).length=l.length:=by rw[ak];simp;omega
    have hi:=ih u (by rw[e];simp);rw[aw u,aw (cx S u)]at hi;rw[aw (cx S u)]at jm;have oR:HR (H++[⟨.m,0,4,[.agg [.int .i64 u.k,.str u.s,.int .i64 u.o,.aa false (ae u.l)]]⟩]):=hH.dg (HV.one (by simp));refine wA ?_;refine .p hi ?_;refine wA ?_;rw[jm];have k2:=ag g2;exact .nx ⟨rfl,oR.set 2 (by simp) (bt _ _ (by simp)),by rw[aa8 (by omega),aa3 (by omega)];exact g0,by rw[aa8 (by omega),aa3 (by omega)];exact g1,aa7 (by simp;omega)⟩
   ·rintro _ H Y ⟨rfl,hH,g0,g1,g2⟩;rw[abv]at g2;have oH:=lf S l;have k1:=ag g1;have e2:=aa7 (a:=(⟨.m,0,4,[.agg [.int .i64 k,.str s,.int .i64 o,.aj 2 0 0 l.length]]⟩:au)) k1;refine wA ?_;refine .mk ?_ (pT (T:=T6) rfl e2 rfl rfl rfl rfl);exact⟨Si (.inr ⟨2,0,by rw[ak,oH],(aa8 (by omega)).trans g2⟩) (by simp) (by simp)⟩
theorem Pc(S:List dp)(hS:yO S)(t:Tm)(hb:az t<10000000):aL C 157 [.aa false (bO S),enc t] (enc (cx S t)):=by
 induction t using Tm.ind with
 |h k s o l ih=>
  refine Sj S hS k s o l hb λt ht=>ih t ht ?_;have:=bU ht;simp only[az]at hb;omega
end bh
theorem Pd{s:ByteArray}(h:du s=true):1<=s.size:=by
 rw[<-bsize];unfold du BB at h
 cases e:s.toList with
 |nil=>rw[e]at h;simp at h
 |cons c l=>simp
theorem EO{s:List dp}{B:Nat}:∀{l:List Tm},(∀t∈l,2 * az (cx s t)<=az t * B)->2 * bF (b9 s l)<=bF l * B
 |[],_=>by simp[b9,bF]
 |t::l,h=>by
  have h1:=h t (by simp);have h2:=EO (l:=l) λu hu=>h u (by simp[hu])
  simp only[b9,bF,abX];omega
theorem Lb{s:List dp}{B:Nat}(hB:2<=B)(hs:∀b∈s,az b.t<=B)(t:Tm):nodes t=0->2 * az (cx s t)<=az t * B:=by
 induction t using Tm.ind with
 |h k n o l ih=>
  intro h0
  obtain⟨q1,q2⟩:=pF h0;have hn:=Pd (Ad q1).1;have tL:2<=az (.mk k n o l):=by simp only[az];omega
  have h1:az (.mk k n o l) * 2<=az (.mk k n o l) * B:=Nat.mul_le_mul_left _ hB;have h2:2 * B<=az (.mk k n o l) * B:=abN _ tL;unfold cx
  split
  ·have:=BC (x:=.mk k n o l) hs;omega
  ·have h3:=EO (s:=s) (B:=B) (l:=l) λt ht=>ih t ht (lu q2 t ht)
   simp only[az,abX]at h1 ⊢;have h4:n.size * 2<=n.size * B:=Nat.mul_le_mul_left _ hB;omega
theorem yO.of{s:List dp}(h:lY s=0):bh.yO s:=by
 obtain⟨h1,h2,h3⟩:=tZ h;refine⟨h3,by omega,λb hb=>?_,λb hb=>?_⟩;have:=fE (nh (h2 b hb)).1;omega;have:=fE (nh (h2 b hb)).2.2.1;omega
theorem Sk{s:List dp}(h:lY s=0){t:Tm}(ht:valid t=0):az (cx s t)<=50000000:=by
 obtain⟨h1,h2,h3⟩:=tZ h;have h4:=Lb (s:=s) (B:=10000) (by omega) (λb hb=>fE (nh (h2 b hb)).2.2.1) t (fw.1 ht).1;have h5:=fE ht;have h6:az t * 10000<=10000 * 10000:=abN _ h5;omega
namespace bh
open Go.Proofs
attribute [local irreducible] aD ay aJ aG Ev ah ai ax aZ bE
theorem sX:enc fL=.agg [.int .i64 0,.str ByteArray.empty,.int .i64 0,.aa false (ae [])]:=rfl
theorem yP(S:List dp)(hS:lY S=0)(t:Tm)(hb:az t<10000000):aL C 112 [.aa false (bO S),enc t] (.cy [enc (cu S t).1,.int .i64 (cu S t).2]):=by
 have gh:=yO.of hS;have h1:=(fi t (by omega)).nine;have h2:=Pc S gh t hb;have h3:valid t=0->aL C 98 [enc (cx S t)] (.int .i64 (valid (cx S t))):=λh=>(fi (cx S t) (by have:=Sk hS h;omega)).nine
 have a1:valid t≠0->cu S t=(fL,valid t):=λh=>by rw[cu,if_pos h]
 have a2:valid t=0->valid (cx S t)≠0->cu S t=(fL,valid (cx S t)):=λh h'=>by rw[cu,if_neg (by omega),if_pos h']
 have a3:valid t=0->valid (cx S t)=0->cu S t=(cx S t,0):=λh h'=>by rw[cu,if_neg (by omega),if_neg (by omega)]
 generalize cu S t=A at *;generalize cx S t=u at *;rw[aw t]at h1 h2 ⊢;rw[aw u]at h2 h3;refine aL.x T6 Tryz.func112 rfl ?_;refine wA ?_;refine .p h1 ?_;refine wC (λhc=>?_) λhc=>?_
 ·have hv:valid t=0:=by omega
  refine .p h2 ?_;refine wA ?_;refine .p (h3 hv) ?_;refine wC (λhc=>?_) λhc=>?_
  ·rw[a3 hv (by omega),aw];exact mr
  ·rw[a2 hv (by omega),sX];exact⟨_,rfl,rfl⟩
 ·rw[a1 (by omega),sX];exact⟨_,rfl,rfl⟩
theorem te{S:List dp}{t:Tm}(h:(cu S t).2=0):cu S t=(cx S t,0)/\valid t=0/\valid (cx S t)=0:=by
 unfold cu at h ⊢
 split at h
 ·rename_i h1;exact absurd h h1
 ·rename_i h1
  split at h
  ·rename_i h2;exact absurd h h2
  ·rename_i h2
   rw[if_neg h1,if_neg h2];exact⟨rfl,by omega,by omega⟩
theorem Sl{S:List dp}{l p q:List Tm}{u:Tm}(e:l=p++u::q)(hp:∀v∈p,(cu S v).2=0)(hu:(cu S u).2≠0):mG S l=(cu S u).2:=by
 subst e
 induction p with
 |nil=>simp only[abK,mG];rw[if_pos hu]
 |cons v p ih=>
  simp only[abz,mG];rw[if_neg (by rw[hp v (by simp)];simp),ih (λw hw=>hp w (by simp[hw]))]
theorem Bg{S:List dp}:∀{l:List Tm},(∀v∈l,(cu S v).2=0)->mG S l=0
 |[],_=>rfl
 |v::l,h=>by
  rw[mG,if_neg (by rw[h v (by simp)];simp)];exact Bg λu hu=>h u (by simp[hu])
theorem IQ{S:List dp}(hS:lY S=0):aL C 48 [.aa false (bO S)] (.int .i64 0):=by
 obtain⟨h1,h2,h3⟩:=tZ hS
 have:=ya S (by omega) λb hb=>by
  have h4:=fE (nh (h2 b hb)).1;have h5:=fE (nh (h2 b hb)).2.2.1;exact⟨by omega,by omega⟩
 rwa[hS]at this
theorem GH(S:List dp)(hS:lY S=0)(t:Tm)(hb:az t<10000000):aL C 57 [.aa false (bO S),enc t] (.cy [enc (cu S t).1,.int .i64 (cu S t).2]):=by
 have h1:=IQ hS;have h2:=yP S hS t hb;generalize cu S t=A at *;obtain⟨u,n⟩:=A;dsimp only at h2 ⊢;rw[aw t,aw u]at h2;rw[aw t,aw u];refine aL.x T6 Tryz.func57 rfl ?_;refine wA ?_;refine .p h1 ?_;refine wA ?_;refine .p h2 ?_;refine wA ?_;exact mr
theorem Oe(S:List dp)(hS:lY S=0)(l:List Tm)(hl:l.length<=200)(hb:∀t∈l,az t<10000000):aL C 56 [.aa false (bO S),.aa false (ae l)] (.cy [.aa false (ae (if mG S l≠0 then[]else b9 S l)),.int .i64 (mG S l)]):=by
 have h1:=IQ hS;have cz:=ak l;refine aL.x T6 Tryz.func56 rfl ?_;refine wA ?_;refine .p h1 ?_;refine wA ?_;refine dw.zip T6 l (λp q L H=>∃v,L=[(0,.aa false (bO S)),(7,v),(20,.aa false (ae l)),(21,.int .i64 (ae l).length),(22,.int .i64 p.length)]/\HV H/\Out 4 H v (ae (b9 S p))/\∀u∈p,(cu S u).2=0) (.nx ⟨_,rfl,HV.nil,.inl ⟨rfl,rfl⟩,by simp⟩) ?_ ?_
 ·rintro p u q _ H Y e ⟨v,rfl,hH,ho,hp⟩;have cC:=bD e;have dO:=lenE e;have lW:=yP S hS u (hb u (by rw[e];simp));have oH:=lf S p;have hle:=ak (b9 S p);have h0:(cu S u).2=0->(cu S u).1=cx S u:=λh=>by rw[(te h).1]
  have hx:(cu S u).2≠0->mG S l=(cu S u).2:=Sl e hp;have tK:b9 S (p++[u])=b9 S p++[cx S u]:=by rw[eC,eC];simp
  have hpn:(cu S u).2=0->∀w∈p++[u],(cu S w).2=0:=λh w hw=>by
   rcases aa9.1 hw with h1 |h1;exact hp w h1;simp at h1;rw[h1];exact h
  generalize(cu S u).1=w at *;generalize(cu S u).2=n at *;rw[aw u,aw w]at lW;have Aa:=(ho.c8 [⟨.m,0,4,[.agg [.int .i64 u.k,.str u.s,.int .i64 u.o,.aa false (ae u.l)]]⟩]).c8 [⟨.m,0,4,[.agg [.int .i64 w.k,.str w.s,.int .i64 w.o,.aa false (ae w.l)]]⟩];refine wA ?_;have oR:HV (H++[⟨.m,0,4,[.agg [.int .i64 u.k,.str u.s,.int .i64 u.o,.aa false (ae u.l)]]⟩]++[⟨.m,0,4,[.agg [.int .i64 w.k,.str w.s,.int .i64 w.o,.aa false (ae w.l)]]⟩]):=(hH.c8 (HV.one (by simp))).c8 (HV.one (by simp));refine .p lW ?_;refine wK (λhc v H lp=>?_) λhc=>?_
  ·have hw:=h0 (by omega);refine .nx ⟨_,rfl,lp.hv,?_,hpn (by omega)⟩;have:=lp.out;have e9:ae (b9 S p)++[.agg [.int .i64 w.k,.str w.s,.int .i64 w.o,.aa false (ae w.l)]]=ae (b9 S p++[w]):=by rw[cc,<-aw];rfl
   rw[tK,<-hw,<-e9];exact this
  ·have hxx:=hx (by omega);exact⟨_,rfl,by rw[hxx,if_pos (by omega)];rfl⟩
 ·rintro _ H Y ⟨v,rfl,hH,ho,hp⟩;have he:=Bg hp;rw[he,if_neg (by simp)];refine wA ?_;exact Ls.QF (.inl ho)
end bh
theorem WX:(bX YL).k=3/\(bX YM).k=3/\(bX YN).k=3/\(bX Tw).k=3/\(bX Tx).k=3/\(bX Ty).k=3:=by refine⟨?_,?_,?_,?_,?_,?_⟩ <;>kernel_rfl
theorem Iq{s:ByteArray}(h:ue s=true):mH s=false/\(bX s).k≠3:=by
 simpa[ue]using h
theorem Vy{s:ByteArray}(h:ue s=true):¬s.toList=(⟨#[102,115,116]⟩:ByteArray).toList/\¬s.toList=(⟨#[115,110,100]⟩:ByteArray).toList/\¬s.toList=(⟨#[100,101,99]⟩:ByteArray).toList/\¬s.toList=(⟨#[97,100,101,99]⟩:ByteArray).toList/\¬s.toList=(⟨#[111,112,101,110]⟩:ByteArray).toList/\¬s.toList=(⟨#[114,101,97,100]⟩:ByteArray).toList/\
  ¬s.toList=(⟨#[120,111,114]⟩:ByteArray).toList/\¬s.toList=(⟨#[109,117,108]⟩:ByteArray).toList/\¬s.toList=(⟨#[105,110,118]⟩:ByteArray).toList/\¬s.toList=(⟨#[111,110,101]⟩:ByteArray).toList/\¬s.toList=(⟨#[101,120,112]⟩:ByteArray).toList/\¬s.toList=(⟨#[122,101,114,111]⟩:ByteArray).toList:=by
 obtain⟨h1,h2⟩:=Iq h;have d:∀n:ByteArray,(bX n).k=3->¬s.toList=n.toList:=λn hn e=>h2 (by rw[bh.nu e];exact hn)
 simp only[mH,ady]at h1;obtain⟨⟨⟨⟨⟨a1,a2⟩,a3⟩,a4⟩,a5⟩,a6⟩:=h1;have a:∀n:ByteArray,fu s n=false->¬s.toList=n.toList:=λn hn e=>by rw[bh.kz e]at hn;cases hn
 exact⟨d YL WX.1,d YM WX.2.1,d YN WX.2.2.1,d Tw WX.2.2.2.1,d Tx WX.2.2.2.2.1,d Ty WX.2.2.2.2.2,a uo a1,a xT a4,a xU a5,a rE a6,a Gt a3,a iT a2⟩
theorem NV{k:Int}{s:ByteArray}{o:Int}{l:List Tm}(h:valid (.mk k s o l)=0)(hk:k=3):o=0:=by
 have h1:=(pF (fw.1 h).1).1;simp only[node]at h1
 split at h1
 cases h1
 omega
namespace bh
open Go.Proofs
attribute [local irreducible] aD ay aJ aG Ev ah ai ax aZ bE
theorem Tz{h:ab}{v:PV}{k o n:Int}{s:ByteArray}{es:List PV}(ho:Out 4 h v es)(hv:ao es=true)(hn:aU es=es):∃r1,rb h (aT [.agg [.int .i64 k,.str s,.int .i64 o,v],.int .i64 n])=some r1/\bW r1=.cy [.agg [.int .i64 k,.str s,.int .i64 o,.aa false es],.int .i64 n]:=by
 obtain⟨r,h1,h2⟩:∃r,oE h v=some r/\bW r=.aa false es:=by
  rcases ho with⟨rfl,rfl⟩|⟨id,ep,rfl,e2⟩;exact⟨_,rfl,rfl⟩;exact⟨.aa false es,by simp[oE,getM,e2,hv],by simp[bW,hn]⟩
 refine⟨.cy [.agg [.int .i64 k,.str s,.int .i64 o,r],.int .i64 n],?_,by simp[bW,aU,h2]⟩;simp only[aT,rb,ie,kY,nP,h1]
 rfl
theorem J5(s:ByteArray)(l:List Tm)(hf:ue s=true)(hl:l.length<100000000)(ih:∀t∈l,aL C 155 [enc t] (.cy [enc t,.int .i64 0])):aL C 155 [enc (.mk 3 s 0 l)] (.cy [enc (.mk 3 s 0 l),.int .i64 0]):=by
 have cz:=ak l;obtain⟨n1,n2,n3,n4,n5,n6,n7,n8,n9,n10,n11,n12⟩:=Vy hf;rw[bo];refine aL.x T6 Tryz.func155 rfl ?_;refine wA ?_
 have HG:HR [⟨.m,0,4,[.agg [.int .i64 3,.str s,.int .i64 0,.aa false (ae l)]]⟩,⟨.m,0,4,[.agg [.int .i64 0,.str ByteArray.empty,.int .i64 0,.aa true []]]⟩,⟨.m,0,4,[.agg [.int .i64 3,.str s,.int .i64 0,.aa true []]]⟩]:=by
  intro x hx
  simp at hx;rcases hx with rfl |rfl |rfl <;>simp[bL,bw,bt]
 refine dw.zip T6 l (λp q L H=>∃v,L=[(1,.ptr 0 0 0 0),(2,.ptr 1 0 0 0),(4,.ptr 2 0 0 0),(19,.aa false (ae l)),(20,.int .i64 (ae l).length),(21,.int .i64 p.length)]/\HR H/\H[0]?=some ⟨.m,0,4,[.agg [.int .i64 3,.str s,.int .i64 0,.aa false (ae l)]]⟩/\H[1]?=some ⟨.m,0,4,[.agg [.int .i64 0,.str ByteArray.empty,.int .i64 0,.aa true []]]⟩/\H[2]?=some ⟨.m,0,4,[.agg [.int .i64 3,.str s,.int .i64 0,v]]⟩/\Out 4 H v (ae p)/\∀i∈cg v,3<=i) (.nx ⟨.aa true [],rfl,HG,rfl,rfl,rfl,.inl ⟨rfl,rfl⟩,by simp[cg]⟩) ?_ ?_
 ·rintro p u q _ H Y e ⟨v,rfl,hH,h0,h1,h2,ho,hv⟩;have cC:=bD e;have dO:=lenE e;have hi:=ih u (by rw[e];simp);have hle:=ak p;have mj:HR (H++[⟨.m,0,4,[.agg [.int .i64 u.k,.str u.s,.int .i64 u.o,.aa false (ae u.l)]]⟩]):=hH.dg (HV.one (by simp));have oR:HR (H++[⟨.m,0,4,[.agg [.int .i64 u.k,.str u.s,.int .i64 u.o,.aa false (ae u.l)]]⟩]++[⟨.m,0,4,[.agg [.int .i64 u.k,.str u.s,.int .i64 u.o,.aa false (ae u.l)]]⟩]):=mj.dg (HV.one (by simp));have Aa:=(ho.c8 [⟨.m,0,4,[.agg [.int .i64 u.k,.str u.s,.int .i64 u.o,.aa false (ae u.l)]]⟩]).c8 [⟨.m,0,4,[.agg [.int .i64 u.k,.str u.s,.int .i64 u.o,.aa false (ae u.l)]]⟩];have CB:=ag h2;have tK:ae p++[.agg [.int .i64 u.k,.str u.s,.int .i64 u.o,.aa false (ae u.l)]]=ae (p++[u]):=by rw[cc,<-aw];rfl
  rw[aw]at hi;refine wA ?_;refine .p hi ?_;refine wA ?_;refine .lr (λv' h' lr=>?_) Aa;have Tr:∀j,j<3->∀ep n,v≠.aj j ep 0 n:=λj hj ep n hh=>by have:=hv j (by rw[hh];simp[cg]);omega
  have gt:∀j,j<3->h'[j]?=H[j]?:=λj hj=>by
   rw[lr.fr j (by simp;omega) (Tr j hj),aa3 (by simp;omega),aa3 (by omega)]
  have g0:=(gt 0 (by omega)).trans h0;have g1:=(gt 1 (by omega)).trans h1;have g2:=(gt 2 (by omega)).trans h2;have hr3:=lr.hr
  have YO:∀i∈cg v',3<=i:=λi hi=>by
   rcases lr.cg i hi with h |h;exact hv i h;simp at h;omega
  have lo:=lr.out;rw[tK]at lo;have Vz:=lo.bw;rcases lo with⟨_,hx⟩|⟨id,ep,rfl,hid⟩
  ·have:=congrArg List.length hx;rw[ak]at this;simp at this
  have k2:=ag g2;refine wA ?_;have Wu:=YO id (by simp[cg]);exact .nx ⟨_,rfl,hr3.set _ (by simp) (by simpa[bL,bw]using Vz),(aa8 (by omega)).trans g0,(aa8 (by omega)).trans g1,aa7 k2,.inr ⟨id,ep,rfl,(aa8 (by omega)).trans hid⟩,YO⟩
 ·rintro _ H Y ⟨v,rfl,hH,h0,h1,h2,ho,hv⟩;have k1:=ag h1;have e2:=aa7 (a:=(⟨.m,0,4,[.agg [.int .i64 3,.str s,.int .i64 0,v]]⟩:au)) k1;have Lm:Out 4 (H.set 1 ⟨.m,0,4,[.agg [.int .i64 3,.str s,.int .i64 0,v]]⟩) v (ae l):=ho.of_eq λi hi=>aa8 (by have:=hv i hi;omega)
  rcases ho with⟨rfl,he⟩|⟨id,ep,rfl,hid⟩
  ·refine wA ?_;refine .mk ?_ (pT (T:=T6) rfl e2 rfl rfl rfl rfl);exact⟨Tz Lm (by simp) (by simp)⟩
  ·refine wA ?_;refine .mk ?_ (pT (T:=T6) rfl e2 rfl rfl rfl rfl);exact⟨Tz Lm (by simp) (by simp)⟩
theorem Gu(t:Tm):jc t=0->kV t=true->az t<100000000->aL C 155 [enc t] (.cy [enc t,.int .i64 0]):=by
 induction t using Tm.ind with
 |h k s o l ih=>
  intro hv hf hb
  by_cases hk:k=3
  ·subst hk;obtain rfl:=NV (iy.1 hv).1 rfl;have:=bH l;simp only[az]at hb;refine J5 s l ((BG.1 hf).1 rfl) (by omega) λt ht=>ih t ht (v8 hv ht) ((BG.1 hf).2 t ht) (by have:=bU ht;omega)
  ·rw[bo];refine aL.x T6 Tryz.func155 rfl ?_;refine wA ?_;exact mr
theorem DO(t:Tm)(hf:kV t=true)(hb:az t<100000000):aL C 107 [enc t] (.cy [enc (if jc t=0 then t else fL),.int .i64 (jc t)]):=by
 have h1:=sV t hb;have h2:=λh=>Gu t h hf hb
 have h3:=λh:jc t=0=>(fi t (by omega)).nine
 have hz:=sX;rw[aw t]at h1 h2 h3 ⊢
 by_cases hv:jc t=0
 ·have h2:=h2 hv;have h3:=h3 hv;rw[(iy.1 hv).1]at h3;rw[if_pos hv,hv,aw];rw[hv]at h1;refine aL.x T6 Tryz.func107 rfl ?_;refine wA ?_;refine .p h1 ?_;refine wA ?_;refine .p h2 ?_;refine wA ?_;refine .p h3 ?_;refine wA ?_;exact mr
 ·rw[if_neg hv,hz];refine aL.x T6 Tryz.func107 rfl ?_;refine wA ?_;refine .p h1 ?_;refine wA ?_;exact⟨_,rfl,rfl⟩
theorem Gv(s:ByteArray):aL C 110 [.str s] (.bool (decide ((bX s).k≠3))):=by
 have hs:=pU s;rw[BV]at hs;refine aL.x T6 Tryz.func110 rfl ?_;refine wA ?_;refine .p hs ?_;refine wC (λhc=>?_) λhc=>?_
 all_goals exact⟨_,rfl,by simp[aT, *]⟩
theorem J6{t:Tm}(h:kV t=true):every (λs=>decide ((bX s).k≠3)) t=true:=by
 unfold kV at h;rw[tY,aa4]at h ⊢
 intro u hu
 have:=h u hu;simp only[abA]at this ⊢;exact this.imp id λx=>decide_eq_true (Iq x).2
theorem AF(t:Tm)(hf:kV t=true)(hb:az t<100000000):aL C 55 [enc t] (.bool (decide (jc t=0))):=by
 have h1:=DO t hf hb;have h2:=xV 110 _ rfl Gv t (by omega);rw[J6 hf]at h2
 by_cases hv:jc t=0
 ·have h3:aL C 108 [enc t,enc t] (.bool true):=by
   have h4:=(eF t t (by omega) (by omega)).nine;rw[cH]at h4;rw[aw]at h4 ⊢;refine aL.x T6 Tryz.func108 rfl ?_;refine wA ?_;refine .p h4 ?_;refine wA ?_;exact⟨_,rfl,rfl⟩
  rw[if_pos hv,hv]at h1;rw[hv];rw[aw]at *;refine aL.x T6 Tryz.func55 rfl ?_;refine wA ?_;refine .p h1 ?_;refine wA ?_;refine .p h3 ?_;refine wA ?_;refine .p h2 ?_;refine wA ?_;exact⟨_,rfl,rfl⟩
 ·rw[if_neg hv,sX]at h1;rw[aw]at h1 ⊢;refine aL.x T6 Tryz.func55 rfl ?_;refine wA ?_;refine .p h1 ?_;refine wA ?_;exact⟨_,rfl,by simp[aT,hv]⟩
end bh
end Go.Pm
