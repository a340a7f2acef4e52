/-
  A part of the library Pm (joined by program). Conditions: none.
-/
import Derived.Test.YtimogkojklpdnaaGreatDoorPzAA
import Derived.Test.YtimogkojklpdnaaGreatDoorPzAG
import Derived.Test.YtimogkojklpdnaaGreatDoorPzAJ
import Derived.Test.YtimogkojklpdnaaGreatDoorPzAH
import Derived.Test.YtimogkojklpdnaaGreatDoorPzAI
set_option linter.unusedVariables false
set_option linter.unusedSimpArgs false
set_option linter.unnecessarySimpa false
namespace Go.Pm
set_option maxRecDepth 4000
theorem oS{C:cK}{T:lz C.P}{L:Al}{h:ab}{a b n:Nat}{t:TypeId}{cs vs:List PV}{sz:Nat}{rs:List ResultVar}(ha:lk L a=some (.ptr b 0 0 0))(hb:h[b]?=some ⟨.m,0,n,[.agg cs]⟩)(hs:T.ts t=some (sz+1))(ht:T.ta t=some true)(hl:cs.length=sz+1)(hr:xj T L h rs=some vs):xj T L h (.cell a t::rs)=some (.agg cs::vs):=by
 have hp:cC h (.ptr b 0 0 0)=some cs:=(LM hb).trans rfl
 have hld:loadT T h t (.ptr b 0 0 0)=some (.agg cs):=by
  unfold loadT;rw[hs,ht,hp];have:Nat.ble (sz+1) cs.length=true:=Nat.ble_eq_true_of_le (by omega);simp only[this,if_true];rw[ZW (by omega)]
 simp only[xj,ha,hld,hr]
namespace bO
open Go.Proofs
def bU:List PV:=Tg.map zz
theorem C3:aO C 156 [] (.aa false bU):=aO.od (n:=100) (by kernel_rfl)
theorem Is{p q:List Sy}{y:Sy}(e:Tg=p++y::q):bU[p.length]?=some (.agg [.str y.n,.int .i64 y.a,.int .i64 y.b,.int .i64 y.k]):=by rw[bU,e];simp[zz]
@[simp] theorem Th:bU.length=21:=rfl
theorem Gs:Tg.length=21:=rfl
@[simp] theorem Qb:ar bU=true:=rfl
theorem E1{p q:List Sy}{y:Sy}{s:ByteArray}(e:Tg=p++y::q)(hp:∀z∈p,z.n.toList≠s.toList)(h:y.n.toList=s.toList):cJ s=y:=by
 unfold cJ;rw[e,List.find?_append,List.find?_eq_none.2 (λz hz=>by simpa using hp z hz)];simp[h]
theorem B0{s t:ByteArray}(h:s.toList=t.toList):cJ s=cJ t:=by unfold cJ;rw[h]
theorem mF{s n:ByteArray}(h:¬s.toList=n.toList):gI s n=false:=by unfold gI;simpa using h
theorem qe{s n:ByteArray}(h:s.toList=n.toList):gI s n=true:=by unfold gI;simpa using h
theorem It:(cJ L4).a=1:=by kernel_rfl
theorem E2{s:ByteArray}(hp:∀z∈Tg,z.n.toList≠s.toList):cJ s=sy0:=by
 unfold cJ;rw[List.find?_eq_none.2 (λz hz=>by simpa using hp z hz)]
 rfl
attribute [local irreducible] aE aC aI aJ Ev ah ai ay aV bU
theorem oT(s:ByteArray):aO C 111 [.str s] (zz (cJ s)):=by
 have hs:=C3;refine aO.x T6 Tryz.func111 rfl ?_;refine wXA ?_;refine .p hs ?_;refine wXA ?_;refine eJ.zip T6 Tg (λp q L H=>L=[(0,.str s),(2,.ptr 0 0 0 0),(5,.aa false bU),(6,.int .i64 21),(7,.int .i64 p.length)]/\HV H/\H[0]?=some ⟨.m,0,4,[.agg [.str ByteArray.empty,.int .i64 0,.int .i64 0,.int .i64 0]]⟩/\∀z∈p,z.n.toList≠s.toList) (.nx ⟨rfl,HV.one rfl,rfl,λz hz=>by cases hz⟩) ?_ ?_
 ·rintro p y q _ H ρ e ⟨rfl,hH,h0,hp⟩;have cV:=Is e;have cH:=congrArg List.length e;rw[Gs]at cH;simp only[Zx,ZA]at cH;refine wXC (λhc=>?_) λhc=>?_
  ·refine .mk ?_ (oS (T:=T6) rfl (ZB (by simp)) rfl rfl rfl rfl);refine wXA ?_;exact⟨_,rfl,by rw[E1 e hp hc];simp[aY,b9,aU,zz]⟩
  ·exact .nx ⟨rfl,hH.ct (HV.one (by simp)),by rw[Zv (ag h0)];exact h0,λz hz=>by rcases ZE.1 hz with h |h;exact hp z h;simp at h;rw[h];exact hc⟩
 ·rintro _ H ρ ⟨rfl,hH,h0,hp⟩;rw[Gs];refine wXA ?_;refine .mk ?_ (oS (T:=T6) rfl (ZB (ag h0)) rfl rfl rfl rfl);refine wXA ?_;exact⟨_,rfl,by rw[E2 hp];simp[aY,b9,aU,zz,sy0]⟩
theorem Ao(y:Sy):zz y=.agg [.str y.n,.int .i64 y.a,.int .i64 y.b,.int .i64 y.k]:=rfl
theorem uP{l p q:List Tm}{u:Tm}(e:l=p++u::q)(hp:∀v∈p,nP v=0)(hu:nP u≠0):rE l=nP u:=by
 subst e
 induction p with
 |nil=>simp only[aad,rE];rw[if_pos hu]
 |cons v p ih=>
  simp only[Z3,rE];rw[if_neg (by rw[hp v (by simp)];simp),ih (λw hw=>hp w (by simp[hw]))]
theorem iE:∀{l:List Tm},(∀v∈l,nP v=0)->rE l=0
 |[],_=>rfl
 |v::l,h=>by rw[rE,if_neg (by rw[h v (by simp)];simp),iE λw hw=>h w (by simp[hw])]
theorem HV.vV{o p:au}(h1:o.mu≠.x/\ar o.es=true)(h2:p.mu≠.x/\ar p.es=true):HV [o,p]:=λx hx=>by
 simp only[ZF,aaD,or_false]at hx;rcases hx with rfl |rfl
 ·exact h1
 ·exact h2
theorem Iu(k s o l)(hl:l.length<1000000000)(ih:∀t∈l,aO C 186 [enc t] (.int .i64 (nP t))):aO C 186 [enc (.mk k s o l)] (.int .i64 (nP (.mk k s o l))):=by
 have hs:=oT s;have cT:=an l;rw[Ao]at hs;rw[bj];refine aO.x T6 Tryz.func186 rfl ?_;refine wXC (λhc=>?_) λhc=>?_
 ·refine .p hs ?_;refine wXO (λhc=>?_) (λhc hc=>?_) (λhc hc hc=>?_) (λhc hc hc hc=>?_) (λhc hc hc hc hc=>?_) (λhc hc hc hc hc hc=>?_) λhc hc hc hc hc hc=>?_
  ·exact⟨_,rfl,by rw[nP,if_neg (by simp[*]),if_pos (by assumption)];rfl⟩
  ·exact⟨_,rfl,by rw[nP,if_neg (by simp[*]),if_neg (by assumption),if_pos (by omega)];rfl⟩
  ·exact⟨_,rfl,by rw[nP,if_neg (by simp[*]),if_neg (by assumption),if_pos (by omega)];rfl⟩
  ·have Gj:fN s l=false->nP (.mk k s o l)=10:=λh=>by rw[nP,if_neg (by simp[*]),if_neg (by assumption),if_neg (by omega),if_pos h]
   have K7:fN s l=true->nP (.mk k s o l)=rE l:=λh=>by rw[nP,if_neg (by simp[*]),if_neg (by assumption),if_neg (by omega),if_neg (by rw[h];simp)]
   have xV:(gI s D5 ||gI s BC)=true:=by simp[gI,D5, *]
   refine eJ.zip T6 l (λp q L H=>L=[(1,.ptr 0 0 0 0),(38,.aa false (ae l)),(39,.int .i64 l.length),(40,.int .i64 p.length)]/\HV H/\H[0]?=some ⟨.m,0,4,[.agg [.int .i64 k,.str s,.int .i64 o,.aa false (ae l)]]⟩/\∀u∈p,im u=true) (.nx ⟨rfl,by first |assumption |exact HV.vV (by simp) (by simp),rfl,λu hu=>by cases hu⟩) ?_ ?_
   ·rintro p u q _ H ρ e ⟨rfl,hH,h0,hp⟩;have cV:=bS e;have cH:=congrArg List.length e;simp only[Zx,ZA]at cH
    have V':im u=false->fN s l=false:=λh=>by
     have:l.all im=false:=by rw[e];simp[h]
     simp[fN,xV,this]
    have nx:u.k≠3->u.o=1->∀v∈p++[u],im v=true:=λh1 h2 v hv=>by
     rcases ZE.1 hv with h |h
     ·exact hp v h
     ·simp at h;rw[h];simp[im,h1,h2]
    refine wXI (λhc=>?_) (λhc hc=>?_) λhc hc=>?_
    ·exact⟨_,rfl,by rw[Gj (V' (by simp[im, *]))];rfl⟩
    ·exact .nx ⟨rfl,hH.ct (HV.one (by simp)),by rw[Zv (ag h0)];exact h0,nx (by assumption) (by assumption)⟩
    ·exact⟨_,rfl,by rw[Gj (V' (by simp[im, *]))];rfl⟩
   ·rintro _ H ρ ⟨rfl,hH,h0,hp⟩;have L8:=K7 (by simp only[fN,xV,if_true];rw[Zw];exact hp);refine wXA ?_;refine eJ.zip T6 l (λp q L H=>L=[(62,.aa false (ae l)),(63,.int .i64 l.length),(64,.int .i64 p.length)]/\HV H/\∀u∈p,nP u=0) (.nx ⟨rfl,by first |assumption |exact HV.vV (by simp) (by simp),λu hu=>by cases hu⟩) ?_ ?_
    ·rintro p u q _ H ρ e ⟨rfl,hH,hp⟩;have cV:=bS e;have cH:=congrArg List.length e;simp only[Zx,ZA]at cH;have hi:=ih u (by rw[e];simp);rw[aw]at hi;refine wXA ?_;refine .p hi ?_;refine wXC (λhc=>?_) λhc=>?_
     ·exact .nx ⟨rfl,hH.ct (HV.one (by simp)),λv hv=>by rcases ZE.1 hv with h |h;exact hp v h;simp at h;rw[h];assumption⟩
     ·exact⟨_,rfl,by rw[L8,uP e hp (by assumption)];rfl⟩
    ·rintro _ H ρ ⟨rfl,hH,hp⟩;refine wXA ?_;exact⟨_,rfl,by rw[L8,iE hp];rfl⟩
  ·have Gj:fN s l=false->nP (.mk k s o l)=10:=λh=>by rw[nP,if_neg (by simp[*]),if_neg (by assumption),if_neg (by omega),if_pos h]
   have K7:fN s l=true->nP (.mk k s o l)=rE l:=λh=>by rw[nP,if_neg (by simp[*]),if_neg (by assumption),if_neg (by omega),if_neg (by rw[h];simp)]
   have xV:(gI s D5 ||gI s BC)=true:=by simp[gI,BC, *]
   refine eJ.zip T6 l (λp q L H=>L=[(1,.ptr 0 0 0 0),(38,.aa false (ae l)),(39,.int .i64 l.length),(40,.int .i64 p.length)]/\HV H/\H[0]?=some ⟨.m,0,4,[.agg [.int .i64 k,.str s,.int .i64 o,.aa false (ae l)]]⟩/\∀u∈p,im u=true) (.nx ⟨rfl,by first |assumption |exact HV.vV (by simp) (by simp),rfl,λu hu=>by cases hu⟩) ?_ ?_
   ·rintro p u q _ H ρ e ⟨rfl,hH,h0,hp⟩;have cV:=bS e;have cH:=congrArg List.length e;simp only[Zx,ZA]at cH
    have V':im u=false->fN s l=false:=λh=>by
     have:l.all im=false:=by rw[e];simp[h]
     simp[fN,xV,this]
    have nx:u.k≠3->u.o=1->∀v∈p++[u],im v=true:=λh1 h2 v hv=>by
     rcases ZE.1 hv with h |h
     ·exact hp v h
     ·simp at h;rw[h];simp[im,h1,h2]
    refine wXI (λhc=>?_) (λhc hc=>?_) λhc hc=>?_
    ·exact⟨_,rfl,by rw[Gj (V' (by simp[im, *]))];rfl⟩
    ·exact .nx ⟨rfl,hH.ct (HV.one (by simp)),by rw[Zv (ag h0)];exact h0,nx (by assumption) (by assumption)⟩
    ·exact⟨_,rfl,by rw[Gj (V' (by simp[im, *]))];rfl⟩
   ·rintro _ H ρ ⟨rfl,hH,h0,hp⟩;have L8:=K7 (by simp only[fN,xV,if_true];rw[Zw];exact hp);refine wXA ?_;refine eJ.zip T6 l (λp q L H=>L=[(62,.aa false (ae l)),(63,.int .i64 l.length),(64,.int .i64 p.length)]/\HV H/\∀u∈p,nP u=0) (.nx ⟨rfl,by first |assumption |exact HV.vV (by simp) (by simp),λu hu=>by cases hu⟩) ?_ ?_
    ·rintro p u q _ H ρ e ⟨rfl,hH,hp⟩;have cV:=bS e;have cH:=congrArg List.length e;simp only[Zx,ZA]at cH;have hi:=ih u (by rw[e];simp);rw[aw]at hi;refine wXA ?_;refine .p hi ?_;refine wXC (λhc=>?_) λhc=>?_
     ·exact .nx ⟨rfl,hH.ct (HV.one (by simp)),λv hv=>by rcases ZE.1 hv with h |h;exact hp v h;simp at h;rw[h];assumption⟩
     ·exact⟨_,rfl,by rw[L8,uP e hp (by assumption)];rfl⟩
    ·rintro _ H ρ ⟨rfl,hH,hp⟩;refine wXA ?_;exact⟨_,rfl,by rw[L8,iE hp];rfl⟩
  ·have Gj:fN s l=false->nP (.mk k s o l)=10:=λh=>by rw[nP,if_neg (by simp[*]),if_neg (by assumption),if_neg (by omega),if_pos h]
   have K7:fN s l=true->nP (.mk k s o l)=rE l:=λh=>by rw[nP,if_neg (by simp[*]),if_neg (by assumption),if_neg (by omega),if_neg (by rw[h];simp)]
   have xV:(gI s D5 ||gI s BC)=false:=by rw[mF (n:=D5) (by assumption),mF (n:=BC) (by assumption)];rfl
   have hnw:gI s L4=true:=qe (by assumption);have ha:(cJ s).a=1:=by rw[B0 (by assumption:s.toList=L4.toList)];exact It
   obtain⟨u,r,rfl⟩:∃u r,l=u::r:=by cases l with |nil=>simp at cT;simp at *;omega |cons u r=>exact⟨u,r,rfl⟩
   have cV:(ae (u::r))[0]?=some (.agg [.int .i64 u.k,.str u.s,.int .i64 u.o,.aa false (ae u.l)]):=by rw[ae,<-aw];rfl
   have hpk:fN s (u::r)=decide (u.k=2):=by unfold fN;rw[xV,hnw];rfl
   refine .mk (n:=0) ?_ rfl cV rfl;generalize u::r=l at *;refine wXC (λhc=>?_) λhc=>?_
   ·have L8:=K7 (by rw[hpk];simp[*]);refine eJ.zip T6 l (λp q L H=>L=[(62,.aa false (ae l)),(63,.int .i64 l.length),(64,.int .i64 p.length)]/\HV H/\∀u∈p,nP u=0) (.nx ⟨rfl,by first |assumption |exact HV.vV (by simp) (by simp),λu hu=>by cases hu⟩) ?_ ?_
    ·rintro p u q _ H ρ e ⟨rfl,hH,hp⟩;have cV:=bS e;have cH:=congrArg List.length e;simp only[Zx,ZA]at cH;have hi:=ih u (by rw[e];simp);rw[aw]at hi;refine wXA ?_;refine .p hi ?_;refine wXC (λhc=>?_) λhc=>?_
     ·exact .nx ⟨rfl,hH.ct (HV.one (by simp)),λv hv=>by rcases ZE.1 hv with h |h;exact hp v h;simp at h;rw[h];assumption⟩
     ·exact⟨_,rfl,by rw[L8,uP e hp (by assumption)];rfl⟩
    ·rintro _ H ρ ⟨rfl,hH,hp⟩;refine wXA ?_;exact⟨_,rfl,by rw[L8,iE hp];rfl⟩
   ·exact⟨_,rfl,by rw[Gj (by rw[hpk];simp[*])];rfl⟩
  ·have K7:nP (.mk k s o l)=rE l:=by
    have h1:fN s l=true:=by unfold fN;rw[mF (n:=D5) (by assumption),mF (n:=BC) (by assumption),mF (n:=L4) (by assumption)];rfl
    rw[nP,if_neg (by simp[*]),if_neg (by assumption),if_neg (by omega),if_neg (by rw[h1];simp)]
   have L8:=K7;refine eJ.zip T6 l (λp q L H=>L=[(62,.aa false (ae l)),(63,.int .i64 l.length),(64,.int .i64 p.length)]/\HV H/\∀u∈p,nP u=0) (.nx ⟨rfl,by first |assumption |exact HV.vV (by simp) (by simp),λu hu=>by cases hu⟩) ?_ ?_
   ·rintro p u q _ H ρ e ⟨rfl,hH,hp⟩;have cV:=bS e;have cH:=congrArg List.length e;simp only[Zx,ZA]at cH;have hi:=ih u (by rw[e];simp);rw[aw]at hi;refine wXA ?_;refine .p hi ?_;refine wXC (λhc=>?_) λhc=>?_
    ·exact .nx ⟨rfl,hH.ct (HV.one (by simp)),λv hv=>by rcases ZE.1 hv with h |h;exact hp v h;simp at h;rw[h];assumption⟩
    ·exact⟨_,rfl,by rw[L8,uP e hp (by assumption)];rfl⟩
   ·rintro _ H ρ ⟨rfl,hH,hp⟩;refine wXA ?_;exact⟨_,rfl,by rw[L8,iE hp];rfl⟩
 ·exact⟨_,rfl,by rw[nP,if_pos (by assumption)];rfl⟩
theorem E3(t:Tm)(hb:ax t<1000000000):aO C 186 [enc t] (.int .i64 (nP t)):=by
 induction t using Tm.ind with
 |h k s o l ih=>
  have:=bD l;simp only[ax]at hb;exact Iu k s o l (by omega) λt ht=>ih t ht (by have:=bN ht;omega)
theorem rz(t:Tm)(hb:ax t<100000000):aO C 139 [enc t] (.int .i64 (km t)):=by
 have h1:=(fo t hb).nine;have h2:=E3 t (by omega);rw[aw]at h1 h2 ⊢;refine aO.x T6 Tryz.func139 rfl ?_;refine wXA ?_;refine .p h1 ?_;refine wXC (λhc=>?_) λhc=>?_
 ·refine .p h2 ?_;refine wXA ?_;exact⟨_,rfl,by unfold km;rw[if_neg (by omega)];rfl⟩
 ·exact⟨_,rfl,by unfold km;rw[if_pos (by assumption)];rfl⟩
theorem zA{p:ByteArray->Bool}{l a q:List Tm}{u:Tm}(e:l=a++u::q)(hu:every p u=false):ic p l=false:=by
 subst e
 induction a with
 |nil=>simp only[aad,ic,hu];rfl
 |cons v a ih=>simp only[Z3,ic,ih];simp
theorem pq{p:ByteArray->Bool}:∀{l:List Tm},(∀v∈l,every p v=true)->ic p l=true
 |[],_=>rfl
 |v::l,h=>by rw[ic,h v (by simp),pq λw hw=>h w (by simp[hw])];rfl
theorem Iv(g:FuncId)(p:ByteArray->Bool)(hm:C.mode g=.pure)(hg:∀s,aO C g [.str s] (.bool (p s)))(k s o l)(hl:l.length<1000000000)(ih:∀t∈l,aO C 109 [enc t,.fn g []] (.bool (every p t))):
  aO C 109 [enc (.mk k s o l),.fn g []] (.bool (every p (.mk k s o l))):=by
 have cT:=an l;have WD:=hg s;have qv:every p (.mk k s o l)=((decide (k≠3)||p s)&&ic p l):=rfl;rw[bj];refine aO.x T6 Tryz.func109 rfl ?_;refine wXC (λhc=>?_) λhc=>?_
 ·refine .p WD ?_ hm
  cases hps:p s
  ·refine wXA ?_;exact⟨_,rfl,by rw[qv,hps];simp[aY, *]⟩
  ·have qv:every p (.mk k s o l)=ic p l:=by rw[qv,hps];simp
   refine wXA ?_;refine eJ.zip T6 l (λa q L H=>L=[(1,.fn g []),(18,.aa false (ae l)),(19,.int .i64 l.length),(20,.int .i64 a.length)]/\HV H/\∀u∈a,every p u=true) (.nx ⟨rfl,by first |assumption |exact HV.one (by simp),λu hu=>by cases hu⟩) ?_ ?_
   ·rintro a u q _ H ρ e ⟨rfl,hH,hp⟩;have cV:=bS e;have cH:=congrArg List.length e;simp only[Zx,ZA]at cH;have hi:=ih u (by rw[e];simp);rw[aw]at hi;refine wXA ?_;refine .p hi ?_
    cases hu:every p u
    ·refine wXA ?_;exact⟨_,rfl,by rw[qv,zA e hu];rfl⟩
    ·refine wXA ?_;exact .nx ⟨rfl,hH.ct (HV.one (by simp)),λv hv=>by rcases ZE.1 hv with h |h;exact hp v h;simp at h;rw[h];exact hu⟩
   ·rintro _ H ρ ⟨rfl,hH,hp⟩;refine wXA ?_;exact⟨_,rfl,by rw[qv,pq hp];rfl⟩
 ·have qv:every p (.mk k s o l)=ic p l:=by rw[qv];simp[*]
  refine eJ.zip T6 l (λa q L H=>L=[(1,.fn g []),(18,.aa false (ae l)),(19,.int .i64 l.length),(20,.int .i64 a.length)]/\HV H/\∀u∈a,every p u=true) (.nx ⟨rfl,by first |assumption |exact HV.one (by simp),λu hu=>by cases hu⟩) ?_ ?_
  ·rintro a u q _ H ρ e ⟨rfl,hH,hp⟩;have cV:=bS e;have cH:=congrArg List.length e;simp only[Zx,ZA]at cH;have hi:=ih u (by rw[e];simp);rw[aw]at hi;refine wXA ?_;refine .p hi ?_
   cases hu:every p u
   ·refine wXA ?_;exact⟨_,rfl,by rw[qv,zA e hu];rfl⟩
   ·refine wXA ?_;exact .nx ⟨rfl,hH.ct (HV.one (by simp)),λv hv=>by rcases ZE.1 hv with h |h;exact hp v h;simp at h;rw[h];exact hu⟩
  ·rintro _ H ρ ⟨rfl,hH,hp⟩;refine wXA ?_;exact⟨_,rfl,by rw[qv,pq hp];rfl⟩
theorem wq(g:FuncId)(p:ByteArray->Bool)(hm:C.mode g=.pure)(hg:∀s,aO C g [.str s] (.bool (p s)))(t:Tm)(hb:ax t<1000000000):aO C 109 [enc t,.fn g []] (.bool (every p t)):=by
 induction t using Tm.ind with
 |h k s o l ih=>
  have:=bD l;simp only[ax]at hb;exact Iv g p hm hg k s o l (by omega) λt ht=>ih t ht (by have:=bN ht;omega)
theorem Iw(s:ByteArray):aO C 187 [.str s] (.bool (AV s)):=by
 have hs:=oT s;rw[Ao]at hs;have T1:uh s=true->AV s=false:=λh=>by simp[AV,h]
 refine aO.x T6 Tryz.func187 rfl ?_;refine wXO (λhc=>?_) (λhc hc=>?_) (λhc hc hc=>?_) (λhc hc hc hc=>?_) (λhc hc hc hc hc=>?_) (λhc hc hc hc hc hc=>?_) λhc hc hc hc hc hc=>?_
 ·exact⟨_,rfl,by rw[T1 (by unfold uh;rw[qe (n:=wo) (by assumption)];simp)];rfl⟩
 ·exact⟨_,rfl,by rw[T1 (by unfold uh;rw[qe (n:=jj) (by assumption)];simp)];rfl⟩
 ·exact⟨_,rfl,by rw[T1 (by unfold uh;rw[qe (n:=KQ) (by assumption)];simp)];rfl⟩
 ·exact⟨_,rfl,by rw[T1 (by unfold uh;rw[qe (n:=Am) (by assumption)];simp)];rfl⟩
 ·exact⟨_,rfl,by rw[T1 (by unfold uh;rw[qe (n:=An) (by assumption)];simp)];rfl⟩
 ·exact⟨_,rfl,by rw[T1 (by unfold uh;rw[qe (n:=sG) (by assumption)];simp)];rfl⟩
 ·have Dz:uh s=false:=by
   unfold uh;rw[mF (n:=wo) (by assumption),mF (n:=jj) (by assumption),mF (n:=KQ) (by assumption),mF (n:=Am) (by assumption),mF (n:=An) (by assumption),mF (n:=sG) (by assumption)]
   rfl
  refine .p hs ?_;refine wXC (λhc=>?_) λhc=>?_
  all_goals exact⟨_,rfl,by simp[aY,AV,Dz, *]⟩
theorem Ix(t:Tm)(hb:ax t<100000000):aO C 140 [enc t] (.bool (ri t)):=by
 have h1:=rz t hb;have h2:=wq 187 AV rfl Iw t (by omega);rw[aw]at h1 h2 ⊢;refine aO.x T6 Tryz.func140 rfl ?_;refine wXA ?_;refine .p h1 ?_;refine wXC (λhc=>?_) λhc=>?_
 ·refine .p h2 ?_
  cases he:every AV t
  all_goals(
   refine wXA ?_;exact⟨_,rfl,by simp[aY,ri, *]⟩)
 ·exact⟨_,rfl,by simp[aY,ri, *]⟩
theorem mK(a b:List Tm):cZ (a++b)=cZ a++cZ b:=by
 induction a with
 |nil=>rfl
 |cons t a ih=>simp[cZ,ih]
theorem zy:∀{l:List Tm},(∀t∈l,(pre t).length<=ax t)->(cZ l).length<=bz l
 |[],_=>by simp[cZ,bz]
 |t::l,h=>by
  have h1:=h t (by simp);have h2:=zy (l:=l) λu hu=>h u (by simp[hu])
  simp only[cZ,bz,Zx];omega
theorem LY(t:Tm):(pre t).length<=ax t:=by
 induction t using Tm.ind with
 |h k n o l ih=>
  have:=zy ih;simp only[pre,ax,ZA];omega
theorem LZ{k s o l}(hb:ax (.mk k s o l)<100000000):(cZ l).length<100000000:=by
 have:=LY (.mk k s o l);simp only[pre,ZA]at this;omega
@[simp] theorem iC(l:List Tm):du 4 (ae l):=by
 unfold du;rw[Zw]
 intro v hv
 rw[cU]at hv;obtain⟨t,_,rfl⟩:=Z0.1 hv;rw[aw];rfl
theorem cd(a b:List Tm):ae (a++b)=ae a++ae b:=by rw[cU,cU,cU,aal]
theorem Tf(k s o l)(hb:ax (.mk k s o l)<100000000)(ih:∀t∈l,aO C 168 [enc t] (.aa false (ae (pre t)))):aO C 168 [enc (.mk k s o l)] (.aa false (ae (pre (.mk k s o l)))):=by
 have cT:=an l;rw[bj];have nS:=LZ hb;have My:bz l<100000000:=by simp only[ax]at hb;omega
 have th:=bD l;have one:∀u:Tm,ae [u]=[.agg [.int .i64 u.k,.str u.s,.int .i64 u.o,.aa false (ae u.l)]]:=λu=>by rw[ae,<-aw];rfl
 refine aO.x T6 Tryz.func168 rfl ?_;refine wXA ?_;refine eJ.zip T6 l (λp q L H=>∃v,L=[(1,.ptr 0 0 0 0),(3,v),(4,.int .i64 p.length)]/\HV H/\H[0]?=some ⟨.m,0,4,[.agg [.int .i64 k,.str s,.int .i64 o,.aa false (ae l)]]⟩/\((p=[]/\v=.aa true (ae [.mk k s o l])/\H=[⟨.m,0,4,[.agg [.int .i64 k,.str s,.int .i64 o,.aa false (ae l)]]⟩])\/(Out 4 H v (ae (.mk k s o l::cZ p))/\∀ep n,v≠.aj 0 ep 0 n))) (.nx ⟨_,rfl,HV.one (by simp),rfl,.inl ⟨rfl,by rw[one],rfl⟩⟩) ?_ ?_
 ·rintro p u q _ H ρ e ⟨v,rfl,hH,h0,ho⟩;have cV:=bS e;have cH:=congrArg List.length e;simp only[Zx,ZA]at cH;have hi:=ih u (by rw[e];simp);rw[aw]at hi;have hpu:cZ l=cZ p++(pre u++cZ q):=by rw[e,mK];simp[cZ]
  have JZ:=congrArg List.length hpu;simp only[Zx]at JZ;have bI:(ae (pre u)).isEmpty=false:=by cases u;rfl
  have iP:du 4 (ae (pre u)):=iC _;have hle:=an (pre u);have rZ:cZ (p++[u])=cZ p++pre u:=by rw[mK];simp[cZ]
  refine wXA ?_;refine .p hi ?_;rcases ho with⟨rfl,rfl,rfl⟩|⟨ho,Bg⟩
  ·refine wXA ?_;refine .sn ?_ bI (by rw[an];simp;omega) rfl iP (iC _);refine wXA ?_;have hv:∀(ep n:Nat) (m:Nat),(PV.aj 1 0 0 m:PV)≠.aj 0 ep 0 n:=λep n m h=>by cases h
   have e1:ae [Tm.mk k s o l]++ae (pre u)=ae (Tm.mk k s o l::cZ ([]++[u])):=by rw[rZ,<-cd];simp[cZ]
   have e2:(ae [Tm.mk k s o l]).length+(ae (pre u)).length=(Tm.mk k s o l::cZ ([]++[u])).length:=by rw[rZ,an,an];simp[cZ];omega
   refine .nx ⟨_,rfl,HV.vV (by simp) (by simp),rfl,.inr ⟨.inr ⟨1,0,?_,?_⟩,?_⟩⟩
   ·rw[e2,<-an];rfl
   ·rw[<-e1];rfl
   ·exact λep n=>hv ep n _
  ·have xJ:=an (Tm.mk k s o l::cZ p);simp only[ZA]at xJ;refine wXH λv H lp=>?_;obtain⟨k1,k2⟩:=lp.obj h0 Bg;exact .nx ⟨_,rfl,lp.hv,k1,.inr ⟨by have:=lp.out;rw[<-cd]at this;simpa[rZ]using this,k2⟩⟩
 ·rintro _ H ρ ⟨v,rfl,hH,h0,ho⟩;refine wXA ?_;rcases ho with⟨rfl,rfl,rfl⟩|⟨ho,_⟩
  ·exact⟨_,rfl,by simp[aY,b9,pre,cZ]⟩
  ·exact Ls.GW (.inl ho) (by simp) (by simp[pre])
theorem L3(t:Tm)(hb:ax t<100000000):aO C 168 [enc t] (.aa false (ae (pre t))):=by
 induction t using Tm.ind with
 |h k s o l ih=>
  refine Tf k s o l hb λt ht=>ih t ht ?_;have:=bN ht;simp only[ax]at hb;omega
theorem OY{h:ab}{v:PV}{k o:Int}{s:ByteArray}{es:List PV}(ho:Out 4 h v es)(hv:ar es=true)(hn:aU es=es):∃r1,rb h (aY [.agg [.int .i64 k,.str s,.int .i64 o,v]])=some r1/\b9 r1=.agg [.int .i64 k,.str s,.int .i64 o,.aa false es]:=by
 obtain⟨r,h1,h2⟩:∃r,qi h v=some r/\b9 r=.aa false es:=by
  rcases ho with⟨rfl,rfl⟩|⟨id,ep,rfl,e2⟩
  ·exact⟨_,rfl,rfl⟩
  ·exact⟨.aa false es,by simp[qi,getM,e2,hv],by simp[b9,hn]⟩
 refine⟨.agg [.int .i64 k,.str s,.int .i64 o,r],?_,by simp[b9,aU,h2]⟩;simp only[aY,rb,ly,nW,h1]
 rfl
theorem vA(k s o l)(hl:l.length<100000000)(ih:∀t∈l,aO C 179 [enc t] (enc t)):aO C 179 [enc (.mk k s o l)] (enc (.mk k s o l)):=by
 have cT:=an l;rw[bj];refine aO.x T6 Tryz.func179 rfl ?_;refine wXA ?_
 have Fx:HR [⟨.m,0,4,[.agg [.int .i64 k,.str s,.int .i64 o,.aa true []]]⟩,⟨.m,0,4,[.agg [.int .i64 0,.str ByteArray.empty,.int .i64 0,.aa true []]]⟩]:=by
  intro x hx
  simp at hx;rcases hx with rfl |rfl <;>simp[bw,br]
 refine eJ.zip T6 l (λp q L H=>∃v,L=[(1,.ptr 0 0 0 0),(2,.ptr 1 0 0 0),(9,.aa false (ae l)),(10,.int .i64 (ae l).length),(11,.int .i64 p.length)]/\HR H/\H[0]?=some ⟨.m,0,4,[.agg [.int .i64 k,.str s,.int .i64 o,v]]⟩/\H[1]?=some ⟨.m,0,4,[.agg [.int .i64 0,.str ByteArray.empty,.int .i64 0,.aa true []]]⟩/\Out 4 H v (ae p)/\∀i∈ck v,2<=i) (.nx ⟨_,rfl,Fx,rfl,rfl,.inl ⟨rfl,rfl⟩,by simp[ck]⟩) ?_ ?_
 ·rintro p u q _ H ρ e ⟨v,rfl,hH,h0,h1,ho,hv⟩;have cV:=bS e;have cH:=congrArg List.length e;simp only[Zx,ZA]at cH;have hi:=ih u (by rw[e];simp);have hle:=an p;have nN:HR (H++[⟨.m,0,4,[.agg [.int .i64 u.k,.str u.s,.int .i64 u.o,.aa false (ae u.l)]]⟩]):=hH.dE (HV.one (by simp));have Bp:=ho.ct [⟨.m,0,4,[.agg [.int .i64 u.k,.str u.s,.int .i64 u.o,.aa false (ae u.l)]]⟩];have IZ:=ag h1;have rZ:ae p++[.agg [.int .i64 u.k,.str u.s,.int .i64 u.o,.aa false (ae u.l)]]=ae (p++[u]):=by rw[cd,<-aw];rfl
  rw[aw]at hi;refine wXA ?_;refine .p hi ?_;refine wXA ?_;refine .lr (λv' h' lr=>?_) Bp;have MD:∀j,j<2->∀ep n,v≠.aj j ep 0 n:=λj hj ep n hh=>by have:=hv j (by rw[hh];simp[ck]);omega
  have g0:=(lr.fr 0 (by simp) (MD 0 (by omega))).trans ((Zv (by omega)).trans h0);have g1:=(lr.fr 1 (by simp;omega) (MD 1 (by omega))).trans ((Zv (by omega)).trans h1);have hr3:=lr.hr
  have Vr:∀i∈ck v',2<=i:=λi hi=>by
   rcases lr.ck i hi with h |h
   ·exact hv i h
   ·simp at h;omega
  have lo:=lr.out;rw[rZ]at lo;have Sn:=lo.br;rcases lo with⟨_,hx⟩|⟨id,ep,rfl,bT⟩
  ·have:=congrArg List.length hx;rw[an]at this;simp at this
  have k0:=ag g0;refine wXA ?_;have Pn:=Vr id (by simp[ck]);exact .nx ⟨_,rfl,hr3.set _ (by simp) (by simpa[bw,br]using Sn),ZB k0,(ZC (by omega)).trans g1,.inr ⟨id,ep,rfl,(ZC (by omega)).trans bT⟩,Vr⟩
 ·rintro _ H ρ ⟨v,rfl,hH,h0,h1,ho,hv⟩;have k1:=ag h1;have e2:=ZB (a:=(⟨.m,0,4,[.agg [.int .i64 k,.str s,.int .i64 o,v]]⟩:au)) k1;have Dh:Out 4 (H.set 1 ⟨.m,0,4,[.agg [.int .i64 k,.str s,.int .i64 o,v]]⟩) v (ae l):=ho.of_eq λi hi=>ZC (by have:=hv i hi;omega)
  rcases ho with⟨rfl,he⟩|⟨id,ep,rfl,bT⟩
  ·refine wXA ?_;refine .mk ?_ (oS (T:=T6) rfl e2 rfl rfl rfl rfl);exact⟨OY Dh (by simp) (by simp)⟩
  ·refine wXA ?_;refine .mk ?_ (oS (T:=T6) rfl e2 rfl rfl rfl rfl);exact⟨OY Dh (by simp) (by simp)⟩
theorem mw(t:Tm)(hb:ax t<100000000):aO C 179 [enc t] (enc t):=by
 induction t using Tm.ind with
 |h k s o l ih=>
  have:=bD l;simp only[ax]at hb;exact vA k s o l (by omega) λt ht=>ih t ht (by have:=bN ht;omega)
structure KS(H:ab)(v:PV)(a:List Tm)(h':ab):Prop where
 hr:HR h'
 len:H.length<=h'.length
 var:∃v',h'[2]?=some ⟨.m,0,1,[v']⟩/\Out 4 h' v' (ae a)/\∀i∈ck v',i∈ck v\/H.length<=i
 fr:∀j,j<H.length->j≠2->j∉ck v->h'[j]?=H[j]?
theorem KS.take{H h':ab}{v:PV}{a:List Tm}(s:KS H v a h')(h3:3<=H.length)(hr:HR (h'.take H.length)):KS H v a (h'.take H.length):=by
 have hl:=s.len;have cz:(h'.take H.length).length=H.length:=by simp;omega
 obtain⟨v',e1,e2,e3⟩:=s.var;have g1:(h'.take H.length)[2]?=some ⟨.m,0,1,[v']⟩:=by rw[aaa (by omega)];exact e1
 have ia:=(hr _ (ZK g1)).2;refine⟨hr,by omega,⟨v',g1,e2.of_eq λi hi=>?_,e3⟩,λj h1 h2 h3=>by rw[aaa (by omega)];exact s.fr j h1 h2 h3⟩;rw[aaa];rcases e2 with⟨rfl,_⟩|⟨id,ep,rfl,_⟩
 ·simp[ck]at hi
 ·simp[ck]at hi;subst hi;simp[bw,br]at ia;omega
theorem KS.trans{H h1 h2:ab}{v v1:PV}{a b:List Tm}(s:KS H v a h1)(e:h1[2]?=some ⟨.m,0,1,[v1]⟩)(t:KS h1 v1 b h2):KS H v b h2:=by
 obtain⟨v',q1,q2,q3⟩:=s.var;rw[q1]at e
 cases e
 obtain⟨v2,r1,r2,r3⟩:=t.var;have:=s.len;refine⟨t.hr,aaj s.len t.len,⟨v2,r1,r2,λi hi=>?_⟩,λj h1 h2 h3=>?_⟩
 ·rcases r3 i hi with h |h
  ·exact q3 i h
  ·omega
 ·rw[t.fr j (by omega) h2 (λhh=>by rcases q3 j hh with h |h;exact h3 h;omega)];exact s.fr j h1 h2 h3
theorem ai.ks{f:FuncId}{args:List PV}{H:ab}{v:PV}{b:List Tm}{Q:PV->ab->Prop}(a:ay C f args H (λr h'=>r=.cm []/\KS H v b h'))(h3:3<=H.length)(q:∀h',KS H v b h'->Q (.cm []) h')(hm:C.mode f=.opened:=by rfl):ai C 2 f args H Q:=
 ai.sm a (λr h' p=>⟨p.2.hr,p.2.len⟩) (λr h' p=>by rw[p.1];exact q h' p.2) (λr h' p hr=>by rw[p.1];exact q _ (p.2.take h3 hr)) hm
theorem O3(u:Tm)(n:Int)(H:ab)(v:PV)(a:List Tm)(hH:HR H)(h1:H[1]?=some ⟨.m,0,1,[.int .i64 n]⟩)(h2:H[2]?=some ⟨.m,0,1,[v]⟩)(ho:Out 4 H v (ae a))(hv:∀i∈ck v,3<=i)(hn:a.length<100000000):
  ay C 154 [enc u,.ptr 1 0 0 0,.ptr 2 0 0 0] H (λr h'=>r=.cm []/\KS H v (a++if u.k=n then[u]else[]) h'):=by
 have hle:=an a;have cz:=ag h2;have hu:ae a++[.agg [.int .i64 u.k,.str u.s,.int .i64 u.o,.aa false (ae u.l)]]=ae (a++[u]):=by rw[cd,<-aw];rfl
 rw[aw];refine ay.x T6 Tryz.func154 rfl ?_;refine wXC (λhc=>?_) λhc=>?_
 ·refine Py.apd h2 ho (λi hi=>by have:=hv i hi;omega) (by omega) (λid ep h' ap=>?_);refine wXA ?_;refine⟨rfl,?_⟩;rw[if_pos hc];have hl:=ap.len;have bT:=ag ap.at';have hg:∀j,j<H.length->j≠id->j≠2->h'[j]?=H[j]?:=λj g1 g2 g3=>by rw[ap.fr j g2 g3,Zv g1]
  refine⟨λo ho=>?_,by omega,⟨_,ap.var,.inr ⟨id,ep,by rw[an];simp,by rw[<-hu];exact ap.at'⟩,λi hi=>?_⟩,λj g1 g2 g3=>hg j g1 (λhh=>?_) g2⟩
  ·obtain⟨j,hj⟩:=aas ho
   by_cases j1:j=id
   ·subst j1;rw[ap.at']at hj;cases hj;exact⟨by simp,bq _ _ (by rw[hu];simp)⟩
   by_cases j2:j=2
   ·subst j2;rw[ap.var]at hj;cases hj;exact⟨by simp,by simp[bw,br];omega⟩
   rw[ap.fr j j1 j2]at hj;have:=(hH.dE (HV.one (ep:=0) (n:=4) (es:=[.agg [.int .i64 u.k,.str u.s,.int .i64 u.o,.aa false (ae u.l)]]) (by simp))) o (ZK hj);exact⟨this.1,eB (λi hi=>by have:=of_decide_eq_true hi;simp at this;exact decide_eq_true (by omega)) _ this.2⟩
  ·simp[ck]at hi;subst hi;rcases ap.Wz with h |h
   ·exact .inl h
   ·exact .inr (by omega)
  ·subst hh;rcases ap.Wz with h |h
   ·exact g3 h
   ·omega
 ·refine⟨rfl,?_⟩;rw[if_neg hc,ZV];refine⟨hH.dE (HV.one (by simp)),by simp,⟨v,?_,ho.ct _,λi hi=>.inl hi⟩,λj g1 g2 g3=>Zv g1⟩;rw[Zv cz];exact h2
def uo(n:Int)(l:List Tm):List Tm:=l.filter λu=>decide (u.k=n)
theorem uQ(n:Int)(l:List Tm):(uo n l).length<=l.length:=aaP _ _
theorem C6(n:Int)(u:Tm)(l:List Tm):uo n (u::l)=(if u.k=n then[u]else[])++uo n l:=by
 unfold uo
 by_cases h:u.k=n <;>simp[List.filter_cons,h]
theorem Gw(n:Int)(a b:List Tm):uo n (a++b)=uo n a++uo n b:=by simp[uo]
theorem KS.ub{H J h':ab}{v:PV}{a:List Tm}(s:KS (H++J) v a h'):KS H v a h':=by
 have hl:=s.len;rw[Zx]at hl;obtain⟨v',e1,e2,e3⟩:=s.var;refine⟨s.hr,by omega,⟨v',e1,e2,λi hi=>?_⟩,λj h1 h2 h3=>by rw[s.fr j (by simp;omega) h2 h3,Zv h1]⟩;rcases e3 i hi with h |h
 ·exact .inl h
 ·exact .inr (by simp at h;omega)
theorem pL(a b:List Tm):bz (a++b)=bz a+bz b:=by
 induction a with
 |nil=>simp[bz]
 |cons t a ih=>simp only[Z3,bz,ih];omega
theorem O4 (n:Int) (k s o l) (ih:∀t∈l,∀(H:ab) (v:PV) (a:List Tm),HR H->H[1]?=some ⟨.m,0,1,[.int .i64 n]⟩->H[2]?=some ⟨.m,0,1,[v]⟩->Out 4 H v (ae a)->(∀i∈ck v,3<=i)->a.length+ax t<100000000->
   ay C 128 [enc t,.fn 154 [.ptr 1 0 0 0,.ptr 2 0 0 0]] H (λr h'=>r=.cm []/\KS H v (a++uo n (pre t)) h'))
  (H:ab) (v:PV) (a:List Tm) (hH:HR H) (h1:H[1]?=some ⟨.m,0,1,[.int .i64 n]⟩) (h2:H[2]?=some ⟨.m,0,1,[v]⟩) (ho:Out 4 H v (ae a)) (hv:∀i∈ck v,3<=i) (hn:a.length+ax (.mk k s o l)<100000000):
  ay C 128 [enc (.mk k s o l),.fn 154 [.ptr 1 0 0 0,.ptr 2 0 0 0]] H (λr h'=>r=.cm []/\KS H v (a++uo n (pre (.mk k s o l))) h'):=by
 have cT:=an l;have th:=bD l;simp only[ax]at hn;have cz:=ag h2;have SE:HR (H++[⟨.m,0,4,[enc (.mk k s o l)]⟩]):=hH.dE (HV.one (by simp));have b1:(H++[⟨.m,0,4,[enc (.mk k s o l)]⟩])[1]?=some ⟨.m,0,1,[.int .i64 n]⟩:=by rw[Zv (by omega)];exact h1
 have b2:(H++[⟨.m,0,4,[enc (.mk k s o l)]⟩])[2]?=some ⟨.m,0,1,[v]⟩:=by rw[Zv cz];exact h2
 have pk:=O3 (.mk k s o l) n (H++[⟨.m,0,4,[enc (.mk k s o l)]⟩]) v a SE b1 b2 (ho.ct _) hv (by omega);rw[bj]at pk ⊢;refine ay.x T6 Tryz.func128 rfl ?_;refine wXA ?_;refine ai.ks pk (by simp;omega) (λh' ks=>?_);refine wXA ?_;have kw:=ks.ub
 have eN:h'[H.length]?=some ⟨.m,0,4,[.agg [.int .i64 k,.str s,.int .i64 o,.aa false (ae l)]]⟩:=by
  rw[ks.fr H.length (by simp) (by omega) (λhh=>by have:=ho.mP _ hh;omega)];simp
 refine wXA ?_;have EG:a++(if(Tm.mk k s o l).k=n then[Tm.mk k s o l]else[])=a++uo n (.mk k s o l::cZ []):=by rw[C6];simp[cZ,uo]
 rw[EG]at kw;refine eJ.zip T6 l (λp q L K=>L=[(1,.fn 154 [.ptr 1 0 0 0,.ptr 2 0 0 0]),(10,.aa false (ae l)),(11,.int .i64 (ae l).length),(12,.int .i64 p.length)]/\KS H v (a++uo n (.mk k s o l::cZ p)) K) (.nx ⟨rfl,kw⟩) ?_ ?_
 ·rintro p u q _ K ρ e ⟨rfl,kp⟩;have cV:=bS e;have cH:=congrArg List.length e;simp only[Zx,ZA]at cH;obtain⟨v1,q1,q2,q3⟩:=kp.var;have Sw:=kp.len;have Vz:=kp.hr
  have xL:∀i∈ck v1,3<=i:=λi hi=>by
   rcases q3 i hi with h |h
   ·exact hv i h
   ·omega
  have c1:K[1]?=some ⟨.m,0,1,[.int .i64 n]⟩:=by rw[kp.fr 1 (by omega) (by omega) (λhh=>by have:=hv 1 hh;omega)];exact h1
  have Sx:bz l=bz p+(ax u+bz q):=by rw[e,pL];simp[bz]
  have nS:(cZ p).length<=bz p:=oF p;have WQ:=uQ n (Tm.mk k s o l::cZ p);simp only[ZA]at WQ;have ih1:=ih u (by rw[e];simp) (K++[⟨.m,0,4,[enc u]⟩]) v1 (a++uo n (Tm.mk k s o l::cZ p)) (Vz.dE (HV.one (by simp))) (by rw[Zv (by omega)];exact c1) (by rw[Zv (ag q1)];exact q1) (q2.ct _) xL (by simp only[Zx];omega);rw[aw]at ih1;refine wXA ?_;refine ai.ks ih1 (by simp;omega) (λh' ks=>?_);refine wXA ?_;refine .nx ⟨rfl,?_⟩;have:=kp.trans q1 ks.ub;rwa[ZZ,<-Gw,show Tm.mk k s o l::cZ p++pre u=Tm.mk k s o l::cZ (p++[u]) by rw[mK];simp[cZ]]at this
 ·rintro _ K ρ ⟨rfl,kp⟩;refine wXA ?_;exact⟨rfl,by rw[pre];exact kp⟩
theorem O2(n:Int)(t:Tm):∀(H:ab) (v:PV) (a:List Tm),HR H->H[1]?=some ⟨.m,0,1,[.int .i64 n]⟩->H[2]?=some ⟨.m,0,1,[v]⟩->Out 4 H v (ae a)->(∀i∈ck v,3<=i)->a.length+ax t<100000000->
   ay C 128 [enc t,.fn 154 [.ptr 1 0 0 0,.ptr 2 0 0 0]] H (λr h'=>r=.cm []/\KS H v (a++uo n (pre t)) h'):=by
 induction t using Tm.ind with
 |h k s o l ih=>exact O4 n k s o l ih
theorem Mm(a b:Tm)(ha:ax a<1000000000)(hb:ax b<1000000000):aO C 178 [enc a,enc b] (.bool (decide (aT a b=0))):=by
 have h1:=(dT a b ha hb).nine;rw[aw,aw]at h1 ⊢;refine aO.x T6 Tryz.func178 rfl ?_;refine wXA ?_;refine .p h1 ?_;refine wXC (λhc=>?_) λhc=>?_
 all_goals exact⟨_,rfl,by simp[aY, *]⟩
theorem rG(g:FuncId)(H:ab):ay C 162 [.aa true [],.fn g []] H (λr h'=>r=.aa true []/\h'=H):=by
 refine ay.x T6 Tryz.func162 rfl ?_;refine wXA ?_;exact⟨rfl,rfl⟩
theorem oW(g:FuncId)(hm:C.mode g=.pure)(hg:∀a b:Tm,ax a<1000000000->ax b<1000000000->aO C g [enc a,enc b] (.bool (decide (aT a b=0))))(x:Tm)(l:List Tm)(H:ab)(hH:HR H)(id ep:Nat)(e1:H[id]?=some ⟨.m,ep,4,ae (x::l)⟩)(hn:l.length<100000000)(hb:∀t∈x::l,ax t<1000000000):
  ay C 162 [.aj id ep 0 (ae (x::l)).length,.fn g []] H
   (λr h'=>r=.aj id ep 0 (dd (x::l)).length/\∃tl,ar tl=true/\h'=H.set id ⟨.m,ep,4,ae (dd (x::l))++tl⟩):=by
 have cT:(ae (x::l)).length=l.length+1:=by rw[an];rfl
 refine ay.x T6 Tryz.func162 rfl ?_;refine wXC (λhc=>?_) λhc=>?_
 ·obtain rfl:l=[]:=ZL (by omega);exact⟨rfl,[],rfl,by rw[ZV];exact(cS e1).symm⟩
 refine eJ.zip T6 l (λp q L h=>h=H/\∃P' prev,x::p=P'++[prev]/\P'++prev::rW prev q=dd (x::l)/\L=[(0,.aj id ep 0 (ae (x::l)).length),(1,.fn g []),(5,.int .i64 ((p.length+1:Nat):Int))]) (.nx ⟨rfl,[],x,rfl,rfl,rfl⟩) ?_ ?_
 ·rintro p a q _ h ρ e ⟨rfl,P',prev,hp,hd,rfl⟩;have cH:=congrArg List.length e;simp only[Zx,ZA]at cH;have nS:=congrArg List.length hp;simp only[Zx,ZA,Z']at nS;have DM:(ae (x::l))[0+(p.length+1)]?=some (.agg [.int .i64 a.k,.str a.s,.int .i64 a.o,.aa false (ae a.l)]):=gp (by rw[e,ZS];simp)
  have oz:(ae (x::l))[0+(((p.length+1:Nat):Int) - 1).toNat]?=some (.agg [.int .i64 prev.k,.str prev.s,.int .i64 prev.o,.aa false (ae prev.l)]):=gp (by
   rw[show(((p.length+1:Nat):Int) - 1).toNat=p.length by omega,e,<-Z3,hp,ZS,Zv (by simp;omega),ZI (by omega)];simp[show p.length - P'.length=0 by omega])
  have hq:=hg a prev (hb a (by rw[e];simp)) (hb prev (by rw[e,<-Z3,hp];simp));rw[aw,aw]at hq;refine wXA ?_;refine .p hq ?_ hm
  cases hc:decide (aT a prev=0)
  ·refine wXA ?_;refine .nx ⟨rfl,P'++[prev],a,by rw[<-Z3,hp],?_,rfl⟩;rw[<-hd,rW,if_neg (by simpa using hc)];simp
  ·refine wXA ?_;rw[cT]at *;refine .sl rfl rfl (rf T6 rfl rfl e1 (by rw[an];simp) (by omega) (by omega)) ?_;refine wXA ?_
   refine eJ.zip T6 q (λp2 q2 L h'=>∃R M0 pr,ax pr<1000000000/\R.length+M0.length=p.length+1+p2.length/\R++rW pr q2=dd (x::l)/\h'=h.set id ⟨.m,ep,4,ae (R++(M0++[pr]++q2))⟩/\
    L=[(0,.aj id ep 0 (l.length+1)),(1,.fn g []),(5,.int .i64 (R.length:Int)),(6,.aj id ep (0+(p.length+1)) (l.length+1 - (p.length+1))),(7,.int .i64 ((p2.length+1:Nat):Int))]) (.nx ⟨P'++[prev],[],a,hb a (by rw[e];simp),by simp only[Zx,ZA,Z'];omega,?_,?_,rfl⟩) ?_ ?_
   ·rw[<-hd,rW,if_pos (by simpa using hc)];simp
   ·rw[cS];rw[e1,e,<-Z3,hp];simp
   ·rintro p2 b q2 _ _ ρ2 e2 ⟨R,M0,pr,UC,IZ,I0,rfl,rfl⟩;have Jw:=congrArg List.length e2;simp only[Zx,ZA]at Jw;have G4:(h.set id ⟨.m,ep,4,ae (R++(M0++[pr]++b::q2))⟩)[id]?=some ⟨.m,ep,4,ae (R++(M0++[pr]++b::q2))⟩:=ZB (ag e1);have Wv:HR (h.set id ⟨.m,ep,4,ae (R++(M0++[pr]++b::q2))⟩):=hH.set id (by simp) (bq _ _ (by simp));have PD:(ae (R++(M0++[pr]++b::q2))).length=l.length+1:=by rw[an];simp;omega
    have XK:(ae (R++(M0++[pr]++b::q2)))[0+(p.length+1)+(p2.length+1)]?=some (.agg [.int .i64 b.k,.str b.s,.int .i64 b.o,.aa false (ae b.l)]):=gp (sb (A:=R++M0++[pr]) (B:=q2) (by simp) (by simp;omega));have QH:(ae (R++(M0++[pr]++b::q2)))[0+(p.length+1)+(((p2.length+1:Nat):Int) - 1).toNat]?=some (.agg [.int .i64 pr.k,.str pr.s,.int .i64 pr.o,.aa false (ae pr.l)]):=gp (sb (A:=R++M0) (B:=b::q2) (by simp) (by simp;omega));have UD:=hg b pr (hb b (by rw[e,e2];simp)) UC;rw[aw,aw]at UD;obtain⟨m,M1,hM⟩:∃m M1,M0++[pr]=m::M1:=by cases M0 with |nil=>exact⟨_,_,rfl⟩|cons m M=>exact⟨m,M++[pr],rfl⟩
    have WC:=congrArg List.length hM;simp only[Zx,ZA,Z']at WC;have XL:(ae (R++(M0++[pr]++b::q2)))[0+R.length]?=some (.agg [.int .i64 m.k,.str m.s,.int .i64 m.o,.aa false (ae m.l)]):=gp (sb (A:=R) (B:=M1++b::q2) (by rw[hM];simp) (by omega))
    have j8:(ae (R++(M0++[pr]++b::q2))).set (0+R.length) (.agg [.int .i64 b.k,.str b.s,.int .i64 b.o,.aa false (ae b.l)])=ae ((R++[b])++(M1++[b]++q2)):=by
     rw[<-aw,vG,hM,ZS];simp
    clear hq DM oz;refine wXA ?_;refine .p UD ?_ hm
    cases I1:decide (aT b pr=0)
    ·refine wXA ?_;rw[j8,aar];refine .nx ⟨R++[b],M1,b,hb b (by rw[e,e2];simp),by simp;omega,?_,rfl,rfl⟩;rw[<-I0,rW,if_neg (by simpa using I1)];simp
    ·refine wXA ?_;refine .nx ⟨R,M0++[pr],b,hb b (by rw[e,e2];simp),by simp;omega,?_,by simp,rfl⟩;rw[<-I0,rW,if_pos (by simpa using I1)]
   ·rintro _ _ ρ2 ⟨R,M0,pr,UC,IZ,I0,rfl,rfl⟩;have G4:(h.set id ⟨.m,ep,4,ae (R++(M0++[pr]++[]))⟩)[id]?=some ⟨.m,ep,4,ae (R++(M0++[pr]++[]))⟩:=ZB (ag e1);have Wv:HR (h.set id ⟨.m,ep,4,ae (R++(M0++[pr]++[]))⟩):=hH.set id (by simp) (bq _ _ (by simp));have PD:(ae (R++(M0++[pr]++[]))).length=l.length+1:=by rw[an];simp;omega
    rw[rW,ZV]at I0;subst I0;refine wXA ?_;refine .sl rfl rfl (rf T6 rfl rfl G4 (by omega) ?_ (by omega)) ?_
    ·simp[dd]
    refine wXA ?_;refine .clr rfl (Bv T6 rfl rfl rfl G4 (by omega) rfl rfl) ?_;have pW:List.take (0+(dd (x::l)).length) (ae (dd (x::l)++(M0++[pr]++[])))=ae (dd (x::l)):=by rw[cU,cU,ZS,aal,List.take_left' (by simp)]
    have Dd:List.drop (0+(dd (x::l)).length+(l.length+1 - (dd (x::l)).length)) (ae (dd (x::l)++(M0++[pr]++[])))=[]:=Z5 (by omega);rw[pW,Dd,aar]
    obtain⟨tl,DS,cz,Nt⟩:∃tl:List PV,tl=List.replicate (l.length+1 - (dd (x::l)).length) (.agg [.int .i64 0,.str ByteArray.empty,.int .i64 0,.aa true []])/\tl.length=l.length+1 - (dd (x::l)).length/\ar tl=true:=
     ⟨_,rfl,by simp,by rw[bt,Zw];intro y hy;rw[aam hy];rfl⟩
    have e3:(h.set id ⟨.m,ep,4,ae (dd (x::l))++tl⟩)[id]?=some ⟨.m,ep,4,ae (dd (x::l))++tl⟩:=ZB (ag e1);rw[<-DS,ZV];refine wXA ?_;refine .sh rfl rfl (Bu T6 rfl rfl e3 (by rw[Zx,an,cz];have:=DR (x::l);simp at this;omega) (by omega)) ?_;refine wXA ?_;exact⟨rfl,tl,Nt,rfl⟩
 ·rintro _ h ρ ⟨rfl,P',prev,hp,hd,rfl⟩;have QI:ae (dd (x::l))=ae (x::l):=by rw[<-hd,hp,rW]
  refine wXA ?_;exact⟨congrArg (PV.aj id ep 0) (by rw[<-QI,an]),[],rfl,by rw[QI,ZV];exact(cS e1).symm⟩
theorem C7(g:FuncId)(H:ab)(id ep:Nat)(e1:H[id]?=some ⟨.m,ep,4,ae []⟩):ay C 162 [.aj id ep 0 0,.fn g []] H (λr h'=>r=.aj id ep 0 0/\h'=H):=by
 refine ay.x T6 Tryz.func162 rfl ?_;refine wXA ?_;exact⟨rfl,rfl⟩
theorem tJ(H:ab):ay C 130 [.aa true []] H (λr h'=>r=.aa true []/\h'=H):=by
 refine ay.x T6 Tryz.func130 rfl ?_;refine wXA ?_;refine ai.cu rfl rfl ?_;refine wXA ?_;refine .ln (rG _ H) (λr h' hr=>by rw[hr.2]) (λr h' hr=>?_);obtain⟨rfl,rfl⟩:=hr;refine wXA ?_;refine eJ.zip T6 ([]:List Tm) (λp q L K=>L=[(0,.aa true []),(9,.int .i64 0),(10,.int .i64 p.length)]/\K=h') (.nx ⟨rfl,rfl⟩) ?_ ?_
 ·rintro p u q _ K ρ e _
  cases p <;>cases e
 ·rintro _ K ρ ⟨rfl,rfl⟩;refine wXA ?_;exact⟨rfl,rfl⟩
theorem wE(H:ab)(hH:HR H)(id ep:Nat)(a:List Tm)(e1:H[id]?=some ⟨.m,ep,4,ae a⟩)(hn:a.length<100000000)(hb:∀t∈a,ax t<100000000):
  ay C 130 [.aj id ep 0 a.length] H (λr h'=>r=.aj id ep 0 (dd (dV a)).length/\∃tl,ar tl=true/\h'=H.set id ⟨.m,ep,4,ae (dd (dV a))++tl⟩):=by
 have qw:=an a;have cz:=ag e1;refine ay.x T6 Tryz.func130 rfl ?_;refine wXA ?_;refine ai.cu rfl (lJ e1 (by omega) (λt ht=>by have:=hb t ht;omega)) ?_;have e2:(H.set id ⟨.m,ep,4,ae (dV a)⟩)[id]?=some ⟨.m,ep,4,ae (dV a)⟩:=ZB (ag e1);have nN:HR (H.set id ⟨.m,ep,4,ae (dV a)⟩):=hH.set id (by simp) (bq _ _ (by simp));have xF:=(eY a).length_eq;have eW:∀t∈dV a,ax t<100000000:=λt ht=>hb t ((eY _).mem_iff.1 ht)
 rw[<-xF]at qw hn ⊢;generalize dV a=S at *
 cases S with
 |nil=>
  refine wXA ?_;refine .ln (C7 _ _ id ep e2) (λr h' hr=>by rw[hr.2]) (λr h' hr=>?_);obtain⟨rfl,rfl⟩:=hr;refine wXA ?_;refine eJ.zip T6 ([]:List Tm) (λp q L K=>L=[(0,.aj id ep 0 0),(9,.int .i64 0),(10,.int .i64 p.length)]/\K=H.set id ⟨.m,ep,4,ae []⟩) (.nx ⟨rfl,rfl⟩) ?_ ?_
  ·rintro p u q _ K ρ e _
   cases p <;>cases e
  ·rintro _ K ρ ⟨rfl,rfl⟩;refine wXA ?_;exact⟨rfl,[],rfl,by simp[dd]⟩
 |cons x r=>
  have hc:=oW _ rfl Mm x r _ nN id ep e2 (by simp at hn;omega) (λt ht=>by have:=eW t ht;omega);rw[an]at hc;refine wXA ?_;refine .ln hc (λr h' hr=>by obtain⟨_,_,_,rfl⟩:=hr;simp) (λr h' hr=>?_);obtain⟨rfl,tl,hv,rfl⟩:=hr;rw[aar];have e3:(H.set id ⟨.m,ep,4,ae (dd (x::r))++tl⟩)[id]?=some ⟨.m,ep,4,ae (dd (x::r))++tl⟩:=ZB (ag e1);have hK3:HR (H.set id ⟨.m,ep,4,ae (dd (x::r))++tl⟩):=hH.set id (by simp) (bq _ _ (by show ar (ae (dd (x::r))++tl)=true;rw[dj,hv];simp));have hDn:=DR (x::r);have hbD:∀t∈dd (x::r),ax t<100000000:=λt ht=>eW t ((JF (x::r) t).1 ht)
  generalize hD:dd (x::r)=D at *;generalize hK:H.set id ⟨.m,ep,4,ae D++tl⟩=K0 at *;refine wXA ?_;have hDl:=an D;refine eJ.zip T6 D (λp q L K=>L=[(0,.aj id ep 0 D.length),(9,.int .i64 D.length),(10,.int .i64 p.length)]/\K=K0) (.nx ⟨rfl,rfl⟩) ?_ ?_
  ·rintro p u q _ _ ρ e ⟨rfl,rfl⟩;have cH:=congrArg List.length e;simp only[Zx,ZA]at cH
   have cV:(ae D++tl)[0+p.length]?=some (.agg [.int .i64 u.k,.str u.s,.int .i64 u.o,.aa false (ae u.l)]):=by
    rw[Zv (by omega),ZS];exact bS e
   have di:=mw u (hbD u (by rw[e];simp));have j8:=cS cV;rw[aw]at di;refine wXA ?_;refine .p di ?_;refine wXA ?_;exact .nx ⟨rfl,by rw[j8];exact cS e3⟩
  ·rintro _ _ ρ ⟨rfl,rfl⟩;refine wXA ?_;exact⟨rfl,tl,hv,hK.symm⟩
theorem Ff(t:Tm)(n:Int)(hb:ax t<10000000):aO C 106 [enc t,.int .i64 n] (.aa false (ae (qb n t))):=by
 have Fx:HR [⟨.m,0,4,[enc t]⟩,⟨.m,0,1,[.int .i64 n]⟩,⟨.m,0,1,[.aa true []]⟩]:=by
  intro x hx
  simp at hx;rcases hx with rfl |rfl |rfl <;>simp[bw,br,bq]
  exact uD _ _ (by simp)
 have hw:=O2 n t _ (.aa true []) [] Fx rfl rfl (.inl ⟨rfl,rfl⟩) (by simp[ck]) (by simp;omega);have WQ:=uQ n (pre t);have nS:=uC t;rw[aw]at hw ⊢;refine aO.x T6 Tryz.func106 rfl ?_;refine wXA ?_;refine ai.ks hw (by simp) (λh' ks=>?_);rw[aad]at ks;obtain⟨v',e1,e2,e3⟩:=ks.var;have hh:=ks.hr;refine wXA ?_;have cP:dd (dV (uo n (pre t)))=qb n t:=DW _;rcases e2 with⟨rfl,e0⟩|⟨id,ep,rfl,e2⟩
 ·have e4:uo n (pre t)=[]:=ZL (by rw[<-an,e0];rfl);rw[e4]at cP
  skip
  refine .ln (tJ h') (λr h' hr=>by rw[hr.2]) (λr h' hr=>?_);obtain⟨rfl,rfl⟩:=hr;rw[<-cP];refine wXA ?_;exact⟨_,rfl,rfl⟩
 ·have ho:=wE h' hh id ep (uo n (pre t)) e2 (by omega) (λu hu=>by have:=oE t u (aao.1 hu).1;omega);rw[an]
  skip
  refine .ln ho (λr h' hr=>by obtain⟨_,_,_,rfl⟩:=hr;simp) (λr h' hr=>?_);obtain⟨rfl,tl,hv,rfl⟩:=hr;rw[cP];have e5:=ZB (a:=(⟨.m,ep,4,ae (qb n t)++tl⟩:au)) (ag e2);refine wXA ?_;exact gQ e5 (by rw[an]) (by simp) (by simp)
theorem kZ(t:Tm)(hb:ax t<10000000):aO C 54 [enc t] (.aa false (ae (bF t))):=by
 have h1:=Ff t 1 hb;rw[aw]at h1 ⊢;refine aO.x T6 Tryz.func54 rfl ?_;refine wXA ?_;refine .p h1 ?_;refine wXA ?_;exact⟨_,rfl,by simp[aY,bF]⟩
def gG(H:ab)(g:FuncId)(cs:List PV)(x:PV)(b:Bool):Prop:=∀H',fM H H'->∀Q:PV->ab->Prop,(∀h',fM H' h'->Q (.bool b) h')->ai C 2 g (x::cs) H' Q
theorem OU(l:List Tm)(g:FuncId)(cs:List PV)(p:Tm->Bool)(H:ab)(hl:l.length<1000000000)(hp:∀x∈l,gG H g cs (enc x) (p x)):
  ay C 142 [.aa false (ae l),.fn g cs] H (λr h'=>r=.int .i64 (ug p l)/\fM H h'):=by
 have cT:=an l;refine ay.x T6 Tryz.func142 rfl ?_;refine wXA ?_;refine eJ.zip T6 l (λa q L K=>L=[(0,.aa false (ae l)),(1,.fn g cs),(7,.int .i64 (ae l).length),(8,.int .i64 a.length)]/\fM H K/\∀y∈a,p y=false) (.nx ⟨rfl,fM.refl _,by simp⟩) ?_ ?_
 ·rintro a x q _ K ρ e ⟨rfl,hE,ha⟩;have cV:=bS e;have cH:=congrArg List.length e;simp only[Zx,ZA]at cH;have Ab:=hp x (by rw[e];simp) _ hE;rw[aw]at Ab;refine wXA ?_;refine Ab _ (λh' MM=>?_)
  cases hb:p x
  ·refine wXA ?_;exact .nx ⟨rfl,hE.trans MM,λy hy=>by rcases ZE.1 hy with h |h;exact ha y h;simp at h;rw[h];exact hb⟩
  ·refine wXA ?_;exact⟨by rw[e,pI ha hb];rfl,hE.trans MM⟩
 ·rintro _ K ρ ⟨rfl,hE,ha⟩;refine wXA ?_;exact⟨by rw[kq ha];rfl,hE⟩
theorem pJ(l:List Tm)(g:FuncId)(cs:List PV)(p:Tm->Bool)(H:ab)(hl:l.length<1000000000)(hp:∀x∈l,gG H g cs (enc x) (p x)):
  ay C 86 [.aa false (ae l),.fn g cs] H (λr h'=>r=.bool (l.any p)/\fM H h'):=by
 have hi:=OU l g cs p H hl hp;have ha:=rn p l;refine ay.x T6 Tryz.func86 rfl ?_;refine wXA ?_;refine .ex hi (λh' hE=>?_);refine wXC (λhc=>?_) λhc=>?_
 all_goals exact⟨by rw[<-ha];simp[aY, *],hE⟩
theorem gG.pure{H:ab}{g:FuncId}{cs:List PV}{x:PV}{b:Bool}(a:aO C g (aU (x::cs)) (.bool b))(hx:ar (x::cs)=true)(hm:C.mode g=.pure:=by rfl):gG H g cs x b:=
 λH' _ Q hQ=>ai.pure hm hx a (hQ _ (fM.refl _))
theorem gG.opened{H:ab}{g:FuncId}{cs:List PV}{x:PV}{b:Bool}(a:∀H',fM H H'->ay C g (x::cs) H' (λr h'=>r=.bool b/\fM H' h'))(hm:C.mode g=.opened:=by rfl):gG H g cs x b:=
 λH' hE Q hQ=>ai.ex (a H' hE) hQ hm
theorem OV(t:Tm):aO C 141 [enc t] (.bool (Nw t)):=by
 rw[aw];refine aO.x T6 Tryz.func141 rfl ?_;refine wXI (λhc=>?_) (λhc hc=>?_) λhc hc=>?_
 all_goals exact⟨_,rfl,by simp[aY,Nw, *]⟩
theorem OW(t u:Tm)(ht:ax t<1000000000)(hu:ax u<1000000000)(id:Nat)(H:ab)(hH:aR (H++[⟨.m,0,4,[enc u]⟩])=true)(h0:H[id]?=some ⟨.m,0,4,[enc t]⟩):ay C 143 [enc u,.ptr id 0 0 0] H (λr h'=>r=.bool (decide (aT t u=0))/\fM H h'):=by
 have h1:=(dT t u ht hu).nine;have cz:=ag h0;rw[aw t]at h0 h1;rw[aw u]at h1 hH ⊢;refine ay.x T6 Tryz.func143 rfl ?_;refine wXA ?_;refine .p h1 ?_;refine wXC (λhc=>?_) λhc=>?_
 all_goals exact⟨by simp[aY, *],(fM.refl _).ct (HV.one (by simp))⟩
theorem Me(l:List Tm)(t:Tm)(ht:ax t<1000000000)(hl:l.length<1000000000)(hb:∀u∈l,ax u<1000000000):aO C 88 [.aa false (ae l),enc t] (.bool (cI l t)):=by
 have hc:=pJ l 143 [.ptr 0 0 0 0] (λu=>decide (aT t u=0)) [⟨.m,0,4,[enc t]⟩] hl (λx hx=>gG.opened λH' hE=>OW t x ht (hb x hx) 0 H' ((hE.hv (HV.one (by simp))).ct (HV.one (by simp))).closed (hE.at rfl));rw[aw t]at hc ⊢;refine aO.x T6 Tryz.func88 rfl ?_;refine wXA ?_;refine .ex hc (λh' hE=>?_);refine wXA ?_;exact⟨_,rfl,rfl⟩
theorem E9(t:Tm)(hb:ax t<10000000):aO C 85 [enc t] (.int .i64 (eg t)):=by
 have h1:=rz t (by omega);have h2:=Ix t (by omega);have h3:=kZ t hb;have h4:=(sT t (by omega)).nine;have RN:=gu t;rw[aw]at h1 h2 h3 h4 ⊢
 have h5:∀H,ay C 86 [.aa false (ae (bF t)),.fn 141 []] H (λr h'=>r=.bool ((bF t).any Nw)/\fM H h'):=λH=>
  pJ (bF t) 141 [] Nw H (by omega) (λx hx=>gG.pure (by simpa[aU]using OV x) (by simp[ar]))
 refine aO.x T6 Tryz.func85 rfl ?_;refine wXA ?_;refine .p h1 ?_;refine wXC (λhc=>?_) λhc=>?_
 ·have hth:km t=0:=by omega
  have Wb:eg t=if ri t=false\/(bF t).any Nw=true then 10 else if 60<size t then 3 else 0:=by rw[eg,if_neg (by omega)]
  refine .p h2 ?_
  cases hf:ri t
  ·refine wXA ?_;exact⟨_,rfl,by rw[Wb,if_pos (.inl hf)];rfl⟩
  ·refine wXA ?_;refine .p h3 ?_;refine wXA ?_;refine .ex (h5 _) (λh' hE=>?_);have k0:=hE.at (i:=0) rfl
   cases ha:(bF t).any Nw
   ·rw[hf,ha,if_neg (by simp)]at Wb;refine wXA ?_;refine .p h4 ?_;refine wXC (λhc=>?_) λhc=>?_
    ·exact⟨_,rfl,by rw[Wb,if_pos (by omega)];rfl⟩
    ·exact⟨_,rfl,by rw[Wb,if_neg (by omega)];rfl⟩
   ·refine wXA ?_;exact⟨_,rfl,by rw[Wb,if_pos (.inr ha)];rfl⟩
 ·exact⟨_,rfl,by rw[eg,if_pos (by assumption)];rfl⟩
theorem _root_.Go.Pm.aV.AW{C:cK}{ops:Array Oper}{i d:Nat}{ty:TypeId}{pos:String}{af:Array Edge}{r:List Oper}{ρ:Nat->PV}{L:Al}{h:ab}{L0:Nat}{own:List Nat}{Q:St->Prop}{op:Op}{v:PV}{h':ab}(M J:ab)
  (hc:∃n0,∀n,n0<=n->ao C (eV C n) 1 op (al L ρ) M=some (v,h')) (k:aV C ops (i+1) r ⟨⟨al ((d,v)::L) ρ,h++J⟩,L0,own++List.replicate J.length i⟩ Q) (hM:cc ((before ops).getD i 0).testBit L0 own h=M) (hJ:h'.drop h.length=J) (di:aR M=true) (kH:(op.operands.toList.all λy=>br (aL M) (ev (al L ρ) y))=true)
  (xG:(J.all λo=>decide (o.mu≠.l))=true) (hh:cR op=true:=by rfl) (hl:(level ops (before ops) i==2)=false:=by rfl):aV C ops i (⟨some d,op,ty,pos,af,none⟩::r) ⟨⟨al L ρ,h⟩,L0,own⟩ Q:=by
 obtain⟨n0,hn⟩:=hc;have cH:level ops (before ops) i≠2:=by simpa using hl
 refine aV.step ⟨n0,λn h1=>?_⟩ k;subst hM hJ;simp only[cf,bm,hh,aab,if_false,cH,di,kH,and_self,if_true,hn n h1,xG,bZ]
theorem _root_.Go.Pm.BW{C:cK}{run:gU}{f:FuncId}{g:List PV->ab->Option (PV×ab)}{ρ:Nat->PV}{xs:List Operand}{yU:Array TypeId}{M h':ab}{us:List PV}{v:PV}(hm:C.mode f=.cu g)(hx:xs.map (ev ρ)=us)(hg:g us (M.map bM)=some (v,h'))(xG:((h'.drop M.length).all λo=>decide (o.mu≠.l))=true):
  ao C run 1 (.call ⟨.value (.func f),xs.toArray,yU⟩) ρ M=some (v,M++h'.drop M.length):=by
 simp only[ao,fO,ev,hx,ZV];unfold c9;rw[hm];simp only[dQ,hg,xG,if_true]
 rfl
theorem _root_.Go.Pm.Hq{C:cK}(T:lz C.P){run:gU}{lv:Nat}{L:Al}{ρ:Nat->PV}{M:ab}{t:TypeId}{x:Operand}{p v:PV}(hx:cG L x=some p)(hl:loadT T M t p=some v):ao C run lv (.load t x) (al L ρ) M=some (v,M):=by
 simp only[ao,az,ak hx,rc T hl,ZH]
theorem _root_.Go.Pm.Ho{C:cK}(T:lz C.P){run:gU}{L:Al}{ρ:Nat->PV}{M:ab}{t:TypeId}{n:Nat}{ps:Array (Nat×Operand)}{vs:List PV}(x:xW T t n ps.toList L (λ_ es=>es=vs))(hv:ar vs=true):ao C run 1 (.buildSlice t n ps) (al L ρ) M=some (.aa true vs,M):=by
 obtain⟨sz,es,rfl,e⟩:=mv T x;have:=e ρ M 1;rw[if_pos hv]at this;simpa only[ao,az]using this
theorem _root_.Go.Pm.x9{C:cK}{run:gU}{lv:Nat}{L:Al}{ρ:Nat->PV}{h h':ab}{st xt:TypeId}{x y:Operand}{v u r:PV}(hx:cG L x=some v)(hy:cG L y=some u)(ha:bL C.P lv h st xt v u=some (r,h')):ao C run lv (.call ⟨.builtin .append,#[x,y],#[st,xt]⟩) (al L ρ) h=some (r,h'):=by
 simp only[ao,bo,ZN,ZX,ak hx,ak hy,ha]
theorem zd(d:fg)(hk:d.kn.length<10000000):aO C 71 [vI d] (.aa false (ae (d.kn++[d.tm]))):=by
 have cT:=an d.kn;rw[qx];refine aO.x T6 Tryz.func71 rfl ?_;refine Rn.go ?_;conv=>whnf
 refine .mk ?_;refine Rn.go ?_;conv=>whnf
 refine .raw (λρ=>?_);refine D.fieldAddr T6 rfl rfl rfl rfl ?_;refine D.fF T6 rfl rfl rfl rfl rfl rfl ?_;have Yx:(ae d.kn).isEmpty=d.kn.isEmpty:=by cases d.kn <;>rfl
 obtain⟨box,eN⟩:∃b:au,b=⟨.m,0,5,[.agg [.aa false (ae d.kn),.int .i64 d.tm.k,.str d.tm.s,.int .i64 d.tm.o,.aa false (ae d.tm.l)]]⟩:=⟨_,rfl⟩
 by_cases he:d.kn=[]
 ·have KE:bu 4 [.aa false (ae d.kn)] ([box].map bM)=some (.aa true [],[box].map bM):=by simp[bu,he,ae]
  refine .AW [box] [] ⟨0,λn _=>BW rfl rfl KE rfl⟩ ?_ (by rw[eN];rfl) rfl (by rw[eN];simp[aR,bw,br]) rfl rfl;refine D.fieldAddr T6 rfl rfl rfl rfl ?_;refine .AW [box] [] ⟨0,λn _=>Hq T6 rfl (by rw[eN];rfl)⟩ ?_ (by rw[eN];rfl) rfl (by rw[eN];simp[aR,bw,br]) (by rw[eN];rfl) rfl;refine .AW [box] [] ⟨0,λn _=>Ho T6 (vs:=[.agg [.int .i64 d.tm.k,.str d.tm.s,.int .i64 d.tm.o,.aa false (ae d.tm.l)]]) (by exact rfl) (by simp)⟩ ?_ (by rw[eN];rfl) rfl (by rw[eN];simp[aR,bw,br]) (by rw[eN];rfl) rfl;subst eN;refine aV.two rfl rfl ⟨0,λn _=>x9 rfl rfl (fZ T6 (lv:=2) (full:=true) (ys:=[.agg [.int .i64 d.tm.k,.str d.tm.s,.int .i64 d.tm.o,.aa false (ae d.tm.l)]]) (by omega) rfl rfl rfl rfl rfl (by decide) rfl rfl rfl rfl (by simp))⟩ ?_;refine D.assign rfl ?_;refine aV.nil ⟨_,_,rfl,?_⟩
  conv=>whnf
  rw[he];exact gQ (ep:=0) (sz:=4) (tl:=[]) (es:=ae ([]++[d.tm])) (by simp only[ZV,aad,ae];rw[<-aw];rfl) (by rw[an];simp) (by simp) (by simp)
 ·have KE:bu 4 [.aa false (ae d.kn)] ([box].map bM)=some (.aj 1 0 0 d.kn.length,[box].map bM++[⟨.m,0,4,ae d.kn⟩]):=by
   have h1:d.kn.isEmpty=false:=by cases h:d.kn with |nil=>exact absurd h he |cons=>rfl
   simp only[bu,Yx,h1,ZJ,if_false];rw[if_pos ⟨nh _,by omega⟩,cT]
   rfl
  refine .AW [box] [⟨.m,0,4,ae d.kn⟩] ⟨0,λn _=>BW rfl rfl KE rfl⟩ ?_ (by rw[eN];rfl) rfl (by rw[eN];simp[aR,bw,br]) rfl rfl;refine D.fieldAddr T6 rfl rfl rfl rfl ?_;refine .AW [box,eE ⟨.m,0,4,ae d.kn⟩] [] ⟨0,λn _=>Hq T6 rfl (by rw[eN];rfl)⟩ ?_ (by rw[eN];rfl) rfl (by rw[eN];simp[aR,bw,br,eE]) (by rw[eN];rfl) rfl;refine .AW [box,eE ⟨.m,0,4,ae d.kn⟩] [] ⟨0,λn _=>Ho T6 (vs:=[.agg [.int .i64 d.tm.k,.str d.tm.s,.int .i64 d.tm.o,.aa false (ae d.tm.l)]]) (by exact rfl) (by simp)⟩ ?_ (by rw[eN];rfl) rfl (by rw[eN];simp[aR,bw,br,eE]) (by rw[eN];rfl) rfl;subst eN;refine aV.two rfl rfl ⟨0,λn _=>x9 rfl rfl (kg T6 (len:=d.kn.length) (o:=⟨.m,0,4,ae d.kn⟩) (full:=true) (ys:=[.agg [.int .i64 d.tm.k,.str d.tm.s,.int .i64 d.tm.o,.aa false (ae d.tm.l)]]) rfl rfl rfl rfl rfl (by decide) rfl rfl rfl rfl (by simp;omega) (bg rfl rfl (by simp)) rfl rfl (by simp[cT]))⟩ ?_;refine D.assign rfl ?_;refine aV.nil ⟨_,_,rfl,?_⟩
  conv=>whnf
  have Sk:List.take d.kn.length (ae d.kn)=ae d.kn:=ZW (by omega);exact gQ (ep:=1) (sz:=4) (tl:=[]) (es:=ae (d.kn++[d.tm])) (by rw[cd];simp only[Sk,ZV,ae];rw[<-aw];rfl) (by rw[an];simp) (by simp) (by simp)
end bO
def tF(t:Tm):List Tm->Nat
 |[]=>0
 |p::l=>if aT p t<0 then tF t l+1 else 0
theorem En(t:Tm):∀l:List Tm,tF t l<=l.length
 |[]=>by simp[tF]
 |p::l=>by
  have:=En t l;rw[tF]
  split <;>simp <;>omega
theorem F0(t:Tm):∀(l:List Tm),fK l->∀(m:Nat) (p:Tm),l[m]?=some p->(aT p t<0↔m<tF t l)
 |[],_,m,p,h=>by simp at h
 |q::l,s,m,p,h=>by
  obtain⟨s1,s2⟩:=ZQ.1 s;rw[tF]
  cases m with
  |zero=>
   simp at h;subst h
   split
   ·simp;assumption
   ·simp;omega
  |succ m=>
   have h':l[m]?=some p:=by simpa using h
   have ih:=F0 t l s2 m p h';have hm:=s1 p (ZK h')
   split
   ·rw[ih];omega
   ·rename_i hq
    constructor
    ·intro hp
     exact absurd (dM hm hp) hq
    ·intro hh;omega
def fdT(t:Tm)(l:List Tm):Bool:=match l[tF t l]? with |some p=>decide (aT p t=0)|none=>false
theorem F1(t:Tm):∀{l:List Tm},fK l->fdT t l=cI l t
 |[],_=>rfl
 |q::l,s=>by
  obtain⟨s1,s2⟩:=ZQ.1 s;have ih:=F1 t s2;have hng:=dU q t;unfold fdT at ih ⊢;rw[tF]
  by_cases hc:aT q t<0
  ·rw[if_pos hc];simp only[List.getElem?_cons_succ];rw[ih];simp only[cI,abG];rw[decide_eq_false (by omega)]
   rfl
  ·rw[if_neg hc];simp only[List.getElem?_cons_zero,cI,abG]
   by_cases h0:aT q t=0
   ·rw[decide_eq_true h0,decide_eq_true (by omega)];rfl
   ·rw[decide_eq_false h0,decide_eq_false (by omega),aa0]
    symm
    rw[aaU]
    intro u hu hz
    have hz:=dn (of_decide_eq_true hz);subst hz;have:=s1 t hu;omega
theorem BT{t:Tm}:∀{l:List Tm},fK l->cI l t=true->eQ t l=l
 |[],_,h=>by cases h
 |q::l,s,h=>by
  obtain⟨s1,s2⟩:=ZQ.1 s;have hng:=dU q t;rw[eQ]
  by_cases hc:aT t q<=0
  ·rw[if_pos hc]
   by_cases hd:aT t q<0
   ·exfalso;rcases ZF.1 (dI.1 h)with rfl |h2
    ·rw[cX]at hd;omega
    ·have:=s1 t h2;omega
   ·rw[if_neg hd]
  ·rw[if_neg hc]
   have h2:cI l t=true:=by
    simp only[cI,abG,ZU,decide_eq_true_eq]at h ⊢;rcases h with h |h
    ·omega
    ·exact h
   rw[BT s2 h2]
theorem BU{t:Tm}:∀{l:List Tm},fK l->cI l t=false->eQ t l=l.take (tF t l)++t::l.drop (tF t l)
 |[],_,_=>rfl
 |q::l,s,h=>by
  obtain⟨s1,s2⟩:=ZQ.1 s;have hng:=dU q t;simp only[cI,abG,abL,decide_eq_false_iff_not]at h;rw[eQ,tF]
  by_cases hc:aT q t<0
  ·rw[if_pos hc,if_neg (by omega),BU s2 h.2];simp
  ·rw[if_neg hc,if_pos (by omega),if_pos (by omega)];simp
namespace bO
open Go.Proofs
attribute [local irreducible] aE aC aI aJ Ev ah ai ay aV bU
theorem Eo(a b:Tm)(ha:ax a<1000000000)(hb:ax b<1000000000):aO C 163 [enc a,enc b] (.bool (decide (aT a b=0))):=by
 have h1:=(dT a b ha hb).nine;rw[aw,aw]at h1 ⊢;refine aO.x T6 Tryz.func163 rfl ?_;refine wXA ?_;refine .p h1 ?_;refine wXC (λhc=>?_) λhc=>?_
 all_goals exact⟨_,rfl,by simp[aY, *]⟩
theorem mE(a b:Tm)(ha:ax a<1000000000)(hb:ax b<1000000000):aO C 273 [enc a,enc b] (.bool (decide (aT a b=0))):=by
 have h1:=(dT a b ha hb).nine;rw[aw,aw]at h1 ⊢;refine aO.x T6 Tryz.func273 rfl ?_;refine wXA ?_;refine .p h1 ?_;refine wXC (λhc=>?_) λhc=>?_
 all_goals exact⟨_,rfl,by simp[aY, *]⟩
theorem BV(l:List Tm)(t:Tm)(hs:fK l)(hl:l.length<100000000)(hb:∀b∈l,ax b<100000000)(ht:ax t<100000000):
  aO C 166 [.aa false (ae l),enc t,.fn 52 []] (.cm [.int .i64 (tF t l),.bool (cI l t)]):=by
 have hle:=En t l;have Mv:=F0 t l hs;have oe:cI l t=match l[tF t l]? with |some p=>decide (aT p t=0)|none=>false:=(F1 t hs).symm
 have cT:=an l;generalize cI l t=FD at oe ⊢;generalize tF t l=LB at hle Mv oe ⊢
 have elem:∀m,m<l.length->∃b,l[m]?=some b/\(ae l)[m]?=some (.agg [.int .i64 b.k,.str b.s,.int .i64 b.o,.aa false (ae b.l)])/\aO C 52 [enc b,enc t] (.int .i64 (aT b t)):=λm hm=>by
  have h1:l[m]?=some l[m]:=Zy hm;exact⟨_,h1,gp h1,(dT _ t (by have:=hb _ (ZK h1);omega) (by omega)).nine⟩
 rw[aw]at elem ⊢;refine aO.x T6 Tryz.func166 rfl ?_;refine wXA ?_;refine eJ.nat T6 (λk L H=>∃i j:Nat,L=[(0,.aa false (ae l)),(2,.fn 52 []),(4,.ptr 0 0 0 0),(8,.int .i64 (ae l).length),(9,.int .i64 i),(10,.int .i64 j)]/\H=[⟨.m,0,4,[.agg [.int .i64 t.k,.str t.s,.int .i64 t.o,.aa false (ae t.l)]]⟩]/\k=j - i/\i<=LB/\LB<=j/\j<=l.length) l.length (.nx ⟨0,(ae l).length,rfl,rfl,by omega,by omega,by omega,by omega⟩) ?_;rintro k _ _ ρ ⟨i,j,rfl,rfl,hk,i1,i2,i3⟩
 by_cases Ny:i<j
 ·obtain⟨m,Vk⟩:∃m:Nat,((i:Int)+j) / 2=m:=⟨(i+j) / 2,by omega⟩;obtain⟨b,h1,cV,qo⟩:=elem m (by omega);have MV:=Mv m _ h1;rw[aw]at qo;refine wXA ?_;refine .mk (n:=m) ?_ Vk cV;refine wXA ?_;refine .p qo ?_;refine wXC (λhc=>?_) λhc=>?_
  ·exact .nx ⟨j - (m+1),by omega,m+1,j,rfl,rfl,rfl,by omega,by omega,by omega⟩
  ·exact .nx ⟨m - i,by omega,i,m,rfl,rfl,rfl,by omega,by omega,by omega⟩
 ·have hi:i=LB:=by omega
  subst hi
  by_cases mX:i<l.length
  ·obtain⟨b,h1,cV,qo⟩:=elem i mX;rw[h1]at oe;dsimp only at oe;rw[aw]at qo;refine wXA ?_;refine .p qo ?_;refine wXC (λhc=>?_) λhc=>?_
   all_goals exact⟨_,rfl,by rw[oe];simp[aY,b9,aU, *]⟩
  ·rw[ZM (by omega)]at oe;refine wXA ?_;exact⟨_,rfl,by rw[oe];rfl⟩
theorem KB(s:List Tm)(t:Tm)(hs:fK s)(hl:s.length<100000000)(hb:∀b∈s,ax b<100000000)(ht:ax t<100000000):aO C 116 [.aa false (ae s),enc t] (.bool (cI s t)):=by
 have h1:=BV s t hs hl hb ht;rw[aw]at h1 ⊢;refine aO.x T6 Tryz.func116 rfl ?_;refine wXA ?_;refine .p h1 ?_;refine wXA ?_;exact⟨_,rfl,rfl⟩
theorem _root_.Go.Pm.PQ{C:cK}{run:gU}{f:FuncId}{g:List PV->ab->Option (PV×ab)}{ρ:Nat->PV}{xs:List Operand}{yU:Array TypeId}{M h':ab}{us:List PV}{v:PV}(hm:C.mode f=.cu g)(hx:xs.map (ev ρ)=us)(hg:g us M=some (v,h')):
  ao C run 2 (.call ⟨.value (.func f),xs.toArray,yU⟩) ρ M=some (v,h'):=by
 simp only[ao,fO,ev,hx,ZV];unfold c9;rw[hm];simp only[dQ,Zz,if_true,hg]
theorem jz(o:au)(J:ab)(hv:ar o.es=true)(hJ:∀x∈J,x.mu=.x):aR (o::J)=true:=by
 unfold aR;simp only[aaq,ZD,Zw];exact⟨by rw[bq _ _ hv];simp,λx hx=>by simp[hJ x hx]⟩
theorem KD(l:List Tm):(ae l).all (jT 4)=true:=by
 rw[Zw]
 intro v hv
 rw[cU]at hv;obtain⟨t,_,rfl⟩:=Z0.1 hv;rw[aw];simp[jT,aW,ar,cells,bG]
theorem Hz(s:List Tm)(t:Tm)(hs:fK s)(hl:s.length<10000000)(hb:∀b∈s,ax b<100000000)(ht:ax t<100000000):aO C 165 [.aa false (ae s),enc t] (.aa false (ae (eQ t s))):=by
 have h1:=BV s t hs (by omega) hb ht;have cT:=an s;have hle:=En t s;have Yw:=BU (t:=t) hs;have N0:=BT (t:=t) hs;rw[aw]at h1 ⊢;refine aO.x T6 Tryz.func165 rfl ?_;refine wXA ?_;refine .p h1 ?_
 cases hf:cI s t
 ·rw[Yw hf];refine wXG ?_;refine .raw (λρ=>?_);have Yx:(ae s).isEmpty=s.isEmpty:=by cases s <;>rfl
  obtain⟨box,eN⟩:∃b:au,b=⟨.m,0,4,[.agg [.int .i64 t.k,.str t.s,.int .i64 t.o,.aa false (ae t.l)]]⟩:=⟨_,rfl⟩;refine D.move rfl ?_
  by_cases he:s=[]
  ·have KE:bu 4 [.aa false (ae s)] ([box].map bM)=some (.aa true [],[box].map bM):=by simp[bu,he,ae]
   have MA:tF t s=0:=by rw[he];rfl
   refine .AW [box] [] ⟨0,λn _=>BW rfl rfl KE rfl⟩ ?_ (by rw[eN];rfl) rfl (jz _ [] (by rw[eN];simp) (by simp)) rfl rfl;refine D.move rfl ?_;refine .AW [box] [] ⟨0,λn _=>Hq T6 rfl (by rw[eN];rfl)⟩ ?_ (by rw[eN];rfl) rfl (jz _ [] (by rw[eN];simp) (by simp)) (by rw[eN];rfl) rfl;refine .AW [box] [] ⟨0,λn _=>Ho T6 (vs:=[.agg [.int .i64 t.k,.str t.s,.int .i64 t.o,.aa false (ae t.l)]]) (by exact rfl) (by simp)⟩ ?_ (by rw[eN];rfl) rfl (jz _ [] (by rw[eN];simp) (by simp)) (by rw[eN];rfl) rfl;subst eN;refine aV.two rfl rfl ⟨0,λn _=>PQ (v:=.aj 1 0 0 1) (h':=[⟨.m,0,4,[.agg [.int .i64 t.k,.str t.s,.int .i64 t.o,.aa false (ae t.l)]]⟩,⟨.m,0,4,[.agg [.int .i64 t.k,.str t.s,.int .i64 t.o,.aa false (ae t.l)]]⟩]) rfl (us:=[.aa true [],.int .i64 (tF t s),.aa true [.agg [.int .i64 t.k,.str t.s,.int .i64 t.o,.aa false (ae t.l)]]]) rfl (by simp[iv,jT,cells,bG,aW,ar,newObj,MA])⟩ ?_;refine D.assign rfl ?_;refine aV.nil ⟨_,_,rfl,?_⟩
   conv=>whnf
   rw[MA,he];exact gQ (ep:=0) (sz:=4) (tl:=[]) (es:=ae ([]++[t])) (by simp only[ZV,aad,ae];rw[<-aw];rfl) (by rw[an];simp) (by simp) (by simp)
  ·have KE:bu 4 [.aa false (ae s)] ([box].map bM)=some (.aj 1 0 0 s.length,[box].map bM++[⟨.m,0,4,ae s⟩]):=by
    have h1:s.isEmpty=false:=by cases h:s with |nil=>exact absurd h he |cons=>rfl
    simp only[bu,Yx,h1,ZJ,if_false];rw[if_pos ⟨nh _,by omega⟩,cT]
    rfl
   refine .AW [box] [⟨.m,0,4,ae s⟩] ⟨0,λn _=>BW rfl rfl KE rfl⟩ ?_ (by rw[eN];rfl) rfl (jz _ [] (by rw[eN];simp) (by simp)) rfl rfl;refine D.move rfl ?_;refine .AW [box,eE ⟨.m,0,4,ae s⟩] [] ⟨0,λn _=>Hq T6 rfl (by rw[eN];rfl)⟩ ?_ (by rw[eN];rfl) rfl (jz _ [_] (by rw[eN];simp) (by simp[eE])) (by rw[eN];rfl) rfl;refine .AW [box,eE ⟨.m,0,4,ae s⟩] [] ⟨0,λn _=>Ho T6 (vs:=[.agg [.int .i64 t.k,.str t.s,.int .i64 t.o,.aa false (ae t.l)]]) (by exact rfl) (by simp)⟩ ?_ (by rw[eN];rfl) rfl (jz _ [_] (by rw[eN];simp) (by simp[eE])) (by rw[eN];rfl) rfl;have Sk:(ae s).take s.length=ae s:=ZW (by omega)
   have Yy:iv [.aj 1 0 0 s.length,.int .i64 (tF t s),.aa true [.agg [.int .i64 t.k,.str t.s,.int .i64 t.o,.aa false (ae t.l)]]] [box,⟨.m,0,4,ae s⟩]=some (.aj 1 1 0 (s.length+1),[box,⟨.m,1,4,(ae s).take (tF t s)++[.agg [.int .i64 t.k,.str t.s,.int .i64 t.o,.aa false (ae t.l)]]++(ae s).drop (tF t s)⟩]):=by
    have hg:getM [box,(⟨.m,0,4,ae s⟩:au)] 1 0=some ⟨.m,0,4,ae s⟩:=by simp[getM]
    have fQ:=KD s;have di:aR [box,(⟨.m,0,4,ae s⟩:au)]=true:=(HV.vV ⟨by rw[eN];simp,by rw[eN];simp⟩ ⟨by simp,by simp⟩).closed;simp only[iv,hg,Sk];rw[if_pos ⟨trivial,trivial,by omega,by omega,by omega,by omega,by simp[jT,aW,ar,cells,bG],fQ,di⟩];simp
   subst eN;refine aV.two rfl rfl ⟨0,λn _=>PQ rfl (us:=[.aj 1 0 0 s.length,.int .i64 (tF t s),.aa true [.agg [.int .i64 t.k,.str t.s,.int .i64 t.o,.aa false (ae t.l)]]]) rfl Yy⟩ ?_;refine D.assign rfl ?_;refine aV.nil ⟨_,_,rfl,?_⟩
   conv=>whnf
   have GX:ae (s.take (tF t s)++t::s.drop (tF t s))=(ae s).take (tF t s)++[enc t]++(ae s).drop (tF t s):=by simp[cU]
   have xF:(ae (s.take (tF t s)++t::s.drop (tF t s))).length=s.length+1:=by rw[an];simp;omega
   rw[GX,aw]at xF;rw[GX,aw];exact gQ (ep:=1) (sz:=4) (tl:=[]) (by simp) xF (by rw[<-aw,<-GX];simp) (by rw[<-aw,<-GX];simp)
 ·rw[N0 hf];refine wXA ?_;exact⟨_,rfl,by simp[aY,b9]⟩
theorem Fa(d:fg)(u:Tm)(hu:ax u<1000000000)(hk:d.kn.length<1000000000)(hb:∀t∈d.kn,ax t<1000000000)(id:Nat)(H:ab)(hH:aR (H++[⟨.m,0,4,[enc u]⟩])=true)(h0:H[id]?=some ⟨.m,0,5,[vI d]⟩):
  ay C 87 [enc u,.ptr id 0 0 0] H (λr h'=>r=.bool (!cI d.kn u)/\fM H h'):=by
 have h1:=Me d.kn u hu hk hb;rw[qx]at h0;rw[aw]at h1 hH ⊢;refine ay.x T6 Tryz.func87 rfl ?_;refine wXA ?_;refine .p h1 ?_
 cases cI d.kn u
 all_goals
  refine wXA ?_;exact⟨rfl,(fM.refl _).ct (HV.one (by simp))⟩
theorem xp(b:List Tm)(v:PV)(u:Tm)(hu:ax u<1000000000)(hk:b.length<1000000000)(hb:∀t∈b,ax t<1000000000)(id:Nat)(H:ab)(hH:aR (H++[⟨.m,0,4,[enc u]⟩])=true)(h0:H[id]?=some ⟨.m,0,1,[v]⟩)(ho:Out 4 H v (ae b)):
  ay C 89 [enc u,.ptr id 0 0 0] H (λr h'=>r=.bool (!cI b u)/\fM H h'):=by
 have h1:=Me b u hu hk hb;have Bp:=ho.ct [⟨.m,0,4,[enc u]⟩];rw[aw]at h1 hH Bp ⊢;refine ay.x T6 Tryz.func89 rfl ?_;have Dh:=Bp;rcases Bp with⟨rfl,e⟩|⟨dS,ep,rfl,e⟩
 all_goals
  refine wXA ?_;refine ai.plS (.inl Dh) h1 ?_
  cases cI b u
  all_goals
   refine wXA ?_;exact⟨rfl,(fM.refl _).ct (HV.one (by simp))⟩
def xq(p:List fg):Option (List Tm):=p.getLast?.map fg.kn
def gT(p:List fg):List Tm:=p.flatMap λd=>bF d.tm
theorem qP(p:List fg)(d:fg):xq (p++[d])=some d.kn:=by simp[xq]
theorem pR(p:List fg)(d:fg):gT (p++[d])=gT p++bF d.tm:=by simp[gT]
theorem ID{l p q:List Tm}{u:Tm}(e:l=p++u::q)(hp:∀v∈p,eg v=0)(hu:eg u≠0):gW l=eg u:=by
 subst e
 induction p with
 |nil=>simp only[aad,gW];rw[if_pos hu]
 |cons v p ih=>
  simp only[Z3,gW];rw[if_neg (by rw[hp v (by simp)];simp),ih (λw hw=>hp w (by simp[hw]))]
theorem tY:∀{l:List Tm},(∀v∈l,eg v=0)->gW l=0
 |[],_=>rfl
 |v::l,h=>by
  rw[gW,if_neg (by rw[h v (by simp)];simp)];exact tY λu hu=>h u (by simp[hu])
theorem eZ{t:Tm}(h:eg t=0):ax t<=10000:=fB (nt h).1
theorem Mf{p:List fg}(h:∀d∈p,eg d.tm=0):(gT p).length<=p.length * 10000:=by
 induction p with
 |nil=>simp[gT]
 |cons d p ih=>
  have h1:=ih λx hx=>h x (by simp[hx])
  have h2:=gu d.tm;have h3:=eZ (h d (by simp));simp only[gT,aa1,Zx,ZA]at h1 ⊢;omega
theorem IE{p:List fg}(h:∀d∈p,eg d.tm=0):∀t∈gT p,ax t<=10000:=by
 intro t ht
 obtain⟨d,hd,ht⟩:=aaz.1 ht;have:=kT ht;have:=eZ (h d hd);omega
theorem qH(l:List fg)(hl:l.length<1000000000)(hb:∀d∈l,d.kn.length<10000000/\∀t∈d.kn++[d.tm],ax t<10000000):aO C 30 [.aa false (bW l)] (.int .i64 (nr l)):=by
 have cT:=gq l;refine aO.x T6 Tryz.func30 rfl ?_;refine wXC (λhc=>?_) λhc=>?_
 ·exact⟨_,rfl,by rw[nr,if_pos (by omega)];rfl⟩
 have Vy:nr l=ti none [] l:=by rw[nr,if_neg (by omega)]
 refine eJ.zip T6 l (λp q L H=>∃v,L=[(0,.aa false (bW l)),(3,.ptr 0 0 0 0),(14,.aa false (bW l)),(15,.int .i64 (bW l).length),(16,.int .i64 p.length)]/\HR H/\H[0]?=some ⟨.m,0,1,[v]⟩/\Out 4 H v (ae (gT p))/\(∀i∈ck v,1<=i)/\nr l=ti (xq p) (gT p) q/\∀d∈p,eg d.tm=0) (.nx ⟨_,rfl,(HV.one (by simp)).hr,rfl,.inl ⟨rfl,rfl⟩,by simp[ck],Vy,by simp⟩) ?_ ?_
 ·rintro p d q _ H ρ e ⟨v,rfl,hH,h0,ho,hv,hs,hp⟩;have cV:=my e;have cH:=congrArg List.length e;simp only[Zx,ZA]at cH;obtain⟨FG,MK⟩:=hb d (by rw[e];simp);have htf:=zd d FG;have hek:=an d.kn;rw[ti]at hs;rw[qx]at htf;refine wXC (λhc=>?_) λhc=>?_
  ·exact⟨_,rfl,by rw[hs,if_pos (by omega)];rfl⟩
  rw[if_neg (by omega)]at hs
  skip
  refine .p htf ?_;refine wXA ?_;obtain⟨H2,nN⟩:∃x,x=H++[⟨.m,0,5,[.agg [.aa false (ae d.kn),.int .i64 d.tm.k,.str d.tm.s,.int .i64 d.tm.o,.aa false (ae d.tm.l)]]⟩]:=⟨_,rfl⟩;have b2:H2[H.length]?=some ⟨.m,0,5,[.agg [.aa false (ae d.kn),.int .i64 d.tm.k,.str d.tm.s,.int .i64 d.tm.o,.aa false (ae d.tm.l)]]⟩:=by rw[nN];simp
  have z2:H2[0]?=some ⟨.m,0,1,[v]⟩:=by rw[nN,Zv (ag h0)];exact h0
  have r2:HR H2:=by rw[nN];exact hH.dE (HV.one (by simp))
  have o2:Out 4 H2 v (ae (gT p)):=by rw[nN];exact ho.ct _
  have ekt:=an (d.kn++[d.tm]);rw[<-nN];refine eJ.zip T6 (d.kn++[d.tm]) (λp2 q2 L K=>L=[(0,.aa false (bW l)),(3,.ptr 0 0 0 0),(4,.int .i64 p.length),(5,.ptr H.length 0 0 0),(14,.aa false (bW l)),(15,.int .i64 (bW l).length),(16,.int .i64 p.length),(26,.aa false (ae (d.kn++[d.tm]))),(27,.int .i64 (ae (d.kn++[d.tm])).length),(28,.int .i64 p2.length)]/\fM H2 K/\∀u∈p2,eg u=0) (.nx ⟨rfl,fM.refl _,by simp⟩) ?_ ?_
  ·rintro p2 u q2 _ K ρ e2 ⟨rfl,hE,Qc⟩;have oz:=bS e2;have IZ:=congrArg List.length e2;rw[Zx,Zx]at IZ;simp only[ZA,Z']at IZ;rw[Zx]at ekt;simp only[ZA,Z']at ekt;have hri:=E9 u (MK u (by rw[e2];simp));rw[aw]at hri;refine wXA ?_;refine .p hri ?_;refine wXC (λhc=>?_) λhc=>?_
   ·exact .nx ⟨rfl,hE.ct (HV.one (by simp)),λw hw=>by rcases ZE.1 hw with h |h;exact Qc w h;simp at h;rw[h];assumption⟩
   ·have hra:=ID e2 Qc (by assumption);exact⟨_,rfl,by rw[hs,hra,if_pos (by assumption)];rfl⟩
  ·rintro _ K ρ ⟨rfl,hE,Qc⟩;rw[if_neg (by rw[tY Qc];simp)]at hs;have bK:=hE.at b2;have zK:=hE.at z2;have rK:HR K:=by obtain⟨J,hJ,rfl⟩:=hE;exact r2.dE hJ
   have oK:Out 4 K v (ae (gT p)):=by obtain⟨J,hJ,rfl⟩:=hE;exact o2.ct _
   have FY:=IE hp;have My:=Mf hp;have nS:p.length<41:=by omega
   by_cases N1:p=[]
   ·have TW:kept (xq p) d.kn=true:=by rw[N1];rfl
    rw[TW,if_neg (by simp)]at hs;have Un:p.length=0:=by rw[N1];rfl
    refine wXA ?_;obtain⟨K3,hK3⟩:∃x,x=K:=⟨_,rfl⟩;rw[<-hK3]at bK zK rK oK ⊢;have b3:=bK;have z3:=zK;have r3:=rK;have o3:=oK;have ekn:=an d.kn;refine eJ.zip T6 d.kn (λp4 q4 L K4=>L=[(0,.aa false (bW l)),(3,.ptr 0 0 0 0),(5,.ptr H.length 0 0 0),(14,.aa false (bW l)),(15,.int .i64 (bW l).length),(16,.int .i64 p.length),(51,.aa false (ae d.kn)),(52,.int .i64 (ae d.kn).length),(53,.int .i64 p4.length)]/\fM K3 K4/\∀u∈p4,((bF u).all λx=>cI (gT p) x)=true) (.nx ⟨rfl,fM.refl _,by simp⟩) ?_ ?_
    ·rintro p4 u q4 _ K4 ρ e4 ⟨rfl,yh,Ti⟩;have QH:=bS e4;have Jw:=congrArg List.length e4;simp only[Zx,ZA]at Jw;have hru:eg u=0:=Qc u (by rw[e4];simp);have Sx:=eZ hru;have RD:=kZ u (by omega);have RN:=gu u;have r5:HR (K4++[⟨.m,0,4,[enc u]⟩]):=by obtain⟨J,hJ,rfl⟩:=yh;exact(r3.dE hJ).dE (HV.one (by simp))
     have z5:(K4++[⟨.m,0,4,[enc u]⟩])[0]?=some ⟨.m,0,1,[v]⟩:=by rw[Zv (ag (yh.at z3))];exact yh.at z3
     have o5:Out 4 (K4++[⟨.m,0,4,[enc u]⟩]) v (ae (gT p)):=by obtain⟨J,hJ,rfl⟩:=yh;exact(o3.ct _).ct _
     have Fb:=pJ (bF u) 89 [.ptr 0 0 0 0] (λx=>!cI (gT p) x) (K4++[⟨.m,0,4,[enc u]⟩]) (by omega) (λx hx=>gG.opened λH' hE=>by
      have Ch:=kT hx;obtain⟨J,hJ,rfl⟩:=hE;exact xp (gT p) v x (by omega) (by omega) (λt ht=>by have:=FY t ht;omega) 0 _ ((r5.dE hJ).dE (HV.one (by simp))).closed (by rw[Zv (ag z5)];exact z5) (o5.ct _))
     rw[aw]at RD Fb;refine wXA ?_;refine .p RD ?_;refine wXA ?_;refine .ex Fb (λh' hE5=>?_)
     cases pY:(bF u).any λx=>!cI (gT p) x
     ·have eA:((bF u).all λx=>cI (gT p) x)=true:=by
       rw[aaU]at pY;rw[Zw]
       intro x hx
       simpa using pY x hx
      refine wXA ?_;exact .nx ⟨rfl,(yh.ct (HV.one (by simp))).trans hE5,λw hw=>by rcases ZE.1 hw with h |h;exact Ti w h;simp at h;rw[h];exact eA⟩
     ·have xM:JN (gT p) d.kn=false:=by
       unfold JN;rw[List.all_eq_false];refine⟨u,by rw[e4];simp,?_⟩;obtain⟨x,hx,Ch⟩:=aau.1 pY;rw[Zw]
       intro h
       have:=h x hx;simp[this]at Ch
      refine wXA ?_;exact⟨_,rfl,by rw[hs,if_pos xM];rfl⟩
    ·rintro _ K4 ρ ⟨rfl,yh,Ti⟩
     have xM:JN (gT p) d.kn=true:=by
      unfold JN;rw[Zw];exact Ti
     rw[xM,if_neg (by simp)]at hs;have b6:=yh.at b3;have z6:=yh.at z3;have r6:HR K4:=by obtain⟨J,hJ,rfl⟩:=yh;exact r3.dE hJ
     have o6:Out 4 K4 v (ae (gT p)):=by obtain⟨J,hJ,rfl⟩:=yh;exact o3.ct _
     have Wc:eg d.tm=0:=Qc d.tm (by simp);have SK:=eZ Wc;have Nt:=kZ d.tm (by omega);have RN:=gu d.tm;rw[aw]at Nt;have o7:=o6;have k6:=ag z6;have Dk:=an (bF d.tm);have MA:=an (gT p);rcases o7 with⟨rfl,e7⟩|⟨id7,ep7,rfl,e7⟩
     all_goals
      refine wXA ?_;refine .p Nt ?_;refine wXA ?_;refine .lr (λv' h' lr=>?_) o6;have f0:h'[0]?=K4[0]?:=lr.fr 0 k6 (λep n hh=>by have:=hv 0 (by rw[hh];simp[ck]);omega);rw[z6]at f0;have lo:=lr.out;have lh:=lr.hr;have kh:=ag f0
      have hw:∀i∈ck v',1<=i:=λi hi=>by
       rcases lr.ck i hi with h |h
       ·exact hv i h
       ·omega
      have Sn:=lo.br;rw[<-cd,<-pR]at lo;rcases lo with⟨rfl,e8⟩|⟨id8,ep8,rfl,e8⟩
      all_goals
       refine wXA ?_;refine .nx ⟨_,rfl,lh.set _ (by simp) (by simpa[bw,br]using Sn),ZB kh,?_,hw,by rw[qP,pR];exact hs,λw hw=>by rcases ZE.1 hw with h |h;exact hp w h;simp at h;rw[h];exact Wc⟩
       first
        |exact .inl ⟨rfl,e8⟩
        |exact .inr ⟨id8,ep8,rfl,(ZC (by have:=hw id8 (by simp[ck]);omega)).trans e8⟩
   ·obtain⟨p',e0,Dn⟩:∃p' e0,p=p'++[e0]:=by
     rcases List.eq_nil_or_concat p with h |⟨a,b,h⟩
     ·exact absurd h N1
     ·exact⟨a,b,by rw[h];simp⟩
    have xY:=my (l:=l) (p:=p') (d:=e0) (q:=d::q) (by rw[e,Dn];simp);have Un:p.length=p'.length+1:=by rw[Dn];simp
    have Gj:xq p=some e0.kn:=by rw[Dn,qP]
    obtain⟨Zt,Y8⟩:=hb e0 (by rw[e,Dn];simp)
    have Fb:=pJ e0.kn 87 [.ptr H.length 0 0 0] (λu=>!cI d.kn u) K (by omega) (λx hx=>gG.opened λH' hE=>by
     obtain⟨J,hJ,rfl⟩:=hE;exact Fa d x (by have:=Y8 x (by simp[hx]);omega) (by omega) (λt ht=>by have:=MK t (by simp[ht]);omega) H.length _ ((rK.dE hJ).dE (HV.one (by simp))).closed (by rw[Zv (ag bK)];exact bK))
    refine wXA ?_;refine .mk (n:=p'.length) ?_ (by omega) xY rfl;refine wXA ?_;refine .ex Fb (λK3 W5=>?_)
    cases pY:e0.kn.any λu=>!cI d.kn u
    ·have hkp:kept (xq p) d.kn=true:=by
      rw[Gj];show(e0.kn.all λt=>cI d.kn t)=true;rw[aaU]at pY;rw[Zw]
      intro x hx
      simpa using pY x hx
     rw[hkp,if_neg (by simp)]at hs;have b3:=W5.at bK;have z3:=W5.at zK;have r3:HR K3:=by obtain⟨J,hJ,rfl⟩:=W5;exact rK.dE hJ
     have o3:Out 4 K3 v (ae (gT p)):=by obtain⟨J,hJ,rfl⟩:=W5;exact oK.ct _
     refine wXA ?_;have ekn:=an d.kn;refine eJ.zip T6 d.kn (λp4 q4 L K4=>L=[(0,.aa false (bW l)),(3,.ptr 0 0 0 0),(5,.ptr H.length 0 0 0),(14,.aa false (bW l)),(15,.int .i64 (bW l).length),(16,.int .i64 p.length),(51,.aa false (ae d.kn)),(52,.int .i64 (ae d.kn).length),(53,.int .i64 p4.length)]/\fM K3 K4/\∀u∈p4,((bF u).all λx=>cI (gT p) x)=true) (.nx ⟨rfl,fM.refl _,by simp⟩) ?_ ?_
     ·rintro p4 u q4 _ K4 ρ e4 ⟨rfl,yh,Ti⟩;have QH:=bS e4;have Jw:=congrArg List.length e4;simp only[Zx,ZA]at Jw;have hru:eg u=0:=Qc u (by rw[e4];simp);have Sx:=eZ hru;have RD:=kZ u (by omega);have RN:=gu u;have r5:HR (K4++[⟨.m,0,4,[enc u]⟩]):=by obtain⟨J,hJ,rfl⟩:=yh;exact(r3.dE hJ).dE (HV.one (by simp))
      have z5:(K4++[⟨.m,0,4,[enc u]⟩])[0]?=some ⟨.m,0,1,[v]⟩:=by rw[Zv (ag (yh.at z3))];exact yh.at z3
      have o5:Out 4 (K4++[⟨.m,0,4,[enc u]⟩]) v (ae (gT p)):=by obtain⟨J,hJ,rfl⟩:=yh;exact(o3.ct _).ct _
      have Fb:=pJ (bF u) 89 [.ptr 0 0 0 0] (λx=>!cI (gT p) x) (K4++[⟨.m,0,4,[enc u]⟩]) (by omega) (λx hx=>gG.opened λH' hE=>by
       have Ch:=kT hx;obtain⟨J,hJ,rfl⟩:=hE;exact xp (gT p) v x (by omega) (by omega) (λt ht=>by have:=FY t ht;omega) 0 _ ((r5.dE hJ).dE (HV.one (by simp))).closed (by rw[Zv (ag z5)];exact z5) (o5.ct _))
      rw[aw]at RD Fb;refine wXA ?_;refine .p RD ?_;refine wXA ?_;refine .ex Fb (λh' hE5=>?_)
      cases pY:(bF u).any λx=>!cI (gT p) x
      ·have eA:((bF u).all λx=>cI (gT p) x)=true:=by
        rw[aaU]at pY;rw[Zw]
        intro x hx
        simpa using pY x hx
       refine wXA ?_;exact .nx ⟨rfl,(yh.ct (HV.one (by simp))).trans hE5,λw hw=>by rcases ZE.1 hw with h |h;exact Ti w h;simp at h;rw[h];exact eA⟩
      ·have xM:JN (gT p) d.kn=false:=by
        unfold JN;rw[List.all_eq_false];refine⟨u,by rw[e4];simp,?_⟩;obtain⟨x,hx,Ch⟩:=aau.1 pY;rw[Zw]
        intro h
        have:=h x hx;simp[this]at Ch
       refine wXA ?_;exact⟨_,rfl,by rw[hs,if_pos xM];rfl⟩
     ·rintro _ K4 ρ ⟨rfl,yh,Ti⟩
      have xM:JN (gT p) d.kn=true:=by
       unfold JN;rw[Zw];exact Ti
      rw[xM,if_neg (by simp)]at hs;have b6:=yh.at b3;have z6:=yh.at z3;have r6:HR K4:=by obtain⟨J,hJ,rfl⟩:=yh;exact r3.dE hJ
      have o6:Out 4 K4 v (ae (gT p)):=by obtain⟨J,hJ,rfl⟩:=yh;exact o3.ct _
      have Wc:eg d.tm=0:=Qc d.tm (by simp);have SK:=eZ Wc;have Nt:=kZ d.tm (by omega);have RN:=gu d.tm;rw[aw]at Nt;have o7:=o6;have k6:=ag z6;have Dk:=an (bF d.tm);have MA:=an (gT p);rcases o7 with⟨rfl,e7⟩|⟨id7,ep7,rfl,e7⟩
      all_goals
       refine wXA ?_;refine .p Nt ?_;refine wXA ?_;refine .lr (λv' h' lr=>?_) o6;have f0:h'[0]?=K4[0]?:=lr.fr 0 k6 (λep n hh=>by have:=hv 0 (by rw[hh];simp[ck]);omega);rw[z6]at f0;have lo:=lr.out;have lh:=lr.hr;have kh:=ag f0
       have hw:∀i∈ck v',1<=i:=λi hi=>by
        rcases lr.ck i hi with h |h
        ·exact hv i h
        ·omega
       have Sn:=lo.br;rw[<-cd,<-pR]at lo;rcases lo with⟨rfl,e8⟩|⟨id8,ep8,rfl,e8⟩
       all_goals
        refine wXA ?_;refine .nx ⟨_,rfl,lh.set _ (by simp) (by simpa[bw,br]using Sn),ZB kh,?_,hw,by rw[qP,pR];exact hs,λw hw=>by rcases ZE.1 hw with h |h;exact hp w h;simp at h;rw[h];exact Wc⟩
        first
         |exact .inl ⟨rfl,e8⟩
         |exact .inr ⟨id8,ep8,rfl,(ZC (by have:=hw id8 (by simp[ck]);omega)).trans e8⟩
    ·have hkp:kept (xq p) d.kn=false:=by
      rw[Gj];show(e0.kn.all λt=>cI d.kn t)=false;obtain⟨x,hx,Ch⟩:=aau.1 pY;rw[List.all_eq_false];exact⟨x,hx,by simpa using Ch⟩
     refine wXA ?_;exact⟨_,rfl,by rw[hs,if_pos hkp];rfl⟩
 ·rintro _ H ρ ⟨v,rfl,hH,h0,ho,hv,hs,hp⟩;refine wXA ?_;exact⟨_,rfl,by rw[hs,ti];rfl⟩
theorem IF(x t:Tm)(hx:ax x<100000000)(ht:ax t<100000000):aO C 99 [enc x,enc t] (.bool (kO x t)):=by
 have h1:=(fo x hx).nine;have h2:=(fo t ht).nine;rw[aw]at h1 h2 ⊢;rw[aw t];refine aO.x T6 Tryz.func99 rfl ?_;refine wXA ?_;refine .p h1 ?_;refine wXC (λhc=>?_) λhc=>?_
 ·refine .p h2 ?_
  (repeat' (first |(refine Rn.go ?_;conv=>whnf)|refine .mk ?_ |refine .mk (λhc=>?_) λhc=>?_ |fail))
  all_goals exact⟨_,rfl,by simp[aY,kO, *]⟩
 ·exact⟨_,rfl,by simp[aY,kO, *]⟩
theorem Tj{q:List cY}{b:cY}{o:Option Tm}(hb:Di b≠0):qa o (b::q)=Di b:=by rw[qa,if_pos hb]
def zB(p:List cY):Option Tm:=p.getLast?.map cY.v
theorem qQ(p:List cY)(d:cY):zB (p++[d])=some d.v:=by simp[zB]
theorem qI(s:List cY)(hl:s.length<1000000000)(hb:∀b∈s,ax b.v<100000000/\ax b.t<100000000):aO C 48 [.aa false (bE s)] (.int .i64 (j9 s)):=by
 have cT:=fu s;refine aO.x T6 Tryz.func48 rfl ?_;refine wXC (λhc=>?_) λhc=>?_
 ·exact⟨_,rfl,by rw[j9,if_pos (by omega)];rfl⟩
 have Vy:j9 s=qa none s:=by rw[j9,if_neg (by omega)]
 refine eJ.zip T6 s (λp q L H=>L=[(0,.aa false (bE s)),(10,.aa false (bE s)),(11,.int .i64 (bE s).length),(12,.int .i64 p.length)]/\HV H/\j9 s=qa (zB p) q) (.nx ⟨rfl,HV.nil,Vy⟩) ?_ ?_
 ·rintro p b q _ H ρ e ⟨rfl,hH,hs⟩;have cV:=mz e;have cH:=congrArg List.length e;simp only[Zx,ZA]at cH;obtain⟨Yj,SK⟩:=hb b (by rw[e];simp);have h1:=(fo b.v Yj).nine;have h2:=(fo b.t SK).nine;have h3:=(dT b.v b.t (by omega) (by omega)).nine;have h4:=IF b.v b.t Yj SK;rw[aw]at h1 h2 h3 h4;rw[aw b.t]at h3 h4;have hE:∀n,Di b=n->n≠0->j9 s=n:=λn h h'=>by rw[hs,Tj (q:=q) (by rw[h];exact h'),h]
  have hN:Di b=0->j9 s=if behind (zB p) b.v=false then 5 else qa (some b.v) q:=λh=>by rw[hs,qa,if_neg (by rw[h];simp)]
  refine wXA ?_;refine .p h1 ?_;refine wXK (λhc hc=>?_) (λhc hc=>?_) λhc=>?_
  ·have Bg:valid b.v=0:=by omega
   have hk1:b.v.k=1:=by omega
   refine .p h3 ?_;refine wXC (λhc=>?_) λhc=>?_
   ·exact⟨_,rfl,by rw[hE 1 (by rw[Di,if_neg (by omega),if_pos (.inr (by assumption))]) (by decide)];rfl⟩
   ·have CE:¬(b.v.k≠1\/aT b.v b.t=0):=by omega
    refine .p h2 ?_;refine wXC (λhc=>?_) λhc=>?_
    ·have ht0:valid b.t=0:=by omega
     refine .p h4 ?_
     cases hf:kO b.v b.t
     ·refine wXA ?_;exact⟨_,rfl,by rw[hE 10 (by rw[Di,if_neg (by omega),if_neg CE,if_neg (by omega),if_pos hf]) (by decide)];rfl⟩
     ·have IX:=hN (by rw[Di,if_neg (by omega),if_neg CE,if_neg (by omega),if_neg (by rw[hf];simp)])
      by_cases N1:p=[]
      ·have TW:behind (zB p) b.v=true:=by rw[N1];rfl
       rw[TW,if_neg (by simp)]at IX;have Un:p.length=0:=by rw[N1];rfl
       refine wXA ?_;exact .nx ⟨rfl,hH.ct (HV.one (by simp)),by rw[qQ];exact IX⟩
      ·obtain⟨p',e0,Dn⟩:∃p' e0,p=p'++[e0]:=by
        rcases List.eq_nil_or_concat p with h |⟨a,b,h⟩
        ·exact absurd h N1
        ·exact⟨a,b,by rw[h];simp⟩
       have xY:=mz (l:=s) (p:=p') (b:=e0) (q:=b::q) (by rw[e,Dn];simp);have Un:p.length=p'.length+1:=by rw[Dn];simp
       have Gj:zB p=some e0.v:=by rw[Dn,qQ]
       have h5:=(dT e0.v b.v (by have:=(hb e0 (by rw[e,Dn];simp)).1;omega) (by omega)).nine;rw[aw,aw b.v]at h5;rw[Gj]at IX;refine wXA ?_;refine .mk (n:=p'.length) ?_ (by omega) xY rfl;refine wXA ?_;refine .p h5 ?_;refine wXC (λhc=>?_) λhc=>?_
       ·exact⟨_,rfl,by rw[IX,if_pos (by simp[behind];omega)];rfl⟩
       ·exact .nx ⟨rfl,hH.ct (HV.one (by simp)),by rw[qQ,IX,if_neg (by simp[behind];omega)]⟩
    ·exact⟨_,rfl,by rw[hE (valid b.t) (by rw[Di,if_neg (by omega),if_neg CE,if_pos (by omega)]) (by omega)];rfl⟩
  ·exact⟨_,rfl,by rw[hE 1 (by rw[Di,if_neg (by omega),if_pos (.inl (by assumption))]) (by decide)];rfl⟩
  ·exact⟨_,rfl,by rw[hE (valid b.v) (by rw[Di,if_pos (by omega)]) (by omega)];rfl⟩
 ·rintro _ H ρ ⟨rfl,hH,hs⟩;refine wXA ?_;exact⟨_,rfl,by rw[hs];rfl⟩
end bO
def Mg(l:List cY):Prop:=l.Pairwise λp q=>aT p.v q.v<0
def AQ(t:Tm):List cY->Nat
 |[]=>0
 |p::l=>if aT p.v t<0 then AQ t l+1 else 0
theorem Mh(t:Tm):∀l:List cY,AQ t l<=l.length
 |[]=>by simp[AQ]
 |p::l=>by
  have:=Mh t l;rw[AQ]
  split <;>simp <;>omega
theorem Gt(t:Tm):∀(l:List cY),Mg l->∀(m:Nat) (p:cY),l[m]?=some p->(aT p.v t<0↔m<AQ t l)
 |[],_,m,p,h=>by simp at h
 |q::l,s,m,p,h=>by
  obtain⟨s1,s2⟩:=ZQ.1 s;rw[AQ]
  cases m with
  |zero=>
   simp at h;subst h
   split
   ·simp;assumption
   ·simp;omega
  |succ m=>
   have h':l[m]?=some p:=by simpa using h
   have ih:=Gt t l s2 m p h';have hm:=s1 p (ZK h')
   split
   ·rw[ih];omega
   ·rename_i hq
    constructor
    ·intro hp
     exact absurd (dM hm hp) hq
    ·intro hh;omega
def I8(t:Tm)(l:List cY):Bool:=match l[AQ t l]? with |some p=>decide (aT p.v t=0)|none=>false
theorem zC:∀{s:List cY} {x:Tm},(∀b∈s,aT b.v x≠0)->kQ s x=x
 |[],_,_=>rfl
 |b::s,x,h=>by
  rw[kQ,if_neg (h b (by simp))];exact zC λc hc=>h c (by simp[hc])
theorem Gu(x:Tm):∀(s:List cY),Mg s->(∀b,s[AQ x s]?=some b->aT b.v x=0->kQ s x=b.t)/\(I8 x s=false->kQ s x=x)
 |[],_=>⟨λb h=>by simp at h,λ_=>rfl⟩
 |c::s,hs=>by
  obtain⟨s1,s2⟩:=ZQ.1 hs;obtain⟨ih1,ih2⟩:=Gu x s s2
  by_cases hc:aT c.v x<0
  ·have hl:AQ x (c::s)=AQ x s+1:=by rw[AQ,if_pos hc]
   have hg:kQ (c::s) x=kQ s x:=by rw[kQ,if_neg (by omega)]
   have hf:I8 x (c::s)=I8 x s:=by unfold I8;rw[hl];simp
   rw[hl,hg,hf];exact⟨λb h=>ih1 b (by simpa using h),ih2⟩
  ·have hl:AQ x (c::s)=0:=by rw[AQ,if_neg hc]
   have hf:I8 x (c::s)=decide (aT c.v x=0):=by unfold I8;rw[hl];rfl
   rw[hl,hf];refine⟨λb h h0=>?_,λh=>?_⟩
   ·simp at h;subst h;rw[kQ,if_pos h0]
   ·have h0:aT c.v x≠0:=of_decide_eq_false h;refine zC λb hb=>?_;rcases ZF.1 hb with rfl |hb
    ·exact h0
    ·intro h1
     have h2:=s1 b hb;have h3:=dn h1;subst h3;exact hc h2
namespace bO
open Go.Proofs
attribute [local irreducible] aE aC aI aJ Ev ah ai ay aV bU
theorem lM{h:ab}{k o:Int}{n:ByteArray}{l:List Tm}{x:PV}(hx:ly h x=some x:=by rfl)(hn:b9 x=x:=by rfl):∃r1,rb h (aY [.agg (List.take (3+1) (List.drop 0 (cells (.agg [.int .i64 k,.str n,.int .i64 o,.aa false (ae l)])))),x])=some r1/\b9 r1=.cm [.agg [.int .i64 k,.str n,.int .i64 o,.aa false (ae l)],x]:=by
 refine⟨.cm [.agg [.int .i64 k,.str n,.int .i64 o,.aa false (ae l)],x],?_,by simp[b9,aU,hn]⟩;simp only[aY,rb,iK,hx];simp[ly,nW,qi,cells]
theorem IG(b:cY)(t:Tm)(hb:ax b.v<100000000)(ht:ax t<100000000):aO C 257 [ue b,enc t] (.int .i64 (aT b.v t)):=by
 have h1:=(dT b.v t (by omega) (by omega)).nine;rw[aw,aw t]at h1;rw[qy,aw];refine aO.x T6 Tryz.func257 rfl ?_;refine wXA ?_;refine .p h1 ?_;refine wXA ?_;exact⟨_,rfl,rfl⟩
theorem Mi(l:List cY)(t:Tm)(hs:Mg l)(hl:l.length<100000000)(hb:∀b∈l,ax b.v<100000000)(ht:ax t<100000000):
  aO C 256 [.aa false (bE l),enc t,.fn 257 []] (.cm [.int .i64 (AQ t l),.bool (I8 t l)]):=by
 have hle:=Mh t l;have Mv:=Gt t l hs;have oe:I8 t l=match l[AQ t l]? with |some p=>decide (aT p.v t=0)|none=>false:=rfl
 have cT:=fu l;generalize I8 t l=FD at oe ⊢;generalize AQ t l=LB at hle Mv oe ⊢
 have elem:∀m,m<l.length->∃b,l[m]?=some b/\(bE l)[m]?=some (.agg [.int .i64 b.v.k,.str b.v.s,.int .i64 b.v.o,.aa false (ae b.v.l),.int .i64 b.t.k,.str b.t.s,.int .i64 b.t.o,.aa false (ae b.t.l)])/\aO C 257 [ue b,enc t] (.int .i64 (aT b.v t)):=λm hm=>by
  have h1:l[m]?=some l[m]:=Zy hm;exact⟨_,h1,yE h1,IG _ t (hb _ (ZK h1)) ht⟩
 rw[aw]at elem ⊢;refine aO.x T6 Tryz.func256 rfl ?_;refine wXA ?_;refine eJ.nat T6 (λk L H=>∃i j:Nat,L=[(0,.aa false (bE l)),(2,.fn 257 []),(4,.ptr 0 0 0 0),(8,.int .i64 (bE l).length),(9,.int .i64 i),(10,.int .i64 j)]/\H=[⟨.m,0,4,[.agg [.int .i64 t.k,.str t.s,.int .i64 t.o,.aa false (ae t.l)]]⟩]/\k=j - i/\i<=LB/\LB<=j/\j<=l.length) l.length (.nx ⟨0,(bE l).length,rfl,rfl,by omega,by omega,by omega,by omega⟩) ?_;rintro k _ _ ρ ⟨i,j,rfl,rfl,hk,i1,i2,i3⟩
 by_cases Ny:i<j
 ·obtain⟨m,Vk⟩:∃m:Nat,((i:Int)+j) / 2=m:=⟨(i+j) / 2,by omega⟩;obtain⟨b,h1,cV,qo⟩:=elem m (by omega);have MV:=Mv m _ h1;rw[qy]at qo;refine wXA ?_;refine .mk (n:=m) ?_ Vk cV;refine wXA ?_;refine .p qo ?_;refine wXC (λhc=>?_) λhc=>?_
  ·exact .nx ⟨j - (m+1),by omega,m+1,j,rfl,rfl,rfl,by omega,by omega,by omega⟩
  ·exact .nx ⟨m - i,by omega,i,m,rfl,rfl,rfl,by omega,by omega,by omega⟩
 ·have hi:i=LB:=by omega
  subst hi
  by_cases mX:i<l.length
  ·obtain⟨b,h1,cV,qo⟩:=elem i mX;rw[h1]at oe;dsimp only at oe;rw[qy]at qo;refine wXA ?_;refine .p qo ?_;refine wXC (λhc=>?_) λhc=>?_
   all_goals exact⟨_,rfl,by rw[oe];simp[aY,b9,aU, *]⟩
  ·rw[ZM (by omega)]at oe;refine wXA ?_;exact⟨_,rfl,by rw[oe];rfl⟩
theorem IH(l:List cY)(t:Tm)(hs:Mg l)(hl:l.length<100000000)(hb:∀b∈l,ax b.v<100000000)(ht:ax t<100000000):aO C 201 [.aa false (bE l),enc t] (.cm [enc (kQ l t),.bool (I8 t l)]):=by
 have h1:=Mi l t hs hl hb ht;obtain⟨g1,g2⟩:=Gu t l hs;have oe:I8 t l=match l[AQ t l]? with |some p=>decide (aT p.v t=0)|none=>false:=rfl
 have cT:=fu l;rw[aw]at h1;rw[aw t];refine aO.x T6 Tryz.func201 rfl ?_;refine wXA ?_;refine .p h1 ?_
 cases hf:I8 t l
 ·rw[g2 hf,aw];refine wXA ?_;exact lM
 ·obtain⟨b,RT,vf⟩:∃b,l[AQ t l]?=some b/\aT b.v t=0:=by
   rw[hf]at oe
   cases hx:l[AQ t l]? with
   |none=>rw[hx]at oe;cases oe
   |some b=>rw[hx]at oe;exact⟨b,rfl,of_decide_eq_true oe.symm⟩
  rw[g1 b RT vf,aw];have cV:=yE RT;have cz:=ag RT;refine wXA ?_;exact lM
theorem PZ{h:ab}{k o:Int}{n:ByteArray}{l:List Tm}:∃r1,rb h (aY [.agg (List.take (3+1) (List.drop 0 (cells (.agg [.int .i64 k,.str n,.int .i64 o,.aa false (ae l)]))))])=some r1/\b9 r1=.agg [.int .i64 k,.str n,.int .i64 o,.aa false (ae l)]:=by
 refine⟨.agg [.int .i64 k,.str n,.int .i64 o,.aa false (ae l)],?_,by simp[b9,aU]⟩;simp[aY,rb,ly,nW,qi,cells]
theorem OX{A B:List Tm}{x y:Tm}{n:Nat}(h:n=A.length):(A++x::B).set n y=A++y::B:=by
 subst h
 induction A with
 |nil=>rfl
 |cons a A ih=>simpa using ih
theorem li{l:List Tm}(h0:l≠[])(hl:l.length<1000000000)(H:ab):bu 4 [.aa false (ae l)] H=some (.aj H.length 0 0 l.length,H++[⟨.m,0,4,ae l⟩]):=by
 have cT:=an l;have h1:(ae l).isEmpty=false:=by cases l with |nil=>exact absurd rfl h0 |cons=>rfl
 simp only[bu,h1,ZJ,if_false];rw[if_pos ⟨nh _,by omega⟩,cT]
 rfl
theorem II(k s o l)(hl:l.length<100000000)(ih:∀t∈l,aO C 202 [enc t] (enc t)):aO C 202 [enc (.mk k s o l)] (enc (.mk k s o l)):=by
 have cT:=an l;rw[bj];refine aO.x T6 Tryz.func202 rfl ?_
 by_cases h0:l=[]
 ·subst h0;refine wXA ?_;refine ai.cu rfl rfl ?_;refine wXA ?_
  have Fx:HR [⟨.m,0,4,[.agg [.int .i64 k,.str s,.int .i64 o,.aa true []]]⟩,⟨.m,0,4,[.agg [.int .i64 0,.str ByteArray.empty,.int .i64 0,.aa true []]]⟩]:=by
   intro x hx
   simp at hx;rcases hx with rfl |rfl <;>simp[bw,br]
  refine eJ.zip T6 ([]:List Tm) (λp q L K=>L=[(1,.ptr 0 0 0 0),(2,.ptr 1 0 0 0),(10,.aa true []),(11,.int .i64 0),(12,.int .i64 p.length)]/\K=[⟨.m,0,4,[.agg [.int .i64 k,.str s,.int .i64 o,.aa true []]]⟩,⟨.m,0,4,[.agg [.int .i64 0,.str ByteArray.empty,.int .i64 0,.aa true []]]⟩]) (.nx ⟨rfl,rfl⟩) ?_ ?_
  ·rintro p u q _ K ρ e _
   cases p <;>cases e
  ·rintro _ K ρ ⟨rfl,rfl⟩;refine wXA ?_;exact⟨_,rfl,rfl⟩
 ·refine wXA ?_;refine ai.cu rfl (li h0 (by omega) _) ?_;refine wXA ?_
  have Fx:HR [⟨.m,0,4,[.agg [.int .i64 k,.str s,.int .i64 o,.aj 2 0 0 l.length]]⟩,⟨.m,0,4,[.agg [.int .i64 0,.str ByteArray.empty,.int .i64 0,.aa true []]]⟩,⟨.m,0,4,ae l⟩]:=by
   intro x hx
   simp at hx;rcases hx with rfl |rfl |rfl
   ·simp[bw,br]
   ·simp[bw,br]
   ·exact⟨by simp,bq _ _ (by simp)⟩
  refine eJ.zip T6 l (λp q L H=>L=[(1,.ptr 0 0 0 0),(2,.ptr 1 0 0 0),(10,.aj 2 0 0 l.length),(11,.int .i64 l.length),(12,.int .i64 p.length)]/\HR H/\H[0]?=some ⟨.m,0,4,[.agg [.int .i64 k,.str s,.int .i64 o,.aj 2 0 0 l.length]]⟩/\H[1]?=some ⟨.m,0,4,[.agg [.int .i64 0,.str ByteArray.empty,.int .i64 0,.aa true []]]⟩/\H[2]?=some ⟨.m,0,4,ae l⟩) (.nx ⟨rfl,Fx,rfl,rfl,rfl⟩) ?_ ?_
  ·rintro p u q _ H ρ e ⟨rfl,hH,g0,g1,g2⟩;have xY:=bS e;have cV:(ae l)[0+p.length]?=some (.agg [.int .i64 u.k,.str u.s,.int .i64 u.o,.aa false (ae u.l)]):=by rw[ZS];exact xY
   have j8:=cS cV;have cH:=congrArg List.length e;simp only[Zx,ZA]at cH;have hi:=ih u (by rw[e];simp);rw[aw]at hi;have nN:HR (H++[⟨.m,0,4,[.agg [.int .i64 u.k,.str u.s,.int .i64 u.o,.aa false (ae u.l)]]⟩]):=hH.dE (HV.one (by simp));refine wXA ?_;refine .p hi ?_;refine wXA ?_;rw[j8];have k2:=ag g2;exact .nx ⟨rfl,nN.set 2 (by simp) (bq _ _ (by simp)),by rw[ZC (by omega),Zv (by omega)];exact g0,by rw[ZC (by omega),Zv (by omega)];exact g1,ZB (by simp;omega)⟩
  ·rintro _ H ρ ⟨rfl,hH,g0,g1,g2⟩;have k1:=ag g1;have e2:=ZB (a:=(⟨.m,0,4,[.agg [.int .i64 k,.str s,.int .i64 o,.aj 2 0 0 l.length]]⟩:au)) k1;refine wXA ?_;refine .mk ?_ (oS (T:=T6) rfl e2 rfl rfl rfl rfl);exact⟨OY (.inr ⟨2,0,by rw[cT],(ZC (by omega)).trans g2⟩) (by simp) (by simp)⟩
theorem Fc(t:Tm)(hb:ax t<100000000):aO C 202 [enc t] (enc t):=by
 induction t using Tm.ind with
 |h k s o l ih=>
  have:=bD l;simp only[ax]at hb;exact II k s o l (by omega) λt ht=>ih t ht (by have:=bN ht;omega)
structure xr(s:List cY):Prop where
 AU:Mg s
 len:s.length<100000000
 v:∀b∈s,ax b.v<10000000
 t:∀b∈s,ax b.t<10000000
theorem xr.get{s:List cY}(h:xr s){x:Tm}(hx:ax x<10000000):ax (kQ s x)<10000000:=by
 have:=uB (B:=9999999) (x:=x) (s:=s) λb hb=>by have:=h.t b hb;omega
 omega
theorem OZ(S:List cY)(hS:xr S)(k s o l)(hb:ax (.mk k s o l)<10000000)(ih:∀t∈l,aO C 157 [.aa false (bE S),enc t] (enc (cF S t))):aO C 157 [.aa false (bE S),enc (.mk k s o l)] (enc (cF S (.mk k s o l))):=by
 have cT:=an l;have th:=bD l;have hl:l.length<10000000:=by simp only[ax]at hb;omega
 have W6:=IH S (.mk k s o l) hS.AU hS.len (λb hb=>by have:=hS.v b hb;omega) (by omega);have di:=Fc (kQ S (.mk k s o l)) (by have:=hS.get hb;omega);obtain⟨g,hg⟩:∃g,g=kQ S (.mk k s o l):=⟨_,rfl⟩;have hpv:k=1->cF S (.mk k s o l)=g:=λh=>by rw[cF,if_pos h,hg]
 have hpt:k≠1->cF S (.mk k s o l)=.mk k s o (cj S l):=λh=>by rw[cF,if_neg h]
 rw[<-hg]at W6 di;rw[aw g]at W6 di;rw[bj]at W6 ⊢;refine aO.x T6 Tryz.func157 rfl ?_
 by_cases hk:k=1
 ·rw[hpv hk,aw];refine wXA ?_;refine .p W6 ?_;refine wXA ?_;refine .p di ?_;refine wXA ?_;exact PZ
 ·rw[hpt hk,bj]
  by_cases h0:l=[]
  ·subst h0;refine wXA ?_;refine ai.cu rfl rfl ?_;refine wXA ?_;refine eJ.zip T6 ([]:List Tm) (λp q L K=>L=[(0,.aa false (bE S)),(3,.ptr 0 0 0 0),(4,.ptr 1 0 0 0),(25,.aa true []),(26,.int .i64 0),(27,.int .i64 p.length)]/\K=[⟨.m,0,4,[.agg [.int .i64 k,.str s,.int .i64 o,.aa true []]]⟩,⟨.m,0,4,[.agg [.int .i64 0,.str ByteArray.empty,.int .i64 0,.aa true []]]⟩]) (.nx ⟨rfl,rfl⟩) ?_ ?_
   ·rintro p u q _ K ρ e _
    cases p <;>cases e
   ·rintro _ K ρ ⟨rfl,rfl⟩;refine wXA ?_;exact⟨_,rfl,rfl⟩
  ·refine wXA ?_;refine ai.cu rfl (li h0 (by omega) _) ?_;refine wXA ?_
   have Fx:HR [⟨.m,0,4,[.agg [.int .i64 k,.str s,.int .i64 o,.aj 2 0 0 l.length]]⟩,⟨.m,0,4,[.agg [.int .i64 0,.str ByteArray.empty,.int .i64 0,.aa true []]]⟩,⟨.m,0,4,ae l⟩]:=by
    intro x hx
    simp at hx;rcases hx with rfl |rfl |rfl
    ·simp[bw,br]
    ·simp[bw,br]
    ·exact⟨by simp,bq _ _ (by simp)⟩
   refine eJ.zip T6 l (λp q L H=>L=[(0,.aa false (bE S)),(3,.ptr 0 0 0 0),(4,.ptr 1 0 0 0),(25,.aj 2 0 0 l.length),(26,.int .i64 l.length),(27,.int .i64 p.length)]/\HR H/\H[0]?=some ⟨.m,0,4,[.agg [.int .i64 k,.str s,.int .i64 o,.aj 2 0 0 l.length]]⟩/\H[1]?=some ⟨.m,0,4,[.agg [.int .i64 0,.str ByteArray.empty,.int .i64 0,.aa true []]]⟩/\H[2]?=some ⟨.m,0,4,ae (cj S p++q)⟩) (.nx ⟨rfl,Fx,rfl,rfl,rfl⟩) ?_ ?_
   ·rintro p u q _ H ρ e ⟨rfl,hH,g0,g1,g2⟩;have nS:=mA S p;have cV:(ae (cj S p++u::q))[0+p.length]?=some (.agg [.int .i64 u.k,.str u.s,.int .i64 u.o,.aa false (ae u.l)]):=by rw[ZS,<-nS];exact bS rfl
    have j8:(ae (cj S p++u::q)).set (0+p.length) (enc (cF S u))=ae (cj S (p++[u])++q):=by
     rw[vG,ZS,OX nS.symm,cQ,cQ,aal];simp
    have cH:=congrArg List.length e;simp only[Zx,ZA]at cH;have qw:(ae (cj S p++u::q)).length=l.length:=by rw[an];simp;omega
    have hi:=ih u (by rw[e];simp);rw[aw u,aw (cF S u)]at hi;rw[aw (cF S u)]at j8;have nN:HR (H++[⟨.m,0,4,[.agg [.int .i64 u.k,.str u.s,.int .i64 u.o,.aa false (ae u.l)]]⟩]):=hH.dE (HV.one (by simp));refine wXA ?_;refine .p hi ?_;refine wXA ?_;rw[j8];have k2:=ag g2;exact .nx ⟨rfl,nN.set 2 (by simp) (bq _ _ (by simp)),by rw[ZC (by omega),Zv (by omega)];exact g0,by rw[ZC (by omega),Zv (by omega)];exact g1,ZB (by simp;omega)⟩
   ·rintro _ H ρ ⟨rfl,hH,g0,g1,g2⟩;rw[ZV]at g2;have nS:=mA S l;have k1:=ag g1;have e2:=ZB (a:=(⟨.m,0,4,[.agg [.int .i64 k,.str s,.int .i64 o,.aj 2 0 0 l.length]]⟩:au)) k1;refine wXA ?_;refine .mk ?_ (oS (T:=T6) rfl e2 rfl rfl rfl rfl);exact⟨OY (.inr ⟨2,0,by rw[an,nS],(ZC (by omega)).trans g2⟩) (by simp) (by simp)⟩
theorem Mj(S:List cY)(hS:xr S)(t:Tm)(hb:ax t<10000000):aO C 157 [.aa false (bE S),enc t] (enc (cF S t)):=by
 induction t using Tm.ind with
 |h k s o l ih=>
  refine OZ S hS k s o l hb λt ht=>ih t ht ?_;have:=bN ht;simp only[ax]at hb;omega
end bO
theorem Mk{s:ByteArray}(h:eF s=true):1<=s.size:=by
 rw[<-bsize];unfold eF zT at h
 cases e:s.toList with
 |nil=>rw[e]at h;simp at h
 |cons c l=>simp
theorem C4{s:List cY}{B:Nat}:∀{l:List Tm},(∀t∈l,2 * ax (cF s t)<=ax t * B)->2 * bz (cj s l)<=bz l * B
 |[],_=>by simp[cj,bz]
 |t::l,h=>by
  have h1:=h t (by simp);have h2:=C4 (l:=l) λu hu=>h u (by simp[hu])
  simp only[cj,bz,aag];omega
theorem IJ{s:List cY}{B:Nat}(hB:2<=B)(hs:∀b∈s,ax b.t<=B)(t:Tm):nodes t=0->2 * ax (cF s t)<=ax t * B:=by
 induction t using Tm.ind with
 |h k n o l ih=>
  intro h0
  obtain⟨q1,q2⟩:=oD h0;have hn:=Mk (yF q1).1;have vf:2<=ax (.mk k n o l):=by simp only[ax];omega
  have h1:ax (.mk k n o l) * 2<=ax (.mk k n o l) * B:=Nat.mul_le_mul_left _ hB;have h2:2 * B<=ax (.mk k n o l) * B:=Z9 _ vf;unfold cF
  split
  ·have:=uB (x:=.mk k n o l) hs;omega
  ·have h3:=C4 (s:=s) (B:=B) (l:=l) λt ht=>ih t ht (mZ q2 t ht)
   simp only[ax,aag]at h1 ⊢;have h4:n.size * 2<=n.size * B:=Nat.mul_le_mul_left _ hB;omega
theorem xr.of{s:List cY}(h:j9 s=0):bO.xr s:=by
 obtain⟨h1,h2,h3⟩:=sg h;refine⟨h3,by omega,λb hb=>?_,λb hb=>?_⟩
 ·have:=fB (oG (h2 b hb)).1;omega
 ·have:=fB (oG (h2 b hb)).2.2.1;omega
theorem O0{s:List cY}(h:j9 s=0){t:Tm}(ht:valid t=0):ax (cF s t)<=50000000:=by
 obtain⟨h1,h2,h3⟩:=sg h;have h4:=IJ (s:=s) (B:=10000) (by omega) (λb hb=>fB (oG (h2 b hb)).2.2.1) t (fV.1 ht).1;have h5:=fB ht;have h6:ax t * 10000<=10000 * 10000:=Z9 _ h5;omega
namespace bO
open Go.Proofs
attribute [local irreducible] aE aC aI aJ Ev ah ai ay aV bU
theorem rA:enc eL=.agg [.int .i64 0,.str ByteArray.empty,.int .i64 0,.aa false (ae [])]:=rfl
theorem xu(S:List cY)(hS:j9 S=0)(t:Tm)(hb:ax t<10000000):aO C 112 [.aa false (bE S),enc t] (.cm [enc (bR S t).1,.int .i64 (bR S t).2]):=by
 have fQ:=xr.of hS;have h1:=(fo t (by omega)).nine;have h2:=Mj S fQ t hb;have h3:valid t=0->aO C 98 [enc (cF S t)] (.int .i64 (valid (cF S t))):=λh=>(fo (cF S t) (by have:=O0 hS h;omega)).nine
 have a1:valid t≠0->bR S t=(eL,valid t):=λh=>by rw[bR,if_pos h]
 have a2:valid t=0->valid (cF S t)≠0->bR S t=(eL,valid (cF S t)):=λh h'=>by rw[bR,if_neg (by omega),if_pos h']
 have a3:valid t=0->valid (cF S t)=0->bR S t=(cF S t,0):=λh h'=>by rw[bR,if_neg (by omega),if_neg (by omega)]
 generalize bR S t=A at *;generalize cF S t=u at *;rw[aw t]at h1 h2 ⊢;rw[aw u]at h2 h3;refine aO.x T6 Tryz.func112 rfl ?_;refine wXA ?_;refine .p h1 ?_;refine wXC (λhc=>?_) λhc=>?_
 ·have hv:valid t=0:=by omega
  refine .p h2 ?_;refine wXA ?_;refine .p (h3 hv) ?_;refine wXC (λhc=>?_) λhc=>?_
  ·rw[a3 hv (by omega),aw];exact lM
  ·rw[a2 hv (by omega),rA];exact⟨_,rfl,rfl⟩
 ·rw[a1 (by omega),rA];exact⟨_,rfl,rfl⟩
theorem oX{S:List cY}{t:Tm}(h:(bR S t).2=0):bR S t=(cF S t,0)/\valid t=0/\valid (cF S t)=0:=by
 unfold bR at h ⊢
 split at h
 ·rename_i h1;exact absurd h h1
 ·rename_i h1
  split at h
  ·rename_i h2;exact absurd h h2
  ·rename_i h2
   rw[if_neg h1,if_neg h2];exact⟨rfl,by omega,by omega⟩
theorem O1{S:List cY}{l p q:List Tm}{u:Tm}(e:l=p++u::q)(hp:∀v∈p,(bR S v).2=0)(hu:(bR S u).2≠0):iW S l=(bR S u).2:=by
 subst e
 induction p with
 |nil=>simp only[aad,iW];rw[if_pos hu]
 |cons v p ih=>
  simp only[Z3,iW];rw[if_neg (by rw[hp v (by simp)];simp),ih (λw hw=>hp w (by simp[hw]))]
theorem zD{S:List cY}:∀{l:List Tm},(∀v∈l,(bR S v).2=0)->iW S l=0
 |[],_=>rfl
 |v::l,h=>by
  rw[iW,if_neg (by rw[h v (by simp)];simp)];exact zD λu hu=>h u (by simp[hu])
theorem Gv{S:List cY}(hS:j9 S=0):aO C 48 [.aa false (bE S)] (.int .i64 0):=by
 obtain⟨h1,h2,h3⟩:=sg hS
 have:=qI S (by omega) λb hb=>by
  have h4:=fB (oG (h2 b hb)).1;have h5:=fB (oG (h2 b hb)).2.2.1;exact⟨by omega,by omega⟩
 rwa[hS]at this
theorem wG(S:List cY)(hS:j9 S=0)(t:Tm)(hb:ax t<10000000):aO C 57 [.aa false (bE S),enc t] (.cm [enc (bR S t).1,.int .i64 (bR S t).2]):=by
 have h1:=Gv hS;have h2:=xu S hS t hb;generalize bR S t=A at *;obtain⟨u,n⟩:=A;dsimp only at h2 ⊢;rw[aw t,aw u]at h2;rw[aw t,aw u];refine aO.x T6 Tryz.func57 rfl ?_;refine wXA ?_;refine .p h1 ?_;refine wXA ?_;refine .p h2 ?_;refine wXA ?_;exact lM
theorem Co(S:List cY)(hS:j9 S=0)(l:List Tm)(hl:l.length<=200)(hb:∀t∈l,ax t<10000000):aO C 56 [.aa false (bE S),.aa false (ae l)] (.cm [.aa false (ae (if iW S l≠0 then[]else cj S l)),.int .i64 (iW S l)]):=by
 have h1:=Gv hS;have cT:=an l;refine aO.x T6 Tryz.func56 rfl ?_;refine wXA ?_;refine .p h1 ?_;refine wXA ?_;refine eJ.zip T6 l (λp q L H=>∃v,L=[(0,.aa false (bE S)),(7,v),(20,.aa false (ae l)),(21,.int .i64 (ae l).length),(22,.int .i64 p.length)]/\HV H/\Out 4 H v (ae (cj S p))/\∀u∈p,(bR S u).2=0) (.nx ⟨_,rfl,HV.nil,.inl ⟨rfl,rfl⟩,by simp⟩) ?_ ?_
 ·rintro p u q _ H ρ e ⟨v,rfl,hH,ho,hp⟩;have cV:=bS e;have cH:=congrArg List.length e;simp only[Zx,ZA]at cH;have lY:=xu S hS u (hb u (by rw[e];simp));have nS:=mA S p;have hle:=an (cj S p);have h0:(bR S u).2=0->(bR S u).1=cF S u:=λh=>by rw[(oX h).1]
  have hx:(bR S u).2≠0->iW S l=(bR S u).2:=O1 e hp;have rZ:cj S (p++[u])=cj S p++[cF S u]:=by rw[cQ,cQ];simp
  have hpn:(bR S u).2=0->∀w∈p++[u],(bR S w).2=0:=λh w hw=>by
   rcases ZE.1 hw with h1 |h1
   ·exact hp w h1
   ·simp at h1;rw[h1];exact h
  generalize(bR S u).1=w at *;generalize(bR S u).2=n at *;rw[aw u,aw w]at lY;have Bp:=(ho.ct [⟨.m,0,4,[.agg [.int .i64 u.k,.str u.s,.int .i64 u.o,.aa false (ae u.l)]]⟩]).ct [⟨.m,0,4,[.agg [.int .i64 w.k,.str w.s,.int .i64 w.o,.aa false (ae w.l)]]⟩];refine wXA ?_;have nN:HV (H++[⟨.m,0,4,[.agg [.int .i64 u.k,.str u.s,.int .i64 u.o,.aa false (ae u.l)]]⟩]++[⟨.m,0,4,[.agg [.int .i64 w.k,.str w.s,.int .i64 w.o,.aa false (ae w.l)]]⟩]):=(hH.ct (HV.one (by simp))).ct (HV.one (by simp));refine .p lY ?_;refine wXM (λhc v H lp=>?_) λhc=>?_
  ·have hw:=h0 (by omega);refine .nx ⟨_,rfl,lp.hv,?_,hpn (by omega)⟩;have:=lp.out;have e9:ae (cj S p)++[.agg [.int .i64 w.k,.str w.s,.int .i64 w.o,.aa false (ae w.l)]]=ae (cj S p++[w]):=by rw[cd,<-aw];rfl
   rw[rZ,<-hw,<-e9];exact this
  ·have hxx:=hx (by omega);exact⟨_,rfl,by rw[hxx,if_pos (by omega)];rfl⟩
 ·rintro _ H ρ ⟨v,rfl,hH,ho,hp⟩;have he:=zD hp;rw[he,if_neg (by simp)];refine wXA ?_;exact Ls.Ot (.inl ho)
end bO
theorem TR:(cJ Vo).k=3/\(cJ Vp).k=3/\(cJ Vq).k=3/\(cJ PR).k=3/\(cJ PS).k=3/\(cJ PT).k=3:=by refine⟨?_,?_,?_,?_,?_,?_⟩ <;>kernel_rfl
theorem F2{s:ByteArray}(h:AV s=true):uh s=false/\(cJ s).k≠3:=by
 simpa[AV]using h
theorem Sl{s:ByteArray}(h:AV s=true):¬s.toList=(⟨#[102,115,116]⟩:ByteArray).toList/\¬s.toList=(⟨#[115,110,100]⟩:ByteArray).toList/\¬s.toList=(⟨#[100,101,99]⟩:ByteArray).toList/\¬s.toList=(⟨#[97,100,101,99]⟩:ByteArray).toList/\¬s.toList=(⟨#[111,112,101,110]⟩:ByteArray).toList/\¬s.toList=(⟨#[114,101,97,100]⟩:ByteArray).toList/\
  ¬s.toList=(⟨#[120,111,114]⟩:ByteArray).toList/\¬s.toList=(⟨#[109,117,108]⟩:ByteArray).toList/\¬s.toList=(⟨#[105,110,118]⟩:ByteArray).toList/\¬s.toList=(⟨#[111,110,101]⟩:ByteArray).toList/\¬s.toList=(⟨#[101,120,112]⟩:ByteArray).toList/\¬s.toList=(⟨#[122,101,114,111]⟩:ByteArray).toList:=by
 obtain⟨h1,h2⟩:=F2 h;have d:∀n:ByteArray,(cJ n).k=3->¬s.toList=n.toList:=λn hn e=>h2 (by rw[bO.B0 e];exact hn)
 simp only[uh,abL]at h1;obtain⟨⟨⟨⟨⟨a1,a2⟩,a3⟩,a4⟩,a5⟩,a6⟩:=h1;have a:∀n:ByteArray,gI s n=false->¬s.toList=n.toList:=λn hn e=>by rw[bO.qe e]at hn;cases hn
 exact⟨d Vo TR.1,d Vp TR.2.1,d Vq TR.2.2.1,d PR TR.2.2.2.1,d PS TR.2.2.2.2.1,d PT TR.2.2.2.2.2,a wo a1,a Am a4,a An a5,a sG a6,a KQ a3,a jj a2⟩
theorem KR{k:Int}{s:ByteArray}{o:Int}{l:List Tm}(h:valid (.mk k s o l)=0)(hk:k=3):o=0:=by
 have h1:=(oD (fV.1 h).1).1;simp only[node]at h1
 split at h1
 ·cases h1
 ·omega
namespace bO
open Go.Proofs
attribute [local irreducible] aE aC aI aJ Ev ah ai ay aV bU
theorem PU{h:ab}{v:PV}{k o n:Int}{s:ByteArray}{es:List PV}(ho:Out 4 h v es)(hv:ar es=true)(hn:aU es=es):∃r1,rb h (aY [.agg [.int .i64 k,.str s,.int .i64 o,v],.int .i64 n])=some r1/\b9 r1=.cm [.agg [.int .i64 k,.str s,.int .i64 o,.aa false es],.int .i64 n]:=by
 obtain⟨r,h1,h2⟩:∃r,qi h v=some r/\b9 r=.aa false es:=by
  rcases ho with⟨rfl,rfl⟩|⟨id,ep,rfl,e2⟩
  ·exact⟨_,rfl,rfl⟩
  ·exact⟨.aa false es,by simp[qi,getM,e2,hv],by simp[b9,hn]⟩
 refine⟨.cm [.agg [.int .i64 k,.str s,.int .i64 o,r],.int .i64 n],?_,by simp[b9,aU,h2]⟩;simp only[aY,rb,iK,ly,nW,h1]
 rfl
theorem HD(s:ByteArray)(l:List Tm)(hf:AV s=true)(hl:l.length<100000000)(ih:∀t∈l,aO C 155 [enc t] (.cm [enc t,.int .i64 0])):aO C 155 [enc (.mk 3 s 0 l)] (.cm [enc (.mk 3 s 0 l),.int .i64 0]):=by
 have cT:=an l;obtain⟨n1,n2,n3,n4,n5,n6,n7,n8,n9,n10,n11,n12⟩:=Sl hf;rw[bj];refine aO.x T6 Tryz.func155 rfl ?_;refine wXA ?_
 have Fx:HR [⟨.m,0,4,[.agg [.int .i64 3,.str s,.int .i64 0,.aa false (ae l)]]⟩,⟨.m,0,4,[.agg [.int .i64 0,.str ByteArray.empty,.int .i64 0,.aa true []]]⟩,⟨.m,0,4,[.agg [.int .i64 3,.str s,.int .i64 0,.aa true []]]⟩]:=by
  intro x hx
  simp at hx;rcases hx with rfl |rfl |rfl <;>simp[bw,br,bq]
 refine eJ.zip T6 l (λp q L H=>∃v,L=[(1,.ptr 0 0 0 0),(2,.ptr 1 0 0 0),(4,.ptr 2 0 0 0),(19,.aa false (ae l)),(20,.int .i64 (ae l).length),(21,.int .i64 p.length)]/\HR H/\H[0]?=some ⟨.m,0,4,[.agg [.int .i64 3,.str s,.int .i64 0,.aa false (ae l)]]⟩/\H[1]?=some ⟨.m,0,4,[.agg [.int .i64 0,.str ByteArray.empty,.int .i64 0,.aa true []]]⟩/\H[2]?=some ⟨.m,0,4,[.agg [.int .i64 3,.str s,.int .i64 0,v]]⟩/\Out 4 H v (ae p)/\∀i∈ck v,3<=i) (.nx ⟨.aa true [],rfl,Fx,rfl,rfl,rfl,.inl ⟨rfl,rfl⟩,by simp[ck]⟩) ?_ ?_
 ·rintro p u q _ H ρ e ⟨v,rfl,hH,h0,h1,h2,ho,hv⟩;have cV:=bS e;have cH:=congrArg List.length e;simp only[Zx,ZA]at cH;have hi:=ih u (by rw[e];simp);have hle:=an p;have lA:HR (H++[⟨.m,0,4,[.agg [.int .i64 u.k,.str u.s,.int .i64 u.o,.aa false (ae u.l)]]⟩]):=hH.dE (HV.one (by simp));have nN:HR (H++[⟨.m,0,4,[.agg [.int .i64 u.k,.str u.s,.int .i64 u.o,.aa false (ae u.l)]]⟩]++[⟨.m,0,4,[.agg [.int .i64 u.k,.str u.s,.int .i64 u.o,.aa false (ae u.l)]]⟩]):=lA.dE (HV.one (by simp));have Bp:=(ho.ct [⟨.m,0,4,[.agg [.int .i64 u.k,.str u.s,.int .i64 u.o,.aa false (ae u.l)]]⟩]).ct [⟨.m,0,4,[.agg [.int .i64 u.k,.str u.s,.int .i64 u.o,.aa false (ae u.l)]]⟩];have IZ:=ag h2;have rZ:ae p++[.agg [.int .i64 u.k,.str u.s,.int .i64 u.o,.aa false (ae u.l)]]=ae (p++[u]):=by rw[cd,<-aw];rfl
  rw[aw]at hi;refine wXA ?_;refine .p hi ?_;refine wXA ?_;refine .lr (λv' h' lr=>?_) Bp;have MD:∀j,j<3->∀ep n,v≠.aj j ep 0 n:=λj hj ep n hh=>by have:=hv j (by rw[hh];simp[ck]);omega
  have gt:∀j,j<3->h'[j]?=H[j]?:=λj hj=>by
   rw[lr.fr j (by simp;omega) (MD j hj),Zv (by simp;omega),Zv (by omega)]
  have g0:=(gt 0 (by omega)).trans h0;have g1:=(gt 1 (by omega)).trans h1;have g2:=(gt 2 (by omega)).trans h2;have hr3:=lr.hr
  have Vr:∀i∈ck v',3<=i:=λi hi=>by
   rcases lr.ck i hi with h |h
   ·exact hv i h
   ·simp at h;omega
  have lo:=lr.out;rw[rZ]at lo;have Sn:=lo.br;rcases lo with⟨_,hx⟩|⟨id,ep,rfl,bT⟩
  ·have:=congrArg List.length hx;rw[an]at this;simp at this
  have k2:=ag g2;refine wXA ?_;have Pn:=Vr id (by simp[ck]);exact .nx ⟨_,rfl,hr3.set _ (by simp) (by simpa[bw,br]using Sn),(ZC (by omega)).trans g0,(ZC (by omega)).trans g1,ZB k2,.inr ⟨id,ep,rfl,(ZC (by omega)).trans bT⟩,Vr⟩
 ·rintro _ H ρ ⟨v,rfl,hH,h0,h1,h2,ho,hv⟩;have k1:=ag h1;have e2:=ZB (a:=(⟨.m,0,4,[.agg [.int .i64 3,.str s,.int .i64 0,v]]⟩:au)) k1;have Dh:Out 4 (H.set 1 ⟨.m,0,4,[.agg [.int .i64 3,.str s,.int .i64 0,v]]⟩) v (ae l):=ho.of_eq λi hi=>ZC (by have:=hv i hi;omega)
  rcases ho with⟨rfl,he⟩|⟨id,ep,rfl,bT⟩
  ·refine wXA ?_;refine .mk ?_ (oS (T:=T6) rfl e2 rfl rfl rfl rfl);exact⟨PU Dh (by simp) (by simp)⟩
  ·refine wXA ?_;refine .mk ?_ (oS (T:=T6) rfl e2 rfl rfl rfl rfl);exact⟨PU Dh (by simp) (by simp)⟩
theorem Eu(t:Tm):km t=0->ko t=true->ax t<100000000->aO C 155 [enc t] (.cm [enc t,.int .i64 0]):=by
 induction t using Tm.ind with
 |h k s o l ih=>
  intro hv hf hb
  by_cases hk:k=3
  ·subst hk;obtain rfl:=KR (mG.1 hv).1 rfl;have:=bD l;simp only[ax]at hb;refine HD s l ((vS.1 hf).1 rfl) (by omega) λt ht=>ih t ht (uJ hv ht) ((vS.1 hf).2 t ht) (by have:=bN ht;omega)
  ·rw[bj];refine aO.x T6 Tryz.func155 rfl ?_;refine wXA ?_;exact lM
theorem B1(t:Tm)(hf:ko t=true)(hb:ax t<100000000):aO C 107 [enc t] (.cm [enc (if km t=0 then t else eL),.int .i64 (km t)]):=by
 have h1:=rz t hb;have h2:=λh=>Eu t h hf hb
 have h3:=λh:km t=0=>(fo t (by omega)).nine
 have hz:=rA;rw[aw t]at h1 h2 h3 ⊢
 by_cases hv:km t=0
 ·have h2:=h2 hv;have h3:=h3 hv;rw[(mG.1 hv).1]at h3;rw[if_pos hv,hv,aw];rw[hv]at h1;refine aO.x T6 Tryz.func107 rfl ?_;refine wXA ?_;refine .p h1 ?_;refine wXA ?_;refine .p h2 ?_;refine wXA ?_;refine .p h3 ?_;refine wXA ?_;exact lM
 ·rw[if_neg hv,hz];refine aO.x T6 Tryz.func107 rfl ?_;refine wXA ?_;refine .p h1 ?_;refine wXA ?_;exact⟨_,rfl,rfl⟩
theorem Ew(s:ByteArray):aO C 110 [.str s] (.bool (decide ((cJ s).k≠3))):=by
 have hs:=oT s;rw[Ao]at hs;refine aO.x T6 Tryz.func110 rfl ?_;refine wXA ?_;refine .p hs ?_;refine wXC (λhc=>?_) λhc=>?_
 all_goals exact⟨_,rfl,by simp[aY, *]⟩
theorem HE{t:Tm}(h:ko t=true):every (λs=>decide ((cJ s).k≠3)) t=true:=by
 unfold ko at h;rw[sf,Zw]at h ⊢
 intro u hu
 have:=h u hu;simp only[ZU]at this ⊢;exact this.imp id λx=>decide_eq_true (F2 x).2
theorem yX(t:Tm)(hf:ko t=true)(hb:ax t<100000000):aO C 55 [enc t] (.bool (decide (km t=0))):=by
 have h1:=B1 t hf hb;have h2:=wq 110 _ rfl Ew t (by omega);rw[HE hf]at h2
 by_cases hv:km t=0
 ·have h3:aO C 108 [enc t,enc t] (.bool true):=by
   have h4:=(dT t t (by omega) (by omega)).nine;rw[cX]at h4;rw[aw]at h4 ⊢;refine aO.x T6 Tryz.func108 rfl ?_;refine wXA ?_;refine .p h4 ?_;refine wXA ?_;exact⟨_,rfl,rfl⟩
  rw[if_pos hv,hv]at h1;rw[hv];rw[aw]at *;refine aO.x T6 Tryz.func55 rfl ?_;refine wXA ?_;refine .p h1 ?_;refine wXA ?_;refine .p h3 ?_;refine wXA ?_;refine .p h2 ?_;refine wXA ?_;exact⟨_,rfl,rfl⟩
 ·rw[if_neg hv,rA]at h1;rw[aw]at h1 ⊢;refine aO.x T6 Tryz.func55 rfl ?_;refine wXA ?_;refine .p h1 ?_;refine wXA ?_;exact⟨_,rfl,by simp[aY,hv]⟩
end bO
def kY(l:List ByteArray):List PV:=l.map PV.str
@[simp] theorem HF(l:List ByteArray):(kY l).length=l.length:=by simp[kY]
@[simp] theorem N3(l:List ByteArray):ar (kY l)=true:=by rw[bt];simp[kY,aW]
@[simp] theorem Sq(l:List ByteArray):aU (kY l)=kY l:=by rw[cE];simp[kY,b9]
theorem KT{l p q:List ByteArray}{d:ByteArray}(e:l=p++d::q):(kY l)[p.length]?=some (.str d):=by rw[kY,e];simp
def B8(t:Tm):Bool:=eU t Am ||eU t An
theorem lP{t:Tm}(h:ko t=true):eU t Am=false/\eU t An=false/\eU t KQ=false/\eU t wo=false/\eU t jj=false/\eU t sG=false:=by
 have key:∀n:ByteArray,AV n=false->eU t n=false:=λn hn=>by
  cases hh:eU t n
  ·rfl
  ·obtain⟨h1,h2⟩:=KU hh;have:=N4 h h1;rw[h2,hn]at this
   cases this
 refine⟨key _ ?_,key _ ?_,key _ ?_,key _ ?_,key _ ?_,key _ ?_⟩ <;>kernel_rfl
namespace bO
open Go.Proofs
attribute [local irreducible] aE aC aI aJ Ev ah ai ay aV bU
theorem Ey(ns:List ByteArray)(s:ByteArray)(hl:ns.length<1000000):aO C 148 [.aa false (kY ns),.str s] (.int .i64 (ug (λn=>gI s n) ns)):=by
 have cT:=HF ns;refine aO.x T6 Tryz.func148 rfl ?_;refine wXA ?_;refine eJ.zip T6 ns (λp q L H=>L=[(0,.aa false (kY ns)),(1,.str s),(7,.int .i64 (kY ns).length),(8,.int .i64 p.length)]/\H=[]/\∀y∈p,gI s y=false) (.nx ⟨rfl,rfl,by simp⟩) ?_ ?_
 ·rintro p n q _ _ ρ e ⟨rfl,rfl,hp⟩;have cV:=KT e;have cH:=congrArg List.length e;simp only[Zx,ZA]at cH;refine wXC (λhc=>?_) λhc=>?_
  ·exact⟨_,rfl,by rw[e,pI hp (qe (by assumption))];rfl⟩
  ·exact .nx ⟨rfl,rfl,λy hy=>by rcases ZE.1 hy with h |h;exact hp y h;simp at h;rw[h];exact mF (by assumption)⟩
 ·rintro _ _ ρ ⟨rfl,rfl,hp⟩;refine wXA ?_;exact⟨_,rfl,by rw[kq hp];rfl⟩
theorem HG(ns:List ByteArray)(s:ByteArray)(hl:ns.length<1000000):aO C 147 [.aa false (kY ns),.str s] (.bool (ns.any λn=>gI s n)):=by
 have h1:=Ey ns s hl;have ha:=rn (λn=>gI s n) ns;refine aO.x T6 Tryz.func147 rfl ?_;refine wXA ?_;refine .p h1 ?_;refine wXC (λhc=>?_) λhc=>?_
 all_goals exact⟨_,rfl,by rw[<-ha];simp[aY, *]⟩
theorem ry(t:Tm)(ns:List ByteArray)(hl:ns.length<1000000):aO C 206 [enc t,.aa false (kY ns)] (.bool (decide (t.k=3)&&ns.any λn=>gI t.s n)):=by
 have h1:=HG ns t.s hl;rw[aw];refine aO.x T6 Tryz.func206 rfl ?_;refine wXC (λhc=>?_) λhc=>?_
 ·refine .p h1 ?_;refine wXA ?_;exact⟨_,rfl,by simp[aY, *]⟩
 ·exact⟨_,rfl,by simp[aY, *]⟩
theorem mH(t:Tm)(n:ByteArray):aO C 206 [enc t,.aa false [.str n]] (.bool (eU t n)):=by
 have:=ry t [n] (by simp);simpa[kY,eU]using this
theorem yY(t:Tm):aO C 205 [enc t] (.bool (B8 t)):=by
 have h1:aO C 206 [enc t,.aa false [.str ⟨#[109,117,108]⟩,.str ⟨#[105,110,118]⟩]] (.bool (B8 t)):=by
  have:=ry t [Am,An] (by simp);have e:B8 t=(decide (t.k=3)&& [Am,An].any λn=>gI t.s n):=by cases h:decide (t.k=3) <;>simp[B8,eU,h]
  rw[e];exact this
 rw[aw]at h1 ⊢;refine aO.x T6 Tryz.func205 rfl ?_;refine wXA ?_;refine .p h1 ?_;refine wXA ?_;exact⟨_,rfl,rfl⟩
theorem Ez(t:Tm)(hf:ko t=true)(hb:ax t<10000000):aO C 204 [enc t] (.int .i64 (ui t)):=by
 have h1:=rz t (by omega);have h2:=kZ t hb;have h3:=yX t hf (by omega);have cT:=an (bF t);have hr:ui t=if km t≠0 then km t else if bF t≠[]then 13 else 0:=rfl;rw[aw]at h1 h2 h3 ⊢;refine aO.x T6 Tryz.func204 rfl ?_;refine wXA ?_;refine .p h1 ?_;refine wXC (λhc=>?_) λhc=>?_
 ·have hz:km t=0:=by omega
  rw[hz]at h3;rw[if_neg (by omega)]at hr;refine .p h2 ?_;refine wXC (λhc=>?_) λhc=>?_
  ·have hn:bF t≠[]:=by
    intro hh
    have h0:(ae (bF t)).length=0:=by rw[cT,hh];rfl
    omega
   rw[if_pos hn]at hr;exact⟨_,rfl,by rw[hr];rfl⟩
  ·have hn:bF t=[]:=ZL (by omega);rw[if_neg (by simp[hn])]at hr;refine .p h3 ?_;refine wXA ?_;exact⟨_,rfl,by rw[hr];rfl⟩
 ·exact⟨_,rfl,by rw[hr,if_pos (by assumption)];rfl⟩
theorem KW{l p q:List Tm}{u:Tm}(e:l=p++u::q)(hp:∀v∈p,ui v=0)(hu:ui u≠0):k9 l=ui u:=by
 subst e
 induction p with
 |nil=>simp only[aad,k9];rw[if_pos hu]
 |cons v p ih=>
  simp only[Z3,k9];rw[if_neg (by rw[hp v (by simp)];simp),ih (λw hw=>hp w (by simp[hw]))]
theorem wu:∀{l:List Tm},(∀v∈l,ui v=0)->k9 l=0
 |[],_=>rfl
 |v::l,h=>by
  rw[k9,if_neg (by rw[h v (by simp)];simp)];exact wu λu hu=>h u (by simp[hu])
theorem B9(l:List Tm)(hf:∀t∈l,ko t=true)(hl:l.length<10000000)(hb:∀t∈l,ax t<10000000):aO C 159 [.aa false (ae l)] (.int .i64 (k9 l)):=by
 have cT:=an l;refine aO.x T6 Tryz.func159 rfl ?_;refine wXA ?_;refine eJ.zip T6 l (λp q L H=>L=[(6,.aa false (ae l)),(7,.int .i64 (ae l).length),(8,.int .i64 p.length)]/\HV H/\∀v∈p,ui v=0) (.nx ⟨rfl,HV.nil,by simp⟩) ?_ ?_
 ·rintro p u q _ H ρ e ⟨rfl,hH,hp⟩;have cV:=bS e;have cH:=congrArg List.length e;simp only[Zx,ZA]at cH;have h1:=Ez u (hf u (by rw[e];simp)) (hb u (by rw[e];simp));rw[aw]at h1;refine wXA ?_;refine .p h1 ?_;refine wXC (λhc=>?_) λhc=>?_
  ·exact .nx ⟨rfl,hH.ct (HV.one (by simp)),λv hv=>by rcases ZE.1 hv with h |h;exact hp v h;simp at h;rw[h];omega⟩
  ·exact⟨_,rfl,by rw[KW e hp (by assumption)];rfl⟩
 ·rintro _ H ρ ⟨rfl,hH,hp⟩;refine wXA ?_;exact⟨_,rfl,by rw[wu hp];rfl⟩
theorem HI(u:List Tm)(hf:∀t∈u,ko t=true)(hl:u.length<10000000):aO C 160 [.aa false (ae u)] (.int .i64 (if 200<u.length then 3 else 0)):=by
 have cT:=an u;refine aO.x T6 Tryz.func160 rfl ?_;refine wXA ?_;refine eJ.zip T6 u (λp q L H=>L=[(0,.aa false (ae u)),(3,.int .i64 0),(4,.aa true []),(11,.aa false (ae u)),(12,.int .i64 (ae u).length),(13,.int .i64 p.length)]/\HV H) (.nx ⟨rfl,HV.nil⟩) ?_ ?_
 ·rintro p t q _ H ρ e ⟨rfl,hH⟩;have cV:=bS e;have cH:=congrArg List.length e;simp only[Zx,ZA]at cH;obtain⟨f1,f2,f3,_⟩:=lP (hf t (by rw[e];simp));have h1:=yY t;have h2:=mH t ⟨#[101,120,112]⟩;have e2:eU t ⟨#[101,120,112]⟩=false:=f3;have e1:B8 t=false:=by simp[B8,f1,f2]
  rw[e1]at h1;rw[e2]at h2;rw[aw]at h1 h2;refine wXA ?_;refine .p h1 ?_;refine wXA ?_;refine .p h2 ?_;refine wXA ?_;exact .nx ⟨rfl,hH.ct (HV.one (by simp))⟩
 ·rintro _ H ρ ⟨rfl,hH⟩;refine wXC (λhc=>?_) λhc=>?_
  ·exact⟨_,rfl,by rw[if_pos (by omega)];rfl⟩
  ·exact⟨_,rfl,by rw[if_neg (by omega)];rfl⟩
end bO
open Go.Proofs
theorem PF{n:Int}(h1:0<=n)(h2:n<256):IntKind.u8.wrap n=n:=by
 have:IntKind.u8.wrap n=n % 256:=by simp[IntKind.wrap,IntKind.bits,IntKind.signed]
 rw[this];omega
attribute [local irreducible] aE aC aI aJ Ev ah ai ay aV
theorem NC(a b:Nat):Int.tdiv (a:Int) (b:Int)=((a / b:Nat):Int):=by rw[Int.tdiv_eq_ediv_of_nonneg (by omega)];exact(Int.natCast_ediv a b).symm
theorem D0(a b:Nat):Int.tmod (a:Int) (b:Int)=((a % b:Nat):Int):=by rw[Int.tmod_eq_emod_of_nonneg (by omega)];exact(Int.natCast_emod a b).symm
end Go.Pm
namespace Go.Pm
open Go.Proofs
set_option maxRecDepth 4000
def XW(S:List Row)(P:List Int):Prop:=∀(c:Nat) (i:Int),P[c]?=some i->-1<=i/\(0<=i->∃b u,S[i.toNat]?=some (b,u)/\atR b c≠0)
end Go.Pm
