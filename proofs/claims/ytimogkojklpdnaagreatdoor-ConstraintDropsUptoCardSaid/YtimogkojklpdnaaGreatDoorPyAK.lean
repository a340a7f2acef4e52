/-
  A part of the library Pm (joined by program). Conditions: none.
-/
import Derived.Test.YtimogkojklpdnaaGreatDoorPyAA
import Derived.Test.YtimogkojklpdnaaGreatDoorPyAG
import Derived.Test.YtimogkojklpdnaaGreatDoorPyAJ
import Derived.Test.YtimogkojklpdnaaGreatDoorPyAH
import Derived.Test.YtimogkojklpdnaaGreatDoorPyAI
set_option linter.unusedVariables false
set_option linter.unusedSimpArgs false
set_option linter.unnecessarySimpa false
namespace Go.Pm
set_option maxRecDepth 4000
theorem pu{C:cP}{T:lL C.P}{L:Al}{h:ab}{a b n:Nat}{t:TypeId}{cs vs:List PV}{sz:Nat}{rs:List ResultVar}(ha:lk L a=some (.ptr b 0 0 0))(hb:h[b]?=some ⟨.m,0,n,[.agg cs]⟩)(hs:T.ts t=some (sz+1))(ht:T.ta t=some true)(hl:cs.length=sz+1)(hr:xY T L h rs=some vs):xY T L h (.cell a t::rs)=some (.agg cs::vs):=by
 have hp:cK h (.ptr b 0 0 0)=some cs:=(ML hb).trans rfl
 have hld:loadT T h t (.ptr b 0 0 0)=some (.agg cs):=by
  unfold loadT;rw[hs,ht,hp];have:Nat.ble (sz+1) cs.length=true:=Nat.ble_eq_true_of_le (by omega);simp only[this,if_true];rw[aar (by omega)]
 simp only[xY,ha,hld,hr]
namespace bP
open Go.Proofs
def bZ:List PV:=T9.map Ai
theorem DG:aO C 156 [] (.aa false bZ):=aO.kb (n:=100) (by kernel_rfl)
theorem Jc{p q:List Sy}{y:Sy}(e:T9=p++y::q):bZ[p.length]?=some (.agg [.str y.n,.int .i64 y.a,.int .i64 y.b,.int .i64 y.k]):=by rw[bZ,e];simp[Ai]
@[simp] theorem T':bZ.length=21:=rfl
theorem Hd:T9.length=21:=rfl
@[simp] theorem QY:ao bZ=true:=rfl
theorem FJ{p q:List Sy}{y:Sy}{s:ByteArray}(e:T9=p++y::q)(hp:∀z∈p,z.n.toList≠s.toList)(h:y.n.toList=s.toList):cO s=y:=by
 unfold cO;rw[e,List.find?_append,List.find?_eq_none.2 (λz hz=>by simpa using hp z hz)];simp[h]
theorem CO{s t:ByteArray}(h:s.toList=t.toList):cO s=cO t:=by unfold cO;rw[h]
theorem mR{s n:ByteArray}(h:¬s.toList=n.toList):gO s n=false:=by unfold gO;simpa using h
theorem qC{s n:ByteArray}(h:s.toList=n.toList):gO s n=true:=by unfold gO;simpa using h
theorem Jd:(cO MX).a=1:=by kernel_rfl
theorem FK{s:ByteArray}(hp:∀z∈T9,z.n.toList≠s.toList):cO s=sy0:=by
 unfold cO;rw[List.find?_eq_none.2 (λz hz=>by simpa using hp z hz)]
 rfl
attribute [local irreducible] aE az aI aJ Ev ah ai ax aW bZ
theorem pw(s:ByteArray):aO C 111 [.str s] (Ai (cO s)):=by
 have hs:=DG;refine aO.x T6 Tryz.func111 rfl ?_;refine wXA ?_;refine .p hs ?_;refine wXA ?_;refine eD.zip T6 T9 (λp q L H=>L=[(0,.str s),(2,.ptr 0 0 0 0),(5,.aa false bZ),(6,.int .i64 21),(7,.int .i64 p.length)]/\HV H/\H[0]?=some ⟨.m,0,4,[.agg [.str ByteArray.empty,.int .i64 0,.int .i64 0,.int .i64 0]]⟩/\∀z∈p,z.n.toList≠s.toList) (.nx ⟨rfl,HV.one rfl,rfl,λz hz=>by cases hz⟩) ?_ ?_
 ·rintro p y q _ H ρ e ⟨rfl,hH,h0,hp⟩;have cY:=Jc e;have cE:=congrArg List.length e;rw[Hd]at cE;simp only[Z2,Z4]at cE;refine wXC (λhc=>?_) λhc=>?_
  ·refine .mk ?_ (pu (T:=T6) rfl (Z6 (by simp)) rfl rfl rfl rfl);refine wXA ?_;exact⟨_,rfl,by rw[FJ e hp hc];simp[aY,cf,aQ,Ai]⟩
  ·exact .nx ⟨rfl,hH.cC (HV.one (by simp)),by rw[Z0 (ag h0)];exact h0,λz hz=>by rcases Z8.1 hz with h |h;exact hp z h;simp at h;rw[h];exact hc⟩
 ·rintro _ H ρ ⟨rfl,hH,h0,hp⟩;rw[Hd];refine wXA ?_;refine .mk ?_ (pu (T:=T6) rfl (Z6 (ag h0)) rfl rfl rfl rfl);refine wXA ?_;exact⟨_,rfl,by rw[FK hp];simp[aY,cf,aQ,Ai,sy0]⟩
theorem A3(y:Sy):Ai y=.agg [.str y.n,.int .i64 y.a,.int .i64 y.b,.int .i64 y.k]:=rfl
theorem vC{l p q:List Tm}{u:Tm}(e:l=p++u::q)(hp:∀v∈p,od v=0)(hu:od u≠0):si l=od u:=by
 subst e
 induction p with
 |nil=>simp only[aaL,si];rw[if_pos hu]
 |cons v p ih=>
  simp only[aau,si];rw[if_neg (by rw[hp v (by simp)];simp),ih (λw hw=>hp w (by simp[hw]))]
theorem iJ:∀{l:List Tm},(∀v∈l,od v=0)->si l=0
 |[],_=>rfl
 |v::l,h=>by rw[si,if_neg (by rw[h v (by simp)];simp),iJ λw hw=>h w (by simp[hw])]
theorem HV.wI{o p:au}(h1:o.mu≠.x/\ao o.es=true)(h2:p.mu≠.x/\ao p.es=true):HV [o,p]:=λx hx=>by
 simp only[Z',aa7,or_false]at hx;rcases hx with rfl |rfl
 ·exact h1
 ·exact h2
theorem Je(k s o l)(hl:l.length<1000000000)(ih:∀t∈l,aO C 186 [enc t] (.int .i64 (od t))):aO C 186 [enc (.mk k s o l)] (.int .i64 (od (.mk k s o l))):=by
 have hs:=pw s;have cX:=aj l;rw[A3]at hs;rw[bj];refine aO.x T6 Tryz.func186 rfl ?_;refine wXC (λhc=>?_) λhc=>?_
 ·refine .p hs ?_;refine wXO (λhc=>?_) (λhc hc=>?_) (λhc hc hc=>?_) (λhc hc hc hc=>?_) (λhc hc hc hc hc=>?_) (λhc hc hc hc hc hc=>?_) λhc hc hc hc hc hc=>?_
  ·exact⟨_,rfl,by rw[od,if_neg (by simp[*]),if_pos (by assumption)];rfl⟩
  ·exact⟨_,rfl,by rw[od,if_neg (by simp[*]),if_neg (by assumption),if_pos (by omega)];rfl⟩
  ·exact⟨_,rfl,by rw[od,if_neg (by simp[*]),if_neg (by assumption),if_pos (by omega)];rfl⟩
  ·have G6:fR s l=false->od (.mk k s o l)=10:=λh=>by rw[od,if_neg (by simp[*]),if_neg (by assumption),if_neg (by omega),if_pos h]
   have L9:fR s l=true->od (.mk k s o l)=si l:=λh=>by rw[od,if_neg (by simp[*]),if_neg (by assumption),if_neg (by omega),if_neg (by rw[h];simp)]
   have yC:(gO s EJ ||gO s Ch)=true:=by simp[gO,EJ, *]
   refine eD.zip T6 l (λp q L H=>L=[(1,.ptr 0 0 0 0),(38,.aa false (ae l)),(39,.int .i64 l.length),(40,.int .i64 p.length)]/\HV H/\H[0]?=some ⟨.m,0,4,[.agg [.int .i64 k,.str s,.int .i64 o,.aa false (ae l)]]⟩/\∀u∈p,iA u=true) (.nx ⟨rfl,by first |assumption |exact HV.wI (by simp) (by simp),rfl,λu hu=>by cases hu⟩) ?_ ?_
   ·rintro p u q _ H ρ e ⟨rfl,hH,h0,hp⟩;have cY:=bW e;have cE:=congrArg List.length e;simp only[Z2,Z4]at cE
    have Xe:iA u=false->fR s l=false:=λh=>by
     have:l.all iA=false:=by rw[e];simp[h]
     simp[fR,yC,this]
    have nx:u.k≠3->u.o=1->∀v∈p++[u],iA v=true:=λh1 h2 v hv=>by
     rcases Z8.1 hv with h |h
     ·exact hp v h
     ·simp at h;rw[h];simp[iA,h1,h2]
    refine wXI (λhc=>?_) (λhc hc=>?_) λhc hc=>?_
    ·exact⟨_,rfl,by rw[G6 (Xe (by simp[iA, *]))];rfl⟩
    ·exact .nx ⟨rfl,hH.cC (HV.one (by simp)),by rw[Z0 (ag h0)];exact h0,nx (by assumption) (by assumption)⟩
    ·exact⟨_,rfl,by rw[G6 (Xe (by simp[iA, *]))];rfl⟩
   ·rintro _ H ρ ⟨rfl,hH,h0,hp⟩;have MY:=L9 (by simp only[fR,yC,if_true];rw[Z1];exact hp);refine wXA ?_;refine eD.zip T6 l (λp q L H=>L=[(62,.aa false (ae l)),(63,.int .i64 l.length),(64,.int .i64 p.length)]/\HV H/\∀u∈p,od u=0) (.nx ⟨rfl,by first |assumption |exact HV.wI (by simp) (by simp),λu hu=>by cases hu⟩) ?_ ?_
    ·rintro p u q _ H ρ e ⟨rfl,hH,hp⟩;have cY:=bW e;have cE:=congrArg List.length e;simp only[Z2,Z4]at cE;have hi:=ih u (by rw[e];simp);rw[aw]at hi;refine wXA ?_;refine .p hi ?_;refine wXC (λhc=>?_) λhc=>?_
     ·exact .nx ⟨rfl,hH.cC (HV.one (by simp)),λv hv=>by rcases Z8.1 hv with h |h;exact hp v h;simp at h;rw[h];assumption⟩
     ·exact⟨_,rfl,by rw[MY,vC e hp (by assumption)];rfl⟩
    ·rintro _ H ρ ⟨rfl,hH,hp⟩;refine wXA ?_;exact⟨_,rfl,by rw[MY,iJ hp];rfl⟩
  ·have G6:fR s l=false->od (.mk k s o l)=10:=λh=>by rw[od,if_neg (by simp[*]),if_neg (by assumption),if_neg (by omega),if_pos h]
   have L9:fR s l=true->od (.mk k s o l)=si l:=λh=>by rw[od,if_neg (by simp[*]),if_neg (by assumption),if_neg (by omega),if_neg (by rw[h];simp)]
   have yC:(gO s EJ ||gO s Ch)=true:=by simp[gO,Ch, *]
   refine eD.zip T6 l (λp q L H=>L=[(1,.ptr 0 0 0 0),(38,.aa false (ae l)),(39,.int .i64 l.length),(40,.int .i64 p.length)]/\HV H/\H[0]?=some ⟨.m,0,4,[.agg [.int .i64 k,.str s,.int .i64 o,.aa false (ae l)]]⟩/\∀u∈p,iA u=true) (.nx ⟨rfl,by first |assumption |exact HV.wI (by simp) (by simp),rfl,λu hu=>by cases hu⟩) ?_ ?_
   ·rintro p u q _ H ρ e ⟨rfl,hH,h0,hp⟩;have cY:=bW e;have cE:=congrArg List.length e;simp only[Z2,Z4]at cE
    have Xe:iA u=false->fR s l=false:=λh=>by
     have:l.all iA=false:=by rw[e];simp[h]
     simp[fR,yC,this]
    have nx:u.k≠3->u.o=1->∀v∈p++[u],iA v=true:=λh1 h2 v hv=>by
     rcases Z8.1 hv with h |h
     ·exact hp v h
     ·simp at h;rw[h];simp[iA,h1,h2]
    refine wXI (λhc=>?_) (λhc hc=>?_) λhc hc=>?_
    ·exact⟨_,rfl,by rw[G6 (Xe (by simp[iA, *]))];rfl⟩
    ·exact .nx ⟨rfl,hH.cC (HV.one (by simp)),by rw[Z0 (ag h0)];exact h0,nx (by assumption) (by assumption)⟩
    ·exact⟨_,rfl,by rw[G6 (Xe (by simp[iA, *]))];rfl⟩
   ·rintro _ H ρ ⟨rfl,hH,h0,hp⟩;have MY:=L9 (by simp only[fR,yC,if_true];rw[Z1];exact hp);refine wXA ?_;refine eD.zip T6 l (λp q L H=>L=[(62,.aa false (ae l)),(63,.int .i64 l.length),(64,.int .i64 p.length)]/\HV H/\∀u∈p,od u=0) (.nx ⟨rfl,by first |assumption |exact HV.wI (by simp) (by simp),λu hu=>by cases hu⟩) ?_ ?_
    ·rintro p u q _ H ρ e ⟨rfl,hH,hp⟩;have cY:=bW e;have cE:=congrArg List.length e;simp only[Z2,Z4]at cE;have hi:=ih u (by rw[e];simp);rw[aw]at hi;refine wXA ?_;refine .p hi ?_;refine wXC (λhc=>?_) λhc=>?_
     ·exact .nx ⟨rfl,hH.cC (HV.one (by simp)),λv hv=>by rcases Z8.1 hv with h |h;exact hp v h;simp at h;rw[h];assumption⟩
     ·exact⟨_,rfl,by rw[MY,vC e hp (by assumption)];rfl⟩
    ·rintro _ H ρ ⟨rfl,hH,hp⟩;refine wXA ?_;exact⟨_,rfl,by rw[MY,iJ hp];rfl⟩
  ·have G6:fR s l=false->od (.mk k s o l)=10:=λh=>by rw[od,if_neg (by simp[*]),if_neg (by assumption),if_neg (by omega),if_pos h]
   have L9:fR s l=true->od (.mk k s o l)=si l:=λh=>by rw[od,if_neg (by simp[*]),if_neg (by assumption),if_neg (by omega),if_neg (by rw[h];simp)]
   have yC:(gO s EJ ||gO s Ch)=false:=by rw[mR (n:=EJ) (by assumption),mR (n:=Ch) (by assumption)];rfl
   have hnw:gO s MX=true:=qC (by assumption);have ha:(cO s).a=1:=by rw[CO (by assumption:s.toList=MX.toList)];exact Jd
   obtain⟨u,r,rfl⟩:∃u r,l=u::r:=by cases l with |nil=>simp at cX;simp at *;omega |cons u r=>exact⟨u,r,rfl⟩
   have cY:(ae (u::r))[0]?=some (.agg [.int .i64 u.k,.str u.s,.int .i64 u.o,.aa false (ae u.l)]):=by rw[ae,<-aw];rfl
   have hpk:fR s (u::r)=decide (u.k=2):=by unfold fR;rw[yC,hnw];rfl
   refine .mk (n:=0) ?_ rfl cY rfl;generalize u::r=l at *;refine wXC (λhc=>?_) λhc=>?_
   ·have MY:=L9 (by rw[hpk];simp[*]);refine eD.zip T6 l (λp q L H=>L=[(62,.aa false (ae l)),(63,.int .i64 l.length),(64,.int .i64 p.length)]/\HV H/\∀u∈p,od u=0) (.nx ⟨rfl,by first |assumption |exact HV.wI (by simp) (by simp),λu hu=>by cases hu⟩) ?_ ?_
    ·rintro p u q _ H ρ e ⟨rfl,hH,hp⟩;have cY:=bW e;have cE:=congrArg List.length e;simp only[Z2,Z4]at cE;have hi:=ih u (by rw[e];simp);rw[aw]at hi;refine wXA ?_;refine .p hi ?_;refine wXC (λhc=>?_) λhc=>?_
     ·exact .nx ⟨rfl,hH.cC (HV.one (by simp)),λv hv=>by rcases Z8.1 hv with h |h;exact hp v h;simp at h;rw[h];assumption⟩
     ·exact⟨_,rfl,by rw[MY,vC e hp (by assumption)];rfl⟩
    ·rintro _ H ρ ⟨rfl,hH,hp⟩;refine wXA ?_;exact⟨_,rfl,by rw[MY,iJ hp];rfl⟩
   ·exact⟨_,rfl,by rw[G6 (by rw[hpk];simp[*])];rfl⟩
  ·have L9:od (.mk k s o l)=si l:=by
    have h1:fR s l=true:=by unfold fR;rw[mR (n:=EJ) (by assumption),mR (n:=Ch) (by assumption),mR (n:=MX) (by assumption)];rfl
    rw[od,if_neg (by simp[*]),if_neg (by assumption),if_neg (by omega),if_neg (by rw[h1];simp)]
   have MY:=L9;refine eD.zip T6 l (λp q L H=>L=[(62,.aa false (ae l)),(63,.int .i64 l.length),(64,.int .i64 p.length)]/\HV H/\∀u∈p,od u=0) (.nx ⟨rfl,by first |assumption |exact HV.wI (by simp) (by simp),λu hu=>by cases hu⟩) ?_ ?_
   ·rintro p u q _ H ρ e ⟨rfl,hH,hp⟩;have cY:=bW e;have cE:=congrArg List.length e;simp only[Z2,Z4]at cE;have hi:=ih u (by rw[e];simp);rw[aw]at hi;refine wXA ?_;refine .p hi ?_;refine wXC (λhc=>?_) λhc=>?_
    ·exact .nx ⟨rfl,hH.cC (HV.one (by simp)),λv hv=>by rcases Z8.1 hv with h |h;exact hp v h;simp at h;rw[h];assumption⟩
    ·exact⟨_,rfl,by rw[MY,vC e hp (by assumption)];rfl⟩
   ·rintro _ H ρ ⟨rfl,hH,hp⟩;refine wXA ?_;exact⟨_,rfl,by rw[MY,iJ hp];rfl⟩
 ·exact⟨_,rfl,by rw[od,if_pos (by assumption)];rfl⟩
theorem FM(t:Tm)(hb:ay t<1000000000):aO C 186 [enc t] (.int .i64 (od t)):=by
 induction t using Tm.ind with
 |h k s o l ih=>
  have:=bE l;simp only[ay]at hb;exact Je k s o l (by omega) λt ht=>ih t ht (by have:=bS ht;omega)
theorem sf(t:Tm)(hb:ay t<100000000):aO C 139 [enc t] (.int .i64 (ky t)):=by
 have h1:=(fu t hb).nine;have h2:=FM t (by omega);rw[aw]at h1 h2 ⊢;refine aO.x T6 Tryz.func139 rfl ?_;refine wXA ?_;refine .p h1 ?_;refine wXC (λhc=>?_) λhc=>?_
 ·refine .p h2 ?_;refine wXA ?_;exact⟨_,rfl,by unfold ky;rw[if_neg (by omega)];rfl⟩
 ·exact⟨_,rfl,by unfold ky;rw[if_pos (by assumption)];rfl⟩
theorem Aj{p:ByteArray->Bool}{l a q:List Tm}{u:Tm}(e:l=a++u::q)(hu:every p u=false):iq p l=false:=by
 subst e
 induction a with
 |nil=>simp only[aaL,iq,hu];rfl
 |cons v a ih=>simp only[aau,iq,ih];simp
theorem pM{p:ByteArray->Bool}:∀{l:List Tm},(∀v∈l,every p v=true)->iq p l=true
 |[],_=>rfl
 |v::l,h=>by rw[iq,h v (by simp),pM λw hw=>h w (by simp[hw])];rfl
theorem Jf(g:FuncId)(p:ByteArray->Bool)(hm:C.mode g=.pure)(hg:∀s,aO C g [.str s] (.bool (p s)))(k s o l)(hl:l.length<1000000000)(ih:∀t∈l,aO C 109 [enc t,.fn g []] (.bool (every p t))):
  aO C 109 [enc (.mk k s o l),.fn g []] (.bool (every p (.mk k s o l))):=by
 have cX:=aj l;have XG:=hg s;have pT:every p (.mk k s o l)=((decide (k≠3)||p s)&&iq p l):=rfl;rw[bj];refine aO.x T6 Tryz.func109 rfl ?_;refine wXC (λhc=>?_) λhc=>?_
 ·refine .p XG ?_ hm
  cases hps:p s
  ·refine wXA ?_;exact⟨_,rfl,by rw[pT,hps];simp[aY, *]⟩
  ·have pT:every p (.mk k s o l)=iq p l:=by rw[pT,hps];simp
   refine wXA ?_;refine eD.zip T6 l (λa q L H=>L=[(1,.fn g []),(18,.aa false (ae l)),(19,.int .i64 l.length),(20,.int .i64 a.length)]/\HV H/\∀u∈a,every p u=true) (.nx ⟨rfl,by first |assumption |exact HV.one (by simp),λu hu=>by cases hu⟩) ?_ ?_
   ·rintro a u q _ H ρ e ⟨rfl,hH,hp⟩;have cY:=bW e;have cE:=congrArg List.length e;simp only[Z2,Z4]at cE;have hi:=ih u (by rw[e];simp);rw[aw]at hi;refine wXA ?_;refine .p hi ?_
    cases hu:every p u
    ·refine wXA ?_;exact⟨_,rfl,by rw[pT,Aj e hu];rfl⟩
    ·refine wXA ?_;exact .nx ⟨rfl,hH.cC (HV.one (by simp)),λv hv=>by rcases Z8.1 hv with h |h;exact hp v h;simp at h;rw[h];exact hu⟩
   ·rintro _ H ρ ⟨rfl,hH,hp⟩;refine wXA ?_;exact⟨_,rfl,by rw[pT,pM hp];rfl⟩
 ·have pT:every p (.mk k s o l)=iq p l:=by rw[pT];simp[*]
  refine eD.zip T6 l (λa q L H=>L=[(1,.fn g []),(18,.aa false (ae l)),(19,.int .i64 l.length),(20,.int .i64 a.length)]/\HV H/\∀u∈a,every p u=true) (.nx ⟨rfl,by first |assumption |exact HV.one (by simp),λu hu=>by cases hu⟩) ?_ ?_
  ·rintro a u q _ H ρ e ⟨rfl,hH,hp⟩;have cY:=bW e;have cE:=congrArg List.length e;simp only[Z2,Z4]at cE;have hi:=ih u (by rw[e];simp);rw[aw]at hi;refine wXA ?_;refine .p hi ?_
   cases hu:every p u
   ·refine wXA ?_;exact⟨_,rfl,by rw[pT,Aj e hu];rfl⟩
   ·refine wXA ?_;exact .nx ⟨rfl,hH.cC (HV.one (by simp)),λv hv=>by rcases Z8.1 hv with h |h;exact hp v h;simp at h;rw[h];exact hu⟩
  ·rintro _ H ρ ⟨rfl,hH,hp⟩;refine wXA ?_;exact⟨_,rfl,by rw[pT,pM hp];rfl⟩
theorem xk(g:FuncId)(p:ByteArray->Bool)(hm:C.mode g=.pure)(hg:∀s,aO C g [.str s] (.bool (p s)))(t:Tm)(hb:ay t<1000000000):aO C 109 [enc t,.fn g []] (.bool (every p t)):=by
 induction t using Tm.ind with
 |h k s o l ih=>
  have:=bE l;simp only[ay]at hb;exact Jf g p hm hg k s o l (by omega) λt ht=>ih t ht (by have:=bS ht;omega)
theorem Jg(s:ByteArray):aO C 187 [.str s] (.bool (Bz s)):=by
 have hs:=pw s;rw[A3]at hs;have UW:uR s=true->Bz s=false:=λh=>by simp[Bz,h]
 refine aO.x T6 Tryz.func187 rfl ?_;refine wXO (λhc=>?_) (λhc hc=>?_) (λhc hc hc=>?_) (λhc hc hc hc=>?_) (λhc hc hc hc hc=>?_) (λhc hc hc hc hc hc=>?_) λhc hc hc hc hc hc=>?_
 ·exact⟨_,rfl,by rw[UW (by unfold uR;rw[qC (n:=xj) (by assumption)];simp)];rfl⟩
 ·exact⟨_,rfl,by rw[UW (by unfold uR;rw[qC (n:=jx) (by assumption)];simp)];rfl⟩
 ·exact⟨_,rfl,by rw[UW (by unfold uR;rw[qC (n:=LV) (by assumption)];simp)];rfl⟩
 ·exact⟨_,rfl,by rw[UW (by unfold uR;rw[qC (n:=AZ) (by assumption)];simp)];rfl⟩
 ·exact⟨_,rfl,by rw[UW (by unfold uR;rw[qC (n:=A0) (by assumption)];simp)];rfl⟩
 ·exact⟨_,rfl,by rw[UW (by unfold uR;rw[qC (n:=tE) (by assumption)];simp)];rfl⟩
 ·have D9:uR s=false:=by
   unfold uR;rw[mR (n:=xj) (by assumption),mR (n:=jx) (by assumption),mR (n:=LV) (by assumption),mR (n:=AZ) (by assumption),mR (n:=A0) (by assumption),mR (n:=tE) (by assumption)]
   rfl
  refine .p hs ?_;refine wXC (λhc=>?_) λhc=>?_
  all_goals exact⟨_,rfl,by simp[aY,Bz,D9, *]⟩
theorem Jh(t:Tm)(hb:ay t<100000000):aO C 140 [enc t] (.bool (rQ t)):=by
 have h1:=sf t hb;have h2:=xk 187 Bz rfl Jg t (by omega);rw[aw]at h1 h2 ⊢;refine aO.x T6 Tryz.func140 rfl ?_;refine wXA ?_;refine .p h1 ?_;refine wXC (λhc=>?_) λhc=>?_
 ·refine .p h2 ?_
  cases he:every Bz t
  all_goals(
   refine wXA ?_;exact⟨_,rfl,by simp[aY,rQ, *]⟩)
 ·exact⟨_,rfl,by simp[aY,rQ, *]⟩
theorem mW(a b:List Tm):ch (a++b)=ch a++ch b:=by
 induction a with
 |nil=>rfl
 |cons t a ih=>simp[ch,ih]
theorem Ah:∀{l:List Tm},(∀t∈l,(pre t).length<=ay t)->(ch l).length<=bF l
 |[],_=>by simp[ch,bF]
 |t::l,h=>by
  have h1:=h t (by simp);have h2:=Ah (l:=l) λu hu=>h u (by simp[hu])
  simp only[ch,bF,Z2];omega
theorem MU(t:Tm):(pre t).length<=ay t:=by
 induction t using Tm.ind with
 |h k n o l ih=>
  have:=Ah ih;simp only[pre,ay,Z4];omega
theorem MV{k s o l}(hb:ay (.mk k s o l)<100000000):(ch l).length<100000000:=by
 have:=MU (.mk k s o l);simp only[pre,Z4]at this;omega
@[simp] theorem gA(l:List Tm):dB 4 (ae l):=by
 unfold dB;rw[Z1]
 intro v hv
 rw[cZ]at hv;obtain⟨t,_,rfl⟩:=aak.1 hv;rw[aw];rfl
theorem cc(a b:List Tm):ae (a++b)=ae a++ae b:=by rw[cZ,cZ,cZ,aaS]
theorem T8(k s o l)(hb:ay (.mk k s o l)<100000000)(ih:∀t∈l,aO C 168 [enc t] (.aa false (ae (pre t)))):aO C 168 [enc (.mk k s o l)] (.aa false (ae (pre (.mk k s o l)))):=by
 have cX:=aj l;rw[bj];have nI:=MV hb;have Nv:bF l<100000000:=by simp only[ay]at hb;omega
 have ua:=bE l;have one:∀u:Tm,ae [u]=[.agg [.int .i64 u.k,.str u.s,.int .i64 u.o,.aa false (ae u.l)]]:=λu=>by rw[ae,<-aw];rfl
 refine aO.x T6 Tryz.func168 rfl ?_;refine wXA ?_;refine eD.zip T6 l (λp q L H=>∃v,L=[(1,.ptr 0 0 0 0),(3,v),(4,.int .i64 p.length)]/\HV H/\H[0]?=some ⟨.m,0,4,[.agg [.int .i64 k,.str s,.int .i64 o,.aa false (ae l)]]⟩/\((p=[]/\v=.aa true (ae [.mk k s o l])/\H=[⟨.m,0,4,[.agg [.int .i64 k,.str s,.int .i64 o,.aa false (ae l)]]⟩])\/(Out 4 H v (ae (.mk k s o l::ch p))/\∀ep n,v≠.ak 0 ep 0 n))) (.nx ⟨_,rfl,HV.one (by simp),rfl,.inl ⟨rfl,by rw[one],rfl⟩⟩) ?_ ?_
 ·rintro p u q _ H ρ e ⟨v,rfl,hH,h0,ho⟩;have cY:=bW e;have cE:=congrArg List.length e;simp only[Z2,Z4]at cE;have hi:=ih u (by rw[e];simp);rw[aw]at hi;have hpu:ch l=ch p++(pre u++ch q):=by rw[e,mW];simp[ch]
  have KL:=congrArg List.length hpu;simp only[Z2]at KL;have bJ:(ae (pre u)).isEmpty=false:=by cases u;rfl
  have iU:dB 4 (ae (pre u)):=gA _;have hle:=aj (pre u);have oJ:ch (p++[u])=ch p++pre u:=by rw[mW];simp[ch]
  refine wXA ?_;refine .p hi ?_;rcases ho with⟨rfl,rfl,rfl⟩|⟨ho,Bw⟩
  ·refine wXA ?_;refine .sn ?_ bJ (by rw[aj];simp;omega) rfl iU (gA _);refine wXA ?_;have hv:∀(ep n:Nat) (m:Nat),(PV.ak 1 0 0 m:PV)≠.ak 0 ep 0 n:=λep n m h=>by cases h
   have e1:ae [Tm.mk k s o l]++ae (pre u)=ae (Tm.mk k s o l::ch ([]++[u])):=by rw[oJ,<-cc];simp[ch]
   have e2:(ae [Tm.mk k s o l]).length+(ae (pre u)).length=(Tm.mk k s o l::ch ([]++[u])).length:=by rw[oJ,aj,aj];simp[ch];omega
   refine .nx ⟨_,rfl,HV.wI (by simp) (by simp),rfl,.inr ⟨.inr ⟨1,0,?_,?_⟩,?_⟩⟩
   ·rw[e2,<-aj];rfl
   ·rw[<-e1];rfl
   ·exact λep n=>hv ep n _
  ·have yn:=aj (Tm.mk k s o l::ch p);simp only[Z4]at yn;refine wXG λv H lp=>?_;obtain⟨k1,k2⟩:=lp.obj h0 Bw;exact .nx ⟨_,rfl,lp.hv,k1,.inr ⟨by have:=lp.out;rw[<-cc]at this;simpa[oJ]using this,k2⟩⟩
 ·rintro _ H ρ ⟨v,rfl,hH,h0,ho⟩;refine wXA ?_;rcases ho with⟨rfl,rfl,rfl⟩|⟨ho,_⟩
  ·exact⟨_,rfl,by simp[aY,cf,pre,ch]⟩
  ·exact Ls.HJ (.inl ho) (by simp) (by simp[pre])
theorem MW(t:Tm)(hb:ay t<100000000):aO C 168 [enc t] (.aa false (ae (pre t))):=by
 induction t using Tm.ind with
 |h k s o l ih=>
  refine T8 k s o l hb λt ht=>ih t ht ?_;have:=bS ht;simp only[ay]at hb;omega
end bP
open Go.Proofs
def atR(r:List Int)(c:Nat):Int:=r.getD c 0
def HZ(a b:List Int)(q:Int):List Int:=List.zipWith (λx y=>x - q * y) a b
def RY(x:Int):Bool:=decide (-1099511627776<=x/\x<=1099511627776)
def small(r:List Int):Bool:=r.all RY
theorem KF{a b:List Int}{q:Int}(h:a.length=b.length):(HZ a b q).length=a.length:=by simp[HZ,h]
structure Pr2 where
 d:Nat
 s:Nat
 a:List Int
 b:List Int
def Pr2.v(x:Pr2):PV:=.agg [.ak x.d 0 0 x.a.length,.ak x.s 0 0 x.b.length]
end Go.Pm
namespace Go.Pm
abbrev Row:=List Int×Bool
def kg(c:Nat)(R:Row):Bool:=!R.2&&decide (atR R.1 c≠0)
def H0(c:Nat)(S:List Row):Nat:=(S.filter (kg c)).length
structure yG(c:Nat)(S:List Row)(bi:Nat)(b:List Int):Prop where
 at_:S[bi]?=some (b,false)
 nz:atR b c≠0
 min:∀(i:Nat) (R:Row),S[i]?=some R->kg c R=true->(atR b c).natAbs<=(atR R.1 c).natAbs
 fst:∀(i:Nat) (R:Row),S[i]?=some R->kg c R=true->i<bi->(atR b c).natAbs<(atR R.1 c).natAbs
theorem yG.isc{c:Nat}{S:List Row}{bi:Nat}{b:List Int}(h:yG c S bi b):kg c (b,false)=true:=by simp[Pm.kg,h.nz]
def KG(c:Nat)(b:List Int)(R:Row):Row:=if kg c R=true then(HZ R.1 b ((atR R.1 c).tdiv (atR b c)),R.2)else R
def ud(c:Nat)(b:List Int)(bi:Nat)(S:List Row):List Row:=S.mapIdx λi R=>if i=bi then R else KG c b R
def VG(S:List Row):Bool:=S.all λR=>small R.1
inductive Qu(c:Nat):Nat->List Row->Option (List Row×Int)->Prop
 |zero {S:List Row}:H0 c S=0->Qu c 0 S (some (S,-1))
 |one {S:List Row} {bi:Nat} {b:List Int}:yG c S bi b->H0 c S=1->Qu c 0 S (some (S.set bi (b,true),bi))
 |KH {S:List Row} {bi:Nat} {b:List Int}:yG c S bi b->2<=H0 c S->VG (ud c b bi S)=false->Qu c 0 S none
 |step {S:List Row} {bi n:Nat} {b:List Int} {Ov:Option (List Row×Int)}:yG c S bi b->2<=H0 c S->VG (ud c b bi S)=true->Qu c n (ud c b bi S) Ov->Qu c (n+1) S Ov
theorem zx{c:Nat}{b:List Int}{bi:Nat}{S:List Row}{i:Nat}:(ud c b bi S)[i]?=(S[i]?).map λR=>if i=bi then R else KG c b R:=by
 unfold ud;rw[List.getElem?_mapIdx]
inductive El(n:Nat):Nat->List Row->List Int->Option (List Row×List Int)->Prop
 |done{S:List Row} {P:List Int}:El n n S P (some (S,P))
 |KH {c k:Nat} {S:List Row} {P:List Int}:c<n->Qu c k S none->El n c S P none
 |next {c k:Nat} {S S':List Row} {P:List Int} {i:Int} {Ov:Option (List Row×List Int)}:c<n->Qu c k S (some (S',i))->El n (c+1) S' (P++[i]) Ov->El n c S P Ov
open Go.Proofs
set_option maxRecDepth 4000
structure Rw where
 r:Nat
 p:Nat
 c:Nat
 a:List Int
 b:List Int
 u:Bool
def Rw.m(R:Rw):Row:=(R.a++R.b,R.u)
def Rw.ids(R:Rw):List Nat:=[R.r,R.p,R.c]
def Rw.ptr(R:Rw):PV:=.ptr R.r 0 0 0
structure RZ(h:ab)(R:Rw):Prop where
 er:h[R.r]?=some ⟨.m,0,3,[.agg [.ak R.p 0 0 R.a.length,.ak R.c 0 0 R.b.length,.bool R.u]]⟩
 ea:h[R.p]?=some ⟨.m,0,1,fD R.a⟩
 eb:h[R.c]?=some ⟨.m,0,1,fD R.b⟩
def cq:PV->List Nat
 | .ak i _ _ _=>[i]
 |_=>[]
structure Lay(h:ab)(x:Nat)(cv rv pv:PV)(n k:Nat)(Rs:List Rw)(P:List Int)(lg:Bool):Prop where
 hr:HR h
 ex:h[x]?=some ⟨.m,0,4,[.agg [cv,rv,pv,.bool lg]]⟩
 er:Out 1 h rv (Rs.map Rw.ptr)
 ep:Out 1 h pv (fD P)
 at_:∀R∈Rs,RZ h R/\R.a.length=n/\R.b.length=k
 nd:(x::(cq rv++(cq pv++Rs.flatMap Rw.ids))).Nodup
theorem EH{n:Nat}:∀{p:PV},cH n p=true->bt (λi=>decide (i<n)) p=true:=by
 have one:∀{p:PV},dP n p=true->bt (λi=>decide (i<n)) p=true:=by
  intro p h
  unfold dP at h
  split at h
  ·simpa[bt]using h
  ·simpa[bt]using h
  ·exact vg _ _ h
 intro p h
 unfold cH at h
 split at h
 ·rename_i cs
  rw[bt,fw,Z1];exact λc hc=>one (Z1.1 h c hc)
 ·exact one h
theorem HR.take{h:ab}(H:HR h){n:Nat}(hn:n<=h.length)(hb:((h.take n).all λo=>o.es.all (cH n))=true):HR (h.take n):=by
 intro o ho
 refine⟨(H o (aaJ ho)).1,?_⟩;rw[aa0,abG hn,fw,Z1];exact λp hp=>EH (Z1.1 (Z1.1 hb o ho) p hp)
theorem ai.sm{C:cP}{f:FuncId}{args:List PV}{H:ab}{P Q:PV->ab->Prop}(a:ax C f args H P)(hl:∀r h',P r h'->HR h'/\H.length<=h'.length)(q1:∀r h',P r h'->Q r h')(q2:∀r h',P r h'->HR (h'.take H.length)->Q r (h'.take H.length))(hm:C.mode f=.opened:=by rfl):ai C 2 f args H Q:=by
 refine ai.opened hm (a.mono λr k hr=>?_)
 split
 ·rename_i hc
  rw[Z9]at hc;obtain⟨h1,h2⟩:=hl r k hr;exact q2 r k hr (h1.take h2 hc.2)
 ·exact q1 r k hr
theorem Out.of_eq{sz:Nat}{h h':ab}{v:PV}{es:List PV}(o:Out sz h v es)(he:∀i∈cq v,h'[i]?=h[i]?):Out sz h' v es:=by
 rcases o with o |⟨id,ep,rfl,e⟩
 ·exact .inl o
 ·exact .inr ⟨id,ep,rfl,by rw[he id (by simp[cq])];exact e⟩
def Lay.all(x:Nat)(rv pv:PV)(Rs:List Rw):List Nat:=x::(cq rv++(cq pv++Rs.flatMap Rw.ids))
theorem Out.mI{sz:Nat}{h:ab}{v:PV}{es:List PV}(o:Out sz h v es):∀i∈cq v,i<h.length:=by
 rcases o with⟨rfl,_⟩|⟨id,ep,rfl,e⟩
 ·simp[cq]
 ·intro i hi;simp[cq]at hi;subst hi;exact ag e
theorem RZ.lt{h:ab}{R:Rw}(a:RZ h R):∀i∈R.ids,i<h.length:=by
 intro i hi
 simp only[Rw.ids,Z',aa7,or_false]at hi;rcases hi with rfl |rfl |rfl
 ·exact ag a.er
 ·exact ag a.ea
 ·exact ag a.eb
theorem Lay.lt{h:ab}{x:Nat}{cv rv pv:PV}{n k:Nat}{Rs:List Rw}{P:List Int}{lg:Bool}(L:Lay h x cv rv pv n k Rs P lg):∀i∈Lay.all x rv pv Rs,i<h.length:=by
 intro i hi
 simp only[Lay.all,Z',Z8,aaU]at hi;rcases hi with rfl |hi |hi |⟨R,hR,hi⟩
 ·exact ag L.ex
 ·exact L.er.mI i hi
 ·exact L.ep.mI i hi
 ·exact(L.at_ R hR).1.lt i hi
theorem Ce(c:Nat)(p:List Row)(R:Row):H0 c (p++[R])=H0 c p+if kg c R=true then 1 else 0:=by
 unfold H0;rw[abH,Z2]
 congr 1
 by_cases h:kg c R=true <;>simp[h]
theorem Cf{c:Nat}{S:List Row}(h:H0 c S=0):∀R∈S,kg c R=false:=by
 unfold H0 at h
 intro R hR
 cases hc:kg c R with
 |false=>rfl
 |true=>
  have:R∈S.filter (kg c):=aaM.2 ⟨hR,hc⟩;rw[aaf h]at this
  cases this
def BSt(c:Nat)(p:List Row)(best count:Int):Prop:=count=(H0 c p:Nat)/\((H0 c p=0/\best=-1)\/∃(bi:Nat) (b:List Int),best=bi/\yG c p bi b)
theorem Cg{p:List Row}{R Q:Row}{i:Nat}(h:(p++[R])[i]?=some Q):p[i]?=some Q\/(i=p.length/\Q=R):=by
 rcases abr i p.length with h1 |h1 |h1
 ·rw[Z0 h1]at h;exact .inl h
 ·subst h1;simp at h;exact .inr ⟨rfl,h.symm⟩
 ·rw[aag (by simp;omega)]at h;cases h
theorem yG.new{c:Nat}{p:List Row}{b:List Int}(hc:kg c (b,false)=true)(h:∀Q∈p,kg c Q=true->(atR b c).natAbs<(atR Q.1 c).natAbs):yG c (p++[(b,false)]) p.length b where
 at_:=by simp
 nz:=by simpa[kg]using hc
 min i Q hQ hcQ:=by
  rcases Cg hQ with h1 |⟨rfl,rfl⟩
  ·exact Nat.le_of_lt (h Q (aae h1) hcQ)
  ·exact Z5 _
 fst i Q hQ hcQ hi:=by
  rcases Cg hQ with h1 |⟨rfl,rfl⟩
  ·exact h Q (aae h1) hcQ
  ·omega
theorem BSt.first{c:Nat}{p:List Row}{count:Int}{b:List Int}(h:BSt c p (-1) count)(hR:kg c (b,false)=true):BSt c (p++[(b,false)]) p.length (count+1):=by
 obtain⟨h1,h2⟩:=h;rcases h2 with⟨a,_⟩|⟨bi,_,e,_⟩
 ·refine⟨by rw[Ce,hR,if_pos rfl];omega,.inr ⟨_,b,rfl,yG.new hR λQ hQ hc=>?_⟩⟩;rw[Cf a Q hQ]at hc;cases hc
 ·omega
structure Rf where
 i:Nat
 e:Nat
 r:List Int
 u:Bool
def Rf.v(z:Rf):PV:=.ak z.i z.e 0 z.r.length
def Rf.m(z:Rf):Row:=(z.r,z.u)
def Rf.b(z:Rf):PV:=.bool z.u
def Gl(l:List Nat):List PV:=l.map λ(i:Nat)=>.int .i64 i
@[simp] theorem Ux(l:List Nat):(Gl l).length=l.length:=by simp[Gl]
@[simp] theorem R9(l:List Nat):ao (Gl l)=true:=by induction l with |nil=>rfl |cons x l ih=>simpa[Gl]using ih
structure RL(h:ab)(rv:PV)(iu eu w:Nat)(Z:List Rf):Prop where
 hr:HR h
 er:Out 1 h rv (Z.map Rf.v)
 eu:h[iu]?=some ⟨.m,eu,1,Z.map Rf.b⟩
 at_:∀z∈Z,h[z.i]?=some ⟨.m,z.e,1,fD z.r⟩/\z.r.length=w
def NA(c:Nat)(S:List Row):List Nat:=(List.range S.length).filter λi=>match S[i]? with |some R=>kg c R |none=>false
theorem KI(c:Nat)(p:List Row)(R:Row):NA c (p++[R])=NA c p++if kg c R=true then[p.length]else[]:=by
 unfold NA;rw[Z2,List.length_singleton,List.range_succ,abH]
 congr 1
 ·apply List.filter_congr
  intro i hi
  rw[Z0 (abN.1 hi)]
 ·by_cases h:kg c R=true <;>simp[h]
theorem KJ{α:Type}{P:List α->Prop}(h0:P [])(hs:∀l a,P l->P (l++[a])):∀l,P l:=by
 intro l
 have:∀r:List α,P r.reverse:=by
  intro r
  induction r with
  |nil=>exact h0
  |cons a r ih=>rw[List.reverse_cons];exact hs _ _ ih
 simpa using this l.reverse
theorem Ou(c:Nat):∀S:List Row,(NA c S).length=H0 c S:=by
 refine KJ (P:=λS=>(NA c S).length=H0 c S) rfl (λp R ih=>?_);rw[KI,Ce,Z2,ih];by_cases h:kg c R=true <;>simp[h]
theorem Gk{c:Nat}{S:List Row}{i:Nat}:i∈NA c S↔∃R,S[i]?=some R/\kg c R=true:=by
 unfold NA;rw[aaM,abN]
 constructor
 ·rintro⟨h1,h2⟩;rw[Z3 h1]at h2;exact⟨_,Z3 h1,h2⟩
 ·rintro⟨R,h1,h2⟩;exact⟨ag h1,by rw[h1];exact h2⟩
theorem Out.bI{sz:Nat}{h:ab}{v:PV}{es:List PV}(o:Out sz h v es):Pm.bI v=true/\Pm.cells v=[v]:=by
 rcases o with⟨rfl,_⟩|⟨id,ep,rfl,_⟩ <;>exact⟨rfl,rfl⟩
theorem Out.bt{sz:Nat}{h:ab}{v:PV}{es:List PV}(o:Out sz h v es):Pm.bt (λi=>decide (i<h.length)) v=true:=by
 rcases o with⟨rfl,_⟩|⟨id,ep,rfl,e⟩
 ·rfl
 ·have:=ag e;simpa[Pm.bt]using this
theorem ai.fr{C:cP}{f:FuncId}{args:List PV}{H:ab}{P Q:PV->ab->Prop}(a:ax C f args H (λr h'=>HR h'/\H.length<=h'.length/\(∀j,j<H.length->h'[j]?=H[j]?)/\P r h'))(hP:∀r h',P r h'->dQ H.length r=true->P r (h'.take H.length))
  (q:∀r h',HR h'->H.length<=h'.length->(∀j,j<H.length->h'[j]?=H[j]?)->P r h'->Q r h') (hm:C.mode f=.opened:=by rfl):ai C 2 f args H Q:=by
 refine ai.opened hm (a.mono λr k hr=>?_);obtain⟨r1,r2,r3,r4⟩:=hr
 split
 ·rename_i hc
  rw[Z9]at hc;exact q r _ (r1.take r2 hc.2) (by simp;omega) (λj hj=>by rw[aai,if_pos hj];exact r3 j hj) (hP r k r4 hc.1)
 ·exact q r k r1 r2 r3 r4
structure TB(H h:ab)(r6 iu w:Nat)(Sa:List Tm)(rv pv:PV)(Z:List Rf)(P:List Int):Prop where
 rl:RL h rv iu 0 w Z
 fr:∀j,j<H.length->h[j]?=H[j]?
 z0:h[H.length]?=some ⟨.m,0,3,[.agg [.aa true [],.aa true [],.aa true []]]⟩
 ex:h[r6]?=some ⟨.m,0,3,[.agg [.aa false (ae Sa),rv,pv]]⟩
 ep:Out 1 h pv (fD P)
 gt:∀i∈iu::(cq rv++cq pv),r6<i
 nd:(iu::(cq rv++cq pv)).Nodup
 zi:∀z∈Z,z.i∉iu::(cq rv++cq pv)/\r6<z.i
 h6:H.length<r6
theorem TB.lt{H h:ab}{r6 iu w:Nat}{Sa:List Tm}{rv pv:PV}{Z:List Rf}{P:List Int}(t:TB H h r6 iu w Sa rv pv Z P):∀i∈iu::(cq rv++cq pv),i<h.length:=by
 intro i hi
 simp only[Z',Z8]at hi;rcases hi with rfl |hi |hi
 ·exact ag t.rl.eu
 ·exact t.rl.er.mI i hi
 ·exact t.ep.mI i hi
theorem LR.cq{H h':ab}{v r:PV}{sz:Nat}{es:List PV}(l:LR H v sz es r h'):∀i∈Pm.cq r,i∈Pm.cq v\/H.length<=i:=by
 rcases l.out with⟨rfl,_⟩|⟨id,ep,rfl,_⟩
 ·intro i hi;simp[Pm.cq]at hi
 ·intro i hi
  simp only[Pm.cq,aav]at hi;subst hi;rcases l.ref i ep _ rfl with⟨h9,n',h⟩|h
  ·exact .inl (by rw[h];simp[Pm.cq])
  ·exact .inr h
end Go.Pm
namespace Go.Pm
set_option maxRecDepth 4000
theorem kJ(ids:List Nat)(h:ab)(i:Nat):(cA ids h)[i]?=(h[i]?).map λo=>if ids.contains i then bR o else o:=by
 simp[cA,aaj,abR,acp,Function.comp_def]
theorem mF(ids:List Nat)(h h':ab)(i:Nat):(dW ids h h')[i]?=(h'[i]?).map λo=>if ids.contains i then(match h[i]? with |some o'=>o'|none=>o)else o:=by
 simp[dW,aaj,abR,acp,Function.comp_def]
 rfl
theorem BV{k k':ab}(hl:k.length<=k'.length)(hk:∀(j:Nat) (o:au),k[j]?=some o->o.mu≠.m->k'[j]?=some o):mw k k'=k':=by
 apply aa2
 intro i
 unfold mw;have hz:(List.zipWith (λo o'=>if o.mu=.m then o' else o) k k').length=k.length:=by simp;omega
 by_cases hi:i<k.length
 ·rw[Z0 (by omega),abn];have e1:k[i]?=some k[i]:=Z3 hi;have e2:k'[i]?=some k'[i]:=Z3 (by omega);have:=hk i _ e1;rw[e1,e2];rw[e2]at this
  by_cases hm:k[i].mu=.m
  ·simp[hm]
  ·simp[hm,ZZ (this hm)]
 ·rw[aac (by omega),hz,aaB]
  congr 1;omega
theorem sN{ids:List Nat}{h k:ab}(hk:∀(j:Nat) (o:au),k[j]?=some o->o.mu≠.l\/(ids.contains j=true/\j<h.length)\/h[j]?=some o):qH ids h k=true:=by
 unfold qH;rw[Z1];rintro⟨o,j⟩ hm;have hg:=List.mem_zipIdx_iff_getElem?.1 hm;rcases hk j o hg with h1 |⟨h1,h2⟩|h1
 ·simp[h1]
 ·simp[List.contains_iff_mem.1 h1,h2]
 ·by_cases hl:o.mu=.l
  ·simp[h1,hl]
  ·simp[hl]
section
variable{C:cP}{run:hZ}{ops:Array Oper}{b:List Nat}{h0:ab}{i:Nat}{L:Al}{ρ:Nat->PV}{h:ab}
theorem Vk{d:Nat}{op:Op}{v:PV}{y:TypeId}{s:String}{a:Array Edge}(hh:cV op=true)(hr:gE op=true)(hg:kO ops b h0 i (al L ρ) op=true)(e:aC C.P 1 op (al L ρ) h=some (v,h)):
  cT C run ops b h0 i ⟨some d,op,y,s,a,none⟩ ⟨al L ρ,h⟩=some ⟨al ((d,v)::L) ρ,h⟩:=by
 unfold cT;simp only[bm,hh,hr,hg,e,if_true,aaG,if_false,ck]
theorem Xz{d:Nat}{op:Op}{v:PV}{y:TypeId}{s:String}{a:Array Edge}(hh:cV op=true)(hr:gE op=false)(hb:jz op=true)(e:aC C.P 1 op (al L ρ) h=some (v,h)):
  cT C run ops b h0 i ⟨some d,op,y,s,a,none⟩ ⟨al L ρ,h⟩=some ⟨al ((d,v)::L) ρ,h⟩:=by
 unfold cT;simp only[bm,hh,hr,hb,e,if_true,aaG,aad,if_false,ck]
theorem Ur{d:Nat}{op:Op}{v:PV}{h':ab}{y:TypeId}{s:String}{a:Array Edge}(hh:cV op=true)(hr:gE op=false)(hb:jz op=false)(hl:iR ops b i false=true)(e:ar C run 2 op (al L ρ) h=some (v,h'))(hle:h.length<=h'.length)(hk:∀(j:Nat) (o:au),h[j]?=some o->o.mu≠.m->h'[j]?=some o):
  cT C run ops b h0 i ⟨some d,op,y,s,a,none⟩ ⟨al L ρ,h⟩=some ⟨al ((d,v)::L) ρ,h'⟩:=by
 unfold cT;simp only[bm,hh,hr,hb,hl,e,hle,if_true,aaG,aad,if_false,ck,BV hle hk]
theorem kSt{op:Op}{v:PV}{h':ab}{y:TypeId}{s:String}{a:Array Edge}(hh:cV op=true)(hr:gE op=false)(hb:jz op=false)(hl:iR ops b i false=true)(e:ar C run 2 op (al L ρ) h=some (v,h'))(hle:h.length<=h'.length)(hk:∀(j:Nat) (o:au),h[j]?=some o->o.mu≠.m->h'[j]?=some o):
  cT C run ops b h0 i ⟨none,op,y,s,a,none⟩ ⟨al L ρ,h⟩=some ⟨al L ρ,h'⟩:=by
 unfold cT;simp only[bm,hh,hr,hb,hl,e,hle,if_true,aaG,aad,if_false,b9,BV hle hk]
end
theorem Kb{C:cP}(T:lL C.P){ops:Array Oper}{L:Al}{H:ab}{d0 d1 d2 d3 d4 d5 p q ip fZ:Nat}{tl el:TypeId}{c:Operand}{z v:PV}{us es:List PV}
  {y0 y1 y2 y3 y4 y5 y6 y7:TypeId} {s0 s1 s2 s3 s4 s5 s6 s7:String} {a0 a1 a2 a3 a4 a5 a6 a7:Array Edge}
  (h2:H[ip]?=some ⟨.m,0,1,[v]⟩) (ho:Out 4 H v es) (hv:∀i∈cq v,i≠ip) (hn:es.length<100000000) (Nw:us.length=4) (huo:us.all bI=true)
  (hp:lk L p=some (.ptr ip 0 0 0)) (hq:lk L q=some (.ptr H.length 0 0 0)) (hd:[p,q,d0,d1,d2,d3,d4,d5].Nodup)
  (yk:∀ρ,gq ops (before ops) (al L ρ)=[H.length])
  (HF:ops.toList=[⟨some d0,.load tl (.tmp p),y0,s0,a0,none⟩,⟨some d1,.load el (.tmp q),y1,s1,a1,none⟩,⟨some d2,.call ⟨.builtin .len,#[.tmp d0],#[tl]⟩,y2,s2,a2,none⟩,
   ⟨some d3,.buildSlice tl 1 #[(0,c)],y3,s3,a3,none⟩,⟨some d4,.call ⟨.builtin .append,#[.tmp d0,.tmp d3],#[tl,tl]⟩,y4,s4,a4,none⟩,⟨some d5,.indexAddr tl (.tmp d4) (.tmp d2),y5,s5,a5,none⟩,
   ⟨none,.store el (.tmp d5) (.tmp d1),y6,s6,a6,none⟩,⟨none,.store tl (.tmp p) (.tmp d4),y7,s7,a7,none⟩])
  (Gc:kN ops (before ops) 0=true) (hr5:kN ops (before ops) 5=true) (yC:sinks ops (before ops)=some (.tmp d5,.tmp p))
  (c06:qG (before ops) 0 (ops.size - 2)=true) (c07:qG (before ops) 0 (ops.size - 1)=true) (c56:qG (before ops) 5 (ops.size - 2)=true)
  (cE:iR ops (before ops) 2 false=true) (Kc:iR ops (before ops) 4 false=true) (XA:iR ops (before ops) 6 false=true) (hl7:iR ops (before ops) 7 false=true)
  (hk:T.kd tl=some (.sl el)) (hs:T.ts el=some 4) (ha:T.ta el=some true) (DQ:T.ts tl=some 1) (Gd:T.ta tl=some false) (hb:T.tb el=some fZ) (jn:fZ<=1000) (hz:T.tz el=some z) (Oc:(cells z).length=4) (Us:(cells z).all bI=true)
  (HA:∀(ρ:Nat->PV) (h:ab),dy C.P 1 h tl 1 [(0,ev ρ c)]=some (.aa true [z],h)):
  ∃id ep,∃h':ab,(∀run ρ,iS C run ops ⟨al L ρ,H++[⟨.m,0,4,[.agg us]⟩]⟩=some ⟨al ([(d5,.ptr id ep es.length 0),(d4,.ak id ep 0 (es.length+1)),(d3,.aa true [z]),(d2,.int .i64 es.length),(d1,.agg us),(d0,v)]++L) ρ,h'⟩)/\
   H.length+1<=h'.length/\id≠ip/\id≠H.length/\(id∈cq v\/H.length<id)/\h'[id]?=some ⟨.m,ep,4,es++[.agg us]⟩/\h'[ip]?=some ⟨.m,0,1,[.ak id ep 0 (es.length+1)]⟩/\
   ∀j,j≠id->j≠ip->h'[j]?=(H++[⟨.m,0,4,[.agg us]⟩])[j]?:=by
 have hip:=ag h2;simp only[List.nodup_cons,Z',aa7,or_false,not_or,not_false_eq_true,List.nodup_nil,and_true]at hd;obtain⟨⟨e1,e2,e3,e4,e5,e6,e7⟩,⟨f2,f3,f4,f5,f6,f7⟩,⟨g3,g4,g5,g6,g7⟩,⟨i4,i5,i6,i7⟩,⟨j5,j6,j7⟩,⟨m6,m7⟩,l7⟩:=hd;have ap:∀ρ,al L ρ p=.ptr ip 0 0 0:=dz hp;have aq:∀ρ,al L ρ q=.ptr H.length 0 0 0:=dz hq;have hvc:=ho.bI
 let lb:au:=⟨.l,0,4,[.agg us]⟩
 have Vl:cA [H.length] (H++[⟨.m,0,4,[.agg us]⟩])=H++[lb]:=by
  apply aa2
  intro i
  rw[kJ]
  by_cases hi:i<H.length
  ·rw[Z0 hi,Z0 hi];have:([H.length].contains i)=false:=by simp;omega
   simp only[this,aad,if_false,ab7]
  ·rw[aac (by omega),aac (by omega)]
   by_cases h0:i=H.length
   ·subst h0;simp[bR,lb]
   ·have:i - H.length≠0:=by omega
    obtain⟨m,hm⟩:∃m,i - H.length=m+1:=⟨i - H.length - 1,by omega⟩;rw[hm];simp
 obtain⟨id,ep,k4,mq,XB,YC,RA,Vm,YD,RB,YE⟩:∃id ep,∃k4:ab,bQ C.P 2 (H++[lb]) tl tl v (.aa true [z])=some (.ak id ep 0 (es.length+1),k4)/\k4[id]?=some ⟨.m,ep,4,es++[z]⟩/\(H++[lb]).length<=k4.length/\id≠ip/\id≠H.length/\(id∈cq v\/H.length<id)/\(∀j,j≠id->k4[j]?=(H++[lb])[j]?)/\∀o,(H++[lb])[id]?=some o->o.mu=.m:=by
  have iU:dB (3+1) [z]:=by simp[dB,Oc,Z1.1 Us];exact λx hx=>Z1.1 Us x hx
  rcases ho with⟨rfl,rfl⟩|⟨id,ep,rfl,bU⟩
  ·refine⟨_,_,_,gb T (lv:=2) (by omega) hk hk hs hb hz jn Oc Us iU rfl (by simp),?_,?_,?_,?_,?_,?_,?_⟩
   ·simp
   ·simp
   ·simp;omega
   ·simp
   ·right;simp
   ·intro j hj
    by_cases tY:j<(H++[lb]).length
    ·rw[Z0 tY]
    ·rw[aag (by simp at hj tY ⊢;omega),aag (by omega)]
   ·intro o h;rw[aag (by omega)]at h;cases h
  ·have cI:=ag bU;have uM:(H++[lb])[id]?=some ⟨.m,ep,4,es⟩:=by rw[Z0 cI];exact bU
   have:=kK T (h:=H++[lb]) (full:=true) (len:=es.length) (ys:=[z]) hk hk hs hb hz jn Oc Us iU rfl (by simp;omega) (bg uM rfl (by simp)) rfl rfl (Z5 _);refine⟨id,ep+1,_,this,?_,?_,?_,?_,?_,?_,?_⟩
   ·rw[Z6 (by simp;omega)];simp
   ·simp
   ·exact hv id (by simp[cq])
   ·omega
   ·left;simp[cq]
   ·intro j hj;rw[Z7 (by omega)]
   ·intro o h;rw[uM]at h;cases h;rfl
 have YF:=ag XB;have Vn:k4[ip]?=some ⟨.m,0,1,[v]⟩:=by rw[RB ip (by omega),Z0 hip];exact h2
 let k6:ab:=k4.set id ⟨.m,ep,4,es++[.agg us]⟩
 let k7:ab:=k6.set ip ⟨.m,0,1,[.ak id ep 0 (es.length+1)]⟩
 have hk5:∀j,j≠id->j≠ip->k7[j]?=(H++[lb])[j]?:=λj h1 h2=>by
  show((k4.set id _).set ip _)[j]?=_;rw[Z7 (by omega),Z7 (by omega),RB j h1]
 have Vo:k6[ip]?=some ⟨.m,0,1,[v]⟩:=by rw[Z7 (by omega)];exact Vn
 have Vp:k7[ip]?=some ⟨.m,0,1,[.ak id ep 0 (es.length+1)]⟩:=Z6 (by show ip<(k4.set id _).length;rw[ach];exact ag Vn);have Vq:k7[id]?=some ⟨.m,ep,4,es++[.agg us]⟩:=by rw[Z7 (by omega)];exact Z6 YF
 have ZF:k7.length=k4.length:=by simp[k7,k6]
 have yg:(H++[lb]).length=H.length+1:=by simp
 have Ny:(H++[lb])[H.length]?=some lb:=by simp
 have kk4:∀(j:Nat) (o:au),(H++[lb])[j]?=some o->o.mu≠.m->k4[j]?=some o:=λj o h hm=>by
  by_cases hj:j=id
  ·subst hj;exact absurd (YE o h) hm
  ·rw[RB j hj];exact h
 have kk6:∀(j:Nat) (o:au),k4[j]?=some o->o.mu≠.m->k6[j]?=some o:=λj o h hm=>by
  by_cases hj:j=id
  ·subst hj;rw[XB]at h;cases h;exact absurd rfl hm
  ·rw[Z7 (by omega)];exact h
 have kk7:∀(j:Nat) (o:au),k6[j]?=some o->o.mu≠.m->k7[j]?=some o:=λj o h hm=>by
  by_cases hj:j=ip
  ·subst hj;rw[Vo]at h;cases h;exact absurd rfl hm
  ·rw[Z7 (by omega)];exact h
 have Az:qH [H.length] (H++[⟨.m,0,4,[.agg us]⟩]) k7=true:=sN λj o h=>by
  by_cases hj:j=id
  ·subst hj;rw[Vq]at h;cases h;exact .inl (by simp)
  by_cases tY:j=ip
  ·subst tY;rw[Vp]at h;cases h;exact .inl (by simp)
  by_cases Vr:j=H.length
  ·exact .inr (.inl ⟨by simp[Vr],by simp;omega⟩)
  rw[hk5 j hj tY]at h;have cI:=ag h;rw[yg]at cI;rw[Z0 (by omega)]at h;exact .inr (.inr (by rw[Z0 (by omega)];exact h))
 have kV:∀j,(dW [H.length] (H++[⟨.m,0,4,[.agg us]⟩]) k7)[j]?=if j=H.length then some ⟨.m,0,4,[.agg us]⟩else k7[j]?:=λj=>by
  rw[mF]
  by_cases hj:j=H.length
  ·subst hj;rw[hk5 _ (by omega) (by omega),Ny,if_pos rfl];simp
  ·rw[if_neg hj];have:([H.length].contains j)=false:=by simp;omega
   simp only[this,aad,if_false,ab7]
 refine⟨id,ep,dW [H.length] (H++[⟨.m,0,4,[.agg us]⟩]) k7,λrun ρ=>?_,?_,RA,Vm,YD,?_,?_,?_⟩
 rotate_left
 ·have:(dW [H.length] (H++[⟨.m,0,4,[.agg us]⟩]) k7).length=k7.length:=by simp[dW]
  omega
 ·rw[kV,if_neg Vm];exact Vq
 ·rw[kV,if_neg (by omega)];exact Vp
 ·intro j h1 h2
  rw[kV]
  by_cases hj:j=H.length
  ·subst hj;rw[if_pos rfl];simp
  ·rw[if_neg hj,hk5 j h1 h2]
   by_cases tY:j<H.length
   ·rw[Z0 tY,Z0 tY]
   ·rw[aag (by simp;omega),aag (by simp;omega)]
 unfold iS;rw[yk,Vl,HF];dsimp only
 have pc:∀{h:ab} {i:Nat} {mm:Mu} {e' n:Nat} {xs:List PV} {x:PV},h[i]?=some ⟨mm,e',n,xs⟩->mm≠.x->xs[0]?=some x->cK h (.ptr i e' 0 0)=some (cells x):=λ{h i mm e' n xs x} q1 q2 q3=>by
  simp[cK,getM,q1,q2,q3]
 have L0:iB C.P (H++[lb]) tl (.ptr ip 0 0 0)=some v:=by
  refine rL T ?_;have:cK (H++[lb]) (.ptr ip 0 0 0)=some (cells v):=pc (mm:=.m) (by rw[Z0 hip];exact h2) (by simp) rfl;rw[hvc.2]at this;simp only[loadT,DQ,Gd,this]
 have L1:iB C.P (H++[lb]) el (.ptr H.length 0 0 0)=some (.agg us):=by
  refine rL T ?_;have:cK (H++[lb]) (.ptr H.length 0 0 0)=some us:=pc (mm:=.l) (x:=.agg us) Ny (by simp) rfl;simp only[loadT,hs,ha,this];rw[if_pos (by rw[Nw];rfl),aar (by omega)]
 have L2:ov C.P (H++[lb]) tl v=some (.int .i64 es.length):=by
  rcases ho with⟨rfl,rfl⟩|⟨id,ep,rfl,bU⟩
  ·simp only[ov,bp (T.cU _ _ hk)]
  ·have uM:(H++[lb])[id]?=some ⟨.m,ep,4,es⟩:=by rw[Z0 (ag bU)];exact bU
   simp only[ov,bp (T.cU _ _ hk),bg uM rfl (by simp)];rw[if_pos (by show 0+es.length<=es.length;omega)]
 have L5:cy C.P k4 tl (.ak id ep 0 (es.length+1)) (.int .i64 es.length)=some (.ptr id ep es.length 0):=by
  simp only[cy,bp (T.cU _ _ hk),T.dT _ _ hs,bg XB rfl (by simp)];rw[if_pos ⟨by omega,by omega,trivial,by simp⟩];simp
 have L6:gH C.P k4 el (.ptr id ep es.length 0) (.agg us)=some k6:=by
  have hg:getM k4 id ep=some ⟨.m,ep,4,es++[z]⟩:=bg XB rfl (by simp);have cY:(es++[z])[es.length]?=some z:=by simp
  simp only[gH,T.dT _ _ hs,hg,cY];rw[if_pos ⟨trivial,Nw,huo,by rw[Oc];omega⟩];have hr:eI 0 4 z (.agg us)=.agg us:=by unfold eI;rw[if_pos ⟨rfl,Oc.symm⟩]
  rw[hr];simp[k6]
 have L7:gH C.P k6 tl (.ptr ip 0 0 0) (.ak id ep 0 (es.length+1))=some k7:=by
  have hg:getM k6 ip 0=some ⟨.m,0,1,[v]⟩:=bg Vo rfl (by simp);have cY:([v]:List PV)[0]?=some v:=rfl;simp only[gH,T.dT _ _ DQ,hg,cY];rw[if_pos ⟨trivial,rfl,rfl,by rw[hvc.2];simp⟩];have hr:eI 0 1 v (.ak id ep 0 (es.length+1))=.ak id ep 0 (es.length+1):=by unfold eI;rw[if_pos ⟨rfl,by rw[hvc.2];rfl⟩]
  rw[hr];simp[k7]
 have G0:kO ops (before ops) (H++[lb]) 0 (al L ρ) (.load tl (.tmp p))=true:=by
  simp only[kO,rB,ev,ap,Gc,Ar,yC,c06,c07,ab3,acb,Bool.or_true]
 have G1:kO ops (before ops) (H++[lb]) 1 (al ((d0,v)::L) ρ) (.load el (.tmp q))=true:=by
  simp[kO,rB,ev,al,f2,aq,oA,lb]
 have YG:(ops.toList.any λo=>o.dst==some p)=false:=by
  rw[HF];simp[aaR e2,aaR e3,aaR e4,aaR e5,aaR e6,aaR e7]
 have G5:kO ops (before ops) (H++[lb]) 5 (al ((d4,.ak id ep 0 (es.length+1))::(d3,.aa true [z])::(d2,.int .i64 es.length)::(d1,.agg us)::(d0,v)::L) ρ) (.indexAddr tl (.tmp d4) (.tmp d2))=true:=by
  have:DY ops (al ((d4,.ak id ep 0 (es.length+1))::(d3,.aa true [z])::(d2,.int .i64 es.length)::(d1,.agg us)::(d0,v)::L) ρ) (.tmp p) id=true:=by
   simp[DY,YG,ev,al,e2,e3,e4,e5,e6,ap,aaR RA]
  have h4:ev (al ((d4,.ak id ep 0 (es.length+1))::(d3,.aa true [z])::(d2,.int .i64 es.length)::(d1,.agg us)::(d0,v)::L) ρ) (.tmp d4)=.ak id ep 0 (es.length+1):=by simp[ev,al]
  simp only[kO,rB,h4,hr5,Ar,yC,c56,ab3,abd,this,Bool.or_true]
 have pT:cm C run ops (before ops) (H++[lb]) 0 [⟨some d0,.load tl (.tmp p),y0,s0,a0,none⟩,⟨some d1,.load el (.tmp q),y1,s1,a1,none⟩,⟨some d2,.call ⟨.builtin .len,#[.tmp d0],#[tl]⟩,y2,s2,a2,none⟩,
   ⟨some d3,.buildSlice tl 1 #[(0,c)],y3,s3,a3,none⟩,⟨some d4,.call ⟨.builtin .append,#[.tmp d0,.tmp d3],#[tl,tl]⟩,y4,s4,a4,none⟩,⟨some d5,.indexAddr tl (.tmp d4) (.tmp d2),y5,s5,a5,none⟩,
   ⟨none,.store el (.tmp d5) (.tmp d1),y6,s6,a6,none⟩,⟨none,.store tl (.tmp p) (.tmp d4),y7,s7,a7,none⟩] ⟨al L ρ,H++[lb]⟩=some ⟨al ([(d5,.ptr id ep es.length 0),(d4,.ak id ep 0 (es.length+1)),(d3,.aa true [z]),(d2,.int .i64 es.length),(d1,.agg us),(d0,v)]++L) ρ,k7⟩:=by
  rw[cm,Vk rfl rfl G0 (v:=v) (by simp only[aC,ev,ap,L0,Option.map_some])];dsimp only;rw[cm,Vk rfl rfl G1 (v:=.agg us) (by simp only[aC,ev,al,f2,if_false,aq,L1,Option.map_some])];dsimp only;rw[cm,Ur rfl rfl rfl cE (v:=.int .i64 es.length) (h':=H++[lb]) (by simp[ar,bo,ev,al,g3,L2]) (Nat.le_refl _) (λ_ _ h _=>h)];dsimp only;rw[cm,Xz rfl rfl rfl (v:=.aa true [z]) (by simp only[aC,List.map_cons,List.map_nil,HA])];dsimp only;rw[cm,Ur rfl rfl rfl Kc (v:=.ak id ep 0 (es.length+1)) (h':=k4) (by simp[ar,bo,ev,al,g3,g4,g5,mq]) YC kk4];dsimp only;rw[cm,Vk rfl rfl G5 (v:=.ptr id ep es.length 0) (by simp[aC,ev,al,j5,j6,L5])];dsimp only;rw[cm,kSt rfl rfl rfl XA (v:=.undef) (h':=k6) (by simp[ar,aC,ev,al,i4,i5,i6,i7,L6]) (by simp[k6]) kk6];dsimp only;rw[cm,kSt rfl rfl rfl hl7 (v:=.undef) (h':=k7) (by simp[ar,aC,ev,al,e2,e3,e4,e5,e6,e7,l7,ap,L7]) (by simp[k7]) kk7]
  rfl
 rw[pT];dsimp only
 have N':qI ops (before ops) (al ([(d5,.ptr id ep es.length 0),(d4,.ak id ep 0 (es.length+1)),(d3,.aa true [z]),(d2,.int .i64 es.length),(d1,.agg us),(d0,v)]++L) ρ)=true:=by
  simp[qI,yC,ev,al,e2,e3,e4,e5,e6,e7,ap,RA]
 rw[if_pos ⟨Az,N'⟩]
theorem Vs{C:cP}(T:lL C.P){tl:TypeId}{c:Operand}{z:PV}(x:yD T tl 1 [(0,c)] [] (λ_ es=>es=[z]))(hv:ao [z]=true)(ρ:Nat->PV)(h:ab):dy C.P 1 h tl 1 [(0,ev ρ c)]=some (.aa true [z],h):=by
 obtain⟨sz,es,rfl,e⟩:=mG T x;have:=e ρ h 1;rw[if_pos hv]at this;exact this
structure Apd(H:ab)(ip:Nat)(v:PV)(es us:List PV)(id ep:Nat)(h':ab):Prop where
 len:H.length+1<=h'.length
 idp:id≠ip
 idn:id≠H.length
 XC:id∈cq v\/H.length<id
 at':h'[id]?=some ⟨.m,ep,4,es++[.agg us]⟩
 var:h'[ip]?=some ⟨.m,0,1,[.ak id ep 0 (es.length+1)]⟩
 fr:∀j,j≠id->j≠ip->h'[j]?=(H++[⟨.m,0,4,[.agg us]⟩])[j]?
theorem Qn.apd{C:cP}{T:lL C.P}{ops:Array Oper}{L:Al}{H:ab}{Q:Al->ab->Prop}{d0 d1 d2 d3 d4 d5 p q ip fZ:Nat}{tl el:TypeId}{c:Operand}{z v:PV}{us es:List PV}
  {y0 y1 y2 y3 y4 y5 y6 y7:TypeId} {s0 s1 s2 s3 s4 s5 s6 s7:String} {a0 a1 a2 a3 a4 a5 a6 a7:Array Edge}
  (h2:H[ip]?=some ⟨.m,0,1,[v]⟩) (ho:Out 4 H v es) (hv:∀i∈cq v,i≠ip) (hn:es.length<100000000)
  (kk:∀id ep h',Apd H ip v es us id ep h'->Rn (Q ([(d5,.ptr id ep es.length 0),(d4,.ak id ep 0 (es.length+1)),(d3,.aa true [z]),(d2,.int .i64 es.length),(d1,.agg us),(d0,v)]++L) h'))
  (HF:ops.toList=[⟨some d0,.load tl (.tmp p),y0,s0,a0,none⟩,⟨some d1,.load el (.tmp q),y1,s1,a1,none⟩,⟨some d2,.call ⟨.builtin .len,#[.tmp d0],#[tl]⟩,y2,s2,a2,none⟩,
   ⟨some d3,.buildSlice tl 1 #[(0,c)],y3,s3,a3,none⟩,⟨some d4,.call ⟨.builtin .append,#[.tmp d0,.tmp d3],#[tl,tl]⟩,y4,s4,a4,none⟩,⟨some d5,.indexAddr tl (.tmp d4) (.tmp d2),y5,s5,a5,none⟩,
   ⟨none,.store el (.tmp d5) (.tmp d1),y6,s6,a6,none⟩,⟨none,.store tl (.tmp p) (.tmp d4),y7,s7,a7,none⟩]:=by rfl)
  (Nw:us.length=4:=by rfl) (huo:us.all bI=true:=by rfl)
  (hp:lk L p=some (.ptr ip 0 0 0):=by rfl) (hq:lk L q=some (.ptr H.length 0 0 0):=by rfl) (hd:[p,q,d0,d1,d2,d3,d4,d5].Nodup:=by decide)
  (yk:∀ρ,gq ops (before ops) (al L ρ)=[H.length]:=by intro _;rfl)
  (Gc:kN ops (before ops) 0=true:=by rfl) (hr5:kN ops (before ops) 5=true:=by rfl) (yC:sinks ops (before ops)=some (.tmp d5,.tmp p):=by rfl)
  (c06:qG (before ops) 0 (ops.size - 2)=true:=by rfl) (c07:qG (before ops) 0 (ops.size - 1)=true:=by rfl) (c56:qG (before ops) 5 (ops.size - 2)=true:=by rfl)
  (cE:iR ops (before ops) 2 false=true:=by rfl) (Kc:iR ops (before ops) 4 false=true:=by rfl) (XA:iR ops (before ops) 6 false=true:=by rfl) (hl7:iR ops (before ops) 7 false=true:=by rfl)
  (hk:T.kd tl=some (.sl el):=by rfl) (hs:T.ts el=some 4:=by rfl) (ha:T.ta el=some true:=by rfl) (DQ:T.ts tl=some 1:=by rfl) (Gd:T.ta tl=some false:=by rfl) (hb:T.tb el=some fZ:=by rfl) (jn:fZ<=1000:=by decide) (hz:T.tz el=some z:=by rfl) (Oc:(cells z).length=4:=by rfl) (Us:(cells z).all bI=true:=by rfl)
  (hx:yD T tl 1 [(0,c)] [] (λ_ es=>es=[z]):=by exact rfl) (hxv:ao [z]=true:=by rfl) (YH:rC ops=true:=by rfl):Qn T ops L (H++[⟨.m,0,4,[.agg us]⟩]) Q:=by
 obtain⟨id,ep,h',e,q1,q2,q3,q4,q5,q6,q7⟩:=Kb T h2 ho hv hn Nw huo hp hq hd yk HF Gc hr5 yC c06 c07 c56 cE Kc XA hl7 hk hs ha DQ Gd hb jn hz Oc Us (Vs T hx hxv);exact .calm _ h' e (kk id ep h' ⟨q1,q2,q3,q4,q5,q6,q7⟩) YH
namespace bP
open Go.Proofs
attribute [local irreducible] aE az aI aJ Ev ah ai ax aW bZ
theorem PN{h:ab}{v:PV}{k o:Int}{s:ByteArray}{es:List PV}(ho:Out 4 h v es)(hv:ao es=true)(hn:aQ es=es):∃r1,rb h (aY [.agg [.int .i64 k,.str s,.int .i64 o,v]])=some r1/\cf r1=.agg [.int .i64 k,.str s,.int .i64 o,.aa false es]:=by
 obtain⟨r,h1,h2⟩:∃r,qs h v=some r/\cf r=.aa false es:=by
  rcases ho with⟨rfl,rfl⟩|⟨id,ep,rfl,e2⟩
  ·exact⟨_,rfl,rfl⟩
  ·exact⟨.aa false es,by simp[qs,getM,e2,hv],by simp[cf,hn]⟩
 refine⟨.agg [.int .i64 k,.str s,.int .i64 o,r],?_,by simp[cf,aQ,h2]⟩;simp only[aY,rb,j',oz,h1]
 rfl
theorem wc(k s o l)(hl:l.length<100000000)(ih:∀t∈l,aO C 179 [enc t] (enc t)):aO C 179 [enc (.mk k s o l)] (enc (.mk k s o l)):=by
 have cX:=aj l;rw[bj];refine aO.x T6 Tryz.func179 rfl ?_;refine wXA ?_
 have Gc:HR [⟨.m,0,4,[.agg [.int .i64 k,.str s,.int .i64 o,.aa true []]]⟩,⟨.m,0,4,[.agg [.int .i64 0,.str ByteArray.empty,.int .i64 0,.aa true []]]⟩]:=by
  intro x hx
  simp at hx;rcases hx with rfl |rfl <;>simp[bz,bt]
 refine eD.zip T6 l (λp q L H=>∃v,L=[(1,.ptr 0 0 0 0),(2,.ptr 1 0 0 0),(9,.aa false (ae l)),(10,.int .i64 (ae l).length),(11,.int .i64 p.length)]/\HR H/\H[0]?=some ⟨.m,0,4,[.agg [.int .i64 k,.str s,.int .i64 o,v]]⟩/\H[1]?=some ⟨.m,0,4,[.agg [.int .i64 0,.str ByteArray.empty,.int .i64 0,.aa true []]]⟩/\Out 4 H v (ae p)/\∀i∈cq v,2<=i) (.nx ⟨_,rfl,Gc,rfl,rfl,.inl ⟨rfl,rfl⟩,by simp[cq]⟩) ?_ ?_
 ·rintro p u q _ H ρ e ⟨v,rfl,hH,h0,h1,ho,hv⟩;have cY:=bW e;have cE:=congrArg List.length e;simp only[Z2,Z4]at cE;have hi:=ih u (by rw[e];simp);have hle:=aj p;have oa:HR (H++[⟨.m,0,4,[.agg [.int .i64 u.k,.str u.s,.int .i64 u.o,.aa false (ae u.l)]]⟩]):=hH.dq (HV.one (by simp));have Eo:=ho.cC [⟨.m,0,4,[.agg [.int .i64 u.k,.str u.s,.int .i64 u.o,.aa false (ae u.l)]]⟩];have JF:=ag h1;have oJ:ae p++[.agg [.int .i64 u.k,.str u.s,.int .i64 u.o,.aa false (ae u.l)]]=ae (p++[u]):=by rw[cc,<-aw];rfl
  rw[aw]at hi;refine wXA ?_;refine .p hi ?_;refine wXA ?_;refine .lr (λv' h' lr=>?_) Eo;have NC:∀j,j<2->∀ep n,v≠.ak j ep 0 n:=λj hj ep n hh=>by have:=hv j (by rw[hh];simp[cq]);omega
  have g0:=(lr.fr 0 (by simp) (NC 0 (by omega))).trans ((Z0 (by omega)).trans h0);have g1:=(lr.fr 1 (by simp;omega) (NC 1 (by omega))).trans ((Z0 (by omega)).trans h1);have hr3:=lr.hr
  have Wu:∀i∈cq v',2<=i:=λi hi=>by
   rcases lr.cq i hi with h |h
   ·exact hv i h
   ·simp at h;omega
  have lo:=lr.out;rw[oJ]at lo;have TA:=lo.bt;rcases lo with⟨_,hx⟩|⟨id,ep,rfl,bU⟩
  ·have:=congrArg List.length hx;rw[aj]at this;simp at this
  have k0:=ag g0;refine wXA ?_;have Um:=Wu id (by simp[cq]);exact .nx ⟨_,rfl,hr3.set _ (by simp) (by simpa[bz,bt]using TA),Z6 k0,(Z7 (by omega)).trans g1,.inr ⟨id,ep,rfl,(Z7 (by omega)).trans bU⟩,Wu⟩
 ·rintro _ H ρ ⟨v,rfl,hH,h0,h1,ho,hv⟩;have k1:=ag h1;have e2:=Z6 (a:=(⟨.m,0,4,[.agg [.int .i64 k,.str s,.int .i64 o,v]]⟩:au)) k1;have Ep:Out 4 (H.set 1 ⟨.m,0,4,[.agg [.int .i64 k,.str s,.int .i64 o,v]]⟩) v (ae l):=ho.of_eq λi hi=>Z7 (by have:=hv i hi;omega)
  rcases ho with⟨rfl,he⟩|⟨id,ep,rfl,bU⟩
  ·refine wXA ?_;refine .mk ?_ (pu (T:=T6) rfl e2 rfl rfl rfl rfl);exact⟨PN Ep (by simp) (by simp)⟩
  ·refine wXA ?_;refine .mk ?_ (pu (T:=T6) rfl e2 rfl rfl rfl rfl);exact⟨PN Ep (by simp) (by simp)⟩
theorem mH(t:Tm)(hb:ay t<100000000):aO C 179 [enc t] (enc t):=by
 induction t using Tm.ind with
 |h k s o l ih=>
  have:=bE l;simp only[ay]at hb;exact wc k s o l (by omega) λt ht=>ih t ht (by have:=bS ht;omega)
structure KS(H:ab)(v:PV)(a:List Tm)(h':ab):Prop where
 hr:HR h'
 len:H.length<=h'.length
 var:∃v',h'[2]?=some ⟨.m,0,1,[v']⟩/\Out 4 h' v' (ae a)/\∀i∈cq v',i∈cq v\/H.length<=i
 fr:∀j,j<H.length->j≠2->j∉cq v->h'[j]?=H[j]?
theorem KS.take{H h':ab}{v:PV}{a:List Tm}(s:KS H v a h')(h3:3<=H.length)(hr:HR (h'.take H.length)):KS H v a (h'.take H.length):=by
 have hl:=s.len;have cI:(h'.take H.length).length=H.length:=by simp;omega
 obtain⟨v',e1,e2,e3⟩:=s.var;have g1:(h'.take H.length)[2]?=some ⟨.m,0,1,[v']⟩:=by rw[aaF (by omega)];exact e1
 have im:=(hr _ (aae g1)).2;refine⟨hr,by omega,⟨v',g1,e2.of_eq λi hi=>?_,e3⟩,λj h1 h2 h3=>by rw[aaF (by omega)];exact s.fr j h1 h2 h3⟩;rw[aaF];rcases e2 with⟨rfl,_⟩|⟨id,ep,rfl,_⟩
 ·simp[cq]at hi
 ·simp[cq]at hi;subst hi;simp[bz,bt]at im;omega
theorem KS.trans{H h1 h2:ab}{v v1:PV}{a b:List Tm}(s:KS H v a h1)(e:h1[2]?=some ⟨.m,0,1,[v1]⟩)(t:KS h1 v1 b h2):KS H v b h2:=by
 obtain⟨v',q1,q2,q3⟩:=s.var;rw[q1]at e
 cases e
 obtain⟨v2,r1,r2,r3⟩:=t.var;have:=s.len;refine⟨t.hr,aaQ s.len t.len,⟨v2,r1,r2,λi hi=>?_⟩,λj h1 h2 h3=>?_⟩
 ·rcases r3 i hi with h |h
  ·exact q3 i h
  ·omega
 ·rw[t.fr j (by omega) h2 (λhh=>by rcases q3 j hh with h |h;exact h3 h;omega)];exact s.fr j h1 h2 h3
theorem ai.ks{f:FuncId}{args:List PV}{H:ab}{v:PV}{b:List Tm}{Q:PV->ab->Prop}(a:ax C f args H (λr h'=>r=.cx []/\KS H v b h'))(h3:3<=H.length)(q:∀h',KS H v b h'->Q (.cx []) h')(hm:C.mode f=.opened:=by rfl):ai C 2 f args H Q:=
 ai.sm a (λr h' p=>⟨p.2.hr,p.2.len⟩) (λr h' p=>by rw[p.1];exact q h' p.2) (λr h' p hr=>by rw[p.1];exact q _ (p.2.take h3 hr)) hm
theorem PT(u:Tm)(n:Int)(H:ab)(v:PV)(a:List Tm)(hH:HR H)(h1:H[1]?=some ⟨.m,0,1,[.int .i64 n]⟩)(h2:H[2]?=some ⟨.m,0,1,[v]⟩)(ho:Out 4 H v (ae a))(hv:∀i∈cq v,3<=i)(hn:a.length<100000000):
  ax C 154 [enc u,.ptr 1 0 0 0,.ptr 2 0 0 0] H (λr h'=>r=.cx []/\KS H v (a++if u.k=n then[u]else[]) h'):=by
 have hle:=aj a;have cI:=ag h2;have hu:ae a++[.agg [.int .i64 u.k,.str u.s,.int .i64 u.o,.aa false (ae u.l)]]=ae (a++[u]):=by rw[cc,<-aw];rfl
 rw[aw];refine ax.x T6 Tryz.func154 rfl ?_;refine wXC (λhc=>?_) λhc=>?_
 ·refine Qn.apd h2 ho (λi hi=>by have:=hv i hi;omega) (by omega) (λid ep h' ap=>?_);refine wXA ?_;refine⟨rfl,?_⟩;rw[if_pos hc];have hl:=ap.len;have bU:=ag ap.at';have hg:∀j,j<H.length->j≠id->j≠2->h'[j]?=H[j]?:=λj g1 g2 g3=>by rw[ap.fr j g2 g3,Z0 g1]
  refine⟨λo ho=>?_,by omega,⟨_,ap.var,.inr ⟨id,ep,by rw[aj];simp,by rw[<-hu];exact ap.at'⟩,λi hi=>?_⟩,λj g1 g2 g3=>hg j g1 (λhh=>?_) g2⟩
  ·obtain⟨j,hj⟩:=aaZ ho
   by_cases j1:j=id
   ·subst j1;rw[ap.at']at hj;cases hj;exact⟨by simp,br _ _ (by rw[hu];simp)⟩
   by_cases j2:j=2
   ·subst j2;rw[ap.var]at hj;cases hj;exact⟨by simp,by simp[bz,bt];omega⟩
   rw[ap.fr j j1 j2]at hj;have:=(hH.dq (HV.one (ep:=0) (n:=4) (es:=[.agg [.int .i64 u.k,.str u.s,.int .i64 u.o,.aa false (ae u.l)]]) (by simp))) o (aae hj);exact⟨this.1,eG (λi hi=>by have:=of_decide_eq_true hi;simp at this;exact decide_eq_true (by omega)) _ this.2⟩
  ·simp[cq]at hi;subst hi;rcases ap.XC with h |h
   ·exact .inl h
   ·exact .inr (by omega)
  ·subst hh;rcases ap.XC with h |h
   ·exact g3 h
   ·omega
 ·refine⟨rfl,?_⟩;rw[if_neg hc,aao];refine⟨hH.dq (HV.one (by simp)),by simp,⟨v,?_,ho.cC _,λi hi=>.inl hi⟩,λj g1 g2 g3=>Z0 g1⟩;rw[Z0 cI];exact h2
def uW(n:Int)(l:List Tm):List Tm:=l.filter λu=>decide (u.k=n)
theorem vD(n:Int)(l:List Tm):(uW n l).length<=l.length:=aa4 _ _
theorem DK(n:Int)(u:Tm)(l:List Tm):uW n (u::l)=(if u.k=n then[u]else[])++uW n l:=by
 unfold uW
 by_cases h:u.k=n <;>simp[List.filter_cons,h]
theorem Hh(n:Int)(a b:List Tm):uW n (a++b)=uW n a++uW n b:=by simp[uW]
theorem KS.uK{H J h':ab}{v:PV}{a:List Tm}(s:KS (H++J) v a h'):KS H v a h':=by
 have hl:=s.len;rw[Z2]at hl;obtain⟨v',e1,e2,e3⟩:=s.var;refine⟨s.hr,by omega,⟨v',e1,e2,λi hi=>?_⟩,λj h1 h2 h3=>by rw[s.fr j (by simp;omega) h2 h3,Z0 h1]⟩;rcases e3 i hi with h |h
 ·exact .inl h
 ·exact .inr (by simp at h;omega)
theorem qc(a b:List Tm):bF (a++b)=bF a+bF b:=by
 induction a with
 |nil=>simp[bF]
 |cons t a ih=>simp only[aau,bF,ih];omega
theorem PU (n:Int) (k s o l) (ih:∀t∈l,∀(H:ab) (v:PV) (a:List Tm),HR H->H[1]?=some ⟨.m,0,1,[.int .i64 n]⟩->H[2]?=some ⟨.m,0,1,[v]⟩->Out 4 H v (ae a)->(∀i∈cq v,3<=i)->a.length+ay t<100000000->
   ax C 128 [enc t,.fn 154 [.ptr 1 0 0 0,.ptr 2 0 0 0]] H (λr h'=>r=.cx []/\KS H v (a++uW n (pre t)) h'))
  (H:ab) (v:PV) (a:List Tm) (hH:HR H) (h1:H[1]?=some ⟨.m,0,1,[.int .i64 n]⟩) (h2:H[2]?=some ⟨.m,0,1,[v]⟩) (ho:Out 4 H v (ae a)) (hv:∀i∈cq v,3<=i) (hn:a.length+ay (.mk k s o l)<100000000):
  ax C 128 [enc (.mk k s o l),.fn 154 [.ptr 1 0 0 0,.ptr 2 0 0 0]] H (λr h'=>r=.cx []/\KS H v (a++uW n (pre (.mk k s o l))) h'):=by
 have cX:=aj l;have ua:=bE l;simp only[ay]at hn;have cI:=ag h2;have TL:HR (H++[⟨.m,0,4,[enc (.mk k s o l)]⟩]):=hH.dq (HV.one (by simp));have b1:(H++[⟨.m,0,4,[enc (.mk k s o l)]⟩])[1]?=some ⟨.m,0,1,[.int .i64 n]⟩:=by rw[Z0 (by omega)];exact h1
 have b2:(H++[⟨.m,0,4,[enc (.mk k s o l)]⟩])[2]?=some ⟨.m,0,1,[v]⟩:=by rw[Z0 cI];exact h2
 have pk:=PT (.mk k s o l) n (H++[⟨.m,0,4,[enc (.mk k s o l)]⟩]) v a TL b1 b2 (ho.cC _) hv (by omega);rw[bj]at pk ⊢;refine ax.x T6 Tryz.func128 rfl ?_;refine wXA ?_;refine ai.ks pk (by simp;omega) (λh' ks=>?_);refine wXA ?_;have kw:=ks.uK
 have eW:h'[H.length]?=some ⟨.m,0,4,[.agg [.int .i64 k,.str s,.int .i64 o,.aa false (ae l)]]⟩:=by
  rw[ks.fr H.length (by simp) (by omega) (λhh=>by have:=ho.mI _ hh;omega)];simp
 refine wXA ?_;have Fk:a++(if(Tm.mk k s o l).k=n then[Tm.mk k s o l]else[])=a++uW n (.mk k s o l::ch []):=by rw[DK];simp[ch,uW]
 rw[Fk]at kw;refine eD.zip T6 l (λp q L K=>L=[(1,.fn 154 [.ptr 1 0 0 0,.ptr 2 0 0 0]),(10,.aa false (ae l)),(11,.int .i64 (ae l).length),(12,.int .i64 p.length)]/\KS H v (a++uW n (.mk k s o l::ch p)) K) (.nx ⟨rfl,kw⟩) ?_ ?_
 ·rintro p u q _ K ρ e ⟨rfl,kp⟩;have cY:=bW e;have cE:=congrArg List.length e;simp only[Z2,Z4]at cE;obtain⟨v1,q1,q2,q3⟩:=kp.var;have QE:=kp.len;have WB:=kp.hr
  have qZ:∀i∈cq v1,3<=i:=λi hi=>by
   rcases q3 i hi with h |h
   ·exact hv i h
   ·omega
  have c1:K[1]?=some ⟨.m,0,1,[.int .i64 n]⟩:=by rw[kp.fr 1 (by omega) (by omega) (λhh=>by have:=hv 1 hh;omega)];exact h1
  have TG:bF l=bF p+(ay u+bF q):=by rw[e,qc];simp[bF]
  have nI:(ch p).length<=bF p:=oX p;have XS:=vD n (Tm.mk k s o l::ch p);simp only[Z4]at XS;have ih1:=ih u (by rw[e];simp) (K++[⟨.m,0,4,[enc u]⟩]) v1 (a++uW n (Tm.mk k s o l::ch p)) (WB.dq (HV.one (by simp))) (by rw[Z0 (by omega)];exact c1) (by rw[Z0 (ag q1)];exact q1) (q2.cC _) qZ (by simp only[Z2];omega);rw[aw]at ih1;refine wXA ?_;refine ai.ks ih1 (by simp;omega) (λh' ks=>?_);refine wXA ?_;refine .nx ⟨rfl,?_⟩;have:=kp.trans q1 ks.uK;rwa[aat,<-Hh,show Tm.mk k s o l::ch p++pre u=Tm.mk k s o l::ch (p++[u]) by rw[mW];simp[ch]]at this
 ·rintro _ K ρ ⟨rfl,kp⟩;refine wXA ?_;exact⟨rfl,by rw[pre];exact kp⟩
theorem PS(n:Int)(t:Tm):∀(H:ab) (v:PV) (a:List Tm),HR H->H[1]?=some ⟨.m,0,1,[.int .i64 n]⟩->H[2]?=some ⟨.m,0,1,[v]⟩->Out 4 H v (ae a)->(∀i∈cq v,3<=i)->a.length+ay t<100000000->
   ax C 128 [enc t,.fn 154 [.ptr 1 0 0 0,.ptr 2 0 0 0]] H (λr h'=>r=.cx []/\KS H v (a++uW n (pre t)) h'):=by
 induction t using Tm.ind with
 |h k s o l ih=>exact PU n k s o l ih
theorem Nj(a b:Tm)(ha:ay a<1000000000)(hb:ay b<1000000000):aO C 178 [enc a,enc b] (.bool (decide (aU a b=0))):=by
 have h1:=(dZ a b ha hb).nine;rw[aw,aw]at h1 ⊢;refine aO.x T6 Tryz.func178 rfl ?_;refine wXA ?_;refine .p h1 ?_;refine wXC (λhc=>?_) λhc=>?_
 all_goals exact⟨_,rfl,by simp[aY, *]⟩
theorem sj(g:FuncId)(H:ab):ax C 162 [.aa true [],.fn g []] H (λr h'=>r=.aa true []/\h'=H):=by
 refine ax.x T6 Tryz.func162 rfl ?_;refine wXA ?_;exact⟨rfl,rfl⟩
theorem pA(g:FuncId)(hm:C.mode g=.pure)(hg:∀a b:Tm,ay a<1000000000->ay b<1000000000->aO C g [enc a,enc b] (.bool (decide (aU a b=0))))(x:Tm)(l:List Tm)(H:ab)(hH:HR H)(id ep:Nat)(e1:H[id]?=some ⟨.m,ep,4,ae (x::l)⟩)(hn:l.length<100000000)(hb:∀t∈x::l,ay t<1000000000):
  ax C 162 [.ak id ep 0 (ae (x::l)).length,.fn g []] H
   (λr h'=>r=.ak id ep 0 (dd (x::l)).length/\∃tl,ao tl=true/\h'=H.set id ⟨.m,ep,4,ae (dd (x::l))++tl⟩):=by
 have cX:(ae (x::l)).length=l.length+1:=by rw[aj];rfl
 refine ax.x T6 Tryz.func162 rfl ?_;refine wXC (λhc=>?_) λhc=>?_
 ·obtain rfl:l=[]:=aaf (by omega);exact⟨rfl,[],rfl,by rw[aao];exact(cW e1).symm⟩
 refine eD.zip T6 l (λp q L h=>h=H/\∃P' prev,x::p=P'++[prev]/\P'++prev::sH prev q=dd (x::l)/\L=[(0,.ak id ep 0 (ae (x::l)).length),(1,.fn g []),(5,.int .i64 ((p.length+1:Nat):Int))]) (.nx ⟨rfl,[],x,rfl,rfl,rfl⟩) ?_ ?_
 ·rintro p a q _ h ρ e ⟨rfl,P',prev,hp,hd,rfl⟩;have cE:=congrArg List.length e;simp only[Z2,Z4]at cE;have nI:=congrArg List.length hp;simp only[Z2,Z4,aaE]at nI;have En:(ae (x::l))[0+(p.length+1)]?=some (.agg [.int .i64 a.k,.str a.s,.int .i64 a.o,.aa false (ae a.l)]):=gw (by rw[e,aan];simp)
  have oQ:(ae (x::l))[0+(((p.length+1:Nat):Int) - 1).toNat]?=some (.agg [.int .i64 prev.k,.str prev.s,.int .i64 prev.o,.aa false (ae prev.l)]):=gw (by
   rw[show(((p.length+1:Nat):Int) - 1).toNat=p.length by omega,e,<-aau,hp,aan,Z0 (by simp;omega),aac (by omega)];simp[show p.length - P'.length=0 by omega])
  have hq:=hg a prev (hb a (by rw[e];simp)) (hb prev (by rw[e,<-aau,hp];simp));rw[aw,aw]at hq;refine wXA ?_;refine .p hq ?_ hm
  cases hc:decide (aU a prev=0)
  ·refine wXA ?_;refine .nx ⟨rfl,P'++[prev],a,by rw[<-aau,hp],?_,rfl⟩;rw[<-hd,sH,if_neg (by simpa using hc)];simp
  ·refine wXA ?_;rw[cX]at *;refine .sl rfl rfl (rO T6 rfl rfl e1 (by rw[aj];simp) (by omega) (by omega)) ?_;refine wXA ?_
   refine eD.zip T6 q (λp2 q2 L h'=>∃R M0 pr,ay pr<1000000000/\R.length+M0.length=p.length+1+p2.length/\R++sH pr q2=dd (x::l)/\h'=h.set id ⟨.m,ep,4,ae (R++(M0++[pr]++q2))⟩/\
    L=[(0,.ak id ep 0 (l.length+1)),(1,.fn g []),(5,.int .i64 (R.length:Int)),(6,.ak id ep (0+(p.length+1)) (l.length+1 - (p.length+1))),(7,.int .i64 ((p2.length+1:Nat):Int))]) (.nx ⟨P'++[prev],[],a,hb a (by rw[e];simp),by simp only[Z2,Z4,aaE];omega,?_,?_,rfl⟩) ?_ ?_
   ·rw[<-hd,sH,if_pos (by simpa using hc)];simp
   ·rw[cW];rw[e1,e,<-aau,hp];simp
   ·rintro p2 b q2 _ _ ρ2 e2 ⟨R,M0,pr,Vw,JF,HP,rfl,rfl⟩;have Kc:=congrArg List.length e2;simp only[Z2,Z4]at Kc;have HQ:(h.set id ⟨.m,ep,4,ae (R++(M0++[pr]++b::q2))⟩)[id]?=some ⟨.m,ep,4,ae (R++(M0++[pr]++b::q2))⟩:=Z6 (ag e1);have Xy:HR (h.set id ⟨.m,ep,4,ae (R++(M0++[pr]++b::q2))⟩):=hH.set id (by simp) (br _ _ (by simp));have Ku:(ae (R++(M0++[pr]++b::q2))).length=l.length+1:=by rw[aj];simp;omega
    have YK:(ae (R++(M0++[pr]++b::q2)))[0+(p.length+1)+(p2.length+1)]?=some (.agg [.int .i64 b.k,.str b.s,.int .i64 b.o,.aa false (ae b.l)]):=gw (sQ (A:=R++M0++[pr]) (B:=q2) (by simp) (by simp;omega));have RI:(ae (R++(M0++[pr]++b::q2)))[0+(p.length+1)+(((p2.length+1:Nat):Int) - 1).toNat]?=some (.agg [.int .i64 pr.k,.str pr.s,.int .i64 pr.o,.aa false (ae pr.l)]):=gw (sQ (A:=R++M0) (B:=b::q2) (by simp) (by simp;omega));have Vx:=hg b pr (hb b (by rw[e,e2];simp)) Vw;rw[aw,aw]at Vx;obtain⟨m,M1,hM⟩:∃m M1,M0++[pr]=m::M1:=by cases M0 with |nil=>exact⟨_,_,rfl⟩|cons m M=>exact⟨m,M++[pr],rfl⟩
    have XF:=congrArg List.length hM;simp only[Z2,Z4,aaE]at XF;have YL:(ae (R++(M0++[pr]++b::q2)))[0+R.length]?=some (.agg [.int .i64 m.k,.str m.s,.int .i64 m.o,.aa false (ae m.l)]):=gw (sQ (A:=R) (B:=M1++b::q2) (by rw[hM];simp) (by omega))
    have kC:(ae (R++(M0++[pr]++b::q2))).set (0+R.length) (.agg [.int .i64 b.k,.str b.s,.int .i64 b.o,.aa false (ae b.l)])=ae ((R++[b])++(M1++[b]++q2)):=by
     rw[<-aw,wo,hM,aan];simp
    clear hq En oQ;refine wXA ?_;refine .p Vx ?_ hm
    cases JG:decide (aU b pr=0)
    ·refine wXA ?_;rw[kC,aaY];refine .nx ⟨R++[b],M1,b,hb b (by rw[e,e2];simp),by simp;omega,?_,rfl,rfl⟩;rw[<-HP,sH,if_neg (by simpa using JG)];simp
    ·refine wXA ?_;refine .nx ⟨R,M0++[pr],b,hb b (by rw[e,e2];simp),by simp;omega,?_,by simp,rfl⟩;rw[<-HP,sH,if_pos (by simpa using JG)]
   ·rintro _ _ ρ2 ⟨R,M0,pr,Vw,JF,HP,rfl,rfl⟩;have HQ:(h.set id ⟨.m,ep,4,ae (R++(M0++[pr]++[]))⟩)[id]?=some ⟨.m,ep,4,ae (R++(M0++[pr]++[]))⟩:=Z6 (ag e1);have Xy:HR (h.set id ⟨.m,ep,4,ae (R++(M0++[pr]++[]))⟩):=hH.set id (by simp) (br _ _ (by simp));have Ku:(ae (R++(M0++[pr]++[]))).length=l.length+1:=by rw[aj];simp;omega
    rw[sH,aao]at HP;subst HP;refine wXA ?_;refine .sl rfl rfl (rO T6 rfl rfl HQ (by omega) ?_ (by omega)) ?_
    ·simp[dd]
    refine wXA ?_;refine .clr rfl (Cb T6 rfl rfl rfl HQ (by omega) rfl rfl) ?_;have qn:List.take (0+(dd (x::l)).length) (ae (dd (x::l)++(M0++[pr]++[])))=ae (dd (x::l)):=by rw[cZ,cZ,aan,aaS,List.take_left' (by simp)]
    have vY:List.drop (0+(dd (x::l)).length+(l.length+1 - (dd (x::l)).length)) (ae (dd (x::l)++(M0++[pr]++[])))=[]:=aaz (by omega);rw[qn,vY,aaY]
    obtain⟨tl,Ey,cI,Oi⟩:∃tl:List PV,tl=List.replicate (l.length+1 - (dd (x::l)).length) (.agg [.int .i64 0,.str ByteArray.empty,.int .i64 0,.aa true []])/\tl.length=l.length+1 - (dd (x::l)).length/\ao tl=true:=
     ⟨_,rfl,by simp,by rw[bu,Z1];intro y hy;rw[aaT hy];rfl⟩
    have e3:(h.set id ⟨.m,ep,4,ae (dd (x::l))++tl⟩)[id]?=some ⟨.m,ep,4,ae (dd (x::l))++tl⟩:=Z6 (ag e1);rw[<-Ey,aao];refine wXA ?_;refine .sh rfl rfl (Ca T6 rfl rfl e3 (by rw[Z2,aj,cI];have:=Ew (x::l);simp at this;omega) (by omega)) ?_;refine wXA ?_;exact⟨rfl,tl,Oi,rfl⟩
 ·rintro _ h ρ ⟨rfl,P',prev,hp,hd,rfl⟩;have RJ:ae (dd (x::l))=ae (x::l):=by rw[<-hd,hp,sH]
  refine wXA ?_;exact⟨congrArg (PV.ak id ep 0) (by rw[<-RJ,aj]),[],rfl,by rw[RJ,aao];exact(cW e1).symm⟩
theorem DL(g:FuncId)(H:ab)(id ep:Nat)(e1:H[id]?=some ⟨.m,ep,4,ae []⟩):ax C 162 [.ak id ep 0 0,.fn g []] H (λr h'=>r=.ak id ep 0 0/\h'=H):=by
 refine ax.x T6 Tryz.func162 rfl ?_;refine wXA ?_;exact⟨rfl,rfl⟩
theorem ur(H:ab):ax C 130 [.aa true []] H (λr h'=>r=.aa true []/\h'=H):=by
 refine ax.x T6 Tryz.func130 rfl ?_;refine wXA ?_;refine ai.cz rfl rfl ?_;refine wXA ?_;refine .ln (sj _ H) (λr h' hr=>by rw[hr.2]) (λr h' hr=>?_);obtain⟨rfl,rfl⟩:=hr;refine wXA ?_;refine eD.zip T6 ([]:List Tm) (λp q L K=>L=[(0,.aa true []),(9,.int .i64 0),(10,.int .i64 p.length)]/\K=h') (.nx ⟨rfl,rfl⟩) ?_ ?_
 ·rintro p u q _ K ρ e _
  cases p <;>cases e
 ·rintro _ K ρ ⟨rfl,rfl⟩;refine wXA ?_;exact⟨rfl,rfl⟩
theorem xr(H:ab)(hH:HR H)(id ep:Nat)(a:List Tm)(e1:H[id]?=some ⟨.m,ep,4,ae a⟩)(hn:a.length<100000000)(hb:∀t∈a,ay t<100000000):
  ax C 130 [.ak id ep 0 a.length] H (λr h'=>r=.ak id ep 0 (dd (eg a)).length/\∃tl,ao tl=true/\h'=H.set id ⟨.m,ep,4,ae (dd (eg a))++tl⟩):=by
 have qR:=aj a;have cI:=ag e1;refine ax.x T6 Tryz.func130 rfl ?_;refine wXA ?_;refine ai.cz rfl (lV e1 (by omega) (λt ht=>by have:=hb t ht;omega)) ?_;have e2:(H.set id ⟨.m,ep,4,ae (eg a)⟩)[id]?=some ⟨.m,ep,4,ae (eg a)⟩:=Z6 (ag e1);have oa:HR (H.set id ⟨.m,ep,4,ae (eg a)⟩):=hH.set id (by simp) (br _ _ (by simp));have yi:=(fh a).length_eq;have ez:∀t∈eg a,ay t<100000000:=λt ht=>hb t ((fh _).mem_iff.1 ht)
 rw[<-yi]at qR hn ⊢;generalize eg a=S at *
 cases S with
 |nil=>
  refine wXA ?_;refine .ln (DL _ _ id ep e2) (λr h' hr=>by rw[hr.2]) (λr h' hr=>?_);obtain⟨rfl,rfl⟩:=hr;refine wXA ?_;refine eD.zip T6 ([]:List Tm) (λp q L K=>L=[(0,.ak id ep 0 0),(9,.int .i64 0),(10,.int .i64 p.length)]/\K=H.set id ⟨.m,ep,4,ae []⟩) (.nx ⟨rfl,rfl⟩) ?_ ?_
  ·rintro p u q _ K ρ e _
   cases p <;>cases e
  ·rintro _ K ρ ⟨rfl,rfl⟩;refine wXA ?_;exact⟨rfl,[],rfl,by simp[dd]⟩
 |cons x r=>
  have hc:=pA _ rfl Nj x r _ oa id ep e2 (by simp at hn;omega) (λt ht=>by have:=ez t ht;omega);rw[aj]at hc;refine wXA ?_;refine .ln hc (λr h' hr=>by obtain⟨_,_,_,rfl⟩:=hr;simp) (λr h' hr=>?_);obtain⟨rfl,tl,hv,rfl⟩:=hr;rw[aaY];have e3:(H.set id ⟨.m,ep,4,ae (dd (x::r))++tl⟩)[id]?=some ⟨.m,ep,4,ae (dd (x::r))++tl⟩:=Z6 (ag e1);have hK3:HR (H.set id ⟨.m,ep,4,ae (dd (x::r))++tl⟩):=hH.set id (by simp) (br _ _ (by show ao (ae (dd (x::r))++tl)=true;rw[du,hv];simp));have hDn:=Ew (x::r);have hbD:∀t∈dd (x::r),ay t<100000000:=λt ht=>ez t ((Ko (x::r) t).1 ht)
  generalize hD:dd (x::r)=D at *;generalize hK:H.set id ⟨.m,ep,4,ae D++tl⟩=K0 at *;refine wXA ?_;have hDl:=aj D;refine eD.zip T6 D (λp q L K=>L=[(0,.ak id ep 0 D.length),(9,.int .i64 D.length),(10,.int .i64 p.length)]/\K=K0) (.nx ⟨rfl,rfl⟩) ?_ ?_
  ·rintro p u q _ _ ρ e ⟨rfl,rfl⟩;have cE:=congrArg List.length e;simp only[Z2,Z4]at cE
   have cY:(ae D++tl)[0+p.length]?=some (.agg [.int .i64 u.k,.str u.s,.int .i64 u.o,.aa false (ae u.l)]):=by
    rw[Z0 (by omega),aan];exact bW e
   have dp:=mH u (hbD u (by rw[e];simp));have kC:=cW cY;rw[aw]at dp;refine wXA ?_;refine .p dp ?_;refine wXA ?_;exact .nx ⟨rfl,by rw[kC];exact cW e3⟩
  ·rintro _ _ ρ ⟨rfl,rfl⟩;refine wXA ?_;exact⟨rfl,tl,hv,hK.symm⟩
theorem FY(t:Tm)(n:Int)(hb:ay t<10000000):aO C 106 [enc t,.int .i64 n] (.aa false (ae (qw n t))):=by
 have Gc:HR [⟨.m,0,4,[enc t]⟩,⟨.m,0,1,[.int .i64 n]⟩,⟨.m,0,1,[.aa true []]⟩]:=by
  intro x hx
  simp at hx;rcases hx with rfl |rfl |rfl <;>simp[bz,bt,br]
  exact vg _ _ (by simp)
 have hw:=PS n t _ (.aa true []) [] Gc rfl rfl (.inl ⟨rfl,rfl⟩) (by simp[cq]) (by simp;omega);have XS:=vD n (pre t);have nI:=vf t;rw[aw]at hw ⊢;refine aO.x T6 Tryz.func106 rfl ?_;refine wXA ?_;refine ai.ks hw (by simp) (λh' ks=>?_);rw[aaL]at ks;obtain⟨v',e1,e2,e3⟩:=ks.var;have hh:=ks.hr;refine wXA ?_;have cU:dd (eg (uW n (pre t)))=qw n t:=EC _;rcases e2 with⟨rfl,e0⟩|⟨id,ep,rfl,e2⟩
 ·have e4:uW n (pre t)=[]:=aaf (by rw[<-aj,e0];rfl);rw[e4]at cU
  skip
  refine .ln (ur h') (λr h' hr=>by rw[hr.2]) (λr h' hr=>?_);obtain⟨rfl,rfl⟩:=hr;rw[<-cU];refine wXA ?_;exact⟨_,rfl,rfl⟩
 ·have ho:=xr h' hh id ep (uW n (pre t)) e2 (by omega) (λu hu=>by have:=oW t u (aaM.1 hu).1;omega);rw[aj]
  skip
  refine .ln ho (λr h' hr=>by obtain⟨_,_,_,rfl⟩:=hr;simp) (λr h' hr=>?_);obtain⟨rfl,tl,hv,rfl⟩:=hr;rw[cU];have e5:=Z6 (a:=(⟨.m,ep,4,ae (qw n t)++tl⟩:au)) (ag e2);refine wXA ?_;exact gV e5 (by rw[aj]) (by simp) (by simp)
theorem lA(t:Tm)(hb:ay t<10000000):aO C 54 [enc t] (.aa false (ae (bV t))):=by
 have h1:=FY t 1 hb;rw[aw]at h1 ⊢;refine aO.x T6 Tryz.func54 rfl ?_;refine wXA ?_;refine .p h1 ?_;refine wXA ?_;exact⟨_,rfl,by simp[aY,bV]⟩
def gM(H:ab)(g:FuncId)(cs:List PV)(x:PV)(b:Bool):Prop:=∀H',fQ H H'->∀Q:PV->ab->Prop,(∀h',fQ H' h'->Q (.bool b) h')->ai C 2 g (x::cs) H' Q
theorem PJ(l:List Tm)(g:FuncId)(cs:List PV)(p:Tm->Bool)(H:ab)(hl:l.length<1000000000)(hp:∀x∈l,gM H g cs (enc x) (p x)):
  ax C 142 [.aa false (ae l),.fn g cs] H (λr h'=>r=.int .i64 (uQ p l)/\fQ H h'):=by
 have cX:=aj l;refine ax.x T6 Tryz.func142 rfl ?_;refine wXA ?_;refine eD.zip T6 l (λa q L K=>L=[(0,.aa false (ae l)),(1,.fn g cs),(7,.int .i64 (ae l).length),(8,.int .i64 a.length)]/\fQ H K/\∀y∈a,p y=false) (.nx ⟨rfl,fQ.refl _,by simp⟩) ?_ ?_
 ·rintro a x q _ K ρ e ⟨rfl,hE,ha⟩;have cY:=bW e;have cE:=congrArg List.length e;simp only[Z2,Z4]at cE;have AO:=hp x (by rw[e];simp) _ hE;rw[aw]at AO;refine wXA ?_;refine AO _ (λh' NM=>?_)
  cases hb:p x
  ·refine wXA ?_;exact .nx ⟨rfl,hE.trans NM,λy hy=>by rcases Z8.1 hy with h |h;exact ha y h;simp at h;rw[h];exact hb⟩
  ·refine wXA ?_;exact⟨by rw[e,p8 ha hb];rfl,hE.trans NM⟩
 ·rintro _ K ρ ⟨rfl,hE,ha⟩;refine wXA ?_;exact⟨by rw[kM ha];rfl,hE⟩
theorem qb(l:List Tm)(g:FuncId)(cs:List PV)(p:Tm->Bool)(H:ab)(hl:l.length<1000000000)(hp:∀x∈l,gM H g cs (enc x) (p x)):
  ax C 86 [.aa false (ae l),.fn g cs] H (λr h'=>r=.bool (l.any p)/\fQ H h'):=by
 have hi:=PJ l g cs p H hl hp;have ha:=rU p l;refine ax.x T6 Tryz.func86 rfl ?_;refine wXA ?_;refine .ex hi (λh' hE=>?_);refine wXC (λhc=>?_) λhc=>?_
 all_goals exact⟨by rw[<-ha];simp[aY, *],hE⟩
theorem gM.pure{H:ab}{g:FuncId}{cs:List PV}{x:PV}{b:Bool}(a:aO C g (aQ (x::cs)) (.bool b))(hx:ao (x::cs)=true)(hm:C.mode g=.pure:=by rfl):gM H g cs x b:=
 λH' _ Q hQ=>ai.pure hm hx a (hQ _ (fQ.refl _))
theorem gM.opened{H:ab}{g:FuncId}{cs:List PV}{x:PV}{b:Bool}(a:∀H',fQ H H'->ax C g (x::cs) H' (λr h'=>r=.bool b/\fQ H' h'))(hm:C.mode g=.opened:=by rfl):gM H g cs x b:=
 λH' hE Q hQ=>ai.ex (a H' hE) hQ hm
theorem PK(t:Tm):aO C 141 [enc t] (.bool (Om t)):=by
 rw[aw];refine aO.x T6 Tryz.func141 rfl ?_;refine wXI (λhc=>?_) (λhc hc=>?_) λhc hc=>?_
 all_goals exact⟨_,rfl,by simp[aY,Om, *]⟩
theorem PL(t u:Tm)(ht:ay t<1000000000)(hu:ay u<1000000000)(id:Nat)(H:ab)(hH:aT (H++[⟨.m,0,4,[enc u]⟩])=true)(h0:H[id]?=some ⟨.m,0,4,[enc t]⟩):ax C 143 [enc u,.ptr id 0 0 0] H (λr h'=>r=.bool (decide (aU t u=0))/\fQ H h'):=by
 have h1:=(dZ t u ht hu).nine;have cI:=ag h0;rw[aw t]at h0 h1;rw[aw u]at h1 hH ⊢;refine ax.x T6 Tryz.func143 rfl ?_;refine wXA ?_;refine .p h1 ?_;refine wXC (λhc=>?_) λhc=>?_
 all_goals exact⟨by simp[aY, *],(fQ.refl _).cC (HV.one (by simp))⟩
theorem Nb(l:List Tm)(t:Tm)(ht:ay t<1000000000)(hl:l.length<1000000000)(hb:∀u∈l,ay u<1000000000):aO C 88 [.aa false (ae l),enc t] (.bool (cN l t)):=by
 have hc:=qb l 143 [.ptr 0 0 0 0] (λu=>decide (aU t u=0)) [⟨.m,0,4,[enc t]⟩] hl (λx hx=>gM.opened λH' hE=>PL t x ht (hb x hx) 0 H' ((hE.hv (HV.one (by simp))).cC (HV.one (by simp))).closed (hE.at rfl));rw[aw t]at hc ⊢;refine aO.x T6 Tryz.func88 rfl ?_;refine wXA ?_;refine .ex hc (λh' hE=>?_);refine wXA ?_;exact⟨_,rfl,rfl⟩
theorem FT(t:Tm)(hb:ay t<10000000):aO C 85 [enc t] (.int .i64 (eB t)):=by
 have h1:=sf t (by omega);have h2:=Jh t (by omega);have h3:=lA t hb;have h4:=(tM t (by omega)).nine;have OE:=gz t;rw[aw]at h1 h2 h3 h4 ⊢
 have h5:∀H,ax C 86 [.aa false (ae (bV t)),.fn 141 []] H (λr h'=>r=.bool ((bV t).any Om)/\fQ H h'):=λH=>
  qb (bV t) 141 [] Om H (by omega) (λx hx=>gM.pure (by simpa[aQ]using PK x) (by simp[ao]))
 refine aO.x T6 Tryz.func85 rfl ?_;refine wXA ?_;refine .p h1 ?_;refine wXC (λhc=>?_) λhc=>?_
 ·have hth:ky t=0:=by omega
  have Xg:eB t=if rQ t=false\/(bV t).any Om=true then 10 else if 60<size t then 3 else 0:=by rw[eB,if_neg (by omega)]
  refine .p h2 ?_
  cases hf:rQ t
  ·refine wXA ?_;exact⟨_,rfl,by rw[Xg,if_pos (.inl hf)];rfl⟩
  ·refine wXA ?_;refine .p h3 ?_;refine wXA ?_;refine .ex (h5 _) (λh' hE=>?_);have k0:=hE.at (i:=0) rfl
   cases ha:(bV t).any Om
   ·rw[hf,ha,if_neg (by simp)]at Xg;refine wXA ?_;refine .p h4 ?_;refine wXC (λhc=>?_) λhc=>?_
    ·exact⟨_,rfl,by rw[Xg,if_pos (by omega)];rfl⟩
    ·exact⟨_,rfl,by rw[Xg,if_neg (by omega)];rfl⟩
   ·refine wXA ?_;exact⟨_,rfl,by rw[Xg,if_pos (.inr ha)];rfl⟩
 ·exact⟨_,rfl,by rw[eB,if_pos (by assumption)];rfl⟩
theorem _root_.Go.Pm.aW.BA{C:cP}{ops:Array Oper}{i d:Nat}{ty:TypeId}{pos:String}{af:Array Edge}{r:List Oper}{ρ:Nat->PV}{L:Al}{h:ab}{L0:Nat}{own:List Nat}{Q:St->Prop}{op:Op}{v:PV}{h':ab}(M J:ab)
  (hc:∃n0,∀n,n0<=n->ar C (fe C n) 1 op (al L ρ) M=some (v,h')) (k:aW C ops (i+1) r ⟨⟨al ((d,v)::L) ρ,h++J⟩,L0,own++List.replicate J.length i⟩ Q) (hM:cr ((before ops).getD i 0).testBit L0 own h=M) (hJ:h'.drop h.length=J) (dp:aT M=true) (kV:(op.operands.toList.all λy=>bt (aL M) (ev (al L ρ) y))=true)
  (yk:(J.all λo=>decide (o.mu≠.l))=true) (hh:cV op=true:=by rfl) (hl:(level ops (before ops) i==2)=false:=by rfl):aW C ops i (⟨some d,op,ty,pos,af,none⟩::r) ⟨⟨al L ρ,h⟩,L0,own⟩ Q:=by
 obtain⟨n0,hn⟩:=hc;have cE:level ops (before ops) i≠2:=by simpa using hl
 refine aW.step ⟨n0,λn h1=>?_⟩ k;subst hM hJ;simp only[ct,bm,hh,aaG,if_false,cE,dp,kV,and_self,if_true,hn n h1,yk,ck]
theorem _root_.Go.Pm.CK{C:cP}{run:hZ}{f:FuncId}{g:List PV->ab->Option (PV×ab)}{ρ:Nat->PV}{xs:List Operand}{zM:Array TypeId}{M h':ab}{us:List PV}{v:PV}(hm:C.mode f=.cz g)(hx:xs.map (ev ρ)=us)(hg:g us (M.map bR)=some (v,h'))(yk:((h'.drop M.length).all λo=>decide (o.mu≠.l))=true):
  ar C run 1 (.call ⟨.value (.func f),xs.toArray,zM⟩) ρ M=some (v,M++h'.drop M.length):=by
 simp only[ar,fS,ev,hx,aao];unfold dg;rw[hm];simp only[dV,hg,yk,if_true]
 rfl
theorem _root_.Go.Pm.Ij{C:cP}(T:lL C.P){run:hZ}{lv:Nat}{L:Al}{ρ:Nat->PV}{M:ab}{t:TypeId}{x:Operand}{p v:PV}(hx:cM L x=some p)(hl:loadT T M t p=some v):ar C run lv (.load t x) (al L ρ) M=some (v,M):=by
 simp only[ar,aC,an hx,rL T hl,aab]
theorem _root_.Go.Pm.Ii{C:cP}(T:lL C.P){run:hZ}{L:Al}{ρ:Nat->PV}{M:ab}{t:TypeId}{n:Nat}{ps:Array (Nat×Operand)}{vs:List PV}(x:yD T t n ps.toList L (λ_ es=>es=vs))(hv:ao vs=true):ar C run 1 (.buildSlice t n ps) (al L ρ) M=some (.aa true vs,M):=by
 obtain⟨sz,es,rfl,e⟩:=mG T x;have:=e ρ M 1;rw[if_pos hv]at this;simpa only[ar,aC]using this
theorem _root_.Go.Pm.yK{C:cP}{run:hZ}{lv:Nat}{L:Al}{ρ:Nat->PV}{h h':ab}{st xt:TypeId}{x y:Operand}{v u r:PV}(hx:cM L x=some v)(hy:cM L y=some u)(ha:bQ C.P lv h st xt v u=some (r,h')):ar C run lv (.call ⟨.builtin .append,#[x,y],#[st,xt]⟩) (al L ρ) h=some (r,h'):=by
 simp only[ar,bo,aah,aas,an hx,an hy,ha]
theorem tq(d:eE)(hk:d.kn.length<10000000):aO C 71 [rP d] (.aa false (ae (d.kn++[d.tm]))):=by
 have cX:=aj d.kn;rw[qS];refine aO.x T6 Tryz.func71 rfl ?_;refine Rn.go ?_;conv=>whnf
 refine .mk ?_;refine Rn.go ?_;conv=>whnf
 refine .raw (λρ=>?_);refine D.fieldAddr T6 rfl rfl rfl rfl ?_;refine D.fJ T6 rfl rfl rfl rfl rfl rfl ?_;have hen:(ae d.kn).isEmpty=d.kn.isEmpty:=by cases d.kn <;>rfl
 obtain⟨box,eW⟩:∃b:au,b=⟨.m,0,5,[.agg [.aa false (ae d.kn),.int .i64 d.tm.k,.str d.tm.s,.int .i64 d.tm.o,.aa false (ae d.tm.l)]]⟩:=⟨_,rfl⟩
 by_cases he:d.kn=[]
 ·have Im:bq 4 [.aa false (ae d.kn)] ([box].map bR)=some (.aa true [],[box].map bR):=by simp[bq,he,ae]
  refine .BA [box] [] ⟨0,λn _=>CK rfl rfl Im rfl⟩ ?_ (by rw[eW];rfl) rfl (by rw[eW];simp[aT,bz,bt]) rfl rfl;refine D.fieldAddr T6 rfl rfl rfl rfl ?_;refine .BA [box] [] ⟨0,λn _=>Ij T6 rfl (by rw[eW];rfl)⟩ ?_ (by rw[eW];rfl) rfl (by rw[eW];simp[aT,bz,bt]) (by rw[eW];rfl) rfl;refine .BA [box] [] ⟨0,λn _=>Ii T6 (vs:=[.agg [.int .i64 d.tm.k,.str d.tm.s,.int .i64 d.tm.o,.aa false (ae d.tm.l)]]) (by exact rfl) (by simp)⟩ ?_ (by rw[eW];rfl) rfl (by rw[eW];simp[aT,bz,bt]) (by rw[eW];rfl) rfl;subst eW;refine aW.two rfl rfl ⟨0,λn _=>yK rfl rfl (gb T6 (lv:=2) (full:=true) (ys:=[.agg [.int .i64 d.tm.k,.str d.tm.s,.int .i64 d.tm.o,.aa false (ae d.tm.l)]]) (by omega) rfl rfl rfl rfl rfl (by decide) rfl rfl rfl rfl (by simp))⟩ ?_;refine D.assign rfl ?_;refine aW.nil ⟨_,_,rfl,?_⟩
  conv=>whnf
  rw[he];exact gV (ep:=0) (sz:=4) (tl:=[]) (es:=ae ([]++[d.tm])) (by simp only[aao,aaL,ae];rw[<-aw];rfl) (by rw[aj];simp) (by simp) (by simp)
 ·have Im:bq 4 [.aa false (ae d.kn)] ([box].map bR)=some (.ak 1 0 0 d.kn.length,[box].map bR++[⟨.m,0,4,ae d.kn⟩]):=by
   have h1:d.kn.isEmpty=false:=by cases h:d.kn with |nil=>exact absurd h he |cons=>rfl
   simp only[bq,hen,h1,aad,if_false];rw[if_pos ⟨nC _,by omega⟩,cX]
   rfl
  refine .BA [box] [⟨.m,0,4,ae d.kn⟩] ⟨0,λn _=>CK rfl rfl Im rfl⟩ ?_ (by rw[eW];rfl) rfl (by rw[eW];simp[aT,bz,bt]) rfl rfl;refine D.fieldAddr T6 rfl rfl rfl rfl ?_;refine .BA [box,eJ ⟨.m,0,4,ae d.kn⟩] [] ⟨0,λn _=>Ij T6 rfl (by rw[eW];rfl)⟩ ?_ (by rw[eW];rfl) rfl (by rw[eW];simp[aT,bz,bt,eJ]) (by rw[eW];rfl) rfl;refine .BA [box,eJ ⟨.m,0,4,ae d.kn⟩] [] ⟨0,λn _=>Ii T6 (vs:=[.agg [.int .i64 d.tm.k,.str d.tm.s,.int .i64 d.tm.o,.aa false (ae d.tm.l)]]) (by exact rfl) (by simp)⟩ ?_ (by rw[eW];rfl) rfl (by rw[eW];simp[aT,bz,bt,eJ]) (by rw[eW];rfl) rfl;subst eW;refine aW.two rfl rfl ⟨0,λn _=>yK rfl rfl (kK T6 (len:=d.kn.length) (o:=⟨.m,0,4,ae d.kn⟩) (full:=true) (ys:=[.agg [.int .i64 d.tm.k,.str d.tm.s,.int .i64 d.tm.o,.aa false (ae d.tm.l)]]) rfl rfl rfl rfl rfl (by decide) rfl rfl rfl rfl (by simp;omega) (bg rfl rfl (by simp)) rfl rfl (by simp[cX]))⟩ ?_;refine D.assign rfl ?_;refine aW.nil ⟨_,_,rfl,?_⟩
  conv=>whnf
  have OQ:List.take d.kn.length (ae d.kn)=ae d.kn:=aar (by omega);exact gV (ep:=1) (sz:=4) (tl:=[]) (es:=ae (d.kn++[d.tm])) (by rw[cc];simp only[OQ,aao,ae];rw[<-aw];rfl) (by rw[aj];simp) (by simp) (by simp)
end bP
theorem KY:∀(ids:List Nat) (h:ab),(∀id∈ids,∃o:au,h[id]?=some o/\ao o.es=true/\(o.mu=.m\/o.mu=.f))->∃h',fk h ids=some h'
 |[],h,_=>⟨h,rfl⟩
 |id::r,h,hh=>by
  obtain⟨o,h1,h2,h3⟩:=hh id (by simp);have hf:kz h id=some (h.set id {o with mu:=.f}):=by simp only[kz,h1];rw[if_pos ⟨h2,h3⟩]
  obtain⟨h',e⟩:=KY r (h.set id {o with mu:=.f}) λj hj=>by
   obtain⟨o',g1,g2,g3⟩:=hh j (by simp[hj])
   by_cases yz:id=j
   ·subst yz;exact⟨{o with mu:=.f},Z6 (ag h1),h2,.inr rfl⟩
   ·exact⟨o',by rw[Z7 yz];exact g1,g2,g3⟩
  exact⟨h',by simp only[fk,hf,e]⟩
theorem ai.any{C:cP}{f:FuncId}{args args':List PV}{h:ab}{rv:PV}{Q:PV->ab->Prop}(hb:gI h args=some args')(NC:ao args=false)(Ay:∀id∈iD args,∃o:au,h[id]?=some o/\ao o.es=true/\(o.mu=.m\/o.mu=.f))(a:aO C f (aQ args') rv)(q:∀h',Q rv h')(hm:C.mode f=.pure:=by rfl):ai C 2 f args h Q:=by
 obtain⟨n0,hn⟩:=a;obtain⟨hf,ef⟩:=KY _ _ Ay;refine⟨rv,if(dU rv ||mv h (iD args))=true then h else hf,q _,n0,λn h1=>?_⟩;obtain⟨r0,hc,r1,e1,e3,e4⟩:=hn n h1;have yZ:dU r1=dU rv:=by have:=jI r1;rw[e4]at this;exact this.symm
 unfold dg;rw[hm];simp only[dD,NC,aad,if_false,hb,e1,e3,yZ,e4]
 split
 ·rfl
 ·simp[ef]
namespace bP
open Go.Proofs
attribute [local irreducible] aE az aI aJ Ev ah ai ax aW
@[simp] theorem rf(l:List eE):dB 5 (bA l):=by
 unfold dB;rw[Z1]
 intro v hv
 obtain⟨t,_,rfl⟩:=aak.1 hv
 rfl
@[simp] theorem xw(l:List c9):dB 8 (bM l):=by
 unfold dB;rw[Z1]
 intro v hv
 obtain⟨t,_,rfl⟩:=aak.1 hv
 rfl
theorem gY{sz:Nat}{es:List PV}(ho:dB sz es)(hn:es.length<1000000000)(H:ab):∃r H',bq sz [.aa false es] H=some (r,H')/\Out sz H' r es/\(HV H->ao es=true->HV H')/\(∀(j:Nat) (o:au),H[j]?=some o->H'[j]?=some o):=by
 unfold bq
 cases es with
 |nil=>exact⟨.aa true [],H,rfl,.inl ⟨rfl,rfl⟩,λh _=>h,λ_ _ h=>h⟩
 |cons x r=>
  unfold dB at ho;simp only[List.isEmpty_cons,aad,if_false];rw[if_pos ⟨ho,hn⟩];exact⟨_,_,rfl,.inr ⟨H.length,0,rfl,by simp[newObj]⟩,λh hv=>h.cC (HV.one hv),λj o h=>by rw[newObj,Z0 (ag h)];exact h⟩
end bP
def uk(t:Tm):List Tm->Nat
 |[]=>0
 |p::l=>if aU p t<0 then uk t l+1 else 0
theorem E5(t:Tm):∀l:List Tm,uk t l<=l.length
 |[]=>by simp[uk]
 |p::l=>by
  have:=E5 t l;rw[uk]
  split <;>simp <;>omega
theorem GK(t:Tm):∀(l:List Tm),fO l->∀(m:Nat) (p:Tm),l[m]?=some p->(aU p t<0↔m<uk t l)
 |[],_,m,p,h=>by simp at h
 |q::l,s,m,p,h=>by
  obtain⟨s1,s2⟩:=aal.1 s;rw[uk]
  cases m with
  |zero=>
   simp at h;subst h
   split
   ·simp;assumption
   ·simp;omega
  |succ m=>
   have h':l[m]?=some p:=by simpa using h
   have ih:=GK t l s2 m p h';have hm:=s1 p (aae h')
   split
   ·rw[ih];omega
   ·rename_i hq
    constructor
    ·intro hp
     exact absurd (dR hm hp) hq
    ·intro hh;omega
def fdT(t:Tm)(l:List Tm):Bool:=match l[uk t l]? with |some p=>decide (aU p t=0)|none=>false
theorem GL(t:Tm):∀{l:List Tm},fO l->fdT t l=cN l t
 |[],_=>rfl
 |q::l,s=>by
  obtain⟨s1,s2⟩:=aal.1 s;have ih:=GL t s2;have hng:=ee q t;unfold fdT at ih ⊢;rw[uk]
  by_cases hc:aU q t<0
  ·rw[if_pos hc];simp only[List.getElem?_cons_succ];rw[ih];simp only[cN,acd];rw[decide_eq_false (by omega)]
   rfl
  ·rw[if_neg hc];simp only[List.getElem?_cons_zero,cN,acd]
   by_cases h0:aU q t=0
   ·rw[decide_eq_true h0,decide_eq_true (by omega)];rfl
   ·rw[decide_eq_false h0,decide_eq_false (by omega),abA]
    symm
    rw[abt]
    intro u hu hz
    have hz:=dx (of_decide_eq_true hz);subst hz;have:=s1 t hu;omega
theorem CG{t:Tm}:∀{l:List Tm},fO l->cN l t=true->eZ t l=l
 |[],_,h=>by cases h
 |q::l,s,h=>by
  obtain⟨s1,s2⟩:=aal.1 s;have hng:=ee q t;rw[eZ]
  by_cases hc:aU t q<=0
  ·rw[if_pos hc]
   by_cases hd:aU t q<0
   ·exfalso;rcases Z'.1 (da.1 h)with rfl |h2
    ·rw[dI]at hd;omega
    ·have:=s1 t h2;omega
   ·rw[if_neg hd]
  ·rw[if_neg hc]
   have h2:cN l t=true:=by
    simp only[cN,acd,aaq,decide_eq_true_eq]at h ⊢;rcases h with h |h
    ·omega
    ·exact h
   rw[CG s2 h2]
theorem CH{t:Tm}:∀{l:List Tm},fO l->cN l t=false->eZ t l=l.take (uk t l)++t::l.drop (uk t l)
 |[],_,_=>rfl
 |q::l,s,h=>by
  obtain⟨s1,s2⟩:=aal.1 s;have hng:=ee q t;simp only[cN,acd,aci,decide_eq_false_iff_not]at h;rw[eZ,uk]
  by_cases hc:aU q t<0
  ·rw[if_pos hc,if_neg (by omega),CH s2 h.2];simp
  ·rw[if_neg hc,if_pos (by omega),if_pos (by omega)];simp
namespace bP
open Go.Proofs
attribute [local irreducible] aE az aI aJ Ev ah ai ax aW bZ
theorem E6(a b:Tm)(ha:ay a<1000000000)(hb:ay b<1000000000):aO C 163 [enc a,enc b] (.bool (decide (aU a b=0))):=by
 have h1:=(dZ a b ha hb).nine;rw[aw,aw]at h1 ⊢;refine aO.x T6 Tryz.func163 rfl ?_;refine wXA ?_;refine .p h1 ?_;refine wXC (λhc=>?_) λhc=>?_
 all_goals exact⟨_,rfl,by simp[aY, *]⟩
theorem mQ(a b:Tm)(ha:ay a<1000000000)(hb:ay b<1000000000):aO C 273 [enc a,enc b] (.bool (decide (aU a b=0))):=by
 have h1:=(dZ a b ha hb).nine;rw[aw,aw]at h1 ⊢;refine aO.x T6 Tryz.func273 rfl ?_;refine wXA ?_;refine .p h1 ?_;refine wXC (λhc=>?_) λhc=>?_
 all_goals exact⟨_,rfl,by simp[aY, *]⟩
theorem CJ(l:List Tm)(t:Tm)(hs:fO l)(hl:l.length<100000000)(hb:∀b∈l,ay b<100000000)(ht:ay t<100000000):
  aO C 166 [.aa false (ae l),enc t,.fn 52 []] (.cx [.int .i64 (uk t l),.bool (cN l t)]):=by
 have hle:=E5 t l;have Ns:=GK t l hs;have oG:cN l t=match l[uk t l]? with |some p=>decide (aU p t=0)|none=>false:=(GL t hs).symm
 have cX:=aj l;generalize cN l t=FD at oG ⊢;generalize uk t l=LB at hle Ns oG ⊢
 have elem:∀m,m<l.length->∃b,l[m]?=some b/\(ae l)[m]?=some (.agg [.int .i64 b.k,.str b.s,.int .i64 b.o,.aa false (ae b.l)])/\aO C 52 [enc b,enc t] (.int .i64 (aU b t)):=λm hm=>by
  have h1:l[m]?=some l[m]:=Z3 hm;exact⟨_,h1,gw h1,(dZ _ t (by have:=hb _ (aae h1);omega) (by omega)).nine⟩
 rw[aw]at elem ⊢;refine aO.x T6 Tryz.func166 rfl ?_;refine wXA ?_;refine eD.nat T6 (λk L H=>∃i j:Nat,L=[(0,.aa false (ae l)),(2,.fn 52 []),(4,.ptr 0 0 0 0),(8,.int .i64 (ae l).length),(9,.int .i64 i),(10,.int .i64 j)]/\H=[⟨.m,0,4,[.agg [.int .i64 t.k,.str t.s,.int .i64 t.o,.aa false (ae t.l)]]⟩]/\k=j - i/\i<=LB/\LB<=j/\j<=l.length) l.length (.nx ⟨0,(ae l).length,rfl,rfl,by omega,by omega,by omega,by omega⟩) ?_;rintro k _ _ ρ ⟨i,j,rfl,rfl,hk,i1,i2,i3⟩
 by_cases Kz:i<j
 ·obtain⟨m,Wl⟩:∃m:Nat,((i:Int)+j) / 2=m:=⟨(i+j) / 2,by omega⟩;obtain⟨b,h1,cY,qL⟩:=elem m (by omega);have NW:=Ns m _ h1;rw[aw]at qL;refine wXA ?_;refine .mk (n:=m) ?_ Wl cY;refine wXA ?_;refine .p qL ?_;refine wXC (λhc=>?_) λhc=>?_
  ·exact .nx ⟨j - (m+1),by omega,m+1,j,rfl,rfl,rfl,by omega,by omega,by omega⟩
  ·exact .nx ⟨m - i,by omega,i,m,rfl,rfl,rfl,by omega,by omega,by omega⟩
 ·have hi:i=LB:=by omega
  subst hi
  by_cases nt:i<l.length
  ·obtain⟨b,h1,cY,qL⟩:=elem i nt;rw[h1]at oG;dsimp only at oG;rw[aw]at qL;refine wXA ?_;refine .p qL ?_;refine wXC (λhc=>?_) λhc=>?_
   all_goals exact⟨_,rfl,by rw[oG];simp[aY,cf,aQ, *]⟩
  ·rw[aag (by omega)]at oG;refine wXA ?_;exact⟨_,rfl,by rw[oG];rfl⟩
theorem LD(s:List Tm)(t:Tm)(hs:fO s)(hl:s.length<100000000)(hb:∀b∈s,ay b<100000000)(ht:ay t<100000000):aO C 116 [.aa false (ae s),enc t] (.bool (cN s t)):=by
 have h1:=CJ s t hs hl hb ht;rw[aw]at h1 ⊢;refine aO.x T6 Tryz.func116 rfl ?_;refine wXA ?_;refine .p h1 ?_;refine wXA ?_;exact⟨_,rfl,rfl⟩
theorem _root_.Go.Pm.QH{C:cP}{run:hZ}{f:FuncId}{g:List PV->ab->Option (PV×ab)}{ρ:Nat->PV}{xs:List Operand}{zM:Array TypeId}{M h':ab}{us:List PV}{v:PV}(hm:C.mode f=.cz g)(hx:xs.map (ev ρ)=us)(hg:g us M=some (v,h')):
  ar C run 2 (.call ⟨.value (.func f),xs.toArray,zM⟩) ρ M=some (v,h'):=by
 simp only[ar,fS,ev,hx,aao];unfold dg;rw[hm];simp only[dV,Z5,if_true,hg]
theorem jM(o:au)(J:ab)(hv:ao o.es=true)(hJ:∀x∈J,x.mu=.x):aT (o::J)=true:=by
 unfold aT;simp only[aaX,Z9,Z1];exact⟨by rw[br _ _ hv];simp,λx hx=>by simp[hJ x hx]⟩
theorem LG(l:List Tm):(ae l).all (kc 4)=true:=by
 rw[Z1]
 intro v hv
 rw[cZ]at hv;obtain⟨t,_,rfl⟩:=aak.1 hv;rw[aw];simp[kc,aV,ao,cells,bI]
theorem Iy(s:List Tm)(t:Tm)(hs:fO s)(hl:s.length<10000000)(hb:∀b∈s,ay b<100000000)(ht:ay t<100000000):aO C 165 [.aa false (ae s),enc t] (.aa false (ae (eZ t s))):=by
 have h1:=CJ s t hs (by omega) hb ht;have cX:=aj s;have hle:=E5 t s;have Y5:=CH (t:=t) hs;have OZ:=CG (t:=t) hs;rw[aw]at h1 ⊢;refine aO.x T6 Tryz.func165 rfl ?_;refine wXA ?_;refine .p h1 ?_
 cases hf:cN s t
 ·rw[Y5 hf];refine wXH ?_;refine .raw (λρ=>?_);have hen:(ae s).isEmpty=s.isEmpty:=by cases s <;>rfl
  obtain⟨box,eW⟩:∃b:au,b=⟨.m,0,4,[.agg [.int .i64 t.k,.str t.s,.int .i64 t.o,.aa false (ae t.l)]]⟩:=⟨_,rfl⟩;refine D.move rfl ?_
  by_cases he:s=[]
  ·have Im:bq 4 [.aa false (ae s)] ([box].map bR)=some (.aa true [],[box].map bR):=by simp[bq,he,ae]
   have Ny:uk t s=0:=by rw[he];rfl
   refine .BA [box] [] ⟨0,λn _=>CK rfl rfl Im rfl⟩ ?_ (by rw[eW];rfl) rfl (jM _ [] (by rw[eW];simp) (by simp)) rfl rfl;refine D.move rfl ?_;refine .BA [box] [] ⟨0,λn _=>Ij T6 rfl (by rw[eW];rfl)⟩ ?_ (by rw[eW];rfl) rfl (jM _ [] (by rw[eW];simp) (by simp)) (by rw[eW];rfl) rfl;refine .BA [box] [] ⟨0,λn _=>Ii T6 (vs:=[.agg [.int .i64 t.k,.str t.s,.int .i64 t.o,.aa false (ae t.l)]]) (by exact rfl) (by simp)⟩ ?_ (by rw[eW];rfl) rfl (jM _ [] (by rw[eW];simp) (by simp)) (by rw[eW];rfl) rfl;subst eW;refine aW.two rfl rfl ⟨0,λn _=>QH (v:=.ak 1 0 0 1) (h':=[⟨.m,0,4,[.agg [.int .i64 t.k,.str t.s,.int .i64 t.o,.aa false (ae t.l)]]⟩,⟨.m,0,4,[.agg [.int .i64 t.k,.str t.s,.int .i64 t.o,.aa false (ae t.l)]]⟩]) rfl (us:=[.aa true [],.int .i64 (uk t s),.aa true [.agg [.int .i64 t.k,.str t.s,.int .i64 t.o,.aa false (ae t.l)]]]) rfl (by simp[iE,kc,cells,bI,aV,ao,newObj,Ny])⟩ ?_;refine D.assign rfl ?_;refine aW.nil ⟨_,_,rfl,?_⟩
   conv=>whnf
   rw[Ny,he];exact gV (ep:=0) (sz:=4) (tl:=[]) (es:=ae ([]++[t])) (by simp only[aao,aaL,ae];rw[<-aw];rfl) (by rw[aj];simp) (by simp) (by simp)
  ·have Im:bq 4 [.aa false (ae s)] ([box].map bR)=some (.ak 1 0 0 s.length,[box].map bR++[⟨.m,0,4,ae s⟩]):=by
    have h1:s.isEmpty=false:=by cases h:s with |nil=>exact absurd h he |cons=>rfl
    simp only[bq,hen,h1,aad,if_false];rw[if_pos ⟨nC _,by omega⟩,cX]
    rfl
   refine .BA [box] [⟨.m,0,4,ae s⟩] ⟨0,λn _=>CK rfl rfl Im rfl⟩ ?_ (by rw[eW];rfl) rfl (jM _ [] (by rw[eW];simp) (by simp)) rfl rfl;refine D.move rfl ?_;refine .BA [box,eJ ⟨.m,0,4,ae s⟩] [] ⟨0,λn _=>Ij T6 rfl (by rw[eW];rfl)⟩ ?_ (by rw[eW];rfl) rfl (jM _ [_] (by rw[eW];simp) (by simp[eJ])) (by rw[eW];rfl) rfl;refine .BA [box,eJ ⟨.m,0,4,ae s⟩] [] ⟨0,λn _=>Ii T6 (vs:=[.agg [.int .i64 t.k,.str t.s,.int .i64 t.o,.aa false (ae t.l)]]) (by exact rfl) (by simp)⟩ ?_ (by rw[eW];rfl) rfl (jM _ [_] (by rw[eW];simp) (by simp[eJ])) (by rw[eW];rfl) rfl;have OQ:(ae s).take s.length=ae s:=aar (by omega)
   have Y6:iE [.ak 1 0 0 s.length,.int .i64 (uk t s),.aa true [.agg [.int .i64 t.k,.str t.s,.int .i64 t.o,.aa false (ae t.l)]]] [box,⟨.m,0,4,ae s⟩]=some (.ak 1 1 0 (s.length+1),[box,⟨.m,1,4,(ae s).take (uk t s)++[.agg [.int .i64 t.k,.str t.s,.int .i64 t.o,.aa false (ae t.l)]]++(ae s).drop (uk t s)⟩]):=by
    have hg:getM [box,(⟨.m,0,4,ae s⟩:au)] 1 0=some ⟨.m,0,4,ae s⟩:=by simp[getM]
    have fN:=LG s;have dp:aT [box,(⟨.m,0,4,ae s⟩:au)]=true:=(HV.wI ⟨by rw[eW];simp,by rw[eW];simp⟩ ⟨by simp,by simp⟩).closed;simp only[iE,hg,OQ];rw[if_pos ⟨trivial,trivial,by omega,by omega,by omega,by omega,by simp[kc,aV,ao,cells,bI],fN,dp⟩];simp
   subst eW;refine aW.two rfl rfl ⟨0,λn _=>QH rfl (us:=[.ak 1 0 0 s.length,.int .i64 (uk t s),.aa true [.agg [.int .i64 t.k,.str t.s,.int .i64 t.o,.aa false (ae t.l)]]]) rfl Y6⟩ ?_;refine D.assign rfl ?_;refine aW.nil ⟨_,_,rfl,?_⟩
   conv=>whnf
   have HK:ae (s.take (uk t s)++t::s.drop (uk t s))=(ae s).take (uk t s)++[enc t]++(ae s).drop (uk t s):=by simp[cZ]
   have yi:(ae (s.take (uk t s)++t::s.drop (uk t s))).length=s.length+1:=by rw[aj];simp;omega
   rw[HK,aw]at yi;rw[HK,aw];exact gV (ep:=1) (sz:=4) (tl:=[]) (by simp) yi (by rw[<-aw,<-HK];simp) (by rw[<-aw,<-HK];simp)
 ·rw[OZ hf];refine wXA ?_;exact⟨_,rfl,by simp[aY,cf]⟩
theorem FU(d:eE)(u:Tm)(hu:ay u<1000000000)(hk:d.kn.length<1000000000)(hb:∀t∈d.kn,ay t<1000000000)(id:Nat)(H:ab)(hH:aT (H++[⟨.m,0,4,[enc u]⟩])=true)(h0:H[id]?=some ⟨.m,0,5,[rP d]⟩):
  ax C 87 [enc u,.ptr id 0 0 0] H (λr h'=>r=.bool (!cN d.kn u)/\fQ H h'):=by
 have h1:=Nb d.kn u hu hk hb;rw[qS]at h0;rw[aw]at h1 hH ⊢;refine ax.x T6 Tryz.func87 rfl ?_;refine wXA ?_;refine .p h1 ?_
 cases cN d.kn u
 all_goals
  refine wXA ?_;exact⟨rfl,(fQ.refl _).cC (HV.one (by simp))⟩
theorem x6(b:List Tm)(v:PV)(u:Tm)(hu:ay u<1000000000)(hk:b.length<1000000000)(hb:∀t∈b,ay t<1000000000)(id:Nat)(H:ab)(hH:aT (H++[⟨.m,0,4,[enc u]⟩])=true)(h0:H[id]?=some ⟨.m,0,1,[v]⟩)(ho:Out 4 H v (ae b)):
  ax C 89 [enc u,.ptr id 0 0 0] H (λr h'=>r=.bool (!cN b u)/\fQ H h'):=by
 have h1:=Nb b u hu hk hb;have Eo:=ho.cC [⟨.m,0,4,[enc u]⟩];rw[aw]at h1 hH Eo ⊢;refine ax.x T6 Tryz.func89 rfl ?_;have Ep:=Eo;rcases Eo with⟨rfl,e⟩|⟨dY,ep,rfl,e⟩
 all_goals
  refine wXA ?_;refine ai.plS (.inl Ep) h1 ?_
  cases cN b u
  all_goals
   refine wXA ?_;exact⟨rfl,(fQ.refl _).cC (HV.one (by simp))⟩
def x7(p:List eE):Option (List Tm):=p.getLast?.map eE.kn
def hC(p:List eE):List Tm:=p.flatMap λd=>bV d.tm
theorem rp(p:List eE)(d:eE):x7 (p++[d])=some d.kn:=by simp[x7]
theorem qi(p:List eE)(d:eE):hC (p++[d])=hC p++bV d.tm:=by simp[hC]
theorem Jn{l p q:List Tm}{u:Tm}(e:l=p++u::q)(hp:∀v∈p,eB v=0)(hu:eB u≠0):ia l=eB u:=by
 subst e
 induction p with
 |nil=>simp only[aaL,ia];rw[if_pos hu]
 |cons v p ih=>
  simp only[aau,ia];rw[if_neg (by rw[hp v (by simp)];simp),ih (λw hw=>hp w (by simp[hw]))]
theorem uF:∀{l:List Tm},(∀v∈l,eB v=0)->ia l=0
 |[],_=>rfl
 |v::l,h=>by
  rw[ia,if_neg (by rw[h v (by simp)];simp)];exact uF λu hu=>h u (by simp[hu])
theorem gj{t:Tm}(h:eB t=0):ay t<=10000:=eL (wx h).1
theorem Nc{p:List eE}(h:∀d∈p,eB d.tm=0):(hC p).length<=p.length * 10000:=by
 induction p with
 |nil=>simp[hC]
 |cons d p ih=>
  have h1:=ih λx hx=>h x (by simp[hx])
  have h2:=gz d.tm;have h3:=gj (h d (by simp));simp only[hC,aa9,Z2,Z4]at h1 ⊢;omega
theorem Jo{p:List eE}(h:∀d∈p,eB d.tm=0):∀t∈hC p,ay t<=10000:=by
 intro t ht
 obtain⟨d,hd,ht⟩:=aaU.1 ht;have:=lf ht;have:=gj (h d hd);omega
theorem wX(l:List eE)(hl:l.length<1000000000)(hb:∀d∈l,d.kn.length<10000000/\∀t∈d.kn++[d.tm],ay t<10000000):aO C 30 [.aa false (bA l)] (.int .i64 (nL l)):=by
 have cX:=fL l;refine aO.x T6 Tryz.func30 rfl ?_;refine wXC (λhc=>?_) λhc=>?_
 ·exact⟨_,rfl,by rw[nL,if_pos (by omega)];rfl⟩
 have WA:nL l=lX none [] l:=by rw[nL,if_neg (by omega)]
 refine eD.zip T6 l (λp q L H=>∃v,L=[(0,.aa false (bA l)),(3,.ptr 0 0 0 0),(14,.aa false (bA l)),(15,.int .i64 (bA l).length),(16,.int .i64 p.length)]/\HR H/\H[0]?=some ⟨.m,0,1,[v]⟩/\Out 4 H v (ae (hC p))/\(∀i∈cq v,1<=i)/\nL l=lX (x7 p) (hC p) q/\∀d∈p,eB d.tm=0) (.nx ⟨_,rfl,(HV.one (by simp)).hr,rfl,.inl ⟨rfl,rfl⟩,by simp[cq],WA,by simp⟩) ?_ ?_
 ·rintro p d q _ H ρ e ⟨v,rfl,hH,h0,ho,hv,hs,hp⟩;have cY:=jZ e;have cE:=congrArg List.length e;simp only[Z2,Z4]at cE;obtain⟨AE,QG⟩:=hb d (by rw[e];simp);have htf:=tq d AE;have hek:=aj d.kn;rw[lX]at hs;rw[qS]at htf;refine wXC (λhc=>?_) λhc=>?_
  ·exact⟨_,rfl,by rw[hs,if_pos (by omega)];rfl⟩
  rw[if_neg (by omega)]at hs
  skip
  refine .p htf ?_;refine wXA ?_;obtain⟨H2,oa⟩:∃x,x=H++[⟨.m,0,5,[.agg [.aa false (ae d.kn),.int .i64 d.tm.k,.str d.tm.s,.int .i64 d.tm.o,.aa false (ae d.tm.l)]]⟩]:=⟨_,rfl⟩;have b2:H2[H.length]?=some ⟨.m,0,5,[.agg [.aa false (ae d.kn),.int .i64 d.tm.k,.str d.tm.s,.int .i64 d.tm.o,.aa false (ae d.tm.l)]]⟩:=by rw[oa];simp
  have z2:H2[0]?=some ⟨.m,0,1,[v]⟩:=by rw[oa,Z0 (ag h0)];exact h0
  have r2:HR H2:=by rw[oa];exact hH.dq (HV.one (by simp))
  have o2:Out 4 H2 v (ae (hC p)):=by rw[oa];exact ho.cC _
  have ekt:=aj (d.kn++[d.tm]);rw[<-oa];refine eD.zip T6 (d.kn++[d.tm]) (λp2 q2 L K=>L=[(0,.aa false (bA l)),(3,.ptr 0 0 0 0),(4,.int .i64 p.length),(5,.ptr H.length 0 0 0),(14,.aa false (bA l)),(15,.int .i64 (bA l).length),(16,.int .i64 p.length),(26,.aa false (ae (d.kn++[d.tm]))),(27,.int .i64 (ae (d.kn++[d.tm])).length),(28,.int .i64 p2.length)]/\fQ H2 K/\∀u∈p2,eB u=0) (.nx ⟨rfl,fQ.refl _,by simp⟩) ?_ ?_
  ·rintro p2 u q2 _ K ρ e2 ⟨rfl,hE,QZ⟩;have oQ:=bW e2;have JF:=congrArg List.length e2;rw[Z2,Z2]at JF;simp only[Z4,aaE]at JF;rw[Z2]at ekt;simp only[Z4,aaE]at ekt;have hri:=FT u (QG u (by rw[e2];simp));rw[aw]at hri;refine wXA ?_;refine .p hri ?_;refine wXC (λhc=>?_) λhc=>?_
   ·exact .nx ⟨rfl,hE.cC (HV.one (by simp)),λw hw=>by rcases Z8.1 hw with h |h;exact QZ w h;simp at h;rw[h];assumption⟩
   ·have hra:=Jn e2 QZ (by assumption);exact⟨_,rfl,by rw[hs,hra,if_pos (by assumption)];rfl⟩
  ·rintro _ K ρ ⟨rfl,hE,QZ⟩;rw[if_neg (by rw[uF QZ];simp)]at hs;have bK:=hE.at b2;have zK:=hE.at z2;have rK:HR K:=by obtain⟨J,hJ,rfl⟩:=hE;exact r2.dq hJ
   have oK:Out 4 K v (ae (hC p)):=by obtain⟨J,hJ,rfl⟩:=hE;exact o2.cC _
   have DX:=Jo hp;have Nv:=Nc hp;have nI:p.length<41:=by omega
   by_cases Is:p=[]
   ·have UR:kept (x7 p) d.kn=true:=by rw[Is];rfl
    rw[UR,if_neg (by simp)]at hs;have Vh:p.length=0:=by rw[Is];rfl
    refine wXA ?_;obtain⟨K3,hK3⟩:∃x,x=K:=⟨_,rfl⟩;rw[<-hK3]at bK zK rK oK ⊢;have b3:=bK;have z3:=zK;have r3:=rK;have o3:=oK;have ekn:=aj d.kn;refine eD.zip T6 d.kn (λp4 q4 L K4=>L=[(0,.aa false (bA l)),(3,.ptr 0 0 0 0),(5,.ptr H.length 0 0 0),(14,.aa false (bA l)),(15,.int .i64 (bA l).length),(16,.int .i64 p.length),(51,.aa false (ae d.kn)),(52,.int .i64 (ae d.kn).length),(53,.int .i64 p4.length)]/\fQ K3 K4/\∀u∈p4,((bV u).all λx=>cN (hC p) x)=true) (.nx ⟨rfl,fQ.refl _,by simp⟩) ?_ ?_
    ·rintro p4 u q4 _ K4 ρ e4 ⟨rfl,yR,Ua⟩;have RI:=bW e4;have Kc:=congrArg List.length e4;simp only[Z2,Z4]at Kc;have hru:eB u=0:=QZ u (by rw[e4];simp);have TG:=gj hru;have SK:=lA u (by omega);have OE:=gz u;have r5:HR (K4++[⟨.m,0,4,[enc u]⟩]):=by obtain⟨J,hJ,rfl⟩:=yR;exact(r3.dq hJ).dq (HV.one (by simp))
     have z5:(K4++[⟨.m,0,4,[enc u]⟩])[0]?=some ⟨.m,0,1,[v]⟩:=by rw[Z0 (ag (yR.at z3))];exact yR.at z3
     have o5:Out 4 (K4++[⟨.m,0,4,[enc u]⟩]) v (ae (hC p)):=by obtain⟨J,hJ,rfl⟩:=yR;exact(o3.cC _).cC _
     have FV:=qb (bV u) 89 [.ptr 0 0 0 0] (λx=>!cN (hC p) x) (K4++[⟨.m,0,4,[enc u]⟩]) (by omega) (λx hx=>gM.opened λH' hE=>by
      have CZ:=lf hx;obtain⟨J,hJ,rfl⟩:=hE;exact x6 (hC p) v x (by omega) (by omega) (λt ht=>by have:=DX t ht;omega) 0 _ ((r5.dq hJ).dq (HV.one (by simp))).closed (by rw[Z0 (ag z5)];exact z5) (o5.cC _))
     rw[aw]at SK FV;refine wXA ?_;refine .p SK ?_;refine wXA ?_;refine .ex FV (λh' hE5=>?_)
     cases qp:(bV u).any λx=>!cN (hC p) x
     ·have eF:((bV u).all λx=>cN (hC p) x)=true:=by
       rw[abt]at qp;rw[Z1]
       intro x hx
       simpa using qp x hx
      refine wXA ?_;exact .nx ⟨rfl,(yR.cC (HV.one (by simp))).trans hE5,λw hw=>by rcases Z8.1 hw with h |h;exact Ua w h;simp at h;rw[h];exact eF⟩
     ·have yr:Kx (hC p) d.kn=false:=by
       unfold Kx;rw[List.all_eq_false];refine⟨u,by rw[e4];simp,?_⟩;obtain⟨x,hx,CZ⟩:=aa8.1 qp;rw[Z1]
       intro h
       have:=h x hx;simp[this]at CZ
      refine wXA ?_;exact⟨_,rfl,by rw[hs,if_pos yr];rfl⟩
    ·rintro _ K4 ρ ⟨rfl,yR,Ua⟩
     have yr:Kx (hC p) d.kn=true:=by
      unfold Kx;rw[Z1];exact Ua
     rw[yr,if_neg (by simp)]at hs;have b6:=yR.at b3;have z6:=yR.at z3;have r6:HR K4:=by obtain⟨J,hJ,rfl⟩:=yR;exact r3.dq hJ
     have o6:Out 4 K4 v (ae (hC p)):=by obtain⟨J,hJ,rfl⟩:=yR;exact o3.cC _
     have Xh:eB d.tm=0:=QZ d.tm (by simp);have JJ:=gj Xh;have Oi:=lA d.tm (by omega);have OE:=gz d.tm;rw[aw]at Oi;have o7:=o6;have k6:=ag z6;have yJ:=aj (bV d.tm);have Ny:=aj (hC p);rcases o7 with⟨rfl,e7⟩|⟨id7,ep7,rfl,e7⟩
     all_goals
      refine wXA ?_;refine .p Oi ?_;refine wXA ?_;refine .lr (λv' h' lr=>?_) o6;have f0:h'[0]?=K4[0]?:=lr.fr 0 k6 (λep n hh=>by have:=hv 0 (by rw[hh];simp[cq]);omega);rw[z6]at f0;have lo:=lr.out;have lh:=lr.hr;have kh:=ag f0
      have hw:∀i∈cq v',1<=i:=λi hi=>by
       rcases lr.cq i hi with h |h
       ·exact hv i h
       ·omega
      have TA:=lo.bt;rw[<-cc,<-qi]at lo;rcases lo with⟨rfl,e8⟩|⟨id8,ep8,rfl,e8⟩
      all_goals
       refine wXA ?_;refine .nx ⟨_,rfl,lh.set _ (by simp) (by simpa[bz,bt]using TA),Z6 kh,?_,hw,by rw[rp,qi];exact hs,λw hw=>by rcases Z8.1 hw with h |h;exact hp w h;simp at h;rw[h];exact Xh⟩
       first
        |exact .inl ⟨rfl,e8⟩
        |exact .inr ⟨id8,ep8,rfl,(Z7 (by have:=hw id8 (by simp[cq]);omega)).trans e8⟩
   ·obtain⟨p',e0,C5⟩:∃p' e0,p=p'++[e0]:=by
     rcases List.eq_nil_or_concat p with h |⟨a,b,h⟩
     ·exact absurd h Is
     ·exact⟨a,b,by rw[h];simp⟩
    have wg:=jZ (l:=l) (p:=p') (d:=e0) (q:=d::q) (by rw[e,C5];simp);have Vh:p.length=p'.length+1:=by rw[C5];simp
    have G6:x7 p=some e0.kn:=by rw[C5,rp]
    obtain⟨ZY,ZE⟩:=hb e0 (by rw[e,C5];simp)
    have FV:=qb e0.kn 87 [.ptr H.length 0 0 0] (λu=>!cN d.kn u) K (by omega) (λx hx=>gM.opened λH' hE=>by
     obtain⟨J,hJ,rfl⟩:=hE;exact FU d x (by have:=ZE x (by simp[hx]);omega) (by omega) (λt ht=>by have:=QG t (by simp[ht]);omega) H.length _ ((rK.dq hJ).dq (HV.one (by simp))).closed (by rw[Z0 (ag bK)];exact bK))
    refine wXA ?_;refine .mk (n:=p'.length) ?_ (by omega) wg rfl;refine wXA ?_;refine .ex FV (λK3 Ye=>?_)
    cases qp:e0.kn.any λu=>!cN d.kn u
    ·have hkp:kept (x7 p) d.kn=true:=by
      rw[G6];show(e0.kn.all λt=>cN d.kn t)=true;rw[abt]at qp;rw[Z1]
      intro x hx
      simpa using qp x hx
     rw[hkp,if_neg (by simp)]at hs;have b3:=Ye.at bK;have z3:=Ye.at zK;have r3:HR K3:=by obtain⟨J,hJ,rfl⟩:=Ye;exact rK.dq hJ
     have o3:Out 4 K3 v (ae (hC p)):=by obtain⟨J,hJ,rfl⟩:=Ye;exact oK.cC _
     refine wXA ?_;have ekn:=aj d.kn;refine eD.zip T6 d.kn (λp4 q4 L K4=>L=[(0,.aa false (bA l)),(3,.ptr 0 0 0 0),(5,.ptr H.length 0 0 0),(14,.aa false (bA l)),(15,.int .i64 (bA l).length),(16,.int .i64 p.length),(51,.aa false (ae d.kn)),(52,.int .i64 (ae d.kn).length),(53,.int .i64 p4.length)]/\fQ K3 K4/\∀u∈p4,((bV u).all λx=>cN (hC p) x)=true) (.nx ⟨rfl,fQ.refl _,by simp⟩) ?_ ?_
     ·rintro p4 u q4 _ K4 ρ e4 ⟨rfl,yR,Ua⟩;have RI:=bW e4;have Kc:=congrArg List.length e4;simp only[Z2,Z4]at Kc;have hru:eB u=0:=QZ u (by rw[e4];simp);have TG:=gj hru;have SK:=lA u (by omega);have OE:=gz u;have r5:HR (K4++[⟨.m,0,4,[enc u]⟩]):=by obtain⟨J,hJ,rfl⟩:=yR;exact(r3.dq hJ).dq (HV.one (by simp))
      have z5:(K4++[⟨.m,0,4,[enc u]⟩])[0]?=some ⟨.m,0,1,[v]⟩:=by rw[Z0 (ag (yR.at z3))];exact yR.at z3
      have o5:Out 4 (K4++[⟨.m,0,4,[enc u]⟩]) v (ae (hC p)):=by obtain⟨J,hJ,rfl⟩:=yR;exact(o3.cC _).cC _
      have FV:=qb (bV u) 89 [.ptr 0 0 0 0] (λx=>!cN (hC p) x) (K4++[⟨.m,0,4,[enc u]⟩]) (by omega) (λx hx=>gM.opened λH' hE=>by
       have CZ:=lf hx;obtain⟨J,hJ,rfl⟩:=hE;exact x6 (hC p) v x (by omega) (by omega) (λt ht=>by have:=DX t ht;omega) 0 _ ((r5.dq hJ).dq (HV.one (by simp))).closed (by rw[Z0 (ag z5)];exact z5) (o5.cC _))
      rw[aw]at SK FV;refine wXA ?_;refine .p SK ?_;refine wXA ?_;refine .ex FV (λh' hE5=>?_)
      cases qp:(bV u).any λx=>!cN (hC p) x
      ·have eF:((bV u).all λx=>cN (hC p) x)=true:=by
        rw[abt]at qp;rw[Z1]
        intro x hx
        simpa using qp x hx
       refine wXA ?_;exact .nx ⟨rfl,(yR.cC (HV.one (by simp))).trans hE5,λw hw=>by rcases Z8.1 hw with h |h;exact Ua w h;simp at h;rw[h];exact eF⟩
      ·have yr:Kx (hC p) d.kn=false:=by
        unfold Kx;rw[List.all_eq_false];refine⟨u,by rw[e4];simp,?_⟩;obtain⟨x,hx,CZ⟩:=aa8.1 qp;rw[Z1]
        intro h
        have:=h x hx;simp[this]at CZ
       refine wXA ?_;exact⟨_,rfl,by rw[hs,if_pos yr];rfl⟩
     ·rintro _ K4 ρ ⟨rfl,yR,Ua⟩
      have yr:Kx (hC p) d.kn=true:=by
       unfold Kx;rw[Z1];exact Ua
      rw[yr,if_neg (by simp)]at hs;have b6:=yR.at b3;have z6:=yR.at z3;have r6:HR K4:=by obtain⟨J,hJ,rfl⟩:=yR;exact r3.dq hJ
      have o6:Out 4 K4 v (ae (hC p)):=by obtain⟨J,hJ,rfl⟩:=yR;exact o3.cC _
      have Xh:eB d.tm=0:=QZ d.tm (by simp);have JJ:=gj Xh;have Oi:=lA d.tm (by omega);have OE:=gz d.tm;rw[aw]at Oi;have o7:=o6;have k6:=ag z6;have yJ:=aj (bV d.tm);have Ny:=aj (hC p);rcases o7 with⟨rfl,e7⟩|⟨id7,ep7,rfl,e7⟩
      all_goals
       refine wXA ?_;refine .p Oi ?_;refine wXA ?_;refine .lr (λv' h' lr=>?_) o6;have f0:h'[0]?=K4[0]?:=lr.fr 0 k6 (λep n hh=>by have:=hv 0 (by rw[hh];simp[cq]);omega);rw[z6]at f0;have lo:=lr.out;have lh:=lr.hr;have kh:=ag f0
       have hw:∀i∈cq v',1<=i:=λi hi=>by
        rcases lr.cq i hi with h |h
        ·exact hv i h
        ·omega
       have TA:=lo.bt;rw[<-cc,<-qi]at lo;rcases lo with⟨rfl,e8⟩|⟨id8,ep8,rfl,e8⟩
       all_goals
        refine wXA ?_;refine .nx ⟨_,rfl,lh.set _ (by simp) (by simpa[bz,bt]using TA),Z6 kh,?_,hw,by rw[rp,qi];exact hs,λw hw=>by rcases Z8.1 hw with h |h;exact hp w h;simp at h;rw[h];exact Xh⟩
        first
         |exact .inl ⟨rfl,e8⟩
         |exact .inr ⟨id8,ep8,rfl,(Z7 (by have:=hw id8 (by simp[cq]);omega)).trans e8⟩
    ·have hkp:kept (x7 p) d.kn=false:=by
      rw[G6];show(e0.kn.all λt=>cN d.kn t)=false;obtain⟨x,hx,CZ⟩:=aa8.1 qp;rw[List.all_eq_false];exact⟨x,hx,by simpa using CZ⟩
     refine wXA ?_;exact⟨_,rfl,by rw[hs,if_pos hkp];rfl⟩
 ·rintro _ H ρ ⟨v,rfl,hH,h0,ho,hv,hs,hp⟩;refine wXA ?_;exact⟨_,rfl,by rw[hs,lX];rfl⟩
theorem Jp(x t:Tm)(hx:ay x<100000000)(ht:ay t<100000000):aO C 99 [enc x,enc t] (.bool (lc x t)):=by
 have h1:=(fu x hx).nine;have h2:=(fu t ht).nine;rw[aw]at h1 h2 ⊢;rw[aw t];refine aO.x T6 Tryz.func99 rfl ?_;refine wXA ?_;refine .p h1 ?_;refine wXC (λhc=>?_) λhc=>?_
 ·refine .p h2 ?_
  (repeat' (first |(refine Rn.go ?_;conv=>whnf)|refine .mk ?_ |refine .mk (λhc=>?_) λhc=>?_ |fail))
  all_goals exact⟨_,rfl,by simp[aY,lc, *]⟩
 ·exact⟨_,rfl,by simp[aY,lc, *]⟩
theorem Ub{q:List c9}{b:c9}{o:Option Tm}(hb:By b≠0):nV o (b::q)=By b:=by rw[nV,if_pos hb]
def Ak(p:List c9):Option Tm:=p.getLast?.map c9.v
theorem rq(p:List c9)(d:c9):Ak (p++[d])=some d.v:=by simp[Ak]
theorem xv(s:List c9)(hl:s.length<1000000000)(hb:∀b∈s,ay b.v<100000000/\ay b.t<100000000):aO C 48 [.aa false (bM s)] (.int .i64 (lN s)):=by
 have cX:=jF s;refine aO.x T6 Tryz.func48 rfl ?_;refine wXC (λhc=>?_) λhc=>?_
 ·exact⟨_,rfl,by rw[lN,if_pos (by omega)];rfl⟩
 have WA:lN s=nV none s:=by rw[lN,if_neg (by omega)]
 refine eD.zip T6 s (λp q L H=>L=[(0,.aa false (bM s)),(10,.aa false (bM s)),(11,.int .i64 (bM s).length),(12,.int .i64 p.length)]/\HV H/\lN s=nV (Ak p) q) (.nx ⟨rfl,HV.nil,WA⟩) ?_ ?_
 ·rintro p b q _ H ρ e ⟨rfl,hH,hs⟩;have cY:=oT e;have cE:=congrArg List.length e;simp only[Z2,Z4]at cE;obtain⟨hbv,JJ⟩:=hb b (by rw[e];simp);have h1:=(fu b.v hbv).nine;have h2:=(fu b.t JJ).nine;have h3:=(dZ b.v b.t (by omega) (by omega)).nine;have h4:=Jp b.v b.t hbv JJ;rw[aw]at h1 h2 h3 h4;rw[aw b.t]at h3 h4;have hE:∀n,By b=n->n≠0->lN s=n:=λn h h'=>by rw[hs,Ub (q:=q) (by rw[h];exact h'),h]
  have hN:By b=0->lN s=if behind (Ak p) b.v=false then 5 else nV (some b.v) q:=λh=>by rw[hs,nV,if_neg (by rw[h];simp)]
  refine wXA ?_;refine .p h1 ?_;refine wXK (λhc hc=>?_) (λhc hc=>?_) λhc=>?_
  ·have Bw:valid b.v=0:=by omega
   have wQ:b.v.k=1:=by omega
   refine .p h3 ?_;refine wXC (λhc=>?_) λhc=>?_
   ·exact⟨_,rfl,by rw[hE 1 (by rw[By,if_neg (by omega),if_pos (.inr (by assumption))]) (by decide)];rfl⟩
   ·have Di:¬(b.v.k≠1\/aU b.v b.t=0):=by omega
    refine .p h2 ?_;refine wXC (λhc=>?_) λhc=>?_
    ·have ht0:valid b.t=0:=by omega
     refine .p h4 ?_
     cases hf:lc b.v b.t
     ·refine wXA ?_;exact⟨_,rfl,by rw[hE 10 (by rw[By,if_neg (by omega),if_neg Di,if_neg (by omega),if_pos hf]) (by decide)];rfl⟩
     ·have HB:=hN (by rw[By,if_neg (by omega),if_neg Di,if_neg (by omega),if_neg (by rw[hf];simp)])
      by_cases Is:p=[]
      ·have UR:behind (Ak p) b.v=true:=by rw[Is];rfl
       rw[UR,if_neg (by simp)]at HB;have Vh:p.length=0:=by rw[Is];rfl
       refine wXA ?_;exact .nx ⟨rfl,hH.cC (HV.one (by simp)),by rw[rq];exact HB⟩
      ·obtain⟨p',e0,C5⟩:∃p' e0,p=p'++[e0]:=by
        rcases List.eq_nil_or_concat p with h |⟨a,b,h⟩
        ·exact absurd h Is
        ·exact⟨a,b,by rw[h];simp⟩
       have wg:=oT (l:=s) (p:=p') (b:=e0) (q:=b::q) (by rw[e,C5];simp);have Vh:p.length=p'.length+1:=by rw[C5];simp
       have G6:Ak p=some e0.v:=by rw[C5,rq]
       have h5:=(dZ e0.v b.v (by have:=(hb e0 (by rw[e,C5];simp)).1;omega) (by omega)).nine;rw[aw,aw b.v]at h5;rw[G6]at HB;refine wXA ?_;refine .mk (n:=p'.length) ?_ (by omega) wg rfl;refine wXA ?_;refine .p h5 ?_;refine wXC (λhc=>?_) λhc=>?_
       ·exact⟨_,rfl,by rw[HB,if_pos (by simp[behind];omega)];rfl⟩
       ·exact .nx ⟨rfl,hH.cC (HV.one (by simp)),by rw[rq,HB,if_neg (by simp[behind];omega)]⟩
    ·exact⟨_,rfl,by rw[hE (valid b.t) (by rw[By,if_neg (by omega),if_neg Di,if_pos (by omega)]) (by omega)];rfl⟩
  ·exact⟨_,rfl,by rw[hE 1 (by rw[By,if_neg (by omega),if_pos (.inl (by assumption))]) (by decide)];rfl⟩
  ·exact⟨_,rfl,by rw[hE (valid b.v) (by rw[By,if_pos (by omega)]) (by omega)];rfl⟩
 ·rintro _ H ρ ⟨rfl,hH,hs⟩;refine wXA ?_;exact⟨_,rfl,by rw[hs];rfl⟩
end bP
def Nd(l:List c9):Prop:=l.Pairwise λp q=>aU p.v q.v<0
def Bs(t:Tm):List c9->Nat
 |[]=>0
 |p::l=>if aU p.v t<0 then Bs t l+1 else 0
theorem Nf(t:Tm):∀l:List c9,Bs t l<=l.length
 |[]=>by simp[Bs]
 |p::l=>by
  have:=Nf t l;rw[Bs]
  split <;>simp <;>omega
theorem He(t:Tm):∀(l:List c9),Nd l->∀(m:Nat) (p:c9),l[m]?=some p->(aU p.v t<0↔m<Bs t l)
 |[],_,m,p,h=>by simp at h
 |q::l,s,m,p,h=>by
  obtain⟨s1,s2⟩:=aal.1 s;rw[Bs]
  cases m with
  |zero=>
   simp at h;subst h
   split
   ·simp;assumption
   ·simp;omega
  |succ m=>
   have h':l[m]?=some p:=by simpa using h
   have ih:=He t l s2 m p h';have hm:=s1 p (aae h')
   split
   ·rw[ih];omega
   ·rename_i hq
    constructor
    ·intro hp
     exact absurd (dR hm hp) hq
    ·intro hh;omega
def JL(t:Tm)(l:List c9):Bool:=match l[Bs t l]? with |some p=>decide (aU p.v t=0)|none=>false
theorem Am:∀{s:List c9} {x:Tm},(∀b∈s,aU b.v x≠0)->lO s x=x
 |[],_,_=>rfl
 |b::s,x,h=>by
  rw[lO,if_neg (h b (by simp))];exact Am λc hc=>h c (by simp[hc])
theorem Hf(x:Tm):∀(s:List c9),Nd s->(∀b,s[Bs x s]?=some b->aU b.v x=0->lO s x=b.t)/\(JL x s=false->lO s x=x)
 |[],_=>⟨λb h=>by simp at h,λ_=>rfl⟩
 |c::s,hs=>by
  obtain⟨s1,s2⟩:=aal.1 hs;obtain⟨ih1,ih2⟩:=Hf x s s2
  by_cases hc:aU c.v x<0
  ·have hl:Bs x (c::s)=Bs x s+1:=by rw[Bs,if_pos hc]
   have hg:lO (c::s) x=lO s x:=by rw[lO,if_neg (by omega)]
   have hf:JL x (c::s)=JL x s:=by unfold JL;rw[hl];simp
   rw[hl,hg,hf];exact⟨λb h=>ih1 b (by simpa using h),ih2⟩
  ·have hl:Bs x (c::s)=0:=by rw[Bs,if_neg hc]
   have hf:JL x (c::s)=decide (aU c.v x=0):=by unfold JL;rw[hl];rfl
   rw[hl,hf];refine⟨λb h h0=>?_,λh=>?_⟩
   ·simp at h;subst h;rw[lO,if_pos h0]
   ·have h0:aU c.v x≠0:=of_decide_eq_false h;refine Am λb hb=>?_;rcases Z'.1 hb with rfl |hb
    ·exact h0
    ·intro h1
     have h2:=s1 b hb;have h3:=dx h1;subst h3;exact hc h2
namespace bP
open Go.Proofs
attribute [local irreducible] aE az aI aJ Ev ah ai ax aW bZ
theorem lY{h:ab}{k o:Int}{n:ByteArray}{l:List Tm}{x:PV}(hx:j' h x=some x:=by rfl)(hn:cf x=x:=by rfl):∃r1,rb h (aY [.agg (List.take (3+1) (List.drop 0 (cells (.agg [.int .i64 k,.str n,.int .i64 o,.aa false (ae l)])))),x])=some r1/\cf r1=.cx [.agg [.int .i64 k,.str n,.int .i64 o,.aa false (ae l)],x]:=by
 refine⟨.cx [.agg [.int .i64 k,.str n,.int .i64 o,.aa false (ae l)],x],?_,by simp[cf,aQ,hn]⟩;simp only[aY,rb,gI,hx];simp[j',oz,qs,cells]
theorem Jq(b:c9)(t:Tm)(hb:ay b.v<100000000)(ht:ay t<100000000):aO C 257 [sT b,enc t] (.int .i64 (aU b.v t)):=by
 have h1:=(dZ b.v t (by omega) (by omega)).nine;rw[aw,aw t]at h1;rw[qT,aw];refine aO.x T6 Tryz.func257 rfl ?_;refine wXA ?_;refine .p h1 ?_;refine wXA ?_;exact⟨_,rfl,rfl⟩
theorem Ng(l:List c9)(t:Tm)(hs:Nd l)(hl:l.length<100000000)(hb:∀b∈l,ay b.v<100000000)(ht:ay t<100000000):
  aO C 256 [.aa false (bM l),enc t,.fn 257 []] (.cx [.int .i64 (Bs t l),.bool (JL t l)]):=by
 have hle:=Nf t l;have Ns:=He t l hs;have oG:JL t l=match l[Bs t l]? with |some p=>decide (aU p.v t=0)|none=>false:=rfl
 have cX:=jF l;generalize JL t l=FD at oG ⊢;generalize Bs t l=LB at hle Ns oG ⊢
 have elem:∀m,m<l.length->∃b,l[m]?=some b/\(bM l)[m]?=some (.agg [.int .i64 b.v.k,.str b.v.s,.int .i64 b.v.o,.aa false (ae b.v.l),.int .i64 b.t.k,.str b.t.s,.int .i64 b.t.o,.aa false (ae b.t.l)])/\aO C 257 [sT b,enc t] (.int .i64 (aU b.v t)):=λm hm=>by
  have h1:l[m]?=some l[m]:=Z3 hm;exact⟨_,h1,zm h1,Jq _ t (hb _ (aae h1)) ht⟩
 rw[aw]at elem ⊢;refine aO.x T6 Tryz.func256 rfl ?_;refine wXA ?_;refine eD.nat T6 (λk L H=>∃i j:Nat,L=[(0,.aa false (bM l)),(2,.fn 257 []),(4,.ptr 0 0 0 0),(8,.int .i64 (bM l).length),(9,.int .i64 i),(10,.int .i64 j)]/\H=[⟨.m,0,4,[.agg [.int .i64 t.k,.str t.s,.int .i64 t.o,.aa false (ae t.l)]]⟩]/\k=j - i/\i<=LB/\LB<=j/\j<=l.length) l.length (.nx ⟨0,(bM l).length,rfl,rfl,by omega,by omega,by omega,by omega⟩) ?_;rintro k _ _ ρ ⟨i,j,rfl,rfl,hk,i1,i2,i3⟩
 by_cases Kz:i<j
 ·obtain⟨m,Wl⟩:∃m:Nat,((i:Int)+j) / 2=m:=⟨(i+j) / 2,by omega⟩;obtain⟨b,h1,cY,qL⟩:=elem m (by omega);have NW:=Ns m _ h1;rw[qT]at qL;refine wXA ?_;refine .mk (n:=m) ?_ Wl cY;refine wXA ?_;refine .p qL ?_;refine wXC (λhc=>?_) λhc=>?_
  ·exact .nx ⟨j - (m+1),by omega,m+1,j,rfl,rfl,rfl,by omega,by omega,by omega⟩
  ·exact .nx ⟨m - i,by omega,i,m,rfl,rfl,rfl,by omega,by omega,by omega⟩
 ·have hi:i=LB:=by omega
  subst hi
  by_cases nt:i<l.length
  ·obtain⟨b,h1,cY,qL⟩:=elem i nt;rw[h1]at oG;dsimp only at oG;rw[qT]at qL;refine wXA ?_;refine .p qL ?_;refine wXC (λhc=>?_) λhc=>?_
   all_goals exact⟨_,rfl,by rw[oG];simp[aY,cf,aQ, *]⟩
  ·rw[aag (by omega)]at oG;refine wXA ?_;exact⟨_,rfl,by rw[oG];rfl⟩
theorem Jr(l:List c9)(t:Tm)(hs:Nd l)(hl:l.length<100000000)(hb:∀b∈l,ay b.v<100000000)(ht:ay t<100000000):aO C 201 [.aa false (bM l),enc t] (.cx [enc (lO l t),.bool (JL t l)]):=by
 have h1:=Ng l t hs hl hb ht;obtain⟨g1,g2⟩:=Hf t l hs;have oG:JL t l=match l[Bs t l]? with |some p=>decide (aU p.v t=0)|none=>false:=rfl
 have cX:=jF l;rw[aw]at h1;rw[aw t];refine aO.x T6 Tryz.func201 rfl ?_;refine wXA ?_;refine .p h1 ?_
 cases hf:JL t l
 ·rw[g2 hf,aw];refine wXA ?_;exact lY
 ·obtain⟨b,S9,yy⟩:∃b,l[Bs t l]?=some b/\aU b.v t=0:=by
   rw[hf]at oG
   cases hx:l[Bs t l]? with
   |none=>rw[hx]at oG;cases oG
   |some b=>rw[hx]at oG;exact⟨b,rfl,of_decide_eq_true oG.symm⟩
  rw[g1 b S9 yy,aw];have cY:=zm S9;have cI:=ag S9;refine wXA ?_;exact lY
end bP
end Go.Pm
