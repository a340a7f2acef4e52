/-
  Pm, a part. Conditions: none.
-/
import Derived.Test.YtimogkojklpdnaaGreatDoorPxAJ
set_option linter.unusedVariables false
set_option linter.unusedSimpArgs false
set_option linter.unnecessarySimpa false
set_option linter.unusedSectionVars false
namespace Go.Pm
set_option maxRecDepth 4000
theorem vQ{C:bZ}{T:kM C.P}{L:Al}{h:aa}{a b n:Nat}{t:TypeId}{cs vs:List PV}{sz:Nat}{rs:List ResultVar}(ha:lk L a=some (.ptr b 0 0 0))(hb:h[b]?=some ⟨.m,0,n,[.agg cs]⟩)(hs:T.ts t=some (sz+1))(ht:T.ta t=some true)(hl:cs.length=sz+1)(hr:tc T L h rs=some vs):tc T L h (.cell a t::rs)=some (.agg cs::vs):=by
 have hp:cV h (.ptr b 0 0 0)=some cs:=(MD hb).trans rfl
 have SA:loadT T h t (.ptr b 0 0 0)=some (.agg cs):=by
  unfold loadT;rw[hs,ht,hp];have:Nat.ble (sz+1) cs.length=true:=Nat.ble_eq_true_of_le (by omega);simp only[this,if_true];rw[Ub (by omega)]
 simp only[tc,ha,SA,hr]
namespace bu
open Go.Proofs
def bY:List PV:=CI.map uI
theorem xY:aW C 156 [] (.ab false bY):=aW.qO (n:=100) (by kernel_rfl)
theorem od:aW C 218 [] (.ab false bY):=aW.qO (n:=100) (by kernel_rfl)
theorem pw{p q:List Sy}{y:Sy}(e:CI=p++y::q):bY[p.length]?=some (.agg [.str y.n,.int .i64 y.a,.int .i64 y.b,.int .i64 y.k]):=by rw[bY,e];simp[uI]
@[simp] theorem ss:bY.length=21:=rfl
theorem oe:CI.length=21:=rfl
@[simp] theorem HD:au bY=true:=rfl
theorem jh{p q:List Sy}{y:Sy}{s:ByteArray}(e:CI=p++y::q)(hp:∀z∈p,z.n.toList≠s.toList)(h:y.n.toList=s.toList):dm s=y:=by
 unfold dm;rw[e,List.find?_append,List.find?_eq_none.2 (λz hz=>by simpa using hp z hz)];simp[h]
theorem lV{s t:ByteArray}(h:s.toList=t.toList):dm s=dm t:=by unfold dm;rw[h]
theorem gy{s n:ByteArray}(h:¬s.toList=n.toList):jx s n=false:=by unfold jx;simpa using h
theorem jy{s n:ByteArray}(h:s.toList=n.toList):jx s n=true:=by unfold jx;simpa using h
theorem uG:(dm jW).a=1:=by kernel_rfl
theorem np{s:ByteArray}(hp:∀z∈CI,z.n.toList≠s.toList):dm s=Pa:=by
 unfold dm;rw[List.find?_eq_none.2 (λz hz=>by simpa using hp z hz)]
 rfl
attribute [local irreducible] aA az aH aF Ev ag ai aD bw bY
theorem pW(s:ByteArray):aW C 111 [.str s] (uI (dm s)):=by
 have hs:=xY;refine aW.x T6 Tryz.func111 rfl ?_;refine wA ?_;refine .p hs ?_;refine wA ?_;refine ie.zip T6 CI (λp q L H=>L=[(0,.str s),(2,.ptr 0 0 0 0),(5,.ab false bY),(6,.int .i64 21),(7,.int .i64 p.length)]/\HV H/\H[0]?=some ⟨.m,0,4,[.agg [.str ByteArray.empty,.int .i64 0,.int .i64 0,.int .i64 0]]⟩/\∀z∈p,z.n.toList≠s.toList) (.nx ⟨rfl,HV.one rfl,rfl,λz hz=>by cases hz⟩) ?_ ?_
 ·rintro p y q _ H V e ⟨rfl,hH,h0,hp⟩;have dL:=pw e;have gp:=congrArg List.length e;rw[oe]at gp;simp only[T0,T2]at gp;refine wD (λhc=>?_) λhc=>?_
  ·refine .mk ?_ (vQ (T:=T6) rfl (TM (by simp)) rfl rfl rfl rfl);refine wA ?_;exact⟨_,rfl,by rw[jh e hp hc];simp[aQ,cJ,ba,uI]⟩
  exact .nx ⟨rfl,hH.gr (HV.one (by simp)),by rw[TG (ae h0)];exact h0,λz hz=>by rcases TP.1 hz with h |h;exact hp z h;simp at h;rw[h];exact hc⟩
 ·rintro _ H V ⟨rfl,hH,h0,hp⟩;rw[oe];refine wA ?_;refine .mk ?_ (vQ (T:=T6) rfl (TM (ae h0)) rfl rfl rfl rfl);refine wA ?_;exact⟨_,rfl,by rw[np hp];simp[aQ,cJ,ba,uI,Pa]⟩
theorem AX(y:Sy):uI y=.agg [.str y.n,.int .i64 y.a,.int .i64 y.b,.int .i64 y.k]:=rfl
theorem mo{l p q:List Tm}{u:Tm}(e:l=p++u::q)(hp:∀v∈p,jr v=0)(hu:jr u≠0):qj l=jr u:=by
 subst e
 induction p with
 |nil=>simp only[UP,qj];rw[if_pos hu]
 |cons v p ih=>
  simp only[Uh,qj];rw[if_neg (by rw[hp v (by simp)];simp),ih (λw hw=>hp w (by simp[hw]))]
theorem gJ:∀{l:List Tm},(∀v∈l,jr v=0)->qj l=0
 |[],_=>rfl
 |v::l,h=>by rw[qj,if_neg (by rw[h v (by simp)];simp),gJ λw hw=>h w (by simp[hw])]
theorem HV.zR{o p:aC}(h1:o.mu≠.x/\au o.es=true)(h2:p.mu≠.x/\au p.es=true):HV [o,p]:=λx hx=>by
 simp only[TW,VE,or_false]at hx;rcases hx with rfl |rfl;exact h1;exact h2
theorem Cd(k s o l)(hl:l.length<1000000000)(ih:∀t∈l,aW C 186 [enc t] (.int .i64 (jr t))):aW C 186 [enc (.mk k s o l)] (.int .i64 (jr (.mk k s o l))):=by
 have hs:=pW s;have eE:=ax l;rw[AX]at hs;rw[bL];refine aW.x T6 Tryz.func186 rfl ?_;refine wD (λhc=>?_) λhc=>?_
 ·refine .p hs ?_;refine wK (λhc=>?_) (λhc hc=>?_) (λhc hc hc=>?_) (λhc hc hc hc=>?_) (λhc hc hc hc hc=>?_) (λhc hc hc hc hc hc=>?_) λhc hc hc hc hc hc=>?_;exact⟨_,rfl,by rw[jr,if_neg (by simp[*]),if_pos (by assumption)];rfl⟩;exact⟨_,rfl,by rw[jr,if_neg (by simp[*]),if_neg (by assumption),if_pos (by omega)];rfl⟩;exact⟨_,rfl,by rw[jr,if_neg (by simp[*]),if_neg (by assumption),if_pos (by omega)];rfl⟩
  ·have Ce:dO s l=false->jr (.mk k s o l)=10:=λh=>by rw[jr,if_neg (by simp[*]),if_neg (by assumption),if_neg (by omega),if_pos h]
   have HE:dO s l=true->jr (.mk k s o l)=qj l:=λh=>by rw[jr,if_neg (by simp[*]),if_neg (by assumption),if_neg (by omega),if_neg (by rw[h];simp)]
   have vg:(jx s B' ||jx s pz)=true:=by simp[jx,B', *]
   refine ie.zip T6 l (λp q L H=>L=[(1,.ptr 0 0 0 0),(38,.ab false (aj l)),(39,.int .i64 l.length),(40,.int .i64 p.length)]/\HV H/\H[0]?=some ⟨.m,0,4,[.agg [.int .i64 k,.str s,.int .i64 o,.ab false (aj l)]]⟩/\∀u∈p,cY u=true) (.nx ⟨rfl,by first |assumption |exact HV.zR (by simp) (by simp),rfl,λu hu=>by cases hu⟩) ?_ ?_
   ·rintro p u q _ H V e ⟨rfl,hH,h0,hp⟩;have dL:=bA e;have gp:=lenE e
    have EC:cY u=false->dO s l=false:=λh=>by
     have:l.all cY=false:=by rw[e];simp[h]
     simp[dO,vg,this]
    have nx:u.k≠3->u.o=1->∀v∈p++[u],cY v=true:=λh1 h2 v hv=>by
     rcases TP.1 hv with h |h;exact hp v h;simp at h;rw[h];simp[cY,h1,h2]
    refine wH (λhc=>?_) (λhc hc=>?_) λhc hc=>?_;exact⟨_,rfl,by rw[Ce (EC (by simp[cY, *]))];rfl⟩;exact .nx ⟨rfl,hH.gr (HV.one (by simp)),by rw[TG (ae h0)];exact h0,nx (by assumption) (by assumption)⟩;exact⟨_,rfl,by rw[Ce (EC (by simp[cY, *]))];rfl⟩
   ·rintro _ H V ⟨rfl,hH,h0,hp⟩;have uF:=HE (by simp only[dO,vg,if_true];rw[TH];exact hp);refine wA ?_;refine ie.zip T6 l (λp q L H=>L=[(62,.ab false (aj l)),(63,.int .i64 l.length),(64,.int .i64 p.length)]/\HV H/\∀u∈p,jr u=0) (.nx ⟨rfl,by first |assumption |exact HV.zR (by simp) (by simp),λu hu=>by cases hu⟩) ?_ ?_
    ·rintro p u q _ H V e ⟨rfl,hH,hp⟩;have dL:=bA e;have gp:=lenE e;have hi:=ih u (by rw[e];simp);rw[aN]at hi;refine wA ?_;refine .p hi ?_;refine wD (λhc=>?_) λhc=>?_;exact .nx ⟨rfl,hH.gr (HV.one (by simp)),λv hv=>by rcases TP.1 hv with h |h;exact hp v h;simp at h;rw[h];assumption⟩;exact⟨_,rfl,by rw[uF,mo e hp (by assumption)];rfl⟩
    ·rintro _ H V ⟨rfl,hH,hp⟩;refine wA ?_;exact⟨_,rfl,by rw[uF,gJ hp];rfl⟩
  ·have Ce:dO s l=false->jr (.mk k s o l)=10:=λh=>by rw[jr,if_neg (by simp[*]),if_neg (by assumption),if_neg (by omega),if_pos h]
   have HE:dO s l=true->jr (.mk k s o l)=qj l:=λh=>by rw[jr,if_neg (by simp[*]),if_neg (by assumption),if_neg (by omega),if_neg (by rw[h];simp)]
   have vg:(jx s B' ||jx s pz)=true:=by simp[jx,pz, *]
   refine ie.zip T6 l (λp q L H=>L=[(1,.ptr 0 0 0 0),(38,.ab false (aj l)),(39,.int .i64 l.length),(40,.int .i64 p.length)]/\HV H/\H[0]?=some ⟨.m,0,4,[.agg [.int .i64 k,.str s,.int .i64 o,.ab false (aj l)]]⟩/\∀u∈p,cY u=true) (.nx ⟨rfl,by first |assumption |exact HV.zR (by simp) (by simp),rfl,λu hu=>by cases hu⟩) ?_ ?_
   ·rintro p u q _ H V e ⟨rfl,hH,h0,hp⟩;have dL:=bA e;have gp:=lenE e
    have EC:cY u=false->dO s l=false:=λh=>by
     have:l.all cY=false:=by rw[e];simp[h]
     simp[dO,vg,this]
    have nx:u.k≠3->u.o=1->∀v∈p++[u],cY v=true:=λh1 h2 v hv=>by
     rcases TP.1 hv with h |h;exact hp v h;simp at h;rw[h];simp[cY,h1,h2]
    refine wH (λhc=>?_) (λhc hc=>?_) λhc hc=>?_;exact⟨_,rfl,by rw[Ce (EC (by simp[cY, *]))];rfl⟩;exact .nx ⟨rfl,hH.gr (HV.one (by simp)),by rw[TG (ae h0)];exact h0,nx (by assumption) (by assumption)⟩;exact⟨_,rfl,by rw[Ce (EC (by simp[cY, *]))];rfl⟩
   ·rintro _ H V ⟨rfl,hH,h0,hp⟩;have uF:=HE (by simp only[dO,vg,if_true];rw[TH];exact hp);refine wA ?_;refine ie.zip T6 l (λp q L H=>L=[(62,.ab false (aj l)),(63,.int .i64 l.length),(64,.int .i64 p.length)]/\HV H/\∀u∈p,jr u=0) (.nx ⟨rfl,by first |assumption |exact HV.zR (by simp) (by simp),λu hu=>by cases hu⟩) ?_ ?_
    ·rintro p u q _ H V e ⟨rfl,hH,hp⟩;have dL:=bA e;have gp:=lenE e;have hi:=ih u (by rw[e];simp);rw[aN]at hi;refine wA ?_;refine .p hi ?_;refine wD (λhc=>?_) λhc=>?_;exact .nx ⟨rfl,hH.gr (HV.one (by simp)),λv hv=>by rcases TP.1 hv with h |h;exact hp v h;simp at h;rw[h];assumption⟩;exact⟨_,rfl,by rw[uF,mo e hp (by assumption)];rfl⟩
    ·rintro _ H V ⟨rfl,hH,hp⟩;refine wA ?_;exact⟨_,rfl,by rw[uF,gJ hp];rfl⟩
  ·have Ce:dO s l=false->jr (.mk k s o l)=10:=λh=>by rw[jr,if_neg (by simp[*]),if_neg (by assumption),if_neg (by omega),if_pos h]
   have HE:dO s l=true->jr (.mk k s o l)=qj l:=λh=>by rw[jr,if_neg (by simp[*]),if_neg (by assumption),if_neg (by omega),if_neg (by rw[h];simp)]
   have vg:(jx s B' ||jx s pz)=false:=by rw[gy (n:=B') (by assumption),gy (n:=pz) (by assumption)];rfl
   have SB:jx s jW=true:=jy (by assumption);have ha:(dm s).a=1:=by rw[lV (by assumption:s.toList=jW.toList)];exact uG
   obtain⟨u,r,rfl⟩:∃u r,l=u::r:=by cases l with |nil=>simp at eE;simp at *;omega |cons u r=>exact⟨u,r,rfl⟩
   have dL:(aj (u::r))[0]?=some (.agg [.int .i64 u.k,.str u.s,.int .i64 u.o,.ab false (aj u.l)]):=by rw[aj,<-aN];rfl
   have Qo:dO s (u::r)=decide (u.k=2):=by unfold dO;rw[vg,SB];rfl
   refine .mk (n:=0) ?_ rfl dL rfl;generalize u::r=l at *;refine wD (λhc=>?_) λhc=>?_
   ·have uF:=HE (by rw[Qo];simp[*]);refine ie.zip T6 l (λp q L H=>L=[(62,.ab false (aj l)),(63,.int .i64 l.length),(64,.int .i64 p.length)]/\HV H/\∀u∈p,jr u=0) (.nx ⟨rfl,by first |assumption |exact HV.zR (by simp) (by simp),λu hu=>by cases hu⟩) ?_ ?_
    ·rintro p u q _ H V e ⟨rfl,hH,hp⟩;have dL:=bA e;have gp:=lenE e;have hi:=ih u (by rw[e];simp);rw[aN]at hi;refine wA ?_;refine .p hi ?_;refine wD (λhc=>?_) λhc=>?_;exact .nx ⟨rfl,hH.gr (HV.one (by simp)),λv hv=>by rcases TP.1 hv with h |h;exact hp v h;simp at h;rw[h];assumption⟩;exact⟨_,rfl,by rw[uF,mo e hp (by assumption)];rfl⟩
    ·rintro _ H V ⟨rfl,hH,hp⟩;refine wA ?_;exact⟨_,rfl,by rw[uF,gJ hp];rfl⟩
   exact⟨_,rfl,by rw[Ce (by rw[Qo];simp[*])];rfl⟩
  ·have HE:jr (.mk k s o l)=qj l:=by
    have h1:dO s l=true:=by unfold dO;rw[gy (n:=B') (by assumption),gy (n:=pz) (by assumption),gy (n:=jW) (by assumption)];rfl
    rw[jr,if_neg (by simp[*]),if_neg (by assumption),if_neg (by omega),if_neg (by rw[h1];simp)]
   have uF:=HE;refine ie.zip T6 l (λp q L H=>L=[(62,.ab false (aj l)),(63,.int .i64 l.length),(64,.int .i64 p.length)]/\HV H/\∀u∈p,jr u=0) (.nx ⟨rfl,by first |assumption |exact HV.zR (by simp) (by simp),λu hu=>by cases hu⟩) ?_ ?_
   ·rintro p u q _ H V e ⟨rfl,hH,hp⟩;have dL:=bA e;have gp:=lenE e;have hi:=ih u (by rw[e];simp);rw[aN]at hi;refine wA ?_;refine .p hi ?_;refine wD (λhc=>?_) λhc=>?_;exact .nx ⟨rfl,hH.gr (HV.one (by simp)),λv hv=>by rcases TP.1 hv with h |h;exact hp v h;simp at h;rw[h];assumption⟩;exact⟨_,rfl,by rw[uF,mo e hp (by assumption)];rfl⟩
   ·rintro _ H V ⟨rfl,hH,hp⟩;refine wA ?_;exact⟨_,rfl,by rw[uF,gJ hp];rfl⟩
 exact⟨_,rfl,by rw[jr,if_pos (by assumption)];rfl⟩
theorem zT(t:Tm)(hb:aE t<1000000000):aW C 186 [enc t] (.int .i64 (jr t)):=by
 induction t using Tm.ind with
 |h k s o l ih=>
  have:=bq l;simp only[aE]at hb;exact Cd k s o l (by omega) λt ht=>ih t ht (by have:=bF ht;omega)
theorem AY(t:Tm)(hb:aE t<100000000):aW C 139 [enc t] (.int .i64 (xf t)):=by
 have h1:=(tL t hb).nine;have h2:=zT t (by omega);rw[aN]at h1 h2 ⊢;refine aW.x T6 Tryz.func139 rfl ?_;refine wA ?_;refine .p h1 ?_;refine wD (λhc=>?_) λhc=>?_
 ·refine .p h2 ?_;refine wA ?_;exact⟨_,rfl,by unfold xf;rw[if_neg (by omega)];rfl⟩
 exact⟨_,rfl,by unfold xf;rw[if_pos (by assumption)];rfl⟩
theorem uJ{p:ByteArray->Bool}{l a q:List Tm}{u:Tm}(e:l=a++u::q)(hu:every p u=false):ij p l=false:=by
 subst e
 induction a with
 |nil=>simp only[UP,ij,hu];rfl
 |cons v a ih=>simp only[Uh,ij,ih];simp
theorem lX{p:ByteArray->Bool}:∀{l:List Tm},(∀v∈l,every p v=true)->ij p l=true
 |[],_=>rfl
 |v::l,h=>by rw[ij,h v (by simp),lX λw hw=>h w (by simp[hw])];rfl
theorem Cf(g:FuncId)(p:ByteArray->Bool)(hm:C.mode g=.pure)(hg:∀s,aW C g [.str s] (.bool (p s)))(k s o l)(hl:l.length<1000000000)(ih:∀t∈l,aW C 109 [enc t,.fn g []] (.bool (every p t))):
  aW C 109 [enc (.mk k s o l),.fn g []] (.bool (every p (.mk k s o l))):=by
 have eE:=ax l;have Nq:=hg s;have sT:every p (.mk k s o l)=((decide (k≠3)||p s)&&ij p l):=rfl;rw[bL];refine aW.x T6 Tryz.func109 rfl ?_;refine wD (λhc=>?_) λhc=>?_
 ·refine .p Nq ?_ hm
  cases Qp:p s
  ·refine wA ?_;exact⟨_,rfl,by rw[sT,Qp];simp[aQ, *]⟩
  ·have sT:every p (.mk k s o l)=ij p l:=by rw[sT,Qp];simp
   refine wA ?_;refine ie.zip T6 l (λa q L H=>L=[(1,.fn g []),(18,.ab false (aj l)),(19,.int .i64 l.length),(20,.int .i64 a.length)]/\HV H/\∀u∈a,every p u=true) (.nx ⟨rfl,by first |assumption |exact HV.one (by simp),λu hu=>by cases hu⟩) ?_ ?_
   ·rintro a u q _ H V e ⟨rfl,hH,hp⟩;have dL:=bA e;have gp:=lenE e;have hi:=ih u (by rw[e];simp);rw[aN]at hi;refine wA ?_;refine .p hi ?_
    cases hu:every p u
    ·refine wA ?_;exact⟨_,rfl,by rw[sT,uJ e hu];rfl⟩
    ·refine wA ?_;exact .nx ⟨rfl,hH.gr (HV.one (by simp)),λv hv=>by rcases TP.1 hv with h |h;exact hp v h;simp at h;rw[h];exact hu⟩
   ·rintro _ H V ⟨rfl,hH,hp⟩;refine wA ?_;exact⟨_,rfl,by rw[sT,lX hp];rfl⟩
 ·have sT:every p (.mk k s o l)=ij p l:=by rw[sT];simp[*]
  refine ie.zip T6 l (λa q L H=>L=[(1,.fn g []),(18,.ab false (aj l)),(19,.int .i64 l.length),(20,.int .i64 a.length)]/\HV H/\∀u∈a,every p u=true) (.nx ⟨rfl,by first |assumption |exact HV.one (by simp),λu hu=>by cases hu⟩) ?_ ?_
  ·rintro a u q _ H V e ⟨rfl,hH,hp⟩;have dL:=bA e;have gp:=lenE e;have hi:=ih u (by rw[e];simp);rw[aN]at hi;refine wA ?_;refine .p hi ?_
   cases hu:every p u
   ·refine wA ?_;exact⟨_,rfl,by rw[sT,uJ e hu];rfl⟩
   ·refine wA ?_;exact .nx ⟨rfl,hH.gr (HV.one (by simp)),λv hv=>by rcases TP.1 hv with h |h;exact hp v h;simp at h;rw[h];exact hu⟩
  ·rintro _ H V ⟨rfl,hH,hp⟩;refine wA ?_;exact⟨_,rfl,by rw[sT,lX hp];rfl⟩
theorem zU(g:FuncId)(p:ByteArray->Bool)(hm:C.mode g=.pure)(hg:∀s,aW C g [.str s] (.bool (p s)))(t:Tm)(hb:aE t<1000000000):aW C 109 [enc t,.fn g []] (.bool (every p t)):=by
 induction t using Tm.ind with
 |h k s o l ih=>
  have:=bq l;simp only[aE]at hb;exact Cf g p hm hg k s o l (by omega) λt ht=>ih t ht (by have:=bF ht;omega)
theorem Cg(s:ByteArray):aW C 187 [.str s] (.bool (ym s)):=by
 have hs:=pW s;rw[AX]at hs;have KF:kz s=true->ym s=false:=λh=>by simp[ym,h]
 refine aW.x T6 Tryz.func187 rfl ?_;refine wK (λhc=>?_) (λhc hc=>?_) (λhc hc hc=>?_) (λhc hc hc hc=>?_) (λhc hc hc hc hc=>?_) (λhc hc hc hc hc hc=>?_) λhc hc hc hc hc hc=>?_;exact⟨_,rfl,by rw[KF (by unfold kz;rw[jy (n:=EE) (by assumption)];simp)];rfl⟩;exact⟨_,rfl,by rw[KF (by unfold kz;rw[jy (n:=xV) (by assumption)];simp)];rfl⟩;exact⟨_,rfl,by rw[KF (by unfold kz;rw[jy (n:=EF) (by assumption)];simp)];rfl⟩;exact⟨_,rfl,by rw[KF (by unfold kz;rw[jy (n:=EG) (by assumption)];simp)];rfl⟩;exact⟨_,rfl,by rw[KF (by unfold kz;rw[jy (n:=EH) (by assumption)];simp)];rfl⟩;exact⟨_,rfl,by rw[KF (by unfold kz;rw[jy (n:=EI) (by assumption)];simp)];rfl⟩
 ·have Fj:kz s=false:=by
   unfold kz;rw[gy (n:=EE) (by assumption),gy (n:=xV) (by assumption),gy (n:=EF) (by assumption),gy (n:=EG) (by assumption),gy (n:=EH) (by assumption),gy (n:=EI) (by assumption)]
   rfl
  refine .p hs ?_;refine wD (λhc=>?_) λhc=>?_
  all_goals exact⟨_,rfl,by simp[aQ,ym,Fj, *]⟩
theorem Ch(t:Tm)(hb:aE t<100000000):aW C 140 [enc t] (.bool (iv t)):=by
 have h1:=AY t hb;have h2:=zU 187 ym rfl Cg t (by omega);rw[aN]at h1 h2 ⊢;refine aW.x T6 Tryz.func140 rfl ?_;refine wA ?_;refine .p h1 ?_;refine wD (λhc=>?_) λhc=>?_
 ·refine .p h2 ?_
  cases he:every ym t
  all_goals(
   refine wA ?_;exact⟨_,rfl,by simp[aQ,iv, *]⟩)
 exact⟨_,rfl,by simp[aQ,iv, *]⟩
theorem uE(s:ByteArray):aW C 169 [.str s] (.int .i64 (dm s).k):=by
 have hs:=od;have h9:bY.length=21:=ss;refine aW.x T6 Tryz.func169 rfl ?_;refine wA ?_;refine .p hs ?_;refine wA ?_;refine ie.zip T6 CI (λp q L H=>L=[(0,.str s),(3,.ab false bY),(4,.int .i64 p.length)]/\HV H/\∀z∈p,z.n.toList≠s.toList) (.nx ⟨rfl,HV.nil,λz hz=>by cases hz⟩) ?_ ?_
 ·rintro p y q _ H V e ⟨rfl,hH,hp⟩;have dL:=pw e;have gp:=congrArg List.length e;rw[oe]at gp;simp only[T0,T2]at gp;refine wD (λhc=>?_) λhc=>?_;exact⟨_,rfl,by rw[jh e hp (by assumption)];rfl⟩;exact .nx ⟨rfl,hH,λz hz=>by rcases TP.1 hz with h |h;exact hp z h;simp at h;rw[h];assumption⟩
 ·rintro _ H V ⟨rfl,hH,hp⟩;rw[oe];refine wA ?_;exact⟨_,rfl,by rw[np hp];rfl⟩
theorem B9(k s o l)(hl:l.length<1000000000)(hk:(dm s).k≠0):aW C 302 [enc (.mk k s o l)] (.bool (decide ((dm s).a<=(l.length:Int)/\(l.length:Int)<=(dm s).b))):=by
 have hs:=od;have h9:bY.length=21:=ss;have eE:=ax l;rw[bL];refine aW.x T6 Tryz.func302 rfl ?_;refine wA ?_;refine .p hs ?_;refine wA ?_;refine ie.zip T6 CI (λp q L H=>L=[(1,.ptr 0 0 0 0),(3,.ab false bY),(4,.int .i64 p.length)]/\HV H/\H[0]?=some ⟨.m,0,4,[.agg [.int .i64 k,.str s,.int .i64 o,.ab false (aj l)]]⟩/\∀z∈p,z.n.toList≠s.toList) (.nx ⟨rfl,HV.one (by simp),rfl,λz hz=>by cases hz⟩) ?_ ?_
 ·rintro p y q _ H V e ⟨rfl,hH,h0,hp⟩;have dL:=pw e;have gp:=congrArg List.length e;rw[oe]at gp;simp only[T0,T2]at gp
  (repeat' (first |(refine Rn.go ?_;conv=>whnf)|refine .mk ?_ |refine .tt ?_ |refine .mk (λhc=>?_) λhc=>?_ |fail))
  exact⟨_,rfl,by rw[jh e hp (by assumption)];simp[aQ];omega⟩;exact⟨_,rfl,by rw[jh e hp (by assumption)];simp[aQ];omega⟩;exact⟨_,rfl,by rw[jh e hp (by assumption)];simp[aQ];omega⟩;exact .nx ⟨rfl,hH,h0,λz hz=>by rcases TP.1 hz with h |h;exact hp z h;simp at h;rw[h];assumption⟩
 ·rintro _ H V ⟨rfl,hH,h0,hp⟩;exact absurd (by rw[np hp];rfl) hk
def MI:List Tm->Bool
 |u::_=>decide (u.k=2)
 |[]=>true
def HC(s:ByteArray)(l:List Tm):Bool:=if jx s jW=true then MI l else l.all cY
theorem zM(k s o l)(hl:l.length<1000000000)(aU:jx s jW=true->l≠[]):aW C 303 [enc (.mk k s o l)] (.bool (HC s l)):=by
 have eE:=ax l;rw[bL];refine aW.x T6 Tryz.func303 rfl ?_;refine wD (λhc=>?_) λhc=>?_
 ·have hn:jx s jW=true:=jy (by assumption);obtain⟨u,r,rfl⟩:∃u r,l=u::r:=by cases l with |nil=>exact absurd rfl (aU hn)|cons u r=>exact⟨u,r,rfl⟩
  have dL:(aj (u::r))[0]?=some (.agg [.int .i64 u.k,.str u.s,.int .i64 u.o,.ab false (aj u.l)]):=by rw[aj,<-aN];rfl
  have hg:HC s (u::r)=decide (u.k=2):=by unfold HC;rw[if_pos hn];rfl
  refine .mk (n:=0) ?_ rfl dL rfl;refine wD (λhc=>?_) λhc=>?_
  all_goals exact⟨_,rfl,by rw[hg];simp[aQ, *]⟩
 ·have hn:jx s jW=false:=gy (by assumption);have hg:HC s l=l.all cY:=by unfold HC;rw[if_neg (by rw[hn];simp)]
  refine ie.zip T6 l (λp q L H=>L=[(1,.ptr 0 0 0 0),(3,.int .i64 p.length)]/\HV H/\H[0]?=some ⟨.m,0,4,[.agg [.int .i64 k,.str s,.int .i64 o,.ab false (aj l)]]⟩/\∀u∈p,cY u=true) (.nx ⟨rfl,HV.one (by simp),rfl,λz hz=>by cases hz⟩) ?_ ?_
  ·rintro p u q _ H V e ⟨rfl,hH,h0,hp⟩;have dL:=bA e;have gp:=lenE e;have EC:cY u=false->l.all cY=false:=λh=>by rw[e];simp[h]
   refine wH (λhc=>?_) (λhc hc=>?_) λhc hc=>?_;exact⟨_,rfl,by rw[hg,EC (by simp[cY, *])];rfl⟩;exact .nx ⟨rfl,hH,h0,λv hv=>by rcases TP.1 hv with h |h;exact hp v h;simp at h;rw[h];simp[cY, *]⟩;exact⟨_,rfl,by rw[hg,EC (by simp[cY, *])];rfl⟩
  ·rintro _ H V ⟨rfl,hH,h0,hp⟩;have ha:l.all cY=true:=by rw[TH];exact hp
   refine wA ?_;exact⟨_,rfl,by rw[hg,ha];rfl⟩
theorem zN:CI.all (λy=>decide (y.k≠2)||(y.n.toList==B'.toList ||y.n.toList==pz.toList ||y.n.toList==jW.toList))=true:=by kernel_rfl
theorem nq:(dm B').k=2/\(dm pz).k=2/\(dm jW).k=2:=⟨by kernel_rfl,by kernel_rfl,by kernel_rfl⟩
theorem Ca{s:ByteArray}(h:(dm s).k≠0):dm s∈CI/\(dm s).n.toList=s.toList:=by
 unfold dm at h ⊢
 cases hf:CI.find? (λy=>y.n.toList==s.toList)with
 |none=>rw[hf]at h;exact absurd rfl h
 |some y=>exact⟨List.mem_of_find?_eq_some hf,by simpa using List.find?_some hf⟩
theorem ED(s:ByteArray):(dm s).k=2↔(jx s B'=true\/jx s pz=true\/jx s jW=true):=by
 constructor
 ·intro h
  obtain⟨h1,h2⟩:=Ca (s:=s) (by omega);have:=TH.1 zN _ h1;rw[h2,h]at this;simpa[jx,or_assoc]using this
 ·rintro(h |h |h)
  ·rw[lV (t:=B') (by simpa[jx]using h)];exact nq.1
  ·rw[lV (t:=pz) (by simpa[jx]using h)];exact nq.2.1
  ·rw[lV (t:=jW) (by simpa[jx]using h)];exact nq.2.2
theorem lW:jx B' jW=false/\jx pz jW=false:=⟨by kernel_rfl,by kernel_rfl⟩
theorem Cb(s:ByteArray)(l:List Tm):dO s l=if(dm s).k=2 then HC s l else true:=by
 have hp:=ED s;unfold dO HC
 by_cases h1:jx s B'=true
 ·have:jx s jW=false:=by
   have:=lW.1;unfold jx at this h1 ⊢;rw[beq_iff_eq]at h1;rw[h1];exact this
  rw[if_pos (hp.2 (.inl h1)),h1,this];rfl
 ·by_cases h2:jx s pz=true
  ·have:jx s jW=false:=by
    have:=lW.2;unfold jx at this h2 ⊢;rw[beq_iff_eq]at h2;rw[h2];exact this
   rw[if_pos (hp.2 (.inr (.inl h2))),h2,this];simp
  ·by_cases h3:jx s jW=true
   ·rw[if_pos (hp.2 (.inr (.inr h3))),if_pos h3];simp[h1,h2,h3];rfl
   ·have hq:¬(dm s).k=2:=λh=>by rcases hp.1 h with h |h |h <;>contradiction
    simp[h1,h2,h3,hq]
theorem Cc(k s o l)(hl:l.length<1000000000)(ih:∀t∈l,aW C 241 [enc t] (.int .i64 (jr t))):aW C 241 [enc (.mk k s o l)] (.int .i64 (jr (.mk k s o l))):=by
 have hk:=uE s;have eE:=ax l;have hf:=B9 k s o l hl;have EC:=zM k s o l hl;rw[bL]at hf EC ⊢;refine aW.x T6 Tryz.func241 rfl ?_;refine wD (λhc=>?_) λhc=>?_
 ·refine .p hk ?_;refine wD (λhc=>?_) λhc=>?_;exact⟨_,rfl,by rw[jr,if_neg (by simp[*]),if_pos (by assumption)];rfl⟩
  ·refine .p (hf (by assumption)) ?_
   by_cases NA:(dm s).a<=(l.length:Int)/\(l.length:Int)<=(dm s).b
   ·rw[decide_eq_true NA];have uF:dO s l=true->jr (.mk k s o l)=qj l:=λh=>by rw[jr,if_neg (by simp[*]),if_neg (by assumption),if_neg (by omega),if_neg (by rw[h];simp)]
    have sX:=Cb s l
    have JI:jx s jW=true->l≠[]:=λh hn=>by
     rw[lV (t:=jW) (by simpa[jx]using h),uG,hn]at NA;simp at NA
    refine wD (λhc=>?_) λhc=>?_
    ·refine .p (EC JI) ?_;rw[if_pos (by assumption)]at sX
     cases Ny:HC s l
     ·refine wA ?_;exact⟨_,rfl,by rw[jr,if_neg (by simp[*]),if_neg (by assumption),if_neg (by omega),if_pos (by rw[sX,Ny])];rfl⟩
     ·have uF:=uF (by rw[sX,Ny]);refine wA ?_;refine ie.zip T6 l (λp q L H=>L=[(1,.ptr 0 0 0 0),(4,.int .i64 p.length)]/\HV H/\H[0]?=some ⟨.m,0,4,[.agg [.int .i64 k,.str s,.int .i64 o,.ab false (aj l)]]⟩/\∀u∈p,jr u=0) (.nx ⟨rfl,HV.one (by simp),rfl,λu hu=>by cases hu⟩) ?_ ?_
      ·rintro p u q _ H V e ⟨rfl,hH,h0,hp⟩;have dL:=bA e;have gp:=lenE e;have hi:=ih u (by rw[e];simp);rw[aN]at hi;refine wA ?_;refine .p hi ?_;refine wD (λhc=>?_) λhc=>?_;exact .nx ⟨rfl,hH,h0,λv hv=>by rcases TP.1 hv with h |h;exact hp v h;simp at h;rw[h];assumption⟩;exact⟨_,rfl,by rw[uF,mo e hp (by assumption)];rfl⟩
      ·rintro _ H V ⟨rfl,hH,h0,hp⟩;refine wA ?_;exact⟨_,rfl,by rw[uF,gJ hp];rfl⟩
    ·have uF:=uF (by rw[sX,if_neg (by assumption)]);refine ie.zip T6 l (λp q L H=>L=[(1,.ptr 0 0 0 0),(4,.int .i64 p.length)]/\HV H/\H[0]?=some ⟨.m,0,4,[.agg [.int .i64 k,.str s,.int .i64 o,.ab false (aj l)]]⟩/\∀u∈p,jr u=0) (.nx ⟨rfl,HV.one (by simp),rfl,λu hu=>by cases hu⟩) ?_ ?_
     ·rintro p u q _ H V e ⟨rfl,hH,h0,hp⟩;have dL:=bA e;have gp:=lenE e;have hi:=ih u (by rw[e];simp);rw[aN]at hi;refine wA ?_;refine .p hi ?_;refine wD (λhc=>?_) λhc=>?_;exact .nx ⟨rfl,hH,h0,λv hv=>by rcases TP.1 hv with h |h;exact hp v h;simp at h;rw[h];assumption⟩;exact⟨_,rfl,by rw[uF,mo e hp (by assumption)];rfl⟩
     ·rintro _ H V ⟨rfl,hH,h0,hp⟩;refine wA ?_;exact⟨_,rfl,by rw[uF,gJ hp];rfl⟩
   ·rw[decide_eq_false NA];refine wA ?_;exact⟨_,rfl,by rw[jr,if_neg (by simp[*]),if_neg (by assumption),if_pos (by omega)];rfl⟩
 exact⟨_,rfl,by rw[jr,if_pos (by assumption)];rfl⟩
theorem zO(t:Tm)(hb:aE t<1000000000):aW C 241 [enc t] (.int .i64 (jr t)):=by
 induction t using Tm.ind with
 |h k s o l ih=>
  have:=bq l;simp only[aE]at hb;exact Cc k s o l (by omega) λt ht=>ih t ht (by have:=bF ht;omega)
theorem xU(t:Tm)(hb:aE t<100000000):aW C 188 [enc t] (.int .i64 (xf t)):=by
 have h1:=(zP t (by omega)).nine;have h2:=zO t (by omega);rw[aN]at h1 h2 ⊢;refine aW.x T6 Tryz.func188 rfl ?_;refine wA ?_;refine .p h1 ?_;refine wD (λhc=>?_) λhc=>?_
 ·refine .p h2 ?_;refine wA ?_;exact⟨_,rfl,by unfold xf;rw[if_neg (by omega)];rfl⟩
 exact⟨_,rfl,by unfold xf;rw[if_pos (by assumption)];rfl⟩
theorem te(s:ByteArray):aW C 242 [.str s] (.bool (kz s)):=by
 refine aW.x T6 Tryz.func242 rfl ?_;refine wK (λhc=>?_) (λhc hc=>?_) (λhc hc hc=>?_) (λhc hc hc hc=>?_) (λhc hc hc hc hc=>?_) (λhc hc hc hc hc hc=>?_) λhc hc hc hc hc hc=>?_;exact⟨_,rfl,by unfold kz;rw[jy (n:=EE) (by assumption)];rfl⟩;exact⟨_,rfl,by unfold kz;rw[jy (n:=xV) (by assumption)];simp[aQ]⟩;exact⟨_,rfl,by unfold kz;rw[jy (n:=EF) (by assumption)];simp[aQ]⟩;exact⟨_,rfl,by unfold kz;rw[jy (n:=EG) (by assumption)];simp[aQ]⟩;exact⟨_,rfl,by unfold kz;rw[jy (n:=EH) (by assumption)];simp[aQ]⟩;exact⟨_,rfl,by unfold kz;rw[jy (n:=EI) (by assumption)];simp[aQ]⟩;exact⟨_,rfl,by unfold kz;rw[gy (n:=EE) (by assumption),gy (n:=xV) (by assumption),gy (n:=EF) (by assumption),gy (n:=EG) (by assumption),gy (n:=EH) (by assumption),gy (n:=EI) (by assumption)];rfl⟩
theorem pA(a b:List Tm):dG (a++b)=dG a++dG b:=by
 induction a with
 |nil=>rfl
 |cons t a ih=>simp[dG,ih]
theorem uH:∀{l:List Tm},(∀t∈l,(pre t).length<=aE t)->(dG l).length<=bg l
 |[],_=>by simp[dG,bg]
 |t::l,h=>by
  have h1:=h t (by simp);have h2:=uH (l:=l) λu hu=>h u (by simp[hu])
  simp only[dG,bg,T0];omega
theorem xW(t:Tm):(pre t).length<=aE t:=by
 induction t using Tm.ind with
 |h k n o l ih=>
  have:=uH ih;simp only[pre,aE,T2];omega
theorem EJ{k s o l}(hb:aE (.mk k s o l)<100000000):(dG l).length<100000000:=by
 have:=xW (.mk k s o l);simp only[pre,T2]at this;omega
@[simp] theorem pB(l:List Tm):dw 4 (aj l):=by
 unfold dw;rw[TH]
 intro v hv
 rw[cQ]at hv;obtain⟨t,_,rfl⟩:=U1.1 hv;rw[aN];rfl
theorem du(a b:List Tm):aj (a++b)=aj a++aj b:=by rw[cQ,cQ,cQ,VK]
theorem pV{p:ByteArray->Bool}:∀{l:List Tm},(∀t∈l,every p t=(pre t).all λu=>decide (u.k≠3)||p u.s)->ij p l=(dG l).all λu=>decide (u.k≠3)||p u.s
 |[],_=>rfl
 |t::l,h=>by
  rw[ij,dG,VO,h t (by simp),pV λu hu=>h u (by simp[hu])]
theorem zQ{p:ByteArray->Bool}(t:Tm):every p t=(pre t).all λu=>decide (u.k≠3)||p u.s:=by
 induction t using Tm.ind with
 |h k n o l ih=>
  rw[every,pre,U6,pV ih]
  rfl
theorem JP(k s o l)(hb:aE (.mk k s o l)<100000000)(ih:∀t∈l,aW C 168 [enc t] (.ab false (aj (pre t)))):aW C 168 [enc (.mk k s o l)] (.ab false (aj (pre (.mk k s o l)))):=by
 have eE:=ax l;rw[bL];have qA:=EJ hb;have Ii:bg l<100000000:=by simp only[aE]at hb;omega
 have yQ:=bq l;have one:∀u:Tm,aj [u]=[.agg [.int .i64 u.k,.str u.s,.int .i64 u.o,.ab false (aj u.l)]]:=λu=>by rw[aj,<-aN];rfl
 refine aW.x T6 Tryz.func168 rfl ?_;refine wA ?_;refine ie.zip T6 l (λp q L H=>∃v,L=[(1,.ptr 0 0 0 0),(3,v),(4,.int .i64 p.length)]/\HV H/\H[0]?=some ⟨.m,0,4,[.agg [.int .i64 k,.str s,.int .i64 o,.ab false (aj l)]]⟩/\((p=[]/\v=.ab true (aj [.mk k s o l])/\H=[⟨.m,0,4,[.agg [.int .i64 k,.str s,.int .i64 o,.ab false (aj l)]]⟩])\/(Out 4 H v (aj (.mk k s o l::dG p))/\∀ep n,v≠.an 0 ep 0 n))) (.nx ⟨_,rfl,HV.one (by simp),rfl,.inl ⟨rfl,by rw[one],rfl⟩⟩) ?_ ?_
 ·rintro p u q _ H V e ⟨v,rfl,hH,h0,ho⟩;have dL:=bA e;have gp:=lenE e;have hi:=ih u (by rw[e];simp);rw[aN]at hi;have Sx:dG l=dG p++(pre u++dG q):=by rw[e,pA];simp[dG]
  have Ks:=congrArg List.length Sx;simp only[T0]at Ks;have aU:(aj (pre u)).isEmpty=false:=by cases u;rfl
  have h9:dw 4 (aj (pre u)):=pB _;have hle:=ax (pre u);have yA:dG (p++[u])=dG p++pre u:=by rw[pA];simp[dG]
  refine wA ?_;refine .p hi ?_;rcases ho with⟨rfl,rfl,rfl⟩|⟨ho,yh⟩
  ·refine wA ?_;refine .sn ?_ aU (by rw[ax];simp;omega) rfl h9 (pB _);refine wA ?_;have hv:∀(ep n:Nat) (m:Nat),(PV.an 1 0 0 m:PV)≠.an 0 ep 0 n:=λep n m h=>by cases h
   have e1:aj [Tm.mk k s o l]++aj (pre u)=aj (Tm.mk k s o l::dG ([]++[u])):=by rw[yA,<-du];simp[dG]
   have e2:(aj [Tm.mk k s o l]).length+(aj (pre u)).length=(Tm.mk k s o l::dG ([]++[u])).length:=by rw[yA,ax,ax];simp[dG];omega
   refine .nx ⟨_,rfl,HV.zR (by simp) (by simp),rfl,.inr ⟨.inr ⟨1,0,?_,?_⟩,?_⟩⟩;rw[e2,<-ax];rfl;rw[<-e1];rfl;exact λep n=>hv ep n _
  ·have ud:=ax (Tm.mk k s o l::dG p);simp only[T2]at ud;refine wG λv H lp=>?_;obtain⟨k1,k2⟩:=lp.obj h0 yh;exact .nx ⟨_,rfl,lp.hv,k1,.inr ⟨by have:=lp.out;rw[<-du]at this;simpa[yA]using this,k2⟩⟩
 ·rintro _ H V ⟨v,rfl,hH,h0,ho⟩;refine wA ?_;rcases ho with⟨rfl,rfl,rfl⟩|⟨ho,_⟩;exact⟨_,rfl,by simp[aQ,cJ,pre,dG]⟩;exact Ls.MJ (.inl ho) (by simp) (by simp[pre])
theorem xX(t:Tm)(hb:aE t<100000000):aW C 168 [enc t] (.ab false (aj (pre t))):=by
 induction t using Tm.ind with
 |h k s o l ih=>
  refine JP k s o l hb λt ht=>ih t ht ?_;have:=bF ht;simp only[aE]at hb;omega
theorem JQ{l p q:List Tm}{u:Tm}{f:Tm->Bool}(e:l=p++u::q)(hu:f u=false):l.all f=false:=by rw[e];simp[hu]
theorem EK(t:Tm):iv t=(decide (xf t=0)&& (pre t).all λu=>decide (u.k≠3)||ym u.s):=by rw[iv,zQ]
theorem zS(t:Tm)(hb:aE t<100000000):aW C 189 [enc t] (.bool (iv t)):=by
 have h1:=xU t hb;have h2:=xX t hb;have hf:=EK t;have eE:=ax (pre t);have qA:=xW t;rw[aN]at h1 h2 ⊢;refine aW.x T6 Tryz.func189 rfl ?_;refine wA ?_;refine .p h1 ?_;refine wD (λhc=>?_) λhc=>?_
 ·have hf:iv t=(pre t).all λu=>decide (u.k≠3)||ym u.s:=by rw[hf];simp[*]
  refine .p h2 ?_;refine wA ?_;refine ie.zip T6 (pre t) (λp q L H=>L=[(3,.ab false (aj (pre t))),(4,.int .i64 p.length)]/\HV H/\∀u∈p,(decide (u.k≠3)||ym u.s)=true) (.nx ⟨rfl,HV.one (by simp),λu hu=>by cases hu⟩) ?_ ?_
  ·rintro p u q _ H V e ⟨rfl,hH,hp⟩;have dL:=bA e;have gp:=lenE e;have ha:=te u.s;have hk:=uE u.s;have wP:(decide (u.k≠3)||ym u.s)=false->iv t=false:=λh=>by rw[hf];exact JQ e h
   have Mq:(decide (u.k≠3)||ym u.s)=true->∀v∈p++[u],(decide (v.k≠3)||ym v.s)=true:=λh v hv=>by
    rcases TP.1 hv with h1 |h1;exact hp v h1;simp at h1;rw[h1];exact h
   refine wD (λhc=>?_) λhc=>?_
   ·refine .p ha ?_
    cases Fj:kz u.s
    ·refine wA ?_;refine .p hk ?_;refine wD (λhc=>?_) λhc=>?_;exact⟨_,rfl,by rw[wP (by simp[ym, *])];rfl⟩;exact .nx ⟨rfl,hH,Mq (by simp[ym, *])⟩
    ·refine wA ?_;exact⟨_,rfl,by rw[wP (by simp[ym, *])];rfl⟩
   exact .nx ⟨rfl,hH,Mq (by simp[*])⟩
  ·rintro _ H V ⟨rfl,hH,hp⟩;have ha:iv t=true:=by rw[hf,TH];exact hp
   refine wA ?_;exact⟨_,rfl,by rw[ha];rfl⟩
 exact⟨_,rfl,by rw[hf];simp[aQ, *]⟩
end bu
open Go.Proofs
def atR(r:List Int)(c:Nat):Int:=r.getD c 0
structure P5 where
 d:Nat
 s:Nat
 a:List Int
 b:List Int
def P5.v(x:P5):PV:=.agg [.an x.d 0 0 x.a.length,.an x.s 0 0 x.b.length]
end Go.Pm
namespace Go.Pm
abbrev Row:=List Int×Bool
def qg(c:Nat)(R:Row):Bool:=!R.2&&decide (atR R.1 c≠0)
def IJ(c:Nat)(S:List Row):Nat:=(S.filter (qg c)).length
structure Gb(c:Nat)(S:List Row)(bi:Nat)(b:List Int):Prop where
 at_:S[bi]?=some (b,false)
 nz:atR b c≠0
 min:∀(i:Nat) (R:Row),S[i]?=some R->qg c R=true->(atR b c).natAbs<=(atR R.1 c).natAbs
 fst:∀(i:Nat) (R:Row),S[i]?=some R->qg c R=true->i<bi->(atR b c).natAbs<(atR R.1 c).natAbs
open Go.Proofs
set_option maxRecDepth 4000
structure Rw where
 r:Nat
 p:Nat
 c:Nat
 a:List Int
 b:List Int
 u:Bool
def Rw.m(R:Rw):Row:=(R.a++R.b,R.u)
def Rw.ids(R:Rw):List Nat:=[R.r,R.p,R.c]
def Rw.ptr(R:Rw):PV:=.ptr R.r 0 0 0
structure II(h:aa)(R:Rw):Prop where
 er:h[R.r]?=some ⟨.m,0,3,[.agg [.an R.p 0 0 R.a.length,.an R.c 0 0 R.b.length,.bool R.u]]⟩
 ea:h[R.p]?=some ⟨.m,0,1,kF R.a⟩
 eb:h[R.c]?=some ⟨.m,0,1,kF R.b⟩
def fx:PV->List Nat
 | .an i _ _ _=>[i]
 |_=>[]
structure Lay(h:aa)(x:Nat)(cv rv pv:PV)(n k:Nat)(Rs:List Rw)(P:List Int)(lg:Bool):Prop where
 hr:HR h
 ex:h[x]?=some ⟨.m,0,4,[.agg [cv,rv,pv,.bool lg]]⟩
 er:Out 1 h rv (Rs.map Rw.ptr)
 ep:Out 1 h pv (kF P)
 at_:∀R∈Rs,II h R/\R.a.length=n/\R.b.length=k
 nd:(x::(fx rv++(fx pv++Rs.flatMap Rw.ids))).Nodup
theorem y9{n:Nat}:∀{p:PV},eW n p=true->br (λi=>decide (i<n)) p=true:=by
 have one:∀{p:PV},iH n p=true->br (λi=>decide (i<n)) p=true:=by
  intro p h
  unfold iH at h
  split at h
  simpa[br]using h;simpa[br]using h;exact vo _ _ h
 intro p h
 unfold eW at h
 split at h
 ·rename_i cs
  rw[br,jU,TH];exact λc hc=>one (TH.1 h c hc)
 exact one h
theorem HR.take{h:aa}(H:HR h){n:Nat}(hn:n<=h.length)(hb:((h.take n).all λo=>o.es.all (eW n))=true):HR (h.take n):=by
 intro o ho
 refine⟨(H o (Un ho)).1,?_⟩;rw[UF,Vc hn,jU,TH];exact λp hp=>y9 (TH.1 (TH.1 hb o ho) p hp)
theorem ai.sm{C:bZ}{f:FuncId}{args:List PV}{H:aa}{P Q:PV->aa->Prop}(a:aD C f args H P)(hl:∀r h',P r h'->HR h'/\H.length<=h'.length)(q1:∀r h',P r h'->Q r h')(q2:∀r h',P r h'->HR (h'.take H.length)->Q r (h'.take H.length))(hm:C.mode f=.opened:=by rfl):ai C 2 f args H Q:=by
 refine ai.opened hm (a.mono λr k hr=>?_)
 split
 ·rename_i hc
  rw[TK]at hc;obtain⟨h1,h2⟩:=hl r k hr;exact q2 r k hr (h1.take h2 hc.2)
 exact q1 r k hr
theorem Out.of_eq{sz:Nat}{h h':aa}{v:PV}{es:List PV}(o:Out sz h v es)(he:∀i∈fx v,h'[i]?=h[i]?):Out sz h' v es:=by
 rcases o with o |⟨id,ep,rfl,e⟩;exact .inl o;exact .inr ⟨id,ep,rfl,by rw[he id (by simp[fx])];exact e⟩
def Lay.all(x:Nat)(rv pv:PV)(Rs:List Rw):List Nat:=x::(fx rv++(fx pv++Rs.flatMap Rw.ids))
theorem Out.Lz{sz:Nat}{h:aa}{v:PV}{es:List PV}(o:Out sz h v es):∀i∈fx v,i<h.length:=by
 rcases o with⟨rfl,_⟩|⟨id,ep,rfl,e⟩;simp[fx]
 intro i hi;simp[fx]at hi;subst hi;exact ae e
theorem II.lt{h:aa}{R:Rw}(a:II h R):∀i∈R.ids,i<h.length:=by
 intro i hi
 simp only[Rw.ids,TW,VE,or_false]at hi;rcases hi with rfl |rfl |rfl;exact ae a.er;exact ae a.ea;exact ae a.eb
theorem Lay.lt{h:aa}{x:Nat}{cv rv pv:PV}{n k:Nat}{Rs:List Rw}{P:List Int}{lg:Bool}(L:Lay h x cv rv pv n k Rs P lg):∀i∈Lay.all x rv pv Rs,i<h.length:=by
 intro i hi
 simp only[Lay.all,TW,TP,UY]at hi;rcases hi with rfl |hi |hi |⟨R,hR,hi⟩;exact ae L.ex;exact L.er.Lz i hi;exact L.ep.Lz i hi;exact(L.at_ R hR).1.lt i hi
theorem DH(c:Nat)(p:List Row)(R:Row):IJ c (p++[R])=IJ c p+if qg c R=true then 1 else 0:=by
 unfold IJ;rw[List.filter_append,T0]
 congr 1
 by_cases h:qg c R=true <;>simp[h]
theorem DI{c:Nat}{S:List Row}(h:IJ c S=0):∀R∈S,qg c R=false:=by
 unfold IJ at h
 intro R hR
 cases hc:qg c R with
 |false=>rfl
 |true=>
  have:R∈S.filter (qg c):=Vs.2 ⟨hR,hc⟩;rw[T3 h]at this
  cases this
def Ow(c:Nat)(p:List Row)(best count:Int):Prop:=count=(IJ c p:Nat)/\((IJ c p=0/\best=-1)\/∃(bi:Nat) (b:List Int),best=bi/\Gb c p bi b)
theorem xh{p:List Row}{R Q:Row}{i:Nat}(h:(p++[R])[i]?=some Q):p[i]?=some Q\/(i=p.length/\Q=R):=by
 rcases VA i p.length with h1 |h1 |h1;rw[TG h1]at h;exact .inl h;subst h1;simp at h;exact .inr ⟨rfl,h.symm⟩;rw[TZ (by simp;omega)]at h;cases h
theorem Gb.new{c:Nat}{p:List Row}{b:List Int}(hc:qg c (b,false)=true)(h:∀Q∈p,qg c Q=true->(atR b c).natAbs<(atR Q.1 c).natAbs):Gb c (p++[(b,false)]) p.length b where
 at_:=by simp
 nz:=by simpa[qg]using hc
 min i Q hQ Ox:=by
  rcases xh hQ with h1 |⟨rfl,rfl⟩;exact Nat.le_of_lt (h Q (TU h1) Ox);exact TI _
 fst i Q hQ Ox hi:=by
  rcases xh hQ with h1 |⟨rfl,rfl⟩;exact h Q (TU h1) Ox;omega
theorem Ow.first{c:Nat}{p:List Row}{count:Int}{b:List Int}(h:Ow c p (-1) count)(hR:qg c (b,false)=true):Ow c (p++[(b,false)]) p.length (count+1):=by
 obtain⟨h1,h2⟩:=h;rcases h2 with⟨a,_⟩|⟨bi,_,e,_⟩
 ·refine⟨by rw[DH,hR,if_pos rfl];omega,.inr ⟨_,b,rfl,Gb.new hR λQ hQ hc=>?_⟩⟩;rw[DI a Q hQ]at hc;cases hc
 omega
structure Rf where
 i:Nat
 e:Nat
 r:List Int
 u:Bool
def Rf.v(z:Rf):PV:=.an z.i z.e 0 z.r.length
def Rf.m(z:Rf):Row:=(z.r,z.u)
def Rf.b(z:Rf):PV:=.bool z.u
def AF(l:List Nat):List PV:=l.map λ(i:Nat)=>.int .i64 i
@[simp] theorem Kr(l:List Nat):(AF l).length=l.length:=by simp[AF]
@[simp] theorem IK(l:List Nat):au (AF l)=true:=by induction l with |nil=>rfl |cons x l ih=>simpa[AF]using ih
structure RL(h:aa)(rv:PV)(iu eu w:Nat)(Z:List Rf):Prop where
 hr:HR h
 er:Out 1 h rv (Z.map Rf.v)
 eu:h[iu]?=some ⟨.m,eu,1,Z.map Rf.b⟩
 at_:∀z∈Z,h[z.i]?=some ⟨.m,z.e,1,kF z.r⟩/\z.r.length=w
theorem Out.aZ{sz:Nat}{h:aa}{v:PV}{es:List PV}(o:Out sz h v es):Pm.aZ v=true/\Pm.cells v=[v]:=by
 rcases o with⟨rfl,_⟩|⟨id,ep,rfl,_⟩ <;>exact⟨rfl,rfl⟩
theorem Out.br{sz:Nat}{h:aa}{v:PV}{es:List PV}(o:Out sz h v es):Pm.br (λi=>decide (i<h.length)) v=true:=by
 rcases o with⟨rfl,_⟩|⟨id,ep,rfl,e⟩
 rfl
 have:=ae e;simpa[Pm.br]using this
structure TB(H h:aa)(r6 iu w:Nat)(IL:List Tm)(rv pv:PV)(Z:List Rf)(P:List Int):Prop where
 rl:RL h rv iu 0 w Z
 fr:∀j,j<H.length->h[j]?=H[j]?
 z0:h[H.length]?=some ⟨.m,0,3,[.agg [.ab true [],.ab true [],.ab true []]]⟩
 ex:h[r6]?=some ⟨.m,0,3,[.agg [.ab false (aj IL),rv,pv]]⟩
 ep:Out 1 h pv (kF P)
 gt:∀i∈iu::(fx rv++fx pv),r6<i
 nd:(iu::(fx rv++fx pv)).Nodup
 zi:∀z∈Z,z.i∉iu::(fx rv++fx pv)/\r6<z.i
 h6:H.length<r6
theorem TB.lt{H h:aa}{r6 iu w:Nat}{IL:List Tm}{rv pv:PV}{Z:List Rf}{P:List Int}(t:TB H h r6 iu w IL rv pv Z P):∀i∈iu::(fx rv++fx pv),i<h.length:=by
 intro i hi
 simp only[TW,TP]at hi;rcases hi with rfl |hi |hi;exact ae t.rl.eu;exact t.rl.er.Lz i hi;exact t.ep.Lz i hi
theorem LR.fx{H h':aa}{v r:PV}{sz:Nat}{es:List PV}(l:LR H v sz es r h'):∀i∈Pm.fx r,i∈Pm.fx v\/H.length<=i:=by
 rcases l.out with⟨rfl,_⟩|⟨id,ep,rfl,_⟩
 intro i hi;simp[Pm.fx]at hi
 ·intro i hi
  simp only[Pm.fx,Ua]at hi;subst hi;rcases l.ref i ep _ rfl with⟨hY,n',h⟩|h;exact .inl (by rw[h];simp[Pm.fx]);exact .inr h
end Go.Pm
namespace Go.Pm
set_option maxRecDepth 4000
theorem tO(ids:List Nat)(h:aa)(i:Nat):(dj ids h)[i]?=(h[i]?).map λo=>if ids.contains i then bB o else o:=by
 simp[dj,TS,Vk,VT,Function.comp_def]
theorem tP(ids:List Nat)(h h':aa)(i:Nat):(eB ids h h')[i]?=(h'[i]?).map λo=>if ids.contains i then(match h[i]? with |some o'=>o'|none=>o)else o:=by
 simp[eB,TS,Vk,VT,Function.comp_def]
 rfl
theorem wW{k k':aa}(hl:k.length<=k'.length)(hk:∀(j:Nat) (o:aC),k[j]?=some o->o.mu≠.m->k'[j]?=some o):jL k k'=k':=by
 apply Uw
 intro i
 unfold jL;have hz:(List.zipWith (λo o'=>if o.mu=.m then o' else o) k k').length=k.length:=by simp;omega
 by_cases hi:i<k.length
 ·rw[TG (by omega),U4];have e1:k[i]?=some k[i]:=TJ hi;have e2:k'[i]?=some k'[i]:=TJ (by omega);have:=hk i _ e1;rw[e1,e2];rw[e2]at this
  by_cases hm:k[i].mu=.m
  simp[hm];simp[hm,TF (this hm)]
 ·rw[TQ (by omega),hz,T9]
  congr 1;omega
theorem tQ{ids:List Nat}{h k:aa}(hk:∀(j:Nat) (o:aC),k[j]?=some o->o.mu≠.l\/(ids.contains j=true/\j<h.length)\/h[j]?=some o):ov ids h k=true:=by
 unfold ov;rw[TH];rintro⟨o,j⟩ hm;have hg:=List.mem_zipIdx_iff_getElem?.1 hm;rcases hk j o hg with h1 |⟨h1,h2⟩|h1;simp[h1];simp[List.contains_iff_mem.1 h1,h2]
 ·by_cases hl:o.mu=.l
  ·simp[h1,hl]
  ·simp[hl]
section
variable{C:bZ}{run:gw}{ops:Array Oper}{b:List Nat}{h0:aa}{i:Nat}{L:Al}{V:Nat->PV}{h:aa}
theorem Nl{d:Nat}{op:Op}{v:PV}{y:TypeId}{s:String}{a:Array Edge}(hh:cw op=true)(hr:eU op=true)(hg:jA ops b h0 i (al L V) op=true)(e:aw C.P 1 op (al L V) h=some (v,h)):
  b8 C run ops b h0 i ⟨some d,op,y,s,a,none⟩ ⟨al L V,h⟩=some ⟨al ((d,v)::L) V,h⟩:=by
 unfold b8;simp only[aK,hh,hr,hg,e,if_true,Uk,if_false,bd]
theorem PQ{d:Nat}{op:Op}{v:PV}{y:TypeId}{s:String}{a:Array Edge}(hh:cw op=true)(hr:eU op=false)(hb:gz op=true)(e:aw C.P 1 op (al L V) h=some (v,h)):
  b8 C run ops b h0 i ⟨some d,op,y,s,a,none⟩ ⟨al L V,h⟩=some ⟨al ((d,v)::L) V,h⟩:=by
 unfold b8;simp only[aK,hh,hr,hb,e,if_true,Uk,TR,if_false,bd]
theorem Nn{d:Nat}{op:Op}{v:PV}{h':aa}{y:TypeId}{s:String}{a:Array Edge}(hh:cw op=true)(hr:eU op=false)(hb:gz op=false)(hl:fR ops b i false=true)(e:ak C run 2 op (al L V) h=some (v,h'))(hle:h.length<=h'.length)(hk:∀(j:Nat) (o:aC),h[j]?=some o->o.mu≠.m->h'[j]?=some o):
  b8 C run ops b h0 i ⟨some d,op,y,s,a,none⟩ ⟨al L V,h⟩=some ⟨al ((d,v)::L) V,h'⟩:=by
 unfold b8;simp only[aK,hh,hr,hb,hl,e,hle,if_true,Uk,TR,if_false,bd,wW hle hk]
theorem PR{op:Op}{v:PV}{h':aa}{y:TypeId}{s:String}{a:Array Edge}(hh:cw op=true)(hr:eU op=false)(hb:gz op=false)(hl:fR ops b i false=true)(e:ak C run 2 op (al L V) h=some (v,h'))(hle:h.length<=h'.length)(hk:∀(j:Nat) (o:aC),h[j]?=some o->o.mu≠.m->h'[j]?=some o):
  b8 C run ops b h0 i ⟨none,op,y,s,a,none⟩ ⟨al L V,h⟩=some ⟨al L V,h'⟩:=by
 unfold b8;simp only[aK,hh,hr,hb,hl,e,hle,if_true,Uk,TR,if_false,bh,wW hle hk]
end
theorem Dd{C:bZ}(T:kM C.P){ops:Array Oper}{L:Al}{H:aa}{d0 d1 d2 d3 d4 d5 p q ip iU:Nat}{tl el:TypeId}{c:Operand}{z v:PV}{us es:List PV}
  {y0 y1 y2 y3 y4 y5 y6 y7:TypeId} {s0 s1 s2 s3 s4 s5 s6 s7:String} {a0 a1 a2 a3 a4 a5 a6 a7:Array Edge}
  (h2:H[ip]?=some ⟨.m,0,1,[v]⟩) (ho:Out 4 H v es) (hv:∀i∈fx v,i≠ip) (hn:es.length<100000000) (No:us.length=4) (N6:us.all aZ=true)
  (hp:lk L p=some (.ptr ip 0 0 0)) (hq:lk L q=some (.ptr H.length 0 0 0)) (hd:[p,q,d0,d1,d2,d3,d4,d5].Nodup)
  (De:∀V,fo ops (before ops) (al L V)=[H.length])
  (Bm:ops.toList=[⟨some d0,.load tl (.tmp p),y0,s0,a0,none⟩,⟨some d1,.load el (.tmp q),y1,s1,a1,none⟩,⟨some d2,.call ⟨.builtin .len,#[.tmp d0],#[tl]⟩,y2,s2,a2,none⟩,
   ⟨some d3,.buildSlice tl 1 #[(0,c)],y3,s3,a3,none⟩,⟨some d4,.call ⟨.builtin .append,#[.tmp d0,.tmp d3],#[tl,tl]⟩,y4,s4,a4,none⟩,⟨some d5,.indexAddr tl (.tmp d4) (.tmp d2),y5,s5,a5,none⟩,
   ⟨none,.store el (.tmp d5) (.tmp d1),y6,s6,a6,none⟩,⟨none,.store tl (.tmp p) (.tmp d4),y7,s7,a7,none⟩])
  (Im:iI ops (before ops) 0=true) (N7:iI ops (before ops) 5=true) (vg:sinks ops (before ops)=some (.tmp d5,.tmp p))
  (c06:mN (before ops) 0 (ops.size - 2)=true) (c07:mN (before ops) 0 (ops.size - 1)=true) (c56:mN (before ops) 5 (ops.size - 2)=true)
  (gp:fR ops (before ops) 2 false=true) (Hn:fR ops (before ops) 4 false=true) (N8:fR ops (before ops) 6 false=true) (N9:fR ops (before ops) 7 false=true)
  (hk:T.kd tl=some (.sl el)) (hs:T.ts el=some 4) (ha:T.ta el=some true) (Fk:T.ts tl=some 1) (Lg:T.ta tl=some false) (hb:T.tb el=some iU) (fS:iU<=1000) (hz:T.tz el=some z) (Io:(cells z).length=4) (Kl:(cells z).all aZ=true)
  (Fi:∀(V:Nat->PV) (h:aa),cu C.P 1 h tl 1 [(0,ev V c)]=some (.ab true [z],h)):
  ∃id ep,∃h':aa,(∀run V,gR C run ops ⟨al L V,H++[⟨.m,0,4,[.agg us]⟩]⟩=some ⟨al ([(d5,.ptr id ep es.length 0),(d4,.an id ep 0 (es.length+1)),(d3,.ab true [z]),(d2,.int .i64 es.length),(d1,.agg us),(d0,v)]++L) V,h'⟩)/\
   H.length+1<=h'.length/\id≠ip/\id≠H.length/\(id∈fx v\/H.length<id)/\h'[id]?=some ⟨.m,ep,4,es++[.agg us]⟩/\h'[ip]?=some ⟨.m,0,1,[.an id ep 0 (es.length+1)]⟩/\
   ∀j,j≠id->j≠ip->h'[j]?=(H++[⟨.m,0,4,[.agg us]⟩])[j]?:=by
 have PS:=ae h2;simp only[List.nodup_cons,TW,VE,or_false,not_or,not_false_eq_true,List.nodup_nil,and_true]at hd;obtain⟨⟨e1,e2,e3,e4,e5,e6,e7⟩,⟨f2,f3,f4,f5,f6,f7⟩,⟨g3,g4,g5,g6,g7⟩,⟨i4,i5,i6,i7⟩,⟨j5,j6,j7⟩,⟨m6,m7⟩,l7⟩:=hd;have ap:∀V,al L V p=.ptr ip 0 0 0:=cC hp;have aq:∀V,al L V q=.ptr H.length 0 0 0:=cC hq;have N':=ho.aZ
 let lb:aC:=⟨.l,0,4,[.agg us]⟩
 have Lh:dj [H.length] (H++[⟨.m,0,4,[.agg us]⟩])=H++[lb]:=by
  apply Uw
  intro i
  rw[tO]
  by_cases hi:i<H.length
  ·rw[TG hi,TG hi];have:([H.length].contains i)=false:=by simp;omega
   simp only[this,TR,if_false,Option.map_id']
  ·rw[TQ (by omega),TQ (by omega)]
   by_cases h0:i=H.length
   subst h0;simp[bB,lb]
   ·have:i - H.length≠0:=by omega
    obtain⟨m,hm⟩:∃m,i - H.length=m+1:=⟨i - H.length - 1,by omega⟩;rw[hm];simp
 obtain⟨id,ep,k4,sS,Np,Oa,Ip,Li,Ob,Iq,Oc⟩:∃id ep,∃k4:aa,cg C.P 2 (H++[lb]) tl tl v (.ab true [z])=some (.an id ep 0 (es.length+1),k4)/\k4[id]?=some ⟨.m,ep,4,es++[z]⟩/\(H++[lb]).length<=k4.length/\id≠ip/\id≠H.length/\(id∈fx v\/H.length<id)/\(∀j,j≠id->k4[j]?=(H++[lb])[j]?)/\∀o,(H++[lb])[id]?=some o->o.mu=.m:=by
  have h9:dw (3+1) [z]:=by simp[dw,Io,TH.1 Kl];exact λx hx=>TH.1 Kl x hx
  rcases ho with⟨rfl,rfl⟩|⟨id,ep,rfl,bE⟩
  ·refine⟨_,_,_,fH T (lv:=2) (by omega) hk hk hs hb hz fS Io Kl h9 rfl (by simp),?_,?_,?_,?_,?_,?_,?_⟩
   ·simp
   ·simp
   ·simp;omega
   ·simp
   ·right;simp
   ·intro j hj
    by_cases qd:j<(H++[lb]).length
    rw[TG qd];rw[TZ (by simp at hj qd ⊢;omega),TZ (by omega)]
   ·intro o h;rw[TZ (by omega)]at h;cases h
  ·have cx:=ae bE;have rk:(H++[lb])[id]?=some ⟨.m,ep,4,es⟩:=by rw[TG cx];exact bE
   have:=iB T (h:=H++[lb]) (full:=true) (len:=es.length) (ys:=[z]) hk hk hs hb hz fS Io Kl h9 rfl (by simp;omega) (bo rk rfl (by simp)) rfl rfl (TI _);refine⟨id,ep+1,_,this,?_,?_,?_,?_,?_,?_,?_⟩;rw[TM (by simp;omega)];simp;simp;exact hv id (by simp[fx]);omega
   ·left;simp[fx]
   intro j hj;rw[TN (by omega)]
   intro o h;rw[rk]at h;cases h;rfl
 have Od:=ae Np;have Lj:k4[ip]?=some ⟨.m,0,1,[v]⟩:=by rw[Iq ip (by omega),TG PS];exact h2
 let k6:aa:=k4.set id ⟨.m,ep,4,es++[.agg us]⟩
 let k7:aa:=k6.set ip ⟨.m,0,1,[.an id ep 0 (es.length+1)]⟩
 have Oe:∀j,j≠id->j≠ip->k7[j]?=(H++[lb])[j]?:=λj h1 h2=>by
  show((k4.set id _).set ip _)[j]?=_;rw[TN (by omega),TN (by omega),Iq j h1]
 have Lk:k6[ip]?=some ⟨.m,0,1,[v]⟩:=by rw[TN (by omega)];exact Lj
 have Ll:k7[ip]?=some ⟨.m,0,1,[.an id ep 0 (es.length+1)]⟩:=TM (by show ip<(k4.set id _).length;rw[List.length_set];exact ae Lj);have Lm:k7[id]?=some ⟨.m,ep,4,es++[.agg us]⟩:=by rw[TN (by omega)];exact TM Od
 have PT:k7.length=k4.length:=by simp[k7,k6]
 have wX:(H++[lb]).length=H.length+1:=by simp
 have Df:(H++[lb])[H.length]?=some lb:=by simp
 have Ro:∀(j:Nat) (o:aC),(H++[lb])[j]?=some o->o.mu≠.m->k4[j]?=some o:=λj o h hm=>by
  by_cases hj:j=id
  subst hj;exact absurd (Oc o h) hm;rw[Iq j hj];exact h
 have Rp:∀(j:Nat) (o:aC),k4[j]?=some o->o.mu≠.m->k6[j]?=some o:=λj o h hm=>by
  by_cases hj:j=id
  subst hj;rw[Np]at h;cases h;exact absurd rfl hm;rw[TN (by omega)];exact h
 have Rq:∀(j:Nat) (o:aC),k6[j]?=some o->o.mu≠.m->k7[j]?=some o:=λj o h hm=>by
  by_cases hj:j=ip
  subst hj;rw[Lk]at h;cases h;exact absurd rfl hm;rw[TN (by omega)];exact h
 have wP:ov [H.length] (H++[⟨.m,0,4,[.agg us]⟩]) k7=true:=tQ λj o h=>by
  by_cases hj:j=id
  subst hj;rw[Lm]at h;cases h;exact .inl (by simp)
  by_cases qd:j=ip
  subst qd;rw[Ll]at h;cases h;exact .inl (by simp)
  by_cases Ln:j=H.length
  exact .inr (.inl ⟨by simp[Ln],by simp;omega⟩);rw[Oe j hj qd]at h;have cx:=ae h;rw[wX]at cx;rw[TG (by omega)]at h;exact .inr (.inr (by rw[TG (by omega)];exact h))
 have ls:∀j,(eB [H.length] (H++[⟨.m,0,4,[.agg us]⟩]) k7)[j]?=if j=H.length then some ⟨.m,0,4,[.agg us]⟩else k7[j]?:=λj=>by
  rw[tP]
  by_cases hj:j=H.length
  ·subst hj;rw[Oe _ (by omega) (by omega),Df,if_pos rfl];simp
  ·rw[if_neg hj];have:([H.length].contains j)=false:=by simp;omega
   simp only[this,TR,if_false,Option.map_id']
 refine⟨id,ep,eB [H.length] (H++[⟨.m,0,4,[.agg us]⟩]) k7,λrun V=>?_,?_,Ip,Li,Ob,?_,?_,?_⟩
 rotate_left
 ·have:(eB [H.length] (H++[⟨.m,0,4,[.agg us]⟩]) k7).length=k7.length:=by simp[eB]
  omega
 rw[ls,if_neg Li];exact Lm;rw[ls,if_neg (by omega)];exact Ll
 ·intro j h1 h2
  rw[ls]
  by_cases hj:j=H.length
  subst hj;rw[if_pos rfl];simp
  ·rw[if_neg hj,Oe j h1 h2]
   by_cases qd:j<H.length
   rw[TG qd,TG qd];rw[TZ (by simp;omega),TZ (by simp;omega)]
 unfold gR;rw[De,Lh,Bm];dsimp only
 have pc:∀{h:aa} {i:Nat} {mm:Mu} {e' n:Nat} {xs:List PV} {x:PV},h[i]?=some ⟨mm,e',n,xs⟩->mm≠.x->xs[0]?=some x->cV h (.ptr i e' 0 0)=some (cells x):=λ{h i mm e' n xs x} q1 q2 q3=>by
  simp[cV,getM,q1,q2,q3]
 have L0:fC C.P (H++[lb]) tl (.ptr ip 0 0 0)=some v:=by
  refine nH T ?_;have:cV (H++[lb]) (.ptr ip 0 0 0)=some (cells v):=pc (mm:=.m) (by rw[TG PS];exact h2) (by simp) rfl;rw[N'.2]at this;simp only[loadT,Fk,Lg,this]
 have L1:fC C.P (H++[lb]) el (.ptr H.length 0 0 0)=some (.agg us):=by
  refine nH T ?_;have:cV (H++[lb]) (.ptr H.length 0 0 0)=some us:=pc (mm:=.l) (x:=.agg us) Df (by simp) rfl;simp only[loadT,hs,ha,this];rw[if_pos (by rw[No];rfl),Ub (by omega)]
 have L2:mL C.P (H++[lb]) tl v=some (.int .i64 es.length):=by
  rcases ho with⟨rfl,rfl⟩|⟨id,ep,rfl,bE⟩;simp only[mL,aY (T.cI _ _ hk)]
  ·have rk:(H++[lb])[id]?=some ⟨.m,ep,4,es⟩:=by rw[TG (ae bE)];exact bE
   simp only[mL,aY (T.cI _ _ hk),bo rk rfl (by simp)];rw[if_pos (by show 0+es.length<=es.length;omega)]
 have L5:bT C.P k4 tl (.an id ep 0 (es.length+1)) (.int .i64 es.length)=some (.ptr id ep es.length 0):=by
  simp only[bT,aY (T.cI _ _ hk),T.dF _ _ hs,bo Np rfl (by simp)];rw[if_pos ⟨by omega,by omega,trivial,by simp⟩];simp
 have L6:fq C.P k4 el (.ptr id ep es.length 0) (.agg us)=some k6:=by
  have hg:getM k4 id ep=some ⟨.m,ep,4,es++[z]⟩:=bo Np rfl (by simp);have dL:(es++[z])[es.length]?=some z:=by simp
  simp only[fq,T.dF _ _ hs,hg,dL];rw[if_pos ⟨trivial,No,N6,by rw[Io];omega⟩];have hr:eF 0 4 z (.agg us)=.agg us:=by unfold eF;rw[if_pos ⟨rfl,Io.symm⟩]
  rw[hr];simp[k6]
 have L7:fq C.P k6 tl (.ptr ip 0 0 0) (.an id ep 0 (es.length+1))=some k7:=by
  have hg:getM k6 ip 0=some ⟨.m,0,1,[v]⟩:=bo Lk rfl (by simp);have dL:([v]:List PV)[0]?=some v:=rfl;simp only[fq,T.dF _ _ Fk,hg,dL];rw[if_pos ⟨trivial,rfl,rfl,by rw[N'.2];simp⟩];have hr:eF 0 1 v (.an id ep 0 (es.length+1))=.an id ep 0 (es.length+1):=by unfold eF;rw[if_pos ⟨rfl,by rw[N'.2];rfl⟩]
  rw[hr];simp[k7]
 have G0:jA ops (before ops) (H++[lb]) 0 (al L V) (.load tl (.tmp p))=true:=by
  simp only[jA,p9,ev,ap,Im,uT,vg,c06,c07,Bool.true_or,UT,Bool.or_true]
 have G1:jA ops (before ops) (H++[lb]) 1 (al ((d0,v)::L) V) (.load el (.tmp q))=true:=by
  simp[jA,p9,ev,al,f2,aq,mO,lb]
 have Of:(ops.toList.any λo=>o.dst==some p)=false:=by
  rw[Bm];simp[Um e2,Um e3,Um e4,Um e5,Um e6,Um e7]
 have G5:jA ops (before ops) (H++[lb]) 5 (al ((d4,.an id ep 0 (es.length+1))::(d3,.ab true [z])::(d2,.int .i64 es.length)::(d1,.agg us)::(d0,v)::L) V) (.indexAddr tl (.tmp d4) (.tmp d2))=true:=by
  have:yo ops (al ((d4,.an id ep 0 (es.length+1))::(d3,.ab true [z])::(d2,.int .i64 es.length)::(d1,.agg us)::(d0,v)::L) V) (.tmp p) id=true:=by
   simp[yo,Of,ev,al,e2,e3,e4,e5,e6,ap,Um Ip]
  have h4:ev (al ((d4,.an id ep 0 (es.length+1))::(d3,.ab true [z])::(d2,.int .i64 es.length)::(d1,.agg us)::(d0,v)::L) V) (.tmp d4)=.an id ep 0 (es.length+1):=by simp[ev,al]
  simp only[jA,p9,h4,N7,uT,vg,c56,Bool.true_or,VV,this,Bool.or_true]
 have sT:bD C run ops (before ops) (H++[lb]) 0 [⟨some d0,.load tl (.tmp p),y0,s0,a0,none⟩,⟨some d1,.load el (.tmp q),y1,s1,a1,none⟩,⟨some d2,.call ⟨.builtin .len,#[.tmp d0],#[tl]⟩,y2,s2,a2,none⟩,
   ⟨some d3,.buildSlice tl 1 #[(0,c)],y3,s3,a3,none⟩,⟨some d4,.call ⟨.builtin .append,#[.tmp d0,.tmp d3],#[tl,tl]⟩,y4,s4,a4,none⟩,⟨some d5,.indexAddr tl (.tmp d4) (.tmp d2),y5,s5,a5,none⟩,
   ⟨none,.store el (.tmp d5) (.tmp d1),y6,s6,a6,none⟩,⟨none,.store tl (.tmp p) (.tmp d4),y7,s7,a7,none⟩] ⟨al L V,H++[lb]⟩=some ⟨al ([(d5,.ptr id ep es.length 0),(d4,.an id ep 0 (es.length+1)),(d3,.ab true [z]),(d2,.int .i64 es.length),(d1,.agg us),(d0,v)]++L) V,k7⟩:=by
  rw[bD,Nl rfl rfl G0 (v:=v) (by simp only[aw,ev,ap,L0,Option.map_some])];dsimp only;rw[bD,Nl rfl rfl G1 (v:=.agg us) (by simp only[aw,ev,al,f2,if_false,aq,L1,Option.map_some])];dsimp only;rw[bD,Nn rfl rfl rfl gp (v:=.int .i64 es.length) (h':=H++[lb]) (by simp[ak,aT,ev,al,g3,L2]) (Nat.le_refl _) (λ_ _ h _=>h)];dsimp only;rw[bD,PQ rfl rfl rfl (v:=.ab true [z]) (by simp only[aw,List.map_cons,List.map_nil,Fi])];dsimp only;rw[bD,Nn rfl rfl rfl Hn (v:=.an id ep 0 (es.length+1)) (h':=k4) (by simp[ak,aT,ev,al,g3,g4,g5,sS]) Oa Ro];dsimp only;rw[bD,Nl rfl rfl G5 (v:=.ptr id ep es.length 0) (by simp[aw,ev,al,j5,j6,L5])];dsimp only;rw[bD,PR rfl rfl rfl N8 (v:=.undef) (h':=k6) (by simp[ak,aw,ev,al,i4,i5,i6,i7,L6]) (by simp[k6]) Rp];dsimp only;rw[bD,PR rfl rfl rfl N9 (v:=.undef) (h':=k7) (by simp[ak,aw,ev,al,e2,e3,e4,e5,e6,e7,l7,ap,L7]) (by simp[k7]) Rq]
  rfl
 rw[sT];dsimp only
 have Lo:ow ops (before ops) (al ([(d5,.ptr id ep es.length 0),(d4,.an id ep 0 (es.length+1)),(d3,.ab true [z]),(d2,.int .i64 es.length),(d1,.agg us),(d0,v)]++L) V)=true:=by
  simp[ow,vg,ev,al,e2,e3,e4,e5,e6,e7,ap,Ip]
 rw[if_pos ⟨wP,Lo⟩]
theorem Lp{C:bZ}(T:kM C.P){tl:TypeId}{c:Operand}{z:PV}(x:vj T tl 1 [(0,c)] [] (λ_ es=>es=[z]))(hv:au [z]=true)(V:Nat->PV)(h:aa):cu C.P 1 h tl 1 [(0,ev V c)]=some (.ab true [z],h):=by
 obtain⟨sz,es,rfl,e⟩:=lB T x;have:=e V h 1;rw[if_pos hv]at this;exact this
structure Rr(H:aa)(ip:Nat)(v:PV)(es us:List PV)(id ep:Nat)(h':aa):Prop where
 len:H.length+1<=h'.length
 Ti:id≠ip
 Tj:id≠H.length
 PU:id∈fx v\/H.length<id
 at':h'[id]?=some ⟨.m,ep,4,es++[.agg us]⟩
 var:h'[ip]?=some ⟨.m,0,1,[.an id ep 0 (es.length+1)]⟩
 fr:∀j,j≠id->j≠ip->h'[j]?=(H++[⟨.m,0,4,[.agg us]⟩])[j]?
theorem Ir.Rt{C:bZ}{T:kM C.P}{ops:Array Oper}{L:Al}{H:aa}{Q:Al->aa->Prop}{d0 d1 d2 d3 d4 d5 p q ip iU:Nat}{tl el:TypeId}{c:Operand}{z v:PV}{us es:List PV}
  {y0 y1 y2 y3 y4 y5 y6 y7:TypeId} {s0 s1 s2 s3 s4 s5 s6 s7:String} {a0 a1 a2 a3 a4 a5 a6 a7:Array Edge}
  (h2:H[ip]?=some ⟨.m,0,1,[v]⟩) (ho:Out 4 H v es) (hv:∀i∈fx v,i≠ip) (hn:es.length<100000000)
  (kk:∀id ep h',Rr H ip v es us id ep h'->Rn (Q ([(d5,.ptr id ep es.length 0),(d4,.an id ep 0 (es.length+1)),(d3,.ab true [z]),(d2,.int .i64 es.length),(d1,.agg us),(d0,v)]++L) h'))
  (Bm:ops.toList=[⟨some d0,.load tl (.tmp p),y0,s0,a0,none⟩,⟨some d1,.load el (.tmp q),y1,s1,a1,none⟩,⟨some d2,.call ⟨.builtin .len,#[.tmp d0],#[tl]⟩,y2,s2,a2,none⟩,
   ⟨some d3,.buildSlice tl 1 #[(0,c)],y3,s3,a3,none⟩,⟨some d4,.call ⟨.builtin .append,#[.tmp d0,.tmp d3],#[tl,tl]⟩,y4,s4,a4,none⟩,⟨some d5,.indexAddr tl (.tmp d4) (.tmp d2),y5,s5,a5,none⟩,
   ⟨none,.store el (.tmp d5) (.tmp d1),y6,s6,a6,none⟩,⟨none,.store tl (.tmp p) (.tmp d4),y7,s7,a7,none⟩]:=by rfl)
  (No:us.length=4:=by rfl) (N6:us.all aZ=true:=by rfl)
  (hp:lk L p=some (.ptr ip 0 0 0):=by rfl) (hq:lk L q=some (.ptr H.length 0 0 0):=by rfl) (hd:[p,q,d0,d1,d2,d3,d4,d5].Nodup:=by decide)
  (De:∀V,fo ops (before ops) (al L V)=[H.length]:=by intro _;rfl)
  (Im:iI ops (before ops) 0=true:=by rfl) (N7:iI ops (before ops) 5=true:=by rfl) (vg:sinks ops (before ops)=some (.tmp d5,.tmp p):=by rfl)
  (c06:mN (before ops) 0 (ops.size - 2)=true:=by rfl) (c07:mN (before ops) 0 (ops.size - 1)=true:=by rfl) (c56:mN (before ops) 5 (ops.size - 2)=true:=by rfl)
  (gp:fR ops (before ops) 2 false=true:=by rfl) (Hn:fR ops (before ops) 4 false=true:=by rfl) (N8:fR ops (before ops) 6 false=true:=by rfl) (N9:fR ops (before ops) 7 false=true:=by rfl)
  (hk:T.kd tl=some (.sl el):=by rfl) (hs:T.ts el=some 4:=by rfl) (ha:T.ta el=some true:=by rfl) (Fk:T.ts tl=some 1:=by rfl) (Lg:T.ta tl=some false:=by rfl) (hb:T.tb el=some iU:=by rfl) (fS:iU<=1000:=by decide) (hz:T.tz el=some z:=by rfl) (Io:(cells z).length=4:=by rfl) (Kl:(cells z).all aZ=true:=by rfl)
  (hx:vj T tl 1 [(0,c)] [] (λ_ es=>es=[z]):=by exact rfl) (Nh:au [z]=true:=by rfl) (Og:kY ops=true:=by rfl):Ir T ops L (H++[⟨.m,0,4,[.agg us]⟩]) Q:=by
 obtain⟨id,ep,h',e,q1,q2,q3,q4,q5,q6,q7⟩:=Dd T h2 ho hv hn No N6 hp hq hd De Bm Im N7 vg c06 c07 c56 gp Hn N8 N9 hk hs ha Fk Lg hb fS hz Io Kl (Lp T hx Nh);exact .calm _ h' e (kk id ep h' ⟨q1,q2,q3,q4,q5,q6,q7⟩) Og
namespace bu
open Go.Proofs
attribute [local irreducible] aA az aH aF Ev ag ai aD bw bY
theorem MV{h:aa}{v:PV}{k o:Int}{s:ByteArray}{es:List PV}(ho:Out 4 h v es)(hv:au es=true)(hn:ba es=es):∃r1,rb h (aQ [.agg [.int .i64 k,.str s,.int .i64 o,v]])=some r1/\cJ r1=.agg [.int .i64 k,.str s,.int .i64 o,.ab false es]:=by
 obtain⟨r,h1,h2⟩:∃r,sP h v=some r/\cJ r=.ab false es:=by
  rcases ho with⟨rfl,rfl⟩|⟨id,ep,rfl,e2⟩;exact⟨_,rfl,rfl⟩;exact⟨.ab false es,by simp[sP,getM,e2,hv],by simp[cJ,hn]⟩
 refine⟨.agg [.int .i64 k,.str s,.int .i64 o,r],?_,by simp[cJ,ba,h2]⟩;simp only[aQ,rb,ot,qM,h1]
 rfl
theorem EY(k s o l)(hl:l.length<100000000)(ih:∀t∈l,aW C 179 [enc t] (enc t)):aW C 179 [enc (.mk k s o l)] (enc (.mk k s o l)):=by
 have eE:=ax l;rw[bL];refine aW.x T6 Tryz.func179 rfl ?_;refine wA ?_
 have Im:HR [⟨.m,0,4,[.agg [.int .i64 k,.str s,.int .i64 o,.ab true []]]⟩,⟨.m,0,4,[.agg [.int .i64 0,.str ByteArray.empty,.int .i64 0,.ab true []]]⟩]:=by
  intro x hx
  simp at hx;rcases hx with rfl |rfl <;>simp[bM,br]
 refine ie.zip T6 l (λp q L H=>∃v,L=[(1,.ptr 0 0 0 0),(2,.ptr 1 0 0 0),(9,.ab false (aj l)),(10,.int .i64 (aj l).length),(11,.int .i64 p.length)]/\HR H/\H[0]?=some ⟨.m,0,4,[.agg [.int .i64 k,.str s,.int .i64 o,v]]⟩/\H[1]?=some ⟨.m,0,4,[.agg [.int .i64 0,.str ByteArray.empty,.int .i64 0,.ab true []]]⟩/\Out 4 H v (aj p)/\∀i∈fx v,2<=i) (.nx ⟨_,rfl,Im,rfl,rfl,.inl ⟨rfl,rfl⟩,by simp[fx]⟩) ?_ ?_
 ·rintro p u q _ H V e ⟨v,rfl,hH,h0,h1,ho,hv⟩;have dL:=bA e;have gp:=lenE e;have hi:=ih u (by rw[e];simp);have hle:=ax p;have wM:HR (H++[⟨.m,0,4,[.agg [.int .i64 u.k,.str u.s,.int .i64 u.o,.ab false (aj u.l)]]⟩]):=hH.jk (HV.one (by simp));have MQ:=ho.gr [⟨.m,0,4,[.agg [.int .i64 u.k,.str u.s,.int .i64 u.o,.ab false (aj u.l)]]⟩];have Ff:=ae h1;have yA:aj p++[.agg [.int .i64 u.k,.str u.s,.int .i64 u.o,.ab false (aj u.l)]]=aj (p++[u]):=by rw[du,<-aN];rfl
  rw[aN]at hi;refine wA ?_;refine .p hi ?_;refine wA ?_;refine .lr (λv' h' lr=>?_) MQ;have QH:∀j,j<2->∀ep n,v≠.an j ep 0 n:=λj hj ep n hh=>by have:=hv j (by rw[hh];simp[fx]);omega
  have g0:=(lr.fr 0 (by simp) (QH 0 (by omega))).trans ((TG (by omega)).trans h0);have g1:=(lr.fr 1 (by simp;omega) (QH 1 (by omega))).trans ((TG (by omega)).trans h1);have SP:=lr.hr
  have QI:∀i∈fx v',2<=i:=λi hi=>by
   rcases lr.fx i hi with h |h;exact hv i h;simp at h;omega
  have lo:=lr.out;rw[yA]at lo;have B2:=lo.br;rcases lo with⟨_,hx⟩|⟨id,ep,rfl,bE⟩
  ·have:=congrArg List.length hx;rw[ax]at this;simp at this
  have k0:=ae g0;refine wA ?_;have FN:=QI id (by simp[fx]);exact .nx ⟨_,rfl,SP.set _ (by simp) (by simpa[bM,br]using B2),TM k0,(TN (by omega)).trans g1,.inr ⟨id,ep,rfl,(TN (by omega)).trans bE⟩,QI⟩
 ·rintro _ H V ⟨v,rfl,hH,h0,h1,ho,hv⟩;have k1:=ae h1;have e2:=TM (a:=(⟨.m,0,4,[.agg [.int .i64 k,.str s,.int .i64 o,v]]⟩:aC)) k1;have Kg:Out 4 (H.set 1 ⟨.m,0,4,[.agg [.int .i64 k,.str s,.int .i64 o,v]]⟩) v (aj l):=ho.of_eq λi hi=>TN (by have:=hv i hi;omega)
  rcases ho with⟨rfl,he⟩|⟨id,ep,rfl,bE⟩
  ·refine wA ?_;refine .mk ?_ (vQ (T:=T6) rfl e2 rfl rfl rfl rfl);exact⟨MV Kg (by simp) (by simp)⟩
  ·refine wA ?_;refine .mk ?_ (vQ (T:=T6) rfl e2 rfl rfl rfl rfl);exact⟨MV Kg (by simp) (by simp)⟩
theorem Cs(t:Tm)(hb:aE t<100000000):aW C 179 [enc t] (enc t):=by
 induction t using Tm.ind with
 |h k s o l ih=>
  have:=bq l;simp only[aE]at hb;exact EY k s o l (by omega) λt ht=>ih t ht (by have:=bF ht;omega)
structure KS(H:aa)(v:PV)(a:List Tm)(h':aa):Prop where
 hr:HR h'
 len:H.length<=h'.length
 var:∃v',h'[2]?=some ⟨.m,0,1,[v']⟩/\Out 4 h' v' (aj a)/\∀i∈fx v',i∈fx v\/H.length<=i
 fr:∀j,j<H.length->j≠2->j∉fx v->h'[j]?=H[j]?
theorem KS.take{H h':aa}{v:PV}{a:List Tm}(s:KS H v a h')(h3:3<=H.length)(hr:HR (h'.take H.length)):KS H v a (h'.take H.length):=by
 have hl:=s.len;have cx:(h'.take H.length).length=H.length:=by simp;omega
 obtain⟨v',e1,e2,e3⟩:=s.var;have g1:(h'.take H.length)[2]?=some ⟨.m,0,1,[v']⟩:=by rw[Ux (by omega)];exact e1
 have lE:=(hr _ (TU g1)).2;refine⟨hr,by omega,⟨v',g1,e2.of_eq λi hi=>?_,e3⟩,λj h1 h2 h3=>by rw[Ux (by omega)];exact s.fr j h1 h2 h3⟩;rw[Ux];rcases e2 with⟨rfl,_⟩|⟨id,ep,rfl,_⟩;simp[fx]at hi
 ·simp[fx]at hi;subst hi;simp[bM,br]at lE;omega
theorem KS.trans{H h1 h2:aa}{v v1:PV}{a b:List Tm}(s:KS H v a h1)(e:h1[2]?=some ⟨.m,0,1,[v1]⟩)(t:KS h1 v1 b h2):KS H v b h2:=by
 obtain⟨v',q1,q2,q3⟩:=s.var;rw[q1]at e
 cases e
 obtain⟨v2,r1,r2,r3⟩:=t.var;have:=s.len;refine⟨t.hr,T' s.len t.len,⟨v2,r1,r2,λi hi=>?_⟩,λj h1 h2 h3=>?_⟩
 ·rcases r3 i hi with h |h
  ·exact q3 i h
  ·omega
 ·rw[t.fr j (by omega) h2 (λhh=>by rcases q3 j hh with h |h;exact h3 h;omega)];exact s.fr j h1 h2 h3
theorem ai.ks{f:FuncId}{args:List PV}{H:aa}{v:PV}{b:List Tm}{Q:PV->aa->Prop}(a:aD C f args H (λr h'=>r=.cT []/\KS H v b h'))(h3:3<=H.length)(q:∀h',KS H v b h'->Q (.cT []) h')(hm:C.mode f=.opened:=by rfl):ai C 2 f args H Q:=
 ai.sm a (λr h' p=>⟨p.2.hr,p.2.len⟩) (λr h' p=>by rw[p.1];exact q h' p.2) (λr h' p hr=>by rw[p.1];exact q _ (p.2.take h3 hr)) hm
theorem GO(u:Tm)(n:Int)(H:aa)(v:PV)(a:List Tm)(hH:HR H)(h1:H[1]?=some ⟨.m,0,1,[.int .i64 n]⟩)(h2:H[2]?=some ⟨.m,0,1,[v]⟩)(ho:Out 4 H v (aj a))(hv:∀i∈fx v,3<=i)(hn:a.length<100000000):
  aD C 154 [enc u,.ptr 1 0 0 0,.ptr 2 0 0 0] H (λr h'=>r=.cT []/\KS H v (a++if u.k=n then[u]else[]) h'):=by
 have hle:=ax a;have cx:=ae h2;have hu:aj a++[.agg [.int .i64 u.k,.str u.s,.int .i64 u.o,.ab false (aj u.l)]]=aj (a++[u]):=by rw[du,<-aN];rfl
 rw[aN];refine aD.x T6 Tryz.func154 rfl ?_;refine wD (λhc=>?_) λhc=>?_
 ·refine Ir.Rt h2 ho (λi hi=>by have:=hv i hi;omega) (by omega) (λid ep h' ap=>?_);refine wA ?_;refine⟨rfl,?_⟩;rw[if_pos hc];have hl:=ap.len;have bE:=ae ap.at';have hg:∀j,j<H.length->j≠id->j≠2->h'[j]?=H[j]?:=λj g1 g2 g3=>by rw[ap.fr j g2 g3,TG g1]
  refine⟨λo ho=>?_,by omega,⟨_,ap.var,.inr ⟨id,ep,by rw[ax];simp,by rw[<-hu];exact ap.at'⟩,λi hi=>?_⟩,λj g1 g2 g3=>hg j g1 (λhh=>?_) g2⟩
  ·obtain⟨j,hj⟩:=UN ho
   by_cases j1:j=id
   subst j1;rw[ap.at']at hj;cases hj;exact⟨by simp,cf _ _ (by rw[hu];simp)⟩
   by_cases j2:j=2
   subst j2;rw[ap.var]at hj;cases hj;exact⟨by simp,by simp[bM,br];omega⟩;rw[ap.fr j j1 j2]at hj;have:=(hH.jk (HV.one (ep:=0) (n:=4) (es:=[.agg [.int .i64 u.k,.str u.s,.int .i64 u.o,.ab false (aj u.l)]]) (by simp))) o (TU hj);exact⟨this.1,eT (λi hi=>by have:=of_decide_eq_true hi;simp at this;exact decide_eq_true (by omega)) _ this.2⟩
  ·simp[fx]at hi;subst hi;rcases ap.PU with h |h;exact .inl h;exact .inr (by omega)
  ·subst hh;rcases ap.PU with h |h;exact g3 h;omega
 ·refine⟨rfl,?_⟩;rw[if_neg hc,Uc];refine⟨hH.jk (HV.one (by simp)),by simp,⟨v,?_,ho.gr _,λi hi=>.inl hi⟩,λj g1 g2 g3=>TG g1⟩;rw[TG cx];exact h2
def qk(n:Int)(l:List Tm):List Tm:=l.filter λu=>decide (u.k=n)
theorem qE(n:Int)(l:List Tm):(qk n l).length<=l.length:=List.length_filter_le _ _
theorem x7(n:Int)(u:Tm)(l:List Tm):qk n (u::l)=(if u.k=n then[u]else[])++qk n l:=by
 unfold qk
 by_cases h:u.k=n <;>simp[List.filter_cons,h]
theorem A0(n:Int)(a b:List Tm):qk n (a++b)=qk n a++qk n b:=by simp[qk]
theorem KS.ia{H J h':aa}{v:PV}{a:List Tm}(s:KS (H++J) v a h'):KS H v a h':=by
 have hl:=s.len;rw[T0]at hl;obtain⟨v',e1,e2,e3⟩:=s.var;refine⟨s.hr,by omega,⟨v',e1,e2,λi hi=>?_⟩,λj h1 h2 h3=>by rw[s.fr j (by simp;omega) h2 h3,TG h1]⟩;rcases e3 i hi with h |h;exact .inl h;exact .inr (by simp at h;omega)
theorem uN(a b:List Tm):bg (a++b)=bg a+bg b:=by
 induction a with
 |nil=>simp[bg]
 |cons t a ih=>simp only[Uh,bg,ih];omega
theorem GP (n:Int) (k s o l) (ih:∀t∈l,∀(H:aa) (v:PV) (a:List Tm),HR H->H[1]?=some ⟨.m,0,1,[.int .i64 n]⟩->H[2]?=some ⟨.m,0,1,[v]⟩->Out 4 H v (aj a)->(∀i∈fx v,3<=i)->a.length+aE t<100000000->
   aD C 128 [enc t,.fn 154 [.ptr 1 0 0 0,.ptr 2 0 0 0]] H (λr h'=>r=.cT []/\KS H v (a++qk n (pre t)) h'))
  (H:aa) (v:PV) (a:List Tm) (hH:HR H) (h1:H[1]?=some ⟨.m,0,1,[.int .i64 n]⟩) (h2:H[2]?=some ⟨.m,0,1,[v]⟩) (ho:Out 4 H v (aj a)) (hv:∀i∈fx v,3<=i) (hn:a.length+aE (.mk k s o l)<100000000):
  aD C 128 [enc (.mk k s o l),.fn 154 [.ptr 1 0 0 0,.ptr 2 0 0 0]] H (λr h'=>r=.cT []/\KS H v (a++qk n (pre (.mk k s o l))) h'):=by
 have eE:=ax l;have yQ:=bq l;simp only[aE]at hn;have cx:=ae h2;have SQ:HR (H++[⟨.m,0,4,[enc (.mk k s o l)]⟩]):=hH.jk (HV.one (by simp));have b1:(H++[⟨.m,0,4,[enc (.mk k s o l)]⟩])[1]?=some ⟨.m,0,1,[.int .i64 n]⟩:=by rw[TG (by omega)];exact h1
 have b2:(H++[⟨.m,0,4,[enc (.mk k s o l)]⟩])[2]?=some ⟨.m,0,1,[v]⟩:=by rw[TG cx];exact h2
 have pk:=GO (.mk k s o l) n (H++[⟨.m,0,4,[enc (.mk k s o l)]⟩]) v a SQ b1 b2 (ho.gr _) hv (by omega);rw[bL]at pk ⊢;refine aD.x T6 Tryz.func128 rfl ?_;refine wA ?_;refine ai.ks pk (by simp;omega) (λh' ks=>?_);refine wA ?_;have kw:=ks.ia
 have jI:h'[H.length]?=some ⟨.m,0,4,[.agg [.int .i64 k,.str s,.int .i64 o,.ab false (aj l)]]⟩:=by
  rw[ks.fr H.length (by simp) (by omega) (λhh=>by have:=ho.Lz _ hh;omega)];simp
 refine wA ?_;have JX:a++(if(Tm.mk k s o l).k=n then[Tm.mk k s o l]else[])=a++qk n (.mk k s o l::dG []):=by rw[x7];simp[dG,qk]
 rw[JX]at kw;refine ie.zip T6 l (λp q L K=>L=[(1,.fn 154 [.ptr 1 0 0 0,.ptr 2 0 0 0]),(10,.ab false (aj l)),(11,.int .i64 (aj l).length),(12,.int .i64 p.length)]/\KS H v (a++qk n (.mk k s o l::dG p)) K) (.nx ⟨rfl,kw⟩) ?_ ?_
 ·rintro p u q _ K V e ⟨rfl,kp⟩;have dL:=bA e;have gp:=lenE e;obtain⟨v1,q1,q2,q3⟩:=kp.var;have TE:=kp.len;have SU:=kp.hr
  have Ge:∀i∈fx v1,3<=i:=λi hi=>by
   rcases q3 i hi with h |h;exact hv i h;omega
  have c1:K[1]?=some ⟨.m,0,1,[.int .i64 n]⟩:=by rw[kp.fr 1 (by omega) (by omega) (λhh=>by have:=hv 1 hh;omega)];exact h1
  have QA:bg l=bg p+(aE u+bg q):=by rw[e,uN];simp[bg]
  have qA:(dG p).length<=bg p:=DC p;have Pu:=qE n (Tm.mk k s o l::dG p);simp only[T2]at Pu;have ih1:=ih u (by rw[e];simp) (K++[⟨.m,0,4,[enc u]⟩]) v1 (a++qk n (Tm.mk k s o l::dG p)) (SU.jk (HV.one (by simp))) (by rw[TG (by omega)];exact c1) (by rw[TG (ae q1)];exact q1) (q2.gr _) Ge (by simp only[T0];omega);rw[aN]at ih1;refine wA ?_;refine ai.ks ih1 (by simp;omega) (λh' ks=>?_);refine wA ?_;refine .nx ⟨rfl,?_⟩;have:=kp.trans q1 ks.ia;rwa[UB,<-A0,show Tm.mk k s o l::dG p++pre u=Tm.mk k s o l::dG (p++[u]) by rw[pA];simp[dG]]at this
 ·rintro _ K V ⟨rfl,kp⟩;refine wA ?_;exact⟨rfl,by rw[pre];exact kp⟩
theorem GN(n:Int)(t:Tm):∀(H:aa) (v:PV) (a:List Tm),HR H->H[1]?=some ⟨.m,0,1,[.int .i64 n]⟩->H[2]?=some ⟨.m,0,1,[v]⟩->Out 4 H v (aj a)->(∀i∈fx v,3<=i)->a.length+aE t<100000000->
   aD C 128 [enc t,.fn 154 [.ptr 1 0 0 0,.ptr 2 0 0 0]] H (λr h'=>r=.cT []/\KS H v (a++qk n (pre t)) h'):=by
 induction t using Tm.ind with
 |h k s o l ih=>exact GP n k s o l ih
theorem EX(a b:Tm)(ha:aE a<1000000000)(hb:aE b<1000000000):aW C 178 [enc a,enc b] (.bool (decide (bR a b=0))):=by
 have h1:=(sj a b ha hb).nine;rw[aN,aN]at h1 ⊢;refine aW.x T6 Tryz.func178 rfl ?_;refine wA ?_;refine .p h1 ?_;refine wD (λhc=>?_) λhc=>?_
 all_goals exact⟨_,rfl,by simp[aQ, *]⟩
theorem vS(g:FuncId)(H:aa):aD C 162 [.ab true [],.fn g []] H (λr h'=>r=.ab true []/\h'=H):=by
 refine aD.x T6 Tryz.func162 rfl ?_;refine wA ?_;exact⟨rfl,rfl⟩
theorem ya(g:FuncId)(hm:C.mode g=.pure)(hg:∀a b:Tm,aE a<1000000000->aE b<1000000000->aW C g [enc a,enc b] (.bool (decide (bR a b=0))))(x:Tm)(l:List Tm)(H:aa)(hH:HR H)(id ep:Nat)(e1:H[id]?=some ⟨.m,ep,4,aj (x::l)⟩)(hn:l.length<100000000)(hb:∀t∈x::l,aE t<1000000000):
  aD C 162 [.an id ep 0 (aj (x::l)).length,.fn g []] H
   (λr h'=>r=.an id ep 0 (dd (x::l)).length/\∃tl,au tl=true/\h'=H.set id ⟨.m,ep,4,aj (dd (x::l))++tl⟩):=by
 have eE:(aj (x::l)).length=l.length+1:=by rw[ax];rfl
 refine aD.x T6 Tryz.func162 rfl ?_;refine wD (λhc=>?_) λhc=>?_
 ·obtain rfl:l=[]:=T3 (by omega);exact⟨rfl,[],rfl,by rw[Uc];exact(fk e1).symm⟩
 refine ie.zip T6 l (λp q L h=>h=H/\∃P' prev,x::p=P'++[prev]/\P'++prev::tY prev q=dd (x::l)/\L=[(0,.an id ep 0 (aj (x::l)).length),(1,.fn g []),(5,.int .i64 ((p.length+1:Nat):Int))]) (.nx ⟨rfl,[],x,rfl,rfl,rfl⟩) ?_ ?_
 ·rintro p a q _ h V e ⟨rfl,P',prev,hp,hd,rfl⟩;have gp:=lenE e;have qA:=congrArg List.length hp;simp only[T0,T2,Ut]at qA;have MT:(aj (x::l))[0+(p.length+1)]?=some (.agg [.int .i64 a.k,.str a.s,.int .i64 a.o,.ab false (aj a.l)]):=nM (by rw[e,Uu];simp)
  have Bj:(aj (x::l))[0+(((p.length+1:Nat):Int) - 1).toNat]?=some (.agg [.int .i64 prev.k,.str prev.s,.int .i64 prev.o,.ab false (aj prev.l)]):=nM (by
   rw[show(((p.length+1:Nat):Int) - 1).toNat=p.length by omega,e,<-Uh,hp,Uu,TG (by simp;omega),TQ (by omega)];simp[show p.length - P'.length=0 by omega])
  have hq:=hg a prev (hb a (by rw[e];simp)) (hb prev (by rw[e,<-Uh,hp];simp));rw[aN,aN]at hq;refine wA ?_;refine .p hq ?_ hm
  cases hc:decide (bR a prev=0)
  ·refine wA ?_;refine .nx ⟨rfl,P'++[prev],a,by rw[<-Uh,hp],?_,rfl⟩;rw[<-hd,tY,if_neg (by simpa using hc)];simp
  ·refine wA ?_;rw[eE]at *;refine .sl rfl rfl (xc T6 rfl rfl e1 (by rw[ax];simp) (by omega) (by omega)) ?_;refine wA ?_
   refine ie.zip T6 q (λp2 q2 L h'=>∃R M0 pr,aE pr<1000000000/\R.length+M0.length=p.length+1+p2.length/\R++tY pr q2=dd (x::l)/\h'=h.set id ⟨.m,ep,4,aj (R++(M0++[pr]++q2))⟩/\
    L=[(0,.an id ep 0 (l.length+1)),(1,.fn g []),(5,.int .i64 (R.length:Int)),(6,.an id ep (0+(p.length+1)) (l.length+1 - (p.length+1))),(7,.int .i64 ((p2.length+1:Nat):Int))]) (.nx ⟨P'++[prev],[],a,hb a (by rw[e];simp),by simp only[T0,T2,Ut];omega,?_,?_,rfl⟩) ?_ ?_
   rw[<-hd,tY,if_pos (by simpa using hc)];simp;rw[fk];rw[e1,e,<-Uh,hp];simp
   ·rintro p2 b q2 _ _ V2 e2 ⟨R,M0,pr,QE,Ff,MU,rfl,rfl⟩;have Hn:=lenE e2;have By:(h.set id ⟨.m,ep,4,aj (R++(M0++[pr]++b::q2))⟩)[id]?=some ⟨.m,ep,4,aj (R++(M0++[pr]++b::q2))⟩:=TM (ae e1);have PP:HR (h.set id ⟨.m,ep,4,aj (R++(M0++[pr]++b::q2))⟩):=hH.set id (by simp) (cf _ _ (by simp));have Nt:(aj (R++(M0++[pr]++b::q2))).length=l.length+1:=by rw[ax];simp;omega
    have NX:(aj (R++(M0++[pr]++b::q2)))[0+(p.length+1)+(p2.length+1)]?=some (.agg [.int .i64 b.k,.str b.s,.int .i64 b.o,.ab false (aj b.l)]):=nM (yU (A:=R++M0++[pr]) (B:=q2) (by simp) (by simp;omega));have GL:(aj (R++(M0++[pr]++b::q2)))[0+(p.length+1)+(((p2.length+1:Nat):Int) - 1).toNat]?=some (.agg [.int .i64 pr.k,.str pr.s,.int .i64 pr.o,.ab false (aj pr.l)]):=nM (yU (A:=R++M0) (B:=b::q2) (by simp) (by simp;omega));have QF:=hg b pr (hb b (by rw[e,e2];simp)) QE;rw[aN,aN]at QF;obtain⟨m,M1,hM⟩:∃m M1,M0++[pr]=m::M1:=by cases M0 with |nil=>exact⟨_,_,rfl⟩|cons m M=>exact⟨m,M++[pr],rfl⟩
    have Oz:=congrArg List.length hM;simp only[T0,T2,Ut]at Oz;have SN:(aj (R++(M0++[pr]++b::q2)))[0+R.length]?=some (.agg [.int .i64 m.k,.str m.s,.int .i64 m.o,.ab false (aj m.l)]):=nM (yU (A:=R) (B:=M1++b::q2) (by rw[hM];simp) (by omega))
    have Dx:(aj (R++(M0++[pr]++b::q2))).set (0+R.length) (.agg [.int .i64 b.k,.str b.s,.int .i64 b.o,.ab false (aj b.l)])=aj ((R++[b])++(M1++[b]++q2)):=by
     rw[<-aN,Dr,hM,Uu];simp
    clear hq MT Bj;refine wA ?_;refine .p QF ?_ hm
    cases Gf:decide (bR b pr=0)
    ·refine wA ?_;rw[Dx,UM];refine .nx ⟨R++[b],M1,b,hb b (by rw[e,e2];simp),by simp;omega,?_,rfl,rfl⟩;rw[<-MU,tY,if_neg (by simpa using Gf)];simp
    ·refine wA ?_;refine .nx ⟨R,M0++[pr],b,hb b (by rw[e,e2];simp),by simp;omega,?_,by simp,rfl⟩;rw[<-MU,tY,if_pos (by simpa using Gf)]
   ·rintro _ _ V2 ⟨R,M0,pr,QE,Ff,MU,rfl,rfl⟩;have By:(h.set id ⟨.m,ep,4,aj (R++(M0++[pr]++[]))⟩)[id]?=some ⟨.m,ep,4,aj (R++(M0++[pr]++[]))⟩:=TM (ae e1);have PP:HR (h.set id ⟨.m,ep,4,aj (R++(M0++[pr]++[]))⟩):=hH.set id (by simp) (cf _ _ (by simp));have Nt:(aj (R++(M0++[pr]++[]))).length=l.length+1:=by rw[ax];simp;omega
    rw[tY,Uc]at MU;subst MU;refine wA ?_;refine .sl rfl rfl (xc T6 rfl rfl By (by omega) ?_ (by omega)) ?_;simp[dd];refine wA ?_;refine .Rv rfl (Dt T6 rfl rfl rfl By (by omega) rfl rfl) ?_;have rF:List.take (0+(dd (x::l)).length) (aj (dd (x::l)++(M0++[pr]++[])))=aj (dd (x::l)):=by rw[cQ,cQ,Uu,VK,List.take_left' (by simp)]
    have Nj:List.drop (0+(dd (x::l)).length+(l.length+1 - (dd (x::l)).length)) (aj (dd (x::l)++(M0++[pr]++[])))=[]:=Uf (by omega);rw[rF,Nj,UM]
    obtain⟨tl,CH,cx,EU⟩:∃tl:List PV,tl=List.replicate (l.length+1 - (dd (x::l)).length) (.agg [.int .i64 0,.str ByteArray.empty,.int .i64 0,.ab true []])/\tl.length=l.length+1 - (dd (x::l)).length/\au tl=true:=
     ⟨_,rfl,by simp,by rw[bp,TH];intro y hy;rw[Va hy];rfl⟩
    have e3:(h.set id ⟨.m,ep,4,aj (dd (x::l))++tl⟩)[id]?=some ⟨.m,ep,4,aj (dd (x::l))++tl⟩:=TM (ae e1);rw[<-CH,Uc];refine wA ?_;refine .sh rfl rfl (Ds T6 rfl rfl e3 (by rw[T0,ax,cx];have:=Dq (x::l);simp at this;omega) (by omega)) ?_;refine wA ?_;exact⟨rfl,tl,EU,rfl⟩
 ·rintro _ h V ⟨rfl,P',prev,hp,hd,rfl⟩;have QG:aj (dd (x::l))=aj (x::l):=by rw[<-hd,hp,tY]
  refine wA ?_;exact⟨congrArg (PV.an id ep 0) (by rw[<-QG,ax]),[],rfl,by rw[QG,Uc];exact(fk e1).symm⟩
theorem yb(g:FuncId)(H:aa)(id ep:Nat)(e1:H[id]?=some ⟨.m,ep,4,aj []⟩):aD C 162 [.an id ep 0 0,.fn g []] H (λr h'=>r=.an id ep 0 0/\h'=H):=by
 refine aD.x T6 Tryz.func162 rfl ?_;refine wA ?_;exact⟨rfl,rfl⟩
theorem yc(H:aa):aD C 130 [.ab true []] H (λr h'=>r=.ab true []/\h'=H):=by
 refine aD.x T6 Tryz.func130 rfl ?_;refine wA ?_;refine ai.cH rfl rfl ?_;refine wA ?_;refine .ln (vS _ H) (λr h' hr=>by rw[hr.2]) (λr h' hr=>?_);obtain⟨rfl,rfl⟩:=hr;refine wA ?_;refine ie.zip T6 ([]:List Tm) (λp q L K=>L=[(0,.ab true []),(9,.int .i64 0),(10,.int .i64 p.length)]/\K=h') (.nx ⟨rfl,rfl⟩) ?_ ?_
 ·rintro p u q _ K V e _
  cases p <;>cases e
 ·rintro _ K V ⟨rfl,rfl⟩;refine wA ?_;exact⟨rfl,rfl⟩
theorem Ad(H:aa)(hH:HR H)(id ep:Nat)(a:List Tm)(e1:H[id]?=some ⟨.m,ep,4,aj a⟩)(hn:a.length<100000000)(hb:∀t∈a,aE t<100000000):
  aD C 130 [.an id ep 0 a.length] H (λr h'=>r=.an id ep 0 (dd (fI a)).length/\∃tl,au tl=true/\h'=H.set id ⟨.m,ep,4,aj (dd (fI a))++tl⟩):=by
 have Ec:=ax a;have cx:=ae e1;refine aD.x T6 Tryz.func130 rfl ?_;refine wA ?_;refine ai.cH rfl (xR e1 (by omega) (λt ht=>by have:=hb t ht;omega)) ?_;have e2:(H.set id ⟨.m,ep,4,aj (fI a)⟩)[id]?=some ⟨.m,ep,4,aj (fI a)⟩:=TM (ae e1);have wM:HR (H.set id ⟨.m,ep,4,aj (fI a)⟩):=hH.set id (by simp) (cf _ _ (by simp));have FP:=(iV a).length_eq;have ib:∀t∈fI a,aE t<100000000:=λt ht=>hb t ((iV _).mem_iff.1 ht)
 rw[<-FP]at Ec hn ⊢;generalize fI a=S at *
 cases S with
 |nil=>
  refine wA ?_;refine .ln (yb _ _ id ep e2) (λr h' hr=>by rw[hr.2]) (λr h' hr=>?_);obtain⟨rfl,rfl⟩:=hr;refine wA ?_;refine ie.zip T6 ([]:List Tm) (λp q L K=>L=[(0,.an id ep 0 0),(9,.int .i64 0),(10,.int .i64 p.length)]/\K=H.set id ⟨.m,ep,4,aj []⟩) (.nx ⟨rfl,rfl⟩) ?_ ?_
  ·rintro p u q _ K V e _
   cases p <;>cases e
  ·rintro _ K V ⟨rfl,rfl⟩;refine wA ?_;exact⟨rfl,[],rfl,by simp[dd]⟩
 |cons x r=>
  have hc:=ya _ rfl EX x r _ wM id ep e2 (by simp at hn;omega) (λt ht=>by have:=ib t ht;omega);rw[ax]at hc;refine wA ?_;refine .ln hc (λr h' hr=>by obtain⟨_,_,_,rfl⟩:=hr;simp) (λr h' hr=>?_);obtain⟨rfl,tl,hv,rfl⟩:=hr;rw[UM];have e3:(H.set id ⟨.m,ep,4,aj (dd (x::r))++tl⟩)[id]?=some ⟨.m,ep,4,aj (dd (x::r))++tl⟩:=TM (ae e1);have Qz:HR (H.set id ⟨.m,ep,4,aj (dd (x::r))++tl⟩):=hH.set id (by simp) (cf _ _ (by show au (aj (dd (x::r))++tl)=true;rw[nr,hv];simp));have TC:=Dq (x::r);have SO:∀t∈dd (x::r),aE t<100000000:=λt ht=>ib t ((Hr (x::r) t).1 ht)
  generalize hD:dd (x::r)=D at *;generalize hK:H.set id ⟨.m,ep,4,aj D++tl⟩=K0 at *;refine wA ?_;have TD:=ax D;refine ie.zip T6 D (λp q L K=>L=[(0,.an id ep 0 D.length),(9,.int .i64 D.length),(10,.int .i64 p.length)]/\K=K0) (.nx ⟨rfl,rfl⟩) ?_ ?_
  ·rintro p u q _ _ V e ⟨rfl,rfl⟩;have gp:=lenE e
   have dL:(aj D++tl)[0+p.length]?=some (.agg [.int .i64 u.k,.str u.s,.int .i64 u.o,.ab false (aj u.l)]):=by
    rw[TG (by omega),Uu];exact bA e
   have eJ:=Cs u (SO u (by rw[e];simp));have Dx:=fk dL;rw[aN]at eJ;refine wA ?_;refine .p eJ ?_;refine wA ?_;exact .nx ⟨rfl,by rw[Dx];exact fk e3⟩
  ·rintro _ _ V ⟨rfl,rfl⟩;refine wA ?_;exact⟨rfl,tl,hv,hK.symm⟩
theorem Ae(t:Tm)(n:Int)(hb:aE t<10000000):aW C 106 [enc t,.int .i64 n] (.ab false (aj (mD n t))):=by
 have Im:HR [⟨.m,0,4,[enc t]⟩,⟨.m,0,1,[.int .i64 n]⟩,⟨.m,0,1,[.ab true []]⟩]:=by
  intro x hx
  simp at hx;rcases hx with rfl |rfl |rfl <;>simp[bM,br,cf]
  exact vo _ _ (by simp)
 have hw:=GN n t _ (.ab true []) [] Im rfl rfl (.inl ⟨rfl,rfl⟩) (by simp[fx]) (by simp;omega);have Pu:=qE n (pre t);have qA:=qy t;rw[aN]at hw ⊢;refine aW.x T6 Tryz.func106 rfl ?_;refine wA ?_;refine ai.ks hw (by simp) (λh' ks=>?_);rw[UP]at ks;obtain⟨v',e1,e2,e3⟩:=ks.var;have hh:=ks.hr;refine wA ?_;have cI:dd (fI (qk n (pre t)))=mD n t:=ID _;rcases e2 with⟨rfl,e0⟩|⟨id,ep,rfl,e2⟩
 ·have e4:qk n (pre t)=[]:=T3 (by rw[<-ax,e0];rfl);rw[e4]at cI
  skip
  refine .ln (yc h') (λr h' hr=>by rw[hr.2]) (λr h' hr=>?_);obtain⟨rfl,rfl⟩:=hr;rw[<-cI];refine wA ?_;exact⟨_,rfl,rfl⟩
 ·have ho:=Ad h' hh id ep (qk n (pre t)) e2 (by omega) (λu hu=>by have:=rr t u (Vs.1 hu).1;omega);rw[ax]
  skip
  refine .ln ho (λr h' hr=>by obtain⟨_,_,_,rfl⟩:=hr;simp) (λr h' hr=>?_);obtain⟨rfl,tl,hv,rfl⟩:=hr;rw[cI];have e5:=TM (a:=(⟨.m,ep,4,aj (mD n t)++tl⟩:aC)) (ae e2);refine wA ?_;exact rn e5 (by rw[ax]) (by simp) (by simp)
theorem lY(t:Tm)(hb:aE t<10000000):aW C 54 [enc t] (.ab false (aj (bx t))):=by
 have h1:=Ae t 1 hb;rw[aN]at h1 ⊢;refine aW.x T6 Tryz.func54 rfl ?_;refine wA ?_;refine .p h1 ?_;refine wA ?_;exact⟨_,rfl,by simp[aQ,bx]⟩
def jj(H:aa)(g:FuncId)(cs:List PV)(x:PV)(b:Bool):Prop:=∀H',kJ H H'->∀Q:PV->aa->Prop,(∀h',kJ H' h'->Q (.bool b) h')->ai C 2 g (x::cs) H' Q
theorem GG(l:List Tm)(g:FuncId)(cs:List PV)(p:Tm->Bool)(H:aa)(hl:l.length<1000000000)(hp:∀x∈l,jj H g cs (enc x) (p x)):
  aD C 142 [.ab false (aj l),.fn g cs] H (λr h'=>r=.int .i64 (zx p l)/\kJ H h'):=by
 have eE:=ax l;refine aD.x T6 Tryz.func142 rfl ?_;refine wA ?_;refine ie.zip T6 l (λa q L K=>L=[(0,.ab false (aj l)),(1,.fn g cs),(7,.int .i64 (aj l).length),(8,.int .i64 a.length)]/\kJ H K/\∀y∈a,p y=false) (.nx ⟨rfl,kJ.refl _,by simp⟩) ?_ ?_
 ·rintro a x q _ K V e ⟨rfl,hE,ha⟩;have dL:=bA e;have gp:=lenE e;have Mk:=hp x (by rw[e];simp) _ hE;rw[aN]at Mk;refine wA ?_;refine Mk _ (λh' Qv=>?_)
  cases hb:p x
  ·refine wA ?_;exact .nx ⟨rfl,hE.trans Qv,λy hy=>by rcases TP.1 hy with h |h;exact ha y h;simp at h;rw[h];exact hb⟩
  ·refine wA ?_;exact⟨by rw[e,Gl ha hb];rfl,hE.trans Qv⟩
 ·rintro _ K V ⟨rfl,hE,ha⟩;refine wA ?_;exact⟨by rw[BL ha];rfl,hE⟩
theorem og(l:List Tm)(g:FuncId)(cs:List PV)(p:Tm->Bool)(H:aa)(hl:l.length<1000000000)(hp:∀x∈l,jj H g cs (enc x) (p x)):
  aD C 86 [.ab false (aj l),.fn g cs] H (λr h'=>r=.bool (l.any p)/\kJ H h'):=by
 have hi:=GG l g cs p H hl hp;have ha:=D5 p l;refine aD.x T6 Tryz.func86 rfl ?_;refine wA ?_;refine .ex hi (λh' hE=>?_);refine wD (λhc=>?_) λhc=>?_
 all_goals exact⟨by rw[<-ha];simp[aQ, *],hE⟩
theorem jj.pure{H:aa}{g:FuncId}{cs:List PV}{x:PV}{b:Bool}(a:aW C g (ba (x::cs)) (.bool b))(hx:au (x::cs)=true)(hm:C.mode g=.pure:=by rfl):jj H g cs x b:=
 λH' _ Q hQ=>ai.pure hm hx a (hQ _ (kJ.refl _))
theorem jj.opened{H:aa}{g:FuncId}{cs:List PV}{x:PV}{b:Bool}(a:∀H',kJ H H'->aD C g (x::cs) H' (λr h'=>r=.bool b/\kJ H' h'))(hm:C.mode g=.opened:=by rfl):jj H g cs x b:=
 λH' hE Q hQ=>ai.ex (a H' hE) hQ hm
theorem GH(t:Tm):aW C 141 [enc t] (.bool (wc t)):=by
 rw[aN];refine aW.x T6 Tryz.func141 rfl ?_;refine wH (λhc=>?_) (λhc hc=>?_) λhc hc=>?_
 all_goals exact⟨_,rfl,by simp[aQ,wc, *]⟩
theorem GJ(t u:Tm)(ht:aE t<1000000000)(hu:aE u<1000000000)(id:Nat)(H:aa)(hH:aL (H++[⟨.m,0,4,[enc u]⟩])=true)(h0:H[id]?=some ⟨.m,0,4,[enc t]⟩):aD C 143 [enc u,.ptr id 0 0 0] H (λr h'=>r=.bool (decide (bR t u=0))/\kJ H h'):=by
 have h1:=(sj t u ht hu).nine;have cx:=ae h0;rw[aN t]at h0 h1;rw[aN u]at h1 hH ⊢;refine aD.x T6 Tryz.func143 rfl ?_;refine wA ?_;refine .p h1 ?_;refine wD (λhc=>?_) λhc=>?_
 all_goals exact⟨by simp[aQ, *],(kJ.refl _).gr (HV.one (by simp))⟩
theorem ES(l:List Tm)(t:Tm)(ht:aE t<1000000000)(hl:l.length<1000000000)(hb:∀u∈l,aE u<1000000000):aW C 88 [.ab false (aj l),enc t] (.bool (eQ l t)):=by
 have hc:=og l 143 [.ptr 0 0 0 0] (λu=>decide (bR t u=0)) [⟨.m,0,4,[enc t]⟩] hl (λx hx=>jj.opened λH' hE=>GJ t x ht (hb x hx) 0 H' ((hE.hv (HV.one (by simp))).gr (HV.one (by simp))).closed (hE.at rfl));rw[aN t]at hc ⊢;refine aW.x T6 Tryz.func88 rfl ?_;refine wA ?_;refine .ex hc (λh' hE=>?_);refine wA ?_;exact⟨_,rfl,rfl⟩
theorem z7(t:Tm)(hb:aE t<10000000):aW C 85 [enc t] (.int .i64 (bH t)):=by
 have h1:=AY t (by omega);have h2:=Ch t (by omega);have h3:=lY t hb;have h4:=(pt t (by omega)).nine;have Hx:=eR t;rw[aN]at h1 h2 h3 h4 ⊢
 have h5:∀H,aD C 86 [.ab false (aj (bx t)),.fn 141 []] H (λr h'=>r=.bool ((bx t).any wc)/\kJ H h'):=λH=>
  og (bx t) 141 [] wc H (by omega) (λx hx=>jj.pure (by simpa[ba]using GH x) (by simp[au]))
 refine aW.x T6 Tryz.func85 rfl ?_;refine wA ?_;refine .p h1 ?_;refine wD (λhc=>?_) λhc=>?_
 ·have Qw:xf t=0:=by omega
  have ET:bH t=if iv t=false\/(bx t).any wc=true then 10 else if 60<size t then 3 else 0:=by rw[bH,if_neg (by omega)]
  refine .p h2 ?_
  cases hf:iv t
  ·refine wA ?_;exact⟨_,rfl,by rw[ET,if_pos (.inl hf)];rfl⟩
  ·refine wA ?_;refine .p h3 ?_;refine wA ?_;refine .ex (h5 _) (λh' hE=>?_);have k0:=hE.at (i:=0) rfl
   cases ha:(bx t).any wc
   ·rw[hf,ha,if_neg (by simp)]at ET;refine wA ?_;refine .p h4 ?_;refine wD (λhc=>?_) λhc=>?_;exact⟨_,rfl,by rw[ET,if_pos (by omega)];rfl⟩;exact⟨_,rfl,by rw[ET,if_neg (by omega)];rfl⟩
   ·refine wA ?_;exact⟨_,rfl,by rw[ET,if_pos (.inr ha)];rfl⟩
 exact⟨_,rfl,by rw[bH,if_pos (by assumption)];rfl⟩
theorem _root_.Go.Pm.bw.KH{C:bZ}{ops:Array Oper}{i d:Nat}{ty:TypeId}{pos:String}{af:Array Edge}{r:List Oper}{V:Nat->PV}{L:Al}{h:aa}{L0:Nat}{own:List Nat}{Q:St->Prop}{op:Op}{v:PV}{h':aa}(M J:aa)
  (hc:∃n0,∀n,n0<=n->ak C (cN C n) 1 op (al L V) M=some (v,h')) (k:bw C ops (i+1) r ⟨⟨al ((d,v)::L) V,h++J⟩,L0,own++List.replicate J.length i⟩ Q) (hM:bX ((before ops).getD i 0).testBit L0 own h=M) (hJ:h'.drop h.length=J) (eJ:aL M=true) (ls:(op.operands.toList.all λy=>br (aI M) (ev (al L V) y))=true)
  (De:(J.all λo=>decide (o.mu≠.l))=true) (hh:cw op=true:=by rfl) (hl:(level ops (before ops) i==2)=false:=by rfl):bw C ops i (⟨some d,op,ty,pos,af,none⟩::r) ⟨⟨al L V,h⟩,L0,own⟩ Q:=by
 obtain⟨n0,hn⟩:=hc;have gp:level ops (before ops) i≠2:=by simpa using hl
 refine bw.step ⟨n0,λn h1=>?_⟩ k;subst hM hJ;simp only[bS,aK,hh,Uk,if_false,gp,eJ,ls,and_self,if_true,hn n h1,De,bd]
theorem _root_.Go.Pm.HF{C:bZ}{run:gw}{f:FuncId}{g:List PV->aa->Option (PV×aa)}{V:Nat->PV}{xs:List Operand}{DQ:Array TypeId}{M h':aa}{us:List PV}{v:PV}(hm:C.mode f=.cH g)(hx:xs.map (ev V)=us)(hg:g us (M.map bB)=some (v,h'))(De:((h'.drop M.length).all λo=>decide (o.mu≠.l))=true):
  ak C run 1 (.call ⟨.value (.func f),xs.toArray,DQ⟩) V M=some (v,M++h'.drop M.length):=by
 simp only[ak,fQ,ev,hx,Uc];unfold cM;rw[hm];simp only[da,hg,De,if_true]
 rfl
theorem _root_.Go.Pm.MO{C:bZ}(T:kM C.P){run:gw}{lv:Nat}{L:Al}{V:Nat->PV}{M:aa}{t:TypeId}{x:Operand}{p v:PV}(hx:dn L x=some p)(hl:loadT T M t p=some v):ak C run lv (.load t x) (al L V) M=some (v,M):=by
 simp only[ak,aw,ah hx,nH T hl,TO]
theorem _root_.Go.Pm.MP{C:bZ}(T:kM C.P){run:gw}{L:Al}{V:Nat->PV}{M:aa}{t:TypeId}{n:Nat}{ps:Array (Nat×Operand)}{vs:List PV}(x:vj T t n ps.toList L (λ_ es=>es=vs))(hv:au vs=true):ak C run 1 (.buildSlice t n ps) (al L V) M=some (.ab true vs,M):=by
 obtain⟨sz,es,rfl,e⟩:=lB T x;have:=e V M 1;rw[if_pos hv]at this;simpa only[ak,aw]using this
theorem _root_.Go.Pm.GK{C:bZ}{run:gw}{lv:Nat}{L:Al}{V:Nat->PV}{h h':aa}{st xt:TypeId}{x y:Operand}{v u r:PV}(hx:dn L x=some v)(hy:dn L y=some u)(ha:cg C.P lv h st xt v u=some (r,h')):ak C run lv (.call ⟨.builtin .append,#[x,y],#[st,xt]⟩) (al L V) h=some (r,h'):=by
 simp only[ak,aT,TT,T5,ah hx,ah hy,ha]
theorem Co(d:ee)(hk:d.kn.length<10000000):aW C 71 [kg d] (.ab false (aj (d.kn++[d.tm]))):=by
 have eE:=ax d.kn;rw[oM];refine aW.x T6 Tryz.func71 rfl ?_;refine Rn.go ?_;conv=>whnf
 refine .mk ?_;refine Rn.go ?_;conv=>whnf
 refine .raw (λV=>?_);refine D.fieldAddr T6 rfl rfl rfl rfl ?_;refine D.gZ T6 rfl rfl rfl rfl rfl rfl ?_;have LO:(aj d.kn).isEmpty=d.kn.isEmpty:=by cases d.kn <;>rfl
 obtain⟨box,jI⟩:∃b:aC,b=⟨.m,0,5,[.agg [.ab false (aj d.kn),.int .i64 d.tm.k,.str d.tm.s,.int .i64 d.tm.o,.ab false (aj d.tm.l)]]⟩:=⟨_,rfl⟩
 by_cases he:d.kn=[]
 ·have Pp:bz 4 [.ab false (aj d.kn)] ([box].map bB)=some (.ab true [],[box].map bB):=by simp[bz,he,aj]
  refine .KH [box] [] ⟨0,λn _=>HF rfl rfl Pp rfl⟩ ?_ (by rw[jI];rfl) rfl (by rw[jI];simp[aL,bM,br]) rfl rfl;refine D.fieldAddr T6 rfl rfl rfl rfl ?_;refine .KH [box] [] ⟨0,λn _=>MO T6 rfl (by rw[jI];rfl)⟩ ?_ (by rw[jI];rfl) rfl (by rw[jI];simp[aL,bM,br]) (by rw[jI];rfl) rfl;refine .KH [box] [] ⟨0,λn _=>MP T6 (vs:=[.agg [.int .i64 d.tm.k,.str d.tm.s,.int .i64 d.tm.o,.ab false (aj d.tm.l)]]) (by exact rfl) (by simp)⟩ ?_ (by rw[jI];rfl) rfl (by rw[jI];simp[aL,bM,br]) (by rw[jI];rfl) rfl;subst jI;refine bw.two rfl rfl ⟨0,λn _=>GK rfl rfl (fH T6 (lv:=2) (full:=true) (ys:=[.agg [.int .i64 d.tm.k,.str d.tm.s,.int .i64 d.tm.o,.ab false (aj d.tm.l)]]) (by omega) rfl rfl rfl rfl rfl (by decide) rfl rfl rfl rfl (by simp))⟩ ?_;refine D.assign rfl ?_;refine bw.nil ⟨_,_,rfl,?_⟩
  conv=>whnf
  rw[he];exact rn (ep:=0) (sz:=4) (tl:=[]) (es:=aj ([]++[d.tm])) (by simp only[Uc,UP,aj];rw[<-aN];rfl) (by rw[ax];simp) (by simp) (by simp)
 ·have Pp:bz 4 [.ab false (aj d.kn)] ([box].map bB)=some (.an 1 0 0 d.kn.length,[box].map bB++[⟨.m,0,4,aj d.kn⟩]):=by
   have h1:d.kn.isEmpty=false:=by cases h:d.kn with |nil=>exact absurd h he |cons=>rfl
   simp only[bz,LO,h1,TR,if_false];rw[if_pos ⟨FX _,by omega⟩,eE]
   rfl
  refine .KH [box] [⟨.m,0,4,aj d.kn⟩] ⟨0,λn _=>HF rfl rfl Pp rfl⟩ ?_ (by rw[jI];rfl) rfl (by rw[jI];simp[aL,bM,br]) rfl rfl;refine D.fieldAddr T6 rfl rfl rfl rfl ?_;refine .KH [box,gQ ⟨.m,0,4,aj d.kn⟩] [] ⟨0,λn _=>MO T6 rfl (by rw[jI];rfl)⟩ ?_ (by rw[jI];rfl) rfl (by rw[jI];simp[aL,bM,br,gQ]) (by rw[jI];rfl) rfl;refine .KH [box,gQ ⟨.m,0,4,aj d.kn⟩] [] ⟨0,λn _=>MP T6 (vs:=[.agg [.int .i64 d.tm.k,.str d.tm.s,.int .i64 d.tm.o,.ab false (aj d.tm.l)]]) (by exact rfl) (by simp)⟩ ?_ (by rw[jI];rfl) rfl (by rw[jI];simp[aL,bM,br,gQ]) (by rw[jI];rfl) rfl;subst jI;refine bw.two rfl rfl ⟨0,λn _=>GK rfl rfl (iB T6 (len:=d.kn.length) (o:=⟨.m,0,4,aj d.kn⟩) (full:=true) (ys:=[.agg [.int .i64 d.tm.k,.str d.tm.s,.int .i64 d.tm.o,.ab false (aj d.tm.l)]]) rfl rfl rfl rfl rfl (by decide) rfl rfl rfl rfl (by simp;omega) (bo rfl rfl (by simp)) rfl rfl (by simp[eE]))⟩ ?_;refine D.assign rfl ?_;refine bw.nil ⟨_,_,rfl,?_⟩
  conv=>whnf
  have SE:List.take d.kn.length (aj d.kn)=aj d.kn:=Ub (by omega);exact rn (ep:=1) (sz:=4) (tl:=[]) (es:=aj (d.kn++[d.tm])) (by rw[du];simp only[SE,Uc,aj];rw[<-aN];rfl) (by rw[ax];simp) (by simp) (by simp)
theorem z8(d:ee)(u:Tm)(hu:aE u<1000000000)(hk:d.kn.length<1000000000)(hb:∀t∈d.kn,aE t<1000000000)(id:Nat)(H:aa)(hH:aL (H++[⟨.m,0,4,[enc u]⟩])=true)(h0:H[id]?=some ⟨.m,0,5,[kg d]⟩):
  aD C 87 [enc u,.ptr id 0 0 0] H (λr h'=>r=.bool (!eQ d.kn u)/\kJ H h'):=by
 have h1:=ES d.kn u hu hk hb;rw[oM]at h0;rw[aN]at h1 hH ⊢;refine aD.x T6 Tryz.func87 rfl ?_;refine wA ?_;refine .p h1 ?_
 cases eQ d.kn u
 all_goals
  refine wA ?_;exact⟨rfl,(kJ.refl _).gr (HV.one (by simp))⟩
theorem sA(b:List Tm)(v:PV)(u:Tm)(hu:aE u<1000000000)(hk:b.length<1000000000)(hb:∀t∈b,aE t<1000000000)(id:Nat)(H:aa)(hH:aL (H++[⟨.m,0,4,[enc u]⟩])=true)(h0:H[id]?=some ⟨.m,0,1,[v]⟩)(ho:Out 4 H v (aj b)):
  aD C 89 [enc u,.ptr id 0 0 0] H (λr h'=>r=.bool (!eQ b u)/\kJ H h'):=by
 have h1:=ES b u hu hk hb;have MQ:=ho.gr [⟨.m,0,4,[enc u]⟩];rw[aN]at h1 hH MQ ⊢;refine aD.x T6 Tryz.func89 rfl ?_;have Kg:=MQ;rcases MQ with⟨rfl,e⟩|⟨cz,ep,rfl,e⟩
 all_goals
  refine wA ?_;refine ai.Ky (.inl Kg) h1 ?_
  cases eQ b u
  all_goals
   refine wA ?_;exact⟨rfl,(kJ.refl _).gr (HV.one (by simp))⟩
def jY(p:List ee):Option (List Tm):=p.getLast?.map ee.kn
def c8(p:List ee):List Tm:=p.flatMap λd=>bx d.tm
theorem gK(p:List ee)(d:ee):jY (p++[d])=some d.kn:=by simp[jY]
theorem fL(p:List ee)(d:ee):c8 (p++[d])=c8 p++bx d.tm:=by simp[c8]
theorem uL{l p q:List Tm}{u:Tm}(e:l=p++u::q)(hp:∀v∈p,bH v=0)(hu:bH u≠0):dU l=bH u:=by
 subst e
 induction p with
 |nil=>simp only[UP,dU];rw[if_pos hu]
 |cons v p ih=>
  simp only[Uh,dU];rw[if_neg (by rw[hp v (by simp)];simp),ih (λw hw=>hp w (by simp[hw]))]
theorem pZ:∀{l:List Tm},(∀v∈l,bH v=0)->dU l=0
 |[],_=>rfl
 |v::l,h=>by
  rw[dU,if_neg (by rw[h v (by simp)];simp)];exact pZ λu hu=>h u (by simp[hu])
theorem dg{t:Tm}(h:bH t=0):aE t<=10000:=rq (ke h).1
theorem x5{p:List ee}(h:∀d∈p,bH d.tm=0):(c8 p).length<=p.length * 10000:=by
 induction p with
 |nil=>simp[c8]
 |cons d p ih=>
  have h1:=ih λx hx=>h x (by simp[hx])
  have h2:=eR d.tm;have h3:=dg (h d (by simp));simp only[c8,Vg,T0,T2]at h1 ⊢;omega
theorem uM{p:List ee}(h:∀d∈p,bH d.tm=0):∀t∈c8 p,aE t<=10000:=by
 intro t ht
 obtain⟨d,hd,ht⟩:=UY.1 ht;have:=iW ht;have:=dg (h d hd);omega
theorem rc(l:List ee)(hl:l.length<1000000000)(hb:∀d∈l,d.kn.length<10000000/\∀t∈d.kn++[d.tm],aE t<10000000):aW C 30 [.ab false (aX l)] (.int .i64 (gD l)):=by
 have eE:=eP l;refine aW.x T6 Tryz.func30 rfl ?_;refine wD (λhc=>?_) λhc=>?_;exact⟨_,rfl,by rw[gD,if_pos (by omega)];rfl⟩;have L9:gD l=jq none [] l:=by rw[gD,if_neg (by omega)]
 refine ie.zip T6 l (λp q L H=>∃v,L=[(0,.ab false (aX l)),(3,.ptr 0 0 0 0),(14,.ab false (aX l)),(15,.int .i64 (aX l).length),(16,.int .i64 p.length)]/\HR H/\H[0]?=some ⟨.m,0,1,[v]⟩/\Out 4 H v (aj (c8 p))/\(∀i∈fx v,1<=i)/\gD l=jq (jY p) (c8 p) q/\∀d∈p,bH d.tm=0) (.nx ⟨_,rfl,(HV.one (by simp)).hr,rfl,.inl ⟨rfl,rfl⟩,by simp[fx],L9,by simp⟩) ?_ ?_
 ·rintro p d q _ H V e ⟨v,rfl,hH,h0,ho,hv,hs,hp⟩;have dL:=fh e;have gp:=lenE e;obtain⟨Bk,yg⟩:=hb d (by rw[e];simp);have Qx:=Co d Bk;have On:=ax d.kn;rw[jq]at hs;rw[oM]at Qx;refine wD (λhc=>?_) λhc=>?_;exact⟨_,rfl,by rw[hs,if_pos (by omega)];rfl⟩;rw[if_neg (by omega)]at hs
  skip
  refine .p Qx ?_;refine wA ?_;obtain⟨H2,wM⟩:∃x,x=H++[⟨.m,0,5,[.agg [.ab false (aj d.kn),.int .i64 d.tm.k,.str d.tm.s,.int .i64 d.tm.o,.ab false (aj d.tm.l)]]⟩]:=⟨_,rfl⟩;have b2:H2[H.length]?=some ⟨.m,0,5,[.agg [.ab false (aj d.kn),.int .i64 d.tm.k,.str d.tm.s,.int .i64 d.tm.o,.ab false (aj d.tm.l)]]⟩:=by rw[wM];simp
  have z2:H2[0]?=some ⟨.m,0,1,[v]⟩:=by rw[wM,TG (ae h0)];exact h0
  have r2:HR H2:=by rw[wM];exact hH.jk (HV.one (by simp))
  have o2:Out 4 H2 v (aj (c8 p)):=by rw[wM];exact ho.gr _
  have ekt:=ax (d.kn++[d.tm]);rw[<-wM];refine ie.zip T6 (d.kn++[d.tm]) (λp2 q2 L K=>L=[(0,.ab false (aX l)),(3,.ptr 0 0 0 0),(4,.int .i64 p.length),(5,.ptr H.length 0 0 0),(14,.ab false (aX l)),(15,.int .i64 (aX l).length),(16,.int .i64 p.length),(26,.ab false (aj (d.kn++[d.tm]))),(27,.int .i64 (aj (d.kn++[d.tm])).length),(28,.int .i64 p2.length)]/\kJ H2 K/\∀u∈p2,bH u=0) (.nx ⟨rfl,kJ.refl _,by simp⟩) ?_ ?_
  ·rintro p2 u q2 _ K V e2 ⟨rfl,hE,CJ⟩;have Bj:=bA e2;have Ff:=congrArg List.length e2;rw[T0,T0]at Ff;simp only[T2,Ut]at Ff;rw[T0]at ekt;simp only[T2,Ut]at ekt;have Qy:=z7 u (yg u (by rw[e2];simp));rw[aN]at Qy;refine wA ?_;refine .p Qy ?_;refine wD (λhc=>?_) λhc=>?_;exact .nx ⟨rfl,hE.gr (HV.one (by simp)),λw hw=>by rcases TP.1 hw with h |h;exact CJ w h;simp at h;rw[h];assumption⟩
   ·have SF:=uL e2 CJ (by assumption);exact⟨_,rfl,by rw[hs,SF,if_pos (by assumption)];rfl⟩
  ·rintro _ K V ⟨rfl,hE,CJ⟩;rw[if_neg (by rw[pZ CJ];simp)]at hs;have bK:=hE.at b2;have zK:=hE.at z2;have rK:HR K:=by obtain⟨J,hJ,rfl⟩:=hE;exact r2.jk hJ
   have oK:Out 4 K v (aj (c8 p)):=by obtain⟨J,hJ,rfl⟩:=hE;exact o2.gr _
   have Jq:=uM hp;have Ii:=x5 hp;have qA:p.length<41:=by omega
   by_cases JS:p=[]
   ·have Kz:kept (jY p) d.kn=true:=by rw[JS];rfl
    rw[Kz,if_neg (by simp)]at hs;have Nk:p.length=0:=by rw[JS];rfl
    refine wA ?_;obtain⟨K3,Qz⟩:∃x,x=K:=⟨_,rfl⟩;rw[<-Qz]at bK zK rK oK ⊢;have b3:=bK;have z3:=zK;have r3:=rK;have o3:=oK;have ekn:=ax d.kn;refine ie.zip T6 d.kn (λp4 q4 L K4=>L=[(0,.ab false (aX l)),(3,.ptr 0 0 0 0),(5,.ptr H.length 0 0 0),(14,.ab false (aX l)),(15,.int .i64 (aX l).length),(16,.int .i64 p.length),(51,.ab false (aj d.kn)),(52,.int .i64 (aj d.kn).length),(53,.int .i64 p4.length)]/\kJ K3 K4/\∀u∈p4,((bx u).all λx=>eQ (c8 p) x)=true) (.nx ⟨rfl,kJ.refl _,by simp⟩) ?_ ?_
    ·rintro p4 u q4 _ K4 V e4 ⟨rfl,tf,Aa⟩;have GL:=bA e4;have Hn:=lenE e4;have KI:bH u=0:=CJ u (by rw[e4];simp);have QA:=dg KI;have MR:=lY u (by omega);have Hx:=eR u;have r5:HR (K4++[⟨.m,0,4,[enc u]⟩]):=by obtain⟨J,hJ,rfl⟩:=tf;exact(r3.jk hJ).jk (HV.one (by simp))
     have z5:(K4++[⟨.m,0,4,[enc u]⟩])[0]?=some ⟨.m,0,1,[v]⟩:=by rw[TG (ae (tf.at z3))];exact tf.at z3
     have o5:Out 4 (K4++[⟨.m,0,4,[enc u]⟩]) v (aj (c8 p)):=by obtain⟨J,hJ,rfl⟩:=tf;exact(o3.gr _).gr _
     have Ab:=og (bx u) 89 [.ptr 0 0 0 0] (λx=>!eQ (c8 p) x) (K4++[⟨.m,0,4,[enc u]⟩]) (by omega) (λx hx=>jj.opened λH' hE=>by
      have JT:=iW hx;obtain⟨J,hJ,rfl⟩:=hE;exact sA (c8 p) v x (by omega) (by omega) (λt ht=>by have:=Jq t ht;omega) 0 _ ((r5.jk hJ).jk (HV.one (by simp))).closed (by rw[TG (ae z5)];exact z5) (o5.gr _))
     rw[aN]at MR Ab;refine wA ?_;refine .p MR ?_;refine wA ?_;refine .ex Ab (λh' Pq=>?_)
     cases sB:(bx u).any λx=>!eQ (c8 p) x
     ·have cZ:((bx u).all λx=>eQ (c8 p) x)=true:=by
       rw[UR]at sB;rw[TH]
       intro x hx
       simpa using sB x hx
      refine wA ?_;exact .nx ⟨rfl,(tf.gr (HV.one (by simp))).trans Pq,λw hw=>by rcases TP.1 hw with h |h;exact Aa w h;simp at h;rw[h];exact cZ⟩
     ·have oq:yj (c8 p) d.kn=false:=by
       unfold yj;rw[U7];refine⟨u,by rw[e4];simp,?_⟩;obtain⟨x,hx,JT⟩:=UZ.1 sB;rw[TH]
       intro h
       have:=h x hx;simp[this]at JT
      refine wA ?_;exact⟨_,rfl,by rw[hs,if_pos oq];rfl⟩
    ·rintro _ K4 V ⟨rfl,tf,Aa⟩
     have oq:yj (c8 p) d.kn=true:=by
      unfold yj;rw[TH];exact Aa
     rw[oq,if_neg (by simp)]at hs;have b6:=tf.at b3;have z6:=tf.at z3;have r6:HR K4:=by obtain⟨J,hJ,rfl⟩:=tf;exact r3.jk hJ
     have o6:Out 4 K4 v (aj (c8 p)):=by obtain⟨J,hJ,rfl⟩:=tf;exact o3.gr _
     have HG:bH d.tm=0:=CJ d.tm (by simp);have Lc:=dg HG;have EU:=lY d.tm (by omega);have Hx:=eR d.tm;rw[aN]at EU;have o7:=o6;have k6:=ae z6;have Ea:=ax (bx d.tm);have Df:=ax (c8 p);rcases o7 with⟨rfl,e7⟩|⟨id7,SG,rfl,e7⟩
     all_goals
      refine wA ?_;refine .p EU ?_;refine wA ?_;refine .lr (λv' h' lr=>?_) o6;have f0:h'[0]?=K4[0]?:=lr.fr 0 k6 (λep n hh=>by have:=hv 0 (by rw[hh];simp[fx]);omega);rw[z6]at f0;have lo:=lr.out;have lh:=lr.hr;have kh:=ae f0
      have hw:∀i∈fx v',1<=i:=λi hi=>by
       rcases lr.fx i hi with h |h;exact hv i h;omega
      have B2:=lo.br;rw[<-du,<-fL]at lo;rcases lo with⟨rfl,e8⟩|⟨id8,Pr,rfl,e8⟩
      all_goals
       refine wA ?_;refine .nx ⟨_,rfl,lh.set _ (by simp) (by simpa[bM,br]using B2),TM kh,?_,hw,by rw[gK,fL];exact hs,λw hw=>by rcases TP.1 hw with h |h;exact hp w h;simp at h;rw[h];exact HG⟩
       first
        |exact .inl ⟨rfl,e8⟩
        |exact .inr ⟨id8,Pr,rfl,(TN (by have:=hw id8 (by simp[fx]);omega)).trans e8⟩
   ·obtain⟨p',e0,sX⟩:∃p' e0,p=p'++[e0]:=by
     rcases List.eq_nil_or_concat p with h |⟨a,b,h⟩;exact absurd h JS;exact⟨a,b,by rw[h];simp⟩
    have EV:=fh (l:=l) (p:=p') (d:=e0) (q:=d::q) (by rw[e,sX];simp);have Nk:p.length=p'.length+1:=by rw[sX];simp
    have Ce:jY p=some e0.kn:=by rw[sX,gK]
    obtain⟨SH,Ps⟩:=hb e0 (by rw[e,sX];simp)
    have Ab:=og e0.kn 87 [.ptr H.length 0 0 0] (λu=>!eQ d.kn u) K (by omega) (λx hx=>jj.opened λH' hE=>by
     obtain⟨J,hJ,rfl⟩:=hE;exact z8 d x (by have:=Ps x (by simp[hx]);omega) (by omega) (λt ht=>by have:=yg t (by simp[ht]);omega) H.length _ ((rK.jk hJ).jk (HV.one (by simp))).closed (by rw[TG (ae bK)];exact bK))
    refine wA ?_;refine .mk (n:=p'.length) ?_ (by omega) EV rfl;refine wA ?_;refine .ex Ab (λK3 ND=>?_)
    cases sB:e0.kn.any λu=>!eQ d.kn u
    ·have JU:kept (jY p) d.kn=true:=by
      rw[Ce];show(e0.kn.all λt=>eQ d.kn t)=true;rw[UR]at sB;rw[TH]
      intro x hx
      simpa using sB x hx
     rw[JU,if_neg (by simp)]at hs;have b3:=ND.at bK;have z3:=ND.at zK;have r3:HR K3:=by obtain⟨J,hJ,rfl⟩:=ND;exact rK.jk hJ
     have o3:Out 4 K3 v (aj (c8 p)):=by obtain⟨J,hJ,rfl⟩:=ND;exact oK.gr _
     refine wA ?_;have ekn:=ax d.kn;refine ie.zip T6 d.kn (λp4 q4 L K4=>L=[(0,.ab false (aX l)),(3,.ptr 0 0 0 0),(5,.ptr H.length 0 0 0),(14,.ab false (aX l)),(15,.int .i64 (aX l).length),(16,.int .i64 p.length),(51,.ab false (aj d.kn)),(52,.int .i64 (aj d.kn).length),(53,.int .i64 p4.length)]/\kJ K3 K4/\∀u∈p4,((bx u).all λx=>eQ (c8 p) x)=true) (.nx ⟨rfl,kJ.refl _,by simp⟩) ?_ ?_
     ·rintro p4 u q4 _ K4 V e4 ⟨rfl,tf,Aa⟩;have GL:=bA e4;have Hn:=lenE e4;have KI:bH u=0:=CJ u (by rw[e4];simp);have QA:=dg KI;have MR:=lY u (by omega);have Hx:=eR u;have r5:HR (K4++[⟨.m,0,4,[enc u]⟩]):=by obtain⟨J,hJ,rfl⟩:=tf;exact(r3.jk hJ).jk (HV.one (by simp))
      have z5:(K4++[⟨.m,0,4,[enc u]⟩])[0]?=some ⟨.m,0,1,[v]⟩:=by rw[TG (ae (tf.at z3))];exact tf.at z3
      have o5:Out 4 (K4++[⟨.m,0,4,[enc u]⟩]) v (aj (c8 p)):=by obtain⟨J,hJ,rfl⟩:=tf;exact(o3.gr _).gr _
      have Ab:=og (bx u) 89 [.ptr 0 0 0 0] (λx=>!eQ (c8 p) x) (K4++[⟨.m,0,4,[enc u]⟩]) (by omega) (λx hx=>jj.opened λH' hE=>by
       have JT:=iW hx;obtain⟨J,hJ,rfl⟩:=hE;exact sA (c8 p) v x (by omega) (by omega) (λt ht=>by have:=Jq t ht;omega) 0 _ ((r5.jk hJ).jk (HV.one (by simp))).closed (by rw[TG (ae z5)];exact z5) (o5.gr _))
      rw[aN]at MR Ab;refine wA ?_;refine .p MR ?_;refine wA ?_;refine .ex Ab (λh' Pq=>?_)
      cases sB:(bx u).any λx=>!eQ (c8 p) x
      ·have cZ:((bx u).all λx=>eQ (c8 p) x)=true:=by
        rw[UR]at sB;rw[TH]
        intro x hx
        simpa using sB x hx
       refine wA ?_;exact .nx ⟨rfl,(tf.gr (HV.one (by simp))).trans Pq,λw hw=>by rcases TP.1 hw with h |h;exact Aa w h;simp at h;rw[h];exact cZ⟩
      ·have oq:yj (c8 p) d.kn=false:=by
        unfold yj;rw[U7];refine⟨u,by rw[e4];simp,?_⟩;obtain⟨x,hx,JT⟩:=UZ.1 sB;rw[TH]
        intro h
        have:=h x hx;simp[this]at JT
       refine wA ?_;exact⟨_,rfl,by rw[hs,if_pos oq];rfl⟩
     ·rintro _ K4 V ⟨rfl,tf,Aa⟩
      have oq:yj (c8 p) d.kn=true:=by
       unfold yj;rw[TH];exact Aa
      rw[oq,if_neg (by simp)]at hs;have b6:=tf.at b3;have z6:=tf.at z3;have r6:HR K4:=by obtain⟨J,hJ,rfl⟩:=tf;exact r3.jk hJ
      have o6:Out 4 K4 v (aj (c8 p)):=by obtain⟨J,hJ,rfl⟩:=tf;exact o3.gr _
      have HG:bH d.tm=0:=CJ d.tm (by simp);have Lc:=dg HG;have EU:=lY d.tm (by omega);have Hx:=eR d.tm;rw[aN]at EU;have o7:=o6;have k6:=ae z6;have Ea:=ax (bx d.tm);have Df:=ax (c8 p);rcases o7 with⟨rfl,e7⟩|⟨id7,SG,rfl,e7⟩
      all_goals
       refine wA ?_;refine .p EU ?_;refine wA ?_;refine .lr (λv' h' lr=>?_) o6;have f0:h'[0]?=K4[0]?:=lr.fr 0 k6 (λep n hh=>by have:=hv 0 (by rw[hh];simp[fx]);omega);rw[z6]at f0;have lo:=lr.out;have lh:=lr.hr;have kh:=ae f0
       have hw:∀i∈fx v',1<=i:=λi hi=>by
        rcases lr.fx i hi with h |h;exact hv i h;omega
       have B2:=lo.br;rw[<-du,<-fL]at lo;rcases lo with⟨rfl,e8⟩|⟨id8,Pr,rfl,e8⟩
       all_goals
        refine wA ?_;refine .nx ⟨_,rfl,lh.set _ (by simp) (by simpa[bM,br]using B2),TM kh,?_,hw,by rw[gK,fL];exact hs,λw hw=>by rcases TP.1 hw with h |h;exact hp w h;simp at h;rw[h];exact HG⟩
        first
         |exact .inl ⟨rfl,e8⟩
         |exact .inr ⟨id8,Pr,rfl,(TN (by have:=hw id8 (by simp[fx]);omega)).trans e8⟩
    ·have JU:kept (jY p) d.kn=false:=by
      rw[Ce];show(e0.kn.all λt=>eQ d.kn t)=false;obtain⟨x,hx,JT⟩:=UZ.1 sB;rw[U7];exact⟨x,hx,by simpa using JT⟩
     refine wA ?_;exact⟨_,rfl,by rw[hs,if_pos JU];rfl⟩
 ·rintro _ H V ⟨v,rfl,hH,h0,ho,hv,hs,hp⟩;refine wA ?_;exact⟨_,rfl,by rw[hs,jq];rfl⟩
theorem Cp(p a:List Tm)(u:Tm):mW (p++[u]) a=fi u (mW p a):=by simp[mW]
theorem x6(l:List Tm)(hl:l.length<1000000)(hb:∀t∈l,aE t<100000000):aW C 70 [.ab false (aj l)] (.ab false (aj (lF l))):=by
 have eE:=ax l;refine aW.x T6 Tryz.func70 rfl ?_;refine wA ?_;refine ie.zip T6 l (λp q L H=>∃f,L=[(0,.ab false (aj l)),(3,.ab f (aj (mW p []))),(4,.int .i64 p.length)]/\H=[]) (.nx ⟨true,rfl,rfl⟩) ?_ ?_
 ·rintro p u q _ _ V e ⟨f,rfl,rfl⟩;have dL:=bA e;have gp:=lenE e;have h1:=rj p [];simp only[Ut]at h1
  have QB:=(Dc u (mW p []) (by have:=hb u (by rw[e];simp);omega) (λx hx=>by
   rcases wT hx with h |h;have:=hb x (by rw[e];simp[h]);omega
   cases h) (by omega)).nine
  rw[aN]at QB;refine wA ?_;refine .p QB ?_;refine wA ?_;exact .nx ⟨_,by rw[Cp],rfl⟩
 ·rintro _ _ V ⟨f,rfl,rfl⟩;refine wA ?_;exact⟨_,rfl,by simp[aQ,cJ,lF]⟩
theorem Cq(t:Tm)(n:Int)(hb:aE t<1000000):aW C 124 [enc t,.int .i64 n] (.ab false (aj (mD n t))):=by
 have h1:=xX t (by omega);have qA:=qy t;have eE:=ax (pre t);have Pt:=x6 (qk n (pre t)) (by have:=qE n (pre t);omega) (λu hu=>by have:=rr t u (Vs.1 hu).1;omega);rw[aN]at h1 ⊢;refine aW.x T6 Tryz.func124 rfl ?_;refine wA ?_;refine .p h1 ?_;refine wA ?_;refine ie.zip T6 (pre t) (λp q L H=>∃v,L=[(1,.int .i64 n),(5,v),(6,.ab false (aj (pre t))),(7,.int .i64 p.length)]/\HV H/\Out 4 H v (aj (qk n p))) (.nx ⟨_,rfl,HV.one (by simp),.inl ⟨rfl,rfl⟩⟩) ?_ ?_
 ·rintro p u q _ H V e ⟨v,rfl,hH,ho⟩;have dL:=bA e;have gp:=lenE e;have Pu:=qE n p;have hle:=ax (qk n p);have e9:aj (qk n p)++[.agg [.int .i64 u.k,.str u.s,.int .i64 u.o,.ab false (aj u.l)]]=aj (qk n p++[u]):=by rw[du,<-aN];rfl
  have yA:=A0 n p [u];rw[x7]at yA;refine wI (λhc v H lp=>?_) λhc=>?_
  ·rw[if_pos (by assumption)]at yA;refine .nx ⟨_,rfl,lp.hv,?_⟩;have:=lp.out;rw[e9]at this;rw[yA];exact this
  ·rw[if_neg (by assumption)]at yA;refine .nx ⟨_,rfl,hH,?_⟩;rw[yA];simpa[qk]using ho
 ·rintro _ H V ⟨v,rfl,hH,ho⟩;refine wA ?_;refine .pl (.inl ho) Pt (λh' fz=>?_);refine wA ?_;exact⟨_,rfl,by simp[aQ,cJ,mD,qk]⟩
theorem pC(t:Tm)(hb:aE t<1000000):aW C 67 [enc t] (.ab false (aj (bx t))):=by
 have h1:=Cq t 1 hb;rw[aN]at h1 ⊢;refine aW.x T6 Tryz.func67 rfl ?_;refine wA ?_;refine .p h1 ?_;refine wA ?_;exact⟨_,rfl,by simp[aQ,bx]⟩
theorem sC(l:List Tm)(t:Tm)(ht:aE t<1000000000)(hl:l.length<1000000000)(hb:∀u∈l,aE u<1000000000):aW C 91 [.ab false (aj l),enc t] (.bool (eQ l t)):=by
 have eE:=ax l;rw[aN];refine aW.x T6 Tryz.func91 rfl ?_;refine wA ?_;refine ie.zip T6 l (λp q L H=>L=[(0,.ab false (aj l)),(3,.ptr 0 0 0 0),(5,.int .i64 p.length)]/\H=[⟨.m,0,4,[.agg [.int .i64 t.k,.str t.s,.int .i64 t.o,.ab false (aj t.l)]]⟩]/\∀u∈p,bR u t≠0) (.nx ⟨rfl,rfl,by simp⟩) ?_ ?_
 ·rintro p u q _ _ V e ⟨rfl,rfl,hp⟩;have dL:=bA e;have gp:=lenE e;have Ku:=(BZ u t (hb u (by rw[e];simp)) ht).nine;rw[aN,aN t]at Ku;refine wA ?_;refine .p Ku ?_
  by_cases hc:bR u t=0
  ·rw[decide_eq_true hc];refine wA ?_;have hh:eQ l t=true:=xe.2 (by rw[<-fG hc,e];simp);exact⟨_,rfl,by rw[hh];rfl⟩
  ·rw[decide_eq_false hc];refine wA ?_;exact .nx ⟨rfl,rfl,λw hw=>by rcases TP.1 hw with h |h;exact hp w h;simp at h;rw[h];exact hc⟩
 ·rintro _ _ V ⟨rfl,rfl,hp⟩;refine wA ?_
  have hh:eQ l t=false:=by
   cases hx:eQ l t with
   |false=>rfl
   |true=>exact absurd (ma t) (hp t (xe.1 hx))
  exact⟨_,rfl,by rw[hh];rfl⟩
theorem x8(l:List Tm)(hl:(l.flatMap bx).length<1000000)(yQ:l.length<1000000)(hb:∀t∈l,aE t<1000000):aW C 21 [.ab false (aj l)] (.ab false (aj (lF (l.flatMap bx)))):=by
 have eE:=ax l
 have Pt:=x6 (l.flatMap bx) hl (λu hu=>by
  obtain⟨t,ht,hu⟩:=UY.1 hu;have:=iW hu;have:=hb t ht;omega)
 refine aW.x T6 Tryz.func21 rfl ?_;refine wA ?_;refine ie.zip T6 l (λp q L H=>∃v,L=[(0,.ab false (aj l)),(3,v),(4,.int .i64 p.length)]/\HV H/\Out 4 H v (aj (p.flatMap bx))) (.nx ⟨_,rfl,HV.nil,.inl ⟨rfl,rfl⟩⟩) ?_ ?_
 ·rintro p u q _ H V e ⟨v,rfl,hH,ho⟩;have dL:=bA e;have gp:=lenE e;have NE:=pC u (hb u (by rw[e];simp));have yA:(p++[u]).flatMap bx=p.flatMap bx++bx u:=by simp
  have SI:(p.flatMap bx).length+(bx u).length<=(l.flatMap bx).length:=by rw[e];simp
  have hle:=ax (p.flatMap bx);have TA:=ax (bx u);rw[aN]at NE;refine wA ?_;refine .p NE ?_;refine wG λv H lp=>?_;refine .nx ⟨_,rfl,lp.hv,?_⟩;have:=lp.out;rw[yA,du];exact this
 ·rintro _ H V ⟨v,rfl,hH,ho⟩;refine wA ?_;refine .pl (.inl ho) Pt (λh' fz=>?_);refine wA ?_;exact⟨_,rfl,by simp[aQ,cJ]⟩
theorem sD(t:Tm)(hb:aE t<10000000):aW C 144 [enc t] (.int .i64 (bH t)):=by
 have h1:=xU t (by omega);have h2:=zS t (by omega)
 have NE:xf t=0->valid t=0:=λh=>by
  unfold xf at h
  split at h
  ·rename_i hn;exact absurd h hn
  omega
 have h3:xf t=0->aW C 67 [enc t] (.ab false (aj (bx t))):=λh=>pC t (by have:=rq (NE h);omega)
 have h4:=(nJ t (by omega)).nine;have Hx:=eR t;have eE:=ax (bx t);rw[aN]at h1 h2 h3 h4 ⊢;refine aW.x T6 Tryz.func144 rfl ?_;refine wA ?_;refine .p h1 ?_;refine wD (λhc=>?_) λhc=>?_
 ·have Qw:xf t=0:=by omega
  have h3:=h3 Qw;have ET:bH t=if iv t=false\/(bx t).any wc=true then 10 else if 60<size t then 3 else 0:=by rw[bH,if_neg (by omega)]
  refine .p h3 ?_;refine wA ?_;refine ie.zip T6 (bx t) (λp q L H=>L=[(1,.ptr 0 0 0 0),(4,.ab false (aj (bx t))),(5,.int .i64 p.length)]/\H=[⟨.m,0,4,[.agg [.int .i64 t.k,.str t.s,.int .i64 t.o,.ab false (aj t.l)]]⟩]/\∀u∈p,wc u=false) (.nx ⟨rfl,rfl,by simp⟩) ?_ ?_
  ·rintro p u q _ _ V e ⟨rfl,rfl,hp⟩;have dL:=bA e;have gp:=lenE e;have hx:wc u=true->bH t=10:=λh=>by rw[ET,if_pos (.inr (UZ.2 ⟨u,by rw[e];simp,h⟩))]
   have hn:wc u=false->∀w∈p++[u],wc w=false:=λh w hw=>by rcases TP.1 hw with h1 |h1;exact hp w h1;simp at h1;rw[h1];exact h
   refine wH (λhc=>?_) (λhc hc=>?_) λhc hc=>?_;exact⟨_,rfl,by rw[hx (by simp[wc, *])];rfl⟩;exact⟨_,rfl,by rw[hx (by simp[wc, *])];rfl⟩;exact .nx ⟨rfl,rfl,hn (by simp[wc, *])⟩
  ·rintro _ _ V ⟨rfl,rfl,hp⟩;have ha:(bx t).any wc=false:=by rw[UR];intro u hu;simp[hp u hu]
   refine wA ?_;refine .p h2 ?_
   cases hf:iv t
   ·refine wA ?_;exact⟨_,rfl,by rw[ET,if_pos (.inl hf)];rfl⟩
   ·rw[hf,ha,if_neg (by simp)]at ET;refine wA ?_;refine .p h4 ?_;refine wD (λhc=>?_) λhc=>?_;exact⟨_,rfl,by rw[ET,if_pos (by omega)];rfl⟩;exact⟨_,rfl,by rw[ET,if_neg (by omega)];rfl⟩
 exact⟨_,rfl,by rw[bH,if_pos (by assumption)];rfl⟩
theorem x9{l:List Tm}{t:Tm}(h:∀u∈l,bH u=0):dU (l++[t])=bH t:=by
 induction l with
 |nil=>
  show(if bH t≠0 then bH t else 0)=bH t
  split
  rfl
  omega
 |cons v l ih=>
  show(if bH v≠0 then bH v else dU (l++[t]))=_;rw[if_neg (by rw[h v (by simp)];simp)];exact ih λu hu=>h u (by simp[hu])
def aZ(d:ee):Int:=if 40<d.kn.length then 3 else dU (d.kn++[d.tm])
theorem EW(d:ee)(hl:d.kn.length<1000000000)(hb:∀t∈d.kn++[d.tm],aE t<10000000):aW C 90 [kg d] (.int .i64 (bu.aZ d)):=by
 have eE:=ax d.kn;have HG:=sD d.tm (hb d.tm (by simp));rw[aN]at HG;rw[oM];refine aW.x T6 Tryz.func90 rfl ?_;refine wD (λhc=>?_) λhc=>?_;exact⟨_,rfl,by rw[bu.aZ,if_pos (by omega)];rfl⟩;have ho:bu.aZ d=dU (d.kn++[d.tm]):=by rw[bu.aZ,if_neg (by omega)]
 refine ie.zip T6 d.kn (λp q L H=>L=[(1,.ptr 0 0 0 0),(3,.int .i64 p.length)]/\H=[⟨.m,0,5,[.agg [.ab false (aj d.kn),.int .i64 d.tm.k,.str d.tm.s,.int .i64 d.tm.o,.ab false (aj d.tm.l)]]⟩]/\∀u∈p,bH u=0) (.nx ⟨rfl,rfl,by simp⟩) ?_ ?_
 ·rintro p u q _ _ V e ⟨rfl,rfl,hp⟩;have dL:=bA e;have gp:=lenE e;have KI:=sD u (hb u (by rw[e];simp));have hx:=uL (l:=d.kn++[d.tm]) (p:=p) (q:=q++[d.tm]) (u:=u) (by rw[e];simp) hp;rw[aN]at KI;refine wA ?_;refine .p KI ?_;refine wD (λhc=>?_) λhc=>?_;exact .nx ⟨rfl,rfl,λw hw=>by rcases TP.1 hw with h |h;exact hp w h;simp at h;rw[h];assumption⟩;exact⟨_,rfl,by rw[ho,hx (by assumption)];rfl⟩
 ·rintro _ _ V ⟨rfl,rfl,hp⟩;refine wA ?_;refine .p HG ?_;refine wA ?_;exact⟨_,rfl,by rw[ho,x9 hp];rfl⟩
end bu
end Go.Pm
