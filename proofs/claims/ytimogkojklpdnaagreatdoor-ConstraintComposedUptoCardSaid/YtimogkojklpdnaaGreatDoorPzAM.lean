/-
  A part of the library Pm (joined by program). Conditions: none.
-/
import Derived.Test.YtimogkojklpdnaaGreatDoorPzAA
import Derived.Test.YtimogkojklpdnaaGreatDoorPzAL
import Derived.Test.YtimogkojklpdnaaGreatDoorPzAK
import Derived.Test.YtimogkojklpdnaaGreatDoorPzAI
import Derived.Test.YtimogkojklpdnaaGreatDoorPzAG
set_option linter.unusedVariables false
set_option linter.unusedSimpArgs false
set_option linter.unnecessarySimpa false
namespace Go.Pm
set_option maxRecDepth 4000
structure Cl(u s r:List Tm):Prop where
 AU:fK r
 base:∀x∈s,x∈r
 PW:∀x∈r,x∈u/\xN u s x
def nK(u r:List Tm):Nat:=u.countP λt=>!cI r t
theorem Cl.len{u s r:List Tm}(U:KY u)(h:Cl u s r):r.length<=u.length:=by
 have:r=u.filter (cI r):=nk h.AU (ig U.AU) λy=>by
  rw[aao,dI];exact⟨λhy=>⟨(h.PW y hy).1,hy⟩,λhy=>hy.2⟩
 rw[this];exact aaP _ _
theorem KZ{p q r:List Tm}{t:Tm}(h:cI r t=false):nK (p++t::q) (eQ t r)<nK (p++t::q) r:=by
 have hm:∀l:List Tm,nK l (eQ t r)<=nK l r:=λl=>by
  refine List.countP_mono_left λx _ hx=>?_;simp only[aaS]at hx ⊢
  cases hh:cI r x with
  |false=>rfl
  |true=>
   rw[dI.2 ((nj t r x).2 (.inr (dI.1 hh)))]at hx
   cases hx
 have ht:cI (eQ t r) t=true:=dI.2 ((nj t r t).2 (.inl rfl));have h1:=hm p;have h2:=hm q;unfold nK at *;rw[List.countP_append,List.countP_append,aa6,aa6,ht,h];simp;omega
theorem Cl.add{u s r:List Tm}(U:KY u)(h:Cl u s r){t:Tm}(ht:t∈u)(hs:mI r t=true):Cl u s (eQ t r):=by
 refine⟨vu h.AU,λx hx=>(nj _ _ _).2 (.inr (h.base x hx)),λx hx=>?_⟩;rcases(nj _ _ _).1 hx with rfl |hx
 ·exact⟨ht,xN.step U h.PW ht hs⟩
 ·exact h.PW x hx
namespace bO
open Go.Proofs
attribute [local irreducible] aE aC aI aJ Ev ah ai ay aV bU
theorem Cl.ok{u s r:List Tm}(U:KY u)(h:Cl u s r)(hl:u.length<10000000)(hb:∀b∈u,ax b<10000000):jQ r:=
 ⟨h.AU,by have:=h.len U;omega,λb dK=>hb b (h.PW b dK).1⟩
theorem Cf(s:List Tm)(hs:jQ s)(hf:∀t∈s,ko t=true)(u:Tm)(hu:ax u<10000000)(hn:cI s u=false)(EA:ko u=true)(hv:valid u=0):aO C 212 [.aa false (ae s),enc u] (.bool false):=by
 have cT:=an s;have TJ:=hs.len;have f1:=(lP EA).2.2.2.2.1;have f2:=(lP EA).2.2.2.1;have h1:=HJ u hv hu f1 f2;have h2:=y8 [u] (by simp) (λt ht=>by simp at ht;rw[ht];omega);have h3:=HK u hv hu f1 f2;have hsu:kS [u]=[u]:=rfl;have x8:ae [u]=[.agg [.int .i64 u.k,.str u.s,.int .i64 u.o,.aa false (ae u.l)]]:=by rw[ae,aw];rfl
 rw[hsu]at h2;rw[x8]at h1 h2;have fQ:jQ [u]:=⟨by simp[fK],by simp,λb hb=>by simp at hb;rw[hb];exact hu⟩;rw[aw]at h1 h3 ⊢;refine aO.x T6 Tryz.func212 rfl ?_;refine wXA ?_;refine .p h1 ?_;refine wXA ?_;refine eJ.zip T6 s (λp q L H=>L=[(0,.aa false (ae s)),(3,.ptr 0 0 0 0),(5,.aa false [.agg [.int .i64 u.k,.str u.s,.int .i64 u.o,.aa false (ae u.l)]]),(22,.aa false (ae s)),(23,.int .i64 (ae s).length),(24,.int .i64 p.length)]/\HV H/\H[0]?=some ⟨.m,0,4,[.agg [.int .i64 u.k,.str u.s,.int .i64 u.o,.aa false (ae u.l)]]⟩) (.nx ⟨rfl,HV.one (by simp),rfl⟩) ?_ ?_
 ·rintro p t q _ H ρ e ⟨rfl,hH,h0⟩;have cV:=bS e;have cH:=congrArg List.length e;simp only[Zx,ZA]at cH;have g1:=mH t ⟨#[120,111,114]⟩;rw[show eU t ⟨#[120,111,114]⟩=false from(lP (hf t (by rw[e];simp))).2.2.2.1,aw]at g1;refine wXA ?_;refine .p g1 ?_;refine wXA ?_;exact .nx ⟨rfl,hH.ct (HV.one (by simp)),by rw[Zv (ag h0)];exact h0⟩
 ·rintro _ H ρ ⟨rfl,hH,h0⟩;refine wXA ?_;refine .p h2 ?_;refine wXA ?_;refine eJ.zip T6 s (λp q L H=>L=[(3,.ptr 0 0 0 0),(11,.aa false [.agg [.int .i64 u.k,.str u.s,.int .i64 u.o,.aa false (ae u.l)]]),(12,.aa true []),(42,.aa false (ae s)),(43,.int .i64 (ae s).length),(44,.int .i64 p.length)]/\HV H/\H[0]?=some ⟨.m,0,4,[.agg [.int .i64 u.k,.str u.s,.int .i64 u.o,.aa false (ae u.l)]]⟩) (.nx ⟨rfl,hH,h0⟩) ?_ ?_
  ·rintro p t q _ H ρ e ⟨rfl,hH,h0⟩;have cV:=bS e;have cH:=congrArg List.length e;simp only[Zx,ZA]at cH;have dO:t∈s:=by rw[e];simp
   have g1:=mH t ⟨#[120,111,114]⟩;have g2:=fQ.has (hs.bk t dO)
   have ht1:cI [u] t=false:=by
    cases hh:cI [u] t with
    |false=>rfl
    |true=>
     have h4:=dI.1 hh;simp at h4;rw[<-h4,dI.2 dO]at hn
     cases hn
   rw[ht1,x8]at g2;rw[show eU t ⟨#[120,111,114]⟩=false from(lP (hf t dO)).2.2.2.1]at g1;rw[aw]at g1 g2;refine wXA ?_;refine .p g1 ?_;refine wXA ?_;refine .p g2 ?_;refine wXA ?_;exact .nx ⟨rfl,hH.ct (HV.one (by simp)),by rw[Zv (ag h0)];exact h0⟩
  ·rintro _ H ρ ⟨rfl,hH,h0⟩;refine wXA ?_;refine .p h3 ?_;refine wXA ?_;exact⟨_,rfl,rfl⟩
theorem K5(s:List Tm)(hs:jQ s)(hf:∀t∈s,ko t=true)(D6:∀t∈s,km t=0)(u:Tm)(hu:ax u<10000000)(EA:ko u=true)(hv:valid u=0):aO C 164 [.aa false (ae s),enc u] (.bool (mI s u)):=by
 have Nk:u.l.length<10000000:=by obtain⟨k,n,o,l⟩:=u;have:=bD l;simp only[ax]at hu;simp only[Tm.l];omega
 have h1:=hs.has hu;have h2:=Es u (by omega) (by omega);have h3:=Aq s hs u hu;have h4:=EC s hs D6 u hu;have h5:=Cf s hs hf u hu;have h6:=Cd s hs hf u hu;have h7:=uj s hs hf u hu;have hR:mI s u=(cI s u ||Et u ||wx s u ||tI s u):=rfl;rw[hR];rw[aw]at h1 h2 h3 h4 h5 h6 h7 ⊢;refine aO.x T6 Tryz.func164 rfl ?_;refine wXA ?_;refine .p h1 ?_
 cases hn:cI s u
 ·refine wXA ?_;refine .p h2 ?_
  cases Et u
  ·refine wXA ?_;refine .p h3 ?_
   cases wx s u
   ·refine wXA ?_;refine .p h4 ?_
    cases tI s u
    ·refine wXA ?_;refine .p (h5 hn EA hv) ?_;refine wXA ?_;refine .p (h6 hn EA) ?_;refine wXA ?_;refine .p (h7 hn EA hv) ?_;refine wXA ?_;exact⟨_,rfl,rfl⟩
    ·refine wXA ?_;exact⟨_,rfl,rfl⟩
   ·refine wXA ?_;exact⟨_,rfl,rfl⟩
  ·refine wXA ?_;exact⟨_,rfl,rfl⟩
 ·refine wXA ?_;exact⟨_,rfl,rfl⟩
theorem Cg(u s:List Tm)(U:KY u)(hs:fK s)(hsu:∀x∈s,x∈u)(hl:u.length<10000000)(hb:∀b∈u,ax b<10000000):aO C 115 [.aa false (ae s),.aa false (ae u)] (.aa false (ae (ya u s))):=by
 have cT:=an u;refine aO.x T6 Tryz.func115 rfl ?_;refine wXA ?_;refine eJ.nat T6 (λn L H=>∃r g,n=nK u r+(if g then 1 else 0)/\L=[(0,.aa false (ae r)),(1,.aa false (ae u)),(5,.bool g)]/\Cl u s r/\(g=false->∀t∈u,mI r t=true->t∈r)/\HV H) (nK u s+1) (.nx ⟨s,true,rfl,rfl,⟨hs,λ_ h=>h,λx hx=>⟨hsu x hx,.base hx⟩⟩,by simp,HV.nil⟩) ?_;rintro n _ H ρ ⟨r,g,rfl,rfl,hc,hg,hH⟩
 cases g with
 |false=>
  have hr:r=ya u s:=N6 U hc.AU hc.PW λt ht hd=>xN.fix U hc.base (λx hx=>(hc.PW x hx).1) (hg rfl) hd
  refine wXA ?_;exact⟨_,rfl,by rw[<-hr];simp[aY,b9,ba]⟩
 |true=>
  refine wXA ?_;refine eJ.zip T6 u (λp q L K=>∃r' g',L=[(0,.aa false (ae r')),(1,.aa false (ae u)),(5,.bool g'),(9,.aa false (ae u)),(10,.int .i64 (ae u).length),(11,.int .i64 p.length)]/\Cl u s r'/\(g'=true->nK u r'<nK u r)/\(g'=false->r'=r/\∀t∈p,mI r t=true->t∈r)/\HV K) (.nx ⟨r,false,rfl,hc,by simp,λ_=>⟨rfl,by simp⟩,hH⟩) ?_ ?_
  ·rintro p t q _ K ρ e ⟨r',g',rfl,rU,Vt,uA,hK⟩;have cV:=bS e;have cH:=congrArg List.length e;simp only[Zx,ZA]at cH;have K6:t∈u:=by rw[e];simp
   have fQ:jQ r':=Cl.ok U rU hl hb;have h1:=fQ.has (hb t K6);have h2:=K5 r' fQ (λx hx=>U.fr x (rU.PW x hx).1) (λx hx=>U.ok x (rU.PW x hx).1) t (hb t K6) (U.fr t K6) (mG.1 (U.ok t K6)).1;have h3:=Hz r' t rU.AU fQ.len (λb dK=>by have:=fQ.bk b dK;omega) (by have:=hb t K6;omega);rw[aw]at h1 h2 h3;refine wXA ?_;refine .p h1 ?_
   cases hh:cI r' t
   ·refine wXA ?_;refine .p h2 ?_
    cases y9:mI r' t
    ·refine wXA ?_;refine .nx ⟨r',g',rfl,rU,Vt,λh=>⟨(uA h).1,λx hx Ch=>?_⟩,hK.ct (HV.one (by simp))⟩;rcases ZE.1 hx with hx |hx
     ·exact(uA h).2 x hx Ch
     ·simp at hx;rw[hx,<-(uA h).1,y9]at Ch
      cases Ch
    ·refine wXA ?_;refine .p h3 ?_;refine wXA ?_;refine .nx ⟨eQ t r',true,rfl,rU.add U K6 y9,λ_=>?_,by simp,hK.ct (HV.one (by simp))⟩;have cz:nK u (eQ t r')<nK u r':=by rw[e];exact KZ hh
     cases hg':g' with
     |true=>have:=Vt hg';omega
     |false=>rw[(uA hg').1]at cz;rw[(uA hg').1];exact cz
   ·refine wXA ?_;refine .nx ⟨r',g',rfl,rU,Vt,λh=>⟨(uA h).1,λx hx Ch=>?_⟩,hK.ct (HV.one (by simp))⟩;rcases ZE.1 hx with hx |hx
    ·exact(uA h).2 x hx Ch
    ·simp at hx;rw[hx,<-(uA h).1];exact dI.1 hh
  ·rintro _ K ρ ⟨r',g',rfl,rU,Vt,uA,hK⟩;refine wXA ?_;refine .nx ⟨nK u r'+(if g' then 1 else 0),?_,r',g',rfl,rfl,rU,λh=>?_,hK⟩
   ·cases g' with
    |true=>have:=Vt rfl;simp;omega
    |false=>rw[(uA rfl).1];simp
   ·obtain⟨rfl,h2⟩:=uA h;exact h2
theorem yb(k:List Tm)(t:Tm)(hf:∀u∈k++[t],ko u=true)(hl:bz (k++[t])<10000000):
  aO C 58 [.aa false (ae k),enc t] (.cm [.bool (uk k t),.int .i64 (lc k t)]):=by
 have xG:=bD (k++[t]);simp only[Zx,ZA,Z']at xG;have MN:∀u∈k++[t],ax u<10000000:=λu hu=>by have:=bN hu;omega
 have hUb:=zc MN;have hUl:=rB (k++[t]);have h1:=Ar k t hf hl;have x8:ae [t]=[.agg [.int .i64 t.k,.str t.s,.int .i64 t.o,.aa false (ae t.l)]]:=by rw[ae,aw];rfl
 rw[x8]at h1
 by_cases hE:lc k t=0
 ·rw[if_neg (by omega),hE]at h1
  have hrk:k9 (k++[t])=0:=by
   unfold lc at hE
   split at hE
   ·omega
   ·split at hE
    ·omega
    ·omega
  have U:KY (jW (k++[t])):=Sv λx hx=>⟨(HN (wy hrk x hx)).1,hf x hx⟩
  have Yg:∀x∈kS k,x∈jW (k++[t]):=λx hx=>(gX _ _).2 (eT.2 ⟨x,by simp[(gX _ _).1 hx],oC x⟩)
  have h2:=y8 k (by omega) (λx hx=>by have:=MN x (by simp[hx]);omega);have h3:=Cg _ _ U (jO k) Yg (by omega) hUb;have hd:jQ (ya (jW (k++[t])) (kS k)):=⟨ig U.AU,by have:=aaP (λx=>@decide (xN (jW (k++[t])) (kS k) x) (Classical.propDecidable _)) (jW (k++[t]));unfold ya;omega,λb hb=>hUb b (N7.1 hb).1⟩;have h4:=hd.has (MN t (by simp));have hR:uk k t=cI (ya (jW (k++[t])) (kS k)) t:=by rw[uk,decide_eq_true hE,aaE]
  rw[hR,hE];rw[aw]at h4 ⊢;refine aO.x T6 Tryz.func58 rfl ?_;refine wXA ?_;refine .p h1 ?_;refine wXA ?_;refine .p h2 ?_;refine wXA ?_;refine .p h3 ?_;refine wXA ?_;refine .p h4 ?_;refine wXA ?_;exact⟨_,rfl,rfl⟩
 ·rw[if_pos hE]at h1;have hR:uk k t=false:=by rw[uk,decide_eq_false hE,Bool.false_and]
  rw[hR,aw];refine aO.x T6 Tryz.func58 rfl ?_;refine wXA ?_;refine .p h1 ?_;refine wXA ?_;exact⟨_,rfl,rfl⟩
theorem atM{l p q:List Tm}{u:Tm}{tl:List PV}(e:l=p++u::q):(ae l++tl)[0+p.length]?=some (.agg [.int .i64 u.k,.str u.s,.int .i64 u.o,.aa false (ae u.l)]):=by
 rw[ZS,Zv (by have:=congrArg List.length e;simp at this;rw[an];omega)];exact bS e
theorem N8(l:List Tm)(tl:List PV)(g:FuncId)(p:Tm->Bool)(id ep:Nat)(H:ab)(e0:H[id]?=some ⟨.m,ep,4,ae l++tl⟩)(hl:l.length<1000000000)(hp:∀x∈l,aO C g [enc x] (.bool (p x)))(hm:C.mode g=.pure):
  ay C 142 [.aj id ep 0 l.length,.fn g []] H (λr h'=>r=.int .i64 (ug p l)/\fM H h'):=by
 have cT:=an l;refine ay.x T6 Tryz.func142 rfl ?_;refine wXA ?_;refine eJ.zip T6 l (λa q L K=>L=[(0,.aj id ep 0 l.length),(1,.fn g []),(7,.int .i64 l.length),(8,.int .i64 a.length)]/\fM H K/\∀y∈a,p y=false) (.nx ⟨rfl,fM.refl _,by simp⟩) ?_ ?_
 ·rintro a x q _ K ρ e ⟨rfl,hE,ha⟩;have cV:=atM (tl:=tl) e;have hK:=hE.at e0;have cH:=congrArg List.length e;simp only[Zx,ZA]at cH;have Ab:=hp x (by rw[e];simp);have hla:(ae l++tl).length=l.length+tl.length:=by rw[Zx,cT]
  rw[aw]at Ab;refine wXA ?_;refine ai.pure hm rfl (by simpa using Ab) ?_
  cases hb:p x
  ·refine wXA ?_;exact .nx ⟨rfl,hE,λy hy=>by rcases ZE.1 hy with h |h;exact ha y h;simp at h;rw[h];exact hb⟩
  ·refine wXA ?_;exact⟨by rw[e,pI ha hb];rfl,hE⟩
 ·rintro _ K ρ ⟨rfl,hE,ha⟩;refine wXA ?_;exact⟨by rw[kq ha];rfl,hE⟩
theorem _root_.Go.Pm.Vu{C:cK}(T:lz C.P){run:gU}{lv:Nat}{L:Al}{ρ:Nat->PV}{h:ab}{t el:TypeId}{x lo:Operand}{k:IntKind}{id ep len sz a:Nat}{o:au}(hx:cG L x=some (.aj id ep 0 len))(xJ:cG L lo=some (.int k a))(hk:T.kd t=some (.sl el))(hs:T.ts el=some sz)(hg:getM h id ep=some o)(gm:sz=o.bB)(hl:len<=o.es.length)(ha:a<len):ao C run lv (.slice t x (some lo) none none) (al L ρ) h=some (.aj id ep a (len - a),h):=by
 have h1:cx (some (.int k a)) 0 len=some a:=by simp[cx];omega
 have h2:bX C.P h t (.aj id ep 0 len) (some (.int k a)) none none=some (.aj id ep a (len - a)):=by
  unfold bX;rw[bp (T.cP _ _ hk)];simp only[T.dO _ _ hs,hg];rw[if_pos ⟨gm,by omega⟩];simp only[beyond,cx];rw[if_pos ⟨by omega,by omega⟩]
  by_cases h0:a=0
  ·subst h0;simp
  ·simp[h0];omega
 simp[ao,az,ak hx,ak xJ,h2]
theorem _root_.Go.Pm.Vv{C:cK}(T:lz C.P){run:gU}{lv:Nat}{L:Al}{ρ:Nat->PV}{h:ab}{t el:TypeId}{x hi:Operand}{k:IntKind}{id ep len sz b:Nat}{o:au}(hx:cG L x=some (.aj id ep 0 len))(xK:cG L hi=some (.int k b))(hk:T.kd t=some (.sl el))(hs:T.ts el=some sz)(hg:getM h id ep=some o)(gm:sz=o.bB)(hl:len<=o.es.length)(hb:b<=len):ao C run lv (.slice t x none (some hi) none) (al L ρ) h=some (.aj id ep 0 b,h):=by
 have h2:bX C.P h t (.aj id ep 0 len) none (some (.int k b)) none=some (.aj id ep 0 b):=by
  unfold bX;rw[bp (T.cP _ _ hk)];simp only[T.dO _ _ hs,hg];rw[if_pos ⟨gm,by omega⟩];simp only[beyond,cx];rw[if_neg (by omega)];simp;rw[if_pos hb]
 simp[ao,az,ak hx,ak xK,h2]
theorem _root_.Go.Pm.Vw{C:cK}(T:lz C.P){run:gU}{L:Al}{ρ:Nat->PV}{h:ab}{t el:TypeId}{x:Operand}{id ep off len:Nat}{o:au}{z:PV}(hx:cG L x=some (.aj id ep off len))(hk:T.kd t=some (.sl el))(hs:T.ts el=some o.bB)(hz:T.tz el=some z)(hg:getM h id ep=some o)(hm:o.mu=.m)(hl:off+len<=o.es.length)(h1:(cells z).length=o.bB)(h2:(cells z).all bG=true):ao C run 2 (.call ⟨.builtin .clear,#[x],#[t]⟩) (al L ρ) h=some (.cm [],h.set id {o with es:=o.es.take off++List.replicate len z++o.es.drop (off+len)}):=by
 have h3:lU C.P 2 h t (.aj id ep off len)=some (.cm [],h.set id {o with es:=o.es.take off++List.replicate len z++o.es.drop (off+len)}):=by
  unfold lU;rw[bp (T.cP _ _ hk)];simp only[T.dO _ _ hs,T.mO _ _ hz,hg];rw[if_pos (by simp only[hm,h1,h2,hl,and_self,Zz])]
 simp[ao,bo,ak hx,h3]
theorem N9(l:List Tm)(tl:List PV)(ht:ar tl=true)(g:FuncId)(p:Tm->Bool)(id ep:Nat)(H:ab)(hH:HR H)(e0:H[id]?=some ⟨.m,ep,4,ae l++tl⟩)(hl:l.length<1000000000)(hp:∀x∈l,aO C g [enc x] (.bool (p x)))(hm:C.mode g=.pure):
  ay C 104 [.aj id ep 0 l.length,.fn g []] H (λr h'=>(HR h'/\H.length<=h'.length/\∀j,j<H.length->j≠id->h'[j]?=H[j]?)/\r=.aj id ep 0 (l.filter λx=>!p x).length/\yc h' r (l.filter λx=>!p x)):=by
 have Sr:=N8 l tl g p id ep H e0 hl hp hm;have cT:=an l
 by_cases pY:∀y∈l,p y=false
 ·rw[kq pY]at Sr
  have I3:(l.filter λx=>!p x)=l:=by
   rw[List.filter_eq_self]
   intro x hx
   rw[pY x hx];rfl
  rw[I3];refine ay.x T6 Tryz.func104 rfl ?_;refine wXA ?_;refine .ex Sr (λh' hE=>?_);obtain⟨J,hJ,rfl⟩:=hE;refine wXA ?_;exact⟨⟨hH.dE hJ,by simp,λj hj _=>Zv hj⟩,rfl,id,ep,tl,rfl,by rw[Zv (ag e0)];exact e0,ht⟩
 ·obtain⟨a,x,b,e,ha,hx⟩:∃a x b,l=a++x::b/\(∀y∈a,p y=false)/\p x=true:=by
   clear Sr hp e0 cT hl
   induction l with
   |nil=>exact absurd (by simp) pY
   |cons y l ih=>
    cases hy:p y with
    |true=>exact⟨[],y,l,rfl,by simp,hy⟩
    |false=>
     obtain⟨a,x,b,rfl,h1,h2⟩:=ih (λh=>pY λz hz=>by rcases ZF.1 hz with rfl |hz;exact hy;exact h z hz);exact⟨y::a,x,b,rfl,λz hz=>by rcases ZF.1 hz with rfl |hz;exact hy;exact h1 z hz,h2⟩
  have hi:ug p l=a.length:=by rw[e];exact pI ha hx
  rw[hi]at Sr
  have Yn:(a.filter λx=>!p x)=a:=by
   rw[List.filter_eq_self]
   intro y hy
   rw[ha y hy];rfl
  have th:=congrArg List.length e;simp only[Zx,ZA]at th;refine ay.x T6 Tryz.func104 rfl ?_;refine wXA ?_;refine .ex Sr (λh' hE=>?_);obtain⟨J,hJ,rfl⟩:=hE;have Yz:=ag e0;have e1:(H++J)[id]?=some ⟨.m,ep,4,ae l++tl⟩:=by rw[Zv Yz];exact e0
  refine wXA ?_;refine eJ.zip T6 b (λc q L K=>L=[(0,.aj id ep 0 l.length),(1,.fn g []),(5,.int .i64 (a++c.filter λx=>!p x).length),(6,.int .i64 (a.length+1+c.length))]/\(HR K/\H.length<=K.length/\∀j,j<H.length->j≠id->K[j]?=H[j]?)/\∃N,0<N.length/\K[id]?=some ⟨.m,ep,4,ae (a++c.filter λx=>!p x)++ae N++(ae q++tl)⟩/\(a++c.filter λx=>!p x).length+N.length+q.length=l.length) (.nx ⟨rfl,⟨hH.dE hJ,by simp,λj hj _=>Zv hj⟩,[x],by simp,?_,?_⟩) ?_ ?_
  ·rw[e1,e,cd,ae];simp[ae]
  ·simp;omega
  ·rintro c u q _ K ρ e2 ⟨rfl,⟨hK,Sw,N'⟩,N,hM,hA,hn⟩;have Ab:=hp u (by rw[e,e2];simp);rw[aw]at Ab
   have hFs:a++(c++[u]).filter (λx=>!p x)=(a++c.filter λx=>!p x)++if p u then[]else[u]:=by
    rw[aby,ZZ]
    cases hb:p u <;>simp[hb]
   rw[hFs];obtain⟨F,hF⟩:∃F,F=a++c.filter λx=>!p x:=⟨_,rfl⟩
   rw[<-hF]at hA hn ⊢;have hFl:=an F;have hNl:=an N;have cH:=congrArg List.length e2;simp only[Zx,ZA]at cH hn;have di:F.length+N.length=a.length+1+c.length:=by omega
   obtain⟨A,MO⟩:∃A,A=ae F++ae N++(ae (u::q)++tl):=⟨_,rfl⟩;rw[<-MO]at hA
   have cV:A[0+(a.length+1+c.length)]?=some (.agg [.int .i64 u.k,.str u.s,.int .i64 u.o,.aa false (ae u.l)]):=by
    rw[MO,ZS,ZI (by simp;omega)];simp only[Zx];rw[show a.length+1+c.length - ((ae F).length+(ae N).length)=0 by omega,ae,aw]
    rfl
   have Dz:A.length=l.length+tl.length:=by
    rw[MO];simp only[Zx,ZA,an];omega
   have YA:=ag hA;have f0:(K++[(⟨.m,0,4,[.agg [.int .i64 u.k,.str u.s,.int .i64 u.o,.aa false (ae u.l)]]⟩:au)])[id]?=some ⟨.m,ep,4,A⟩:=by rw[Zv YA];exact hA
   have fb:(K++[(⟨.m,0,4,[.agg [.int .i64 u.k,.str u.s,.int .i64 u.o,.aa false (ae u.l)]]⟩:au)])[K.length]?=some ⟨.m,0,4,[.agg [.int .i64 u.k,.str u.s,.int .i64 u.o,.aa false (ae u.l)]]⟩:=by simp
   have x8:ae (u::q)=.agg [.int .i64 u.k,.str u.s,.int .i64 u.o,.aa false (ae u.l)]::ae q:=by rw[ae,aw]
   have ME:ae [u]=[.agg [.int .i64 u.k,.str u.s,.int .i64 u.o,.aa false (ae u.l)]]:=by rw[ae,aw];rfl
   refine wXA ?_;refine ai.pure hm rfl (by simpa using Ab) ?_
   cases hb:p u
   ·obtain⟨y,N2,rfl⟩:∃y N2,N=y::N2:=by
     cases N with
     |nil=>simp at hM
     |cons y M2=>exact⟨y,M2,rfl⟩
    have ey:A[0+F.length]?=some (.agg [.int .i64 y.k,.str y.s,.int .i64 y.o,.aa false (ae y.l)]):=by
     rw[MO,ZS,ZZ,ZI (by omega),hFl,abh,ae,aw];rfl
    have j8:A.set (0+F.length) (.agg [.int .i64 u.k,.str u.s,.int .i64 u.o,.aa false (ae u.l)])=ae (F++[u])++ae (N2++[u])++(ae q++tl):=by
     rw[MO,ZS,ZZ,aaO _ _ (by omega),hFl,abh,x8,cd,cd,ME,ae];simp
    simp only[ZA]at di hn;rw[if_neg (by simp)];refine wXA ?_;refine .nx ⟨rfl,⟨(hK.dE (HV.one (by simp))).set id (by simp) ?_,by simp;omega,λj h1 h2=>by rw[ZC (by omega),Zv (by omega)];exact N' j h1 h2⟩,N2++[u],by simp,?_,by simp at hn ⊢;omega⟩
    ·rw[j8];exact bq _ _ (by rw[dj,dj,dj,ht];simp)
    ·rw[<-j8];exact ZB (ag f0)
   ·rw[if_pos rfl,ZV];refine wXA ?_;refine .nx ⟨rfl,⟨hK.dE (HV.one (by simp)),by simp;omega,λj h1 h2=>by rw[Zv (by omega)];exact N' j h1 h2⟩,N++[u],by simp,?_,by simp at hn ⊢;omega⟩;rw[f0,MO,x8,cd,ME];simp
  ·rintro _ K ρ ⟨rfl,⟨hK,Sw,N'⟩,N,hM,hA,hn⟩;have pW:(l.filter λx=>!p x)=a++b.filter λx=>!p x:=by rw[e,aby,Yn,List.filter_cons,if_neg (by simp[hx])]
   rw[pW];have hFl:=an (a++b.filter λx=>!p x);have hNl:=an N;generalize(a++b.filter λx=>!p x)=F at *;simp only[Z',aaX]at hn;obtain⟨A,MO⟩:∃A,A=ae F++ae N++(ae []++tl):=⟨_,rfl⟩;rw[<-MO]at hA
   have Dz:A.length=l.length+tl.length:=by
    rw[MO];simp only[Zx,ae,Z'];omega
   have hg:getM K id ep=some ⟨.m,ep,4,A⟩:=bg hA rfl (by simp)
   have j8:A.take F.length++List.replicate (l.length - F.length) (PV.agg [.int .i64 0,.str ByteArray.empty,.int .i64 0,.aa true []])++A.drop (F.length+(l.length - F.length))=ae F++(List.replicate (l.length - F.length) (PV.agg [.int .i64 0,.str ByteArray.empty,.int .i64 0,.aa true []])++tl):=by
    rw[MO,Z6 (by simp <;>omega),Z6 (by omega),ZW (by omega),ZZ]
    congr 2
    rw[show ae F++ae N++(ae []++tl)=(ae F++ae N)++tl by simp[ae],aav (by simp <;>omega),List.drop_of_length_le (by simp <;>omega),aad]
   have xZ:ar (List.replicate (l.length - F.length) (PV.agg [.int .i64 0,.str ByteArray.empty,.int .i64 0,.aa true []])++tl)=true:=by
    rw[dj,ht,aa9,bt,Zw]
    intro y hy
    rw[aam hy];rfl
   refine wXA ?_;refine .mk (λrun lv ρ=>Vu T6 (o:=⟨.m,ep,4,A⟩) rfl rfl rfl rfl hg rfl (by show _<=A.length;omega) (by omega)) ?_;refine wXA ?_;refine .mk (λrun ρ=>Vw T6 (o:=⟨.m,ep,4,A⟩) rfl rfl rfl rfl hg rfl (by show _<=A.length;omega) rfl rfl) ?_;rw[show(⟨.m,ep,4,A.take F.length++List.replicate (l.length - F.length) (PV.agg [.int .i64 0,.str ByteArray.empty,.int .i64 0,.aa true []])++A.drop (F.length+(l.length - F.length))⟩:au)=⟨.m,ep,4,ae F++(List.replicate (l.length - F.length) (PV.agg [.int .i64 0,.str ByteArray.empty,.int .i64 0,.aa true []])++tl)⟩ by rw[j8]];have f1:(K.set id (⟨.m,ep,4,ae F++(List.replicate (l.length - F.length) (PV.agg [.int .i64 0,.str ByteArray.empty,.int .i64 0,.aa true []])++tl)⟩:au))[id]?=some ⟨.m,ep,4,ae F++(List.replicate (l.length - F.length) (PV.agg [.int .i64 0,.str ByteArray.empty,.int .i64 0,.aa true []])++tl)⟩:=ZB (ag hA);have Qz:(ae F++(List.replicate (l.length - F.length) (PV.agg [.int .i64 0,.str ByteArray.empty,.int .i64 0,.aa true []])++tl)).length=l.length+tl.length:=by simp only[Zx,aaN];omega
   have uA:=bg f1 rfl (by simp);refine wXA ?_;refine .mk (λrun lv ρ=>Vv T6 (o:=⟨.m,ep,4,ae F++(List.replicate (l.length - F.length) (PV.agg [.int .i64 0,.str ByteArray.empty,.int .i64 0,.aa true []])++tl)⟩) rfl rfl rfl rfl uA rfl (by rw[show(⟨.m,ep,4,ae F++(List.replicate (l.length - F.length) (PV.agg [.int .i64 0,.str ByteArray.empty,.int .i64 0,.aa true []])++tl)⟩:au).es.length=_ from Qz];omega) (by omega)) ?_;refine wXA ?_;exact⟨⟨hK.set id (by simp) (bq _ _ (by rw[dj,xZ];simp)),by simp;omega,λj h1 h2=>by rw[ZC (by omega)];exact N' j h1 h2⟩,rfl,id,ep,_,rfl,f1,xZ⟩
theorem ai.del{f:FuncId}{args:List PV}{H:ab}{id ep:Nat}{F:List Tm}{Q:PV->ab->Prop}{X:ab->Prop}(bT:id<H.length)
  (a:ay C f args H (λr h'=>(HR h'/\H.length<=h'.length/\X h')/\r=.aj id ep 0 F.length/\yc h' r F))
  (q:∀k,HR k->yc k (.aj id ep 0 F.length) F->Q (.aj id ep 0 F.length) k) (hm:C.mode f=.opened:=by rfl):ai C 2 f args H Q:=by
 refine ai.sm a (λr h' p=>⟨p.1.1,p.1.2.1⟩) (λr h' p=>?_) (λr h' p hr=>?_) hm
 ·obtain⟨⟨h1,_⟩,rfl,h3⟩:=p;exact q _ h1 h3
 ·obtain⟨⟨h1,h2,_⟩,rfl,dS,gV,tl,e1,e2,e3⟩:=p
  cases e1
  exact q _ hr ⟨id,ep,tl,rfl,by rw[aaa bT];exact e2,e3⟩
theorem yc.GW{h:ab}{r:PV}{l:List Tm}(o:yc h r l):∃r1,rb h (aY [r])=some r1/\b9 r1=.aa false (ae l):=by
 obtain⟨id,ep,tl,rfl,e,ht⟩:=o;exact gQ e (by rw[an]) (by simp) (by simp)
theorem Oa(H:ab)(hH:HR H):ay C 72 [.aa true []] H (λr h'=>r=.aa true []/\h'=H++[⟨.m,0,1,[.aa true []]⟩]):=by
 refine ay.x T6 Tryz.func72 rfl ?_;refine wXA ?_;refine eJ.zip T6 ([]:List Tm) (λp q L K=>L=[(3,.ptr H.length 0 0 0),(6,.aa true []),(7,.int .i64 0),(8,.int .i64 p.length)]/\K=H++[⟨.m,0,1,[.aa true []]⟩]) (.nx ⟨rfl,rfl⟩) ?_ ?_
 ·rintro p u q _ K ρ e _
  cases p <;>cases e
 ·rintro _ _ ρ ⟨rfl,rfl⟩;have e1:(H++[(⟨.m,0,1,[.aa true []]⟩:au)])[H.length]?=some ⟨.m,0,1,[.aa true []]⟩:=by simp
  refine wXA ?_;refine .ln (tJ _) (λr h' hr=>by rw[hr.2]) (λr h' hr=>?_);obtain⟨rfl,rfl⟩:=hr;refine wXA ?_;exact⟨rfl,rfl⟩
theorem Ob(g:FuncId)(H:ab):ay C 142 [.aa true [],.fn g []] H (λr h'=>r=.int .i64 (-1)/\h'=H):=by
 refine ay.x T6 Tryz.func142 rfl ?_;refine wXA ?_;refine eJ.zip T6 ([]:List Tm) (λp q L K=>L=[(0,.aa true []),(1,.fn g []),(7,.int .i64 0),(8,.int .i64 p.length)]/\K=H) (.nx ⟨rfl,rfl⟩) ?_ ?_
 ·rintro p u q _ K ρ e _
  cases p <;>cases e
 ·rintro _ _ ρ ⟨rfl,rfl⟩;refine wXA ?_;exact⟨rfl,rfl⟩
theorem Oc(g:FuncId)(H:ab):ay C 104 [.aa true [],.fn g []] H (λr h'=>r=.aa true []/\h'=H):=by
 refine ay.x T6 Tryz.func104 rfl ?_;refine wXA ?_;refine .ln (Ob g H) (λr h' hr=>by rw[hr.2]) (λr h' hr=>?_);obtain⟨rfl,rfl⟩:=hr;refine wXA ?_;exact⟨rfl,rfl⟩
theorem HO(t:Tm):aO C 105 [enc t] (.bool (decide (t.k≠1))):=by
 rw[aw];refine aO.x T6 Tryz.func105 rfl ?_;refine wXC (λhc=>?_) λhc=>?_
 all_goals exact⟨_,rfl,by simp[aY, *]⟩
def fa(l:List fg):List Tm:=l.flatMap λd=>d.kn++[d.tm]
theorem yd(l:List fg)(hl:l.length<1000000)(hb:bz (fa l)<10000000):aO C 53 [.aa false (bW l)] (.aa false (ae (dL l))):=by
 have cT:=gq l
 have hR:dL l=(jW (fa l)).filter λx=>!(decide (x.k≠1)):=by
  unfold dL fa
  congr 1
  funext x
  simp
 rw[hR];have cz:=bD (fa l);refine aO.x T6 Tryz.func53 rfl ?_;refine wXA ?_;refine eJ.zip T6 l (λp q L H=>∃v,L=[(3,v),(6,.aa false (bW l)),(7,.int .i64 (bW l).length),(8,.int .i64 p.length)]/\HV H/\Out 4 H v (ae (fa p))/\(p=[]->v=.aa true [])) (.nx ⟨_,rfl,HV.nil,.inl ⟨rfl,rfl⟩,λ_=>rfl⟩) ?_ ?_
 ·rintro p d q _ H ρ e ⟨v,rfl,hH,ho,_⟩;have cV:=my e;have cH:=congrArg List.length e;simp only[Zx,ZA]at cH;have rZ:fa (p++[d])=fa p++(d.kn++[d.tm]):=by simp[fa]
  have TJ:(fa p).length+(d.kn++[d.tm]).length<=(fa l).length:=by rw[e];simp[fa]
  have hle:=an (fa p);have hlu:=an (d.kn++[d.tm]);have I5:=zd d (by simp at TJ;omega);rw[vI]at I5;have lA:=hH.ct (HV.one (ep:=0) (n:=5) (es:=[PV.agg [.aa false (ae d.kn),.int .i64 d.tm.k,.str d.tm.s,.int .i64 d.tm.o,.aa false (ae d.tm.l)]]) (by simp));have I4:=ho.ct [⟨.m,0,5,[PV.agg [.aa false (ae d.kn),.int .i64 d.tm.k,.str d.tm.s,.int .i64 d.tm.o,.aa false (ae d.tm.l)]]⟩];refine wXA ?_;refine .p I5 ?_;refine wXH λv H lp=>?_;refine .nx ⟨_,rfl,lp.hv,?_,by simp⟩;have:=lp.out;rw[rZ,cd];exact this
 ·rintro _ H ρ ⟨v,rfl,hH,ho,Bg⟩;rcases ho with⟨rfl,e0⟩|⟨id,ep,rfl,e1⟩
  ·have e4:fa l=[]:=ZL (by rw[<-an,e0];rfl);rw[e4];refine wXA ?_;refine ai.ex ((Oa H hH.hr).mono λr h' hr=>⟨hr.1,_,HV.one rfl,hr.2⟩) (λh' hE=>?_);refine wXA ?_;refine .ln (Oc _ h') (λr h' hr=>by rw[hr.2]) (λr h' hr=>?_);obtain⟨rfl,rfl⟩:=hr;refine wXA ?_;exact⟨_,rfl,rfl⟩
  by_cases h0:fa l=[]
  ·have:l=[]:=by
    cases l with
    |nil=>rfl
    |cons d l=>simp[fa]at h0
   cases Bg this
  ·have y9:=rC (fa l) h0 H hH.hr id ep e1 hb;rw[an]at *;refine wXA ?_;refine .fr y9 (λr h' hr hb=>?_) (λr h' r1 r2 r3 r4=>?_)
   ·obtain⟨_,id,ep,n,rfl,bT⟩:=hr;simp[dZ,cD,dY]at hb;omega
   obtain⟨⟨id2,Wo,tl,rfl,e2,e3⟩,id3,ep3,n,e4,bT⟩:=r4;have hd:=N9 (jW (fa l)) tl e3 105 (λx=>decide (x.k≠1)) id2 Wo h' r1 e2 (by have:=rB (fa l);omega) (λx _=>HO x) rfl;refine wXA ?_;refine ai.del (ag e2) hd (λk hk ho=>?_);refine wXA ?_;exact ho.GW
theorem Ml{S:List cY}{l p q:List fg}{u:fg}(e:l=p++u::q)(hp:∀v∈p,jg S v=0)(hu:jg S u≠0):nI S l=jg S u:=by
 subst e
 induction p with
 |nil=>simp only[aad,nI];rw[if_pos hu]
 |cons v p ih=>
  simp only[Z3,nI];rw[if_neg (by rw[hp v (by simp)];simp),ih (λw hw=>hp w (by simp[hw]))]
theorem xv{S:List cY}:∀{l:List fg},(∀v∈l,jg S v=0)->nI S l=0
 |[],_=>rfl
 |v::l,h=>by
  rw[nI,if_neg (by rw[h v (by simp)];simp)];exact xv λu hu=>h u (by simp[hu])
theorem zE{S:List cY}:∀{l:List Tm},iW S l=0->∀t∈l,(bR S t).2=0
 |[],_,t,h=>by cases h
 |u::l,e,t,h=>by
  rw[iW]at e
  split at e
  ·rename_i hn;exact absurd e hn
  ·rcases ZF.1 h with rfl |h
   ·omega
   ·exact zE e t h
theorem zg{S:List cY}{d:fg}(h:jg S d=0):iW S d.kn=0/\(bR S d.tm).2=0/\∀t∈(js S d).kn++[(js S d).tm],ax t<=10000:=by
 unfold jg at h
 split at h
 ·rename_i h1;exact absurd h h1
 ·rename_i h1
  have h2:iW S d.kn=0:=by omega
  refine⟨h2,h,λt ht=>?_⟩;simp only[js,ZE,ZY,cQ,Z0]at ht;rcases ht with⟨u,hu,rfl⟩|rfl
  ·exact fB (oX (zE h2 u hu)).2.2
  ·exact fB (oX h).2.2
theorem IK(a b:List fg):bW (a++b)=bW a++bW b:=by simp[bW]
theorem HY(l:List fg)(S:List cY)(hl:l.length<1000000000)(hb:∀d∈l,d.kn.length<10000000/\∀t∈d.kn++[d.tm],ax t<10000000)(hls:S.length<1000000000)(Dx:∀b∈S,ax b.v<100000000/\ax b.t<100000000):
  aO C 25 [.aa false (bW l),.aa false (bE S)] (.cm [.aa false (bW (instL l S)),.int .i64 (instE l S)]):=by
 have h1:=qH l hl hb;have h2:=qI S hls Dx;have cT:=gq l;refine aO.x T6 Tryz.func25 rfl ?_;refine wXA ?_;refine .p h1 ?_;refine wXC (λhc=>?_) λhc=>?_
 ·have Fm:nr l=0:=by omega
  obtain⟨xF,QT⟩:=pF Fm;refine .p h2 ?_;refine wXC (λhc=>?_) λhc=>?_
  ·have hS:j9 S=0:=by omega
   have hi1:nI S l≠0->instE l S=nI S l:=λh=>by rw[instE,if_neg (by omega),if_neg (by omega),if_pos h]
   have Pn:nI S l=0->instE l S=nr (l.map (js S)):=λh=>by rw[instE,if_neg (by omega),if_neg (by omega),if_neg (by omega)]
   refine eJ.zip T6 l (λp q L H=>∃v,L=[(1,.aa false (bE S)),(8,v),(25,.aa false (bW l)),(26,.int .i64 (bW l).length),(27,.int .i64 p.length)]/\HV H/\Out 5 H v (bW (p.map (js S)))/\∀u∈p,jg S u=0) (.nx ⟨_,rfl,HV.nil,.inl ⟨rfl,rfl⟩,by simp⟩) ?_ ?_
   ·rintro p u q _ H ρ e ⟨v,rfl,hH,ho,hp⟩;have cV:=my e;have cH:=congrArg List.length e;simp only[Zx,ZA]at cH;obtain⟨P0,Ga⟩:=QT u (by rw[e];simp);have Dz:=Co S hS u.kn (by omega) (λt ht=>by have:=eZ (Ga t (by simp[ht]));omega);have lY:=wG S hS u.tm (by have:=eZ (Ga u.tm (by simp));omega);have Ps:jg S u=if iW S u.kn≠0 then iW S u.kn else(bR S u.tm).2:=rfl;have hx:jg S u≠0->nI S l=jg S u:=Ml e hp
    have Lf:∀n,jg S u=n->n≠0->instE l S=n/\instL l S=[]:=λn h h'=>by
     have h3:=hx (by rw[h];exact h');have h4:=hi1 (by rw[h3,h];exact h');rw[h3,h]at h4;exact⟨h4,by rw[instL,if_pos (by rw[h4];exact h')]⟩
    rw[aw u.tm]at lY;rw[aw (bR S u.tm).1]at lY;have Bp:=ho.ct [⟨.m,0,5,[.agg [.aa false (ae u.kn),.int .i64 u.tm.k,.str u.tm.s,.int .i64 u.tm.o,.aa false (ae u.tm.l)]]⟩];have hlm:=gq (p.map (js S));rw[aaB]at hlm;obtain⟨w,hw⟩:∃w,w=(bR S u.tm).1:=⟨_,rfl⟩;have hw2:(bR S u.tm).2=0->w=cF S u.tm:=λh=>by rw[hw,(oX h).1]
    rw[<-hw]at lY;have Dh:=Bp.ct [⟨.m,0,4,[.agg [.int .i64 w.k,.str w.s,.int .i64 w.o,.aa false (ae w.l)]]⟩];have Pr:HV (H++[⟨.m,0,5,[.agg [.aa false (ae u.kn),.int .i64 u.tm.k,.str u.tm.s,.int .i64 u.tm.o,.aa false (ae u.tm.l)]]⟩]++[⟨.m,0,4,[.agg [.int .i64 w.k,.str w.s,.int .i64 w.o,.aa false (ae w.l)]]⟩]):=(hH.ct (HV.one (by simp))).ct (HV.one (by simp));refine wXA ?_;refine .p Dz ?_;refine wXC (λhc=>?_) λhc=>?_
    ·have SL:iW S u.kn=0:=by omega
     rw[if_neg (by omega)];refine .p lY ?_;refine wXM (λhc v H lp=>?_) λhc=>?_
     ·have WW:jg S u=0:=by rw[Ps,if_neg (by omega)];omega
      have SM:=hw2 (by omega);refine .nx ⟨_,rfl,lp.hv,?_,λx hx=>by rcases ZE.1 hx with h |h;exact hp x h;simp at h;rw[h];exact WW⟩;have:=lp.out;have e9:bW (p.map (js S))++[.agg [.aa false (ae (cj S u.kn)),.int .i64 w.k,.str w.s,.int .i64 w.o,.aa false (ae w.l)]]=bW ((p++[u]).map (js S)):=by rw[aal,IK,SM];rfl
      rw[<-e9];exact this
     ·obtain⟨q1,q2⟩:=Lf (bR S u.tm).2 (by rw[Ps,if_neg (by omega)]) (by omega);exact⟨_,rfl,by rw[q1,q2];rfl⟩
    ·obtain⟨q1,q2⟩:=Lf (iW S u.kn) (by rw[Ps,if_pos (by omega)]) (by omega);exact⟨_,rfl,by rw[q1,q2];rfl⟩
   ·rintro _ H ρ ⟨v,rfl,hH,ho,hp⟩;have hi3:=Pn (xv hp)
    have hcv:=qH (l.map (js S)) (by simp;omega) (λd hd=>by
     obtain⟨u,hu,rfl⟩:=Z0.1 hd;refine⟨?_,λt ht=>by have:=(zg (hp u hu)).2.2 t ht;omega⟩;simp only[js,mA];have:=(QT u hu).1;omega)
    refine wXA ?_;refine .plS (.inl ho) hcv ?_;refine wXC (λhc=>?_) λhc=>?_
    ·have hz:instE l S=0:=by omega
     have hL:instL l S=l.map (js S):=by rw[instL,if_neg (by omega)]
     rw[hz,hL];exact Ls.Ot (.inl ho)
    ·have hz:instL l S=[]:=by rw[instL,if_pos (by omega)]
     exact⟨_,rfl,by rw[hz,hi3];rfl⟩
  ·have hi:instE l S=j9 S:=by rw[instE,if_neg (by omega),if_pos (by omega)]
   exact⟨_,rfl,by rw[instL,if_pos (by omega),hi];rfl⟩
 ·have hi:instE l S=nr l:=by rw[instE,if_pos (by omega)]
  exact⟨_,rfl,by rw[instL,if_pos (by omega),hi];rfl⟩
end bO
def wD(p:cY->Bool):List cY->Nat->Int
 |[],_=>-1
 |b::l,n=>if p b then n else wD p l (n+1)
theorem F8{p:cY->Bool}{b:cY}{q:List cY}(hb:p b=true):∀{a:List cY} {n:Nat},(∀y∈a,p y=false)->wD p (a++b::q) n=((n+a.length:Nat):Int)
 |[],n,_=>by rw[aad,wD,if_pos hb];rfl
 |c::a,n,h=>by
  rw[Z3,wD,if_neg (by rw[h c (by simp)];simp),F8 hb λy hy=>h y (by simp[hy])];simp only[ZA]
  congr 1
  omega
theorem ze{p:cY->Bool}:∀{a:List cY} {n:Nat},(∀y∈a,p y=false)->wD p a n=-1
 |[],n,_=>rfl
 |c::a,n,h=>by rw[wD,if_neg (by rw[h c (by simp)];simp),ze λy hy=>h y (by simp[hy])]
theorem Cj(p:cY->Bool):∀(l:List cY) (n:Nat),decide (wD p l n>=0)=l.any p
 |[],n=>by simp[wD]
 |b::l,n=>by
  rw[wD,abG]
  cases hb:p b with
  |true=>rw[if_pos rfl,decide_eq_true (by omega)];rfl
  |false=>rw[if_neg (by simp),Cj p l (n+1)];rfl
theorem F9{α:Type}{l p q:List α}{x:α}{f:α->Bool}(e:l=p++x::q)(h:f x=true):l.any f=true:=by rw[e];simp[h]
namespace bO
open Go.Proofs
attribute [local irreducible] aE aC aI aJ Ev ah ai ay aV bU
theorem SC(b:cY)(x:Tm)(hb:ax b.v<1000000000)(hx:ax x<1000000000)(id:Nat)(H:ab)(hH:HV H)(h0:H[id]?=some ⟨.m,0,4,[enc x]⟩):ay C 51 [ue b,.ptr id 0 0 0] H (λr h'=>r=.bool (decide (aT b.v x=0))/\fM H h'):=by
 have h1:=(dT b.v x hb hx).nine;have cz:=ag h0;rw[aw b.v,aw x]at h1;rw[aw x]at h0;rw[ue];refine ay.x T6 Tryz.func51 rfl ?_;refine wXA ?_;refine .p h1 ?_;refine wXC (λhc=>?_) λhc=>?_
 all_goals exact⟨by simp[aY, *],(fM.refl _).ct (HV.one (by simp))⟩
theorem Om(S:List cY)(x:Tm)(hS:S.length<1000000000)(hb:∀b∈S,ax b.v<1000000000)(hx:ax x<1000000000)(id:Nat)(H:ab)(hH:HV H)(h0:H[id]?=some ⟨.m,0,4,[enc x]⟩):ay C 100 [.aa false (bE S),.fn 51 [.ptr id 0 0 0]] H (λr h'=>r=.int .i64 (wD (λb=>decide (aT b.v x=0)) S 0)/\fM H h'):=by
 have cT:=fu S;refine ay.x T6 Tryz.func100 rfl ?_;refine wXA ?_;refine eJ.zip T6 S (λa q L K=>L=[(0,.aa false (bE S)),(1,.fn 51 [.ptr id 0 0 0]),(7,.int .i64 (bE S).length),(8,.int .i64 a.length)]/\fM H K/\∀y∈a,decide (aT y.v x=0)=false) (.nx ⟨rfl,fM.refl _,by simp⟩) ?_ ?_
 ·rintro a b q _ K ρ e ⟨rfl,hE,ha⟩;have cV:=mz e;have cH:=congrArg List.length e;simp only[Zx,ZA]at cH;have Ab:=SC b x (hb b (by rw[e];simp)) hx id K (hE.hv hH) (hE.at h0);rw[ue]at Ab;refine wXA ?_;refine .ex Ab (λh' MM=>?_)
  cases FY:decide (aT b.v x=0)
  ·refine wXA ?_;exact .nx ⟨rfl,hE.trans MM,λy hy=>by rcases ZE.1 hy with h |h;exact ha y h;simp at h;rw[h];exact FY⟩
  ·refine wXA ?_;exact⟨by rw[e,F8 (p:=λb:cY=>decide (aT b.v x=0)) FY ha];simp[aY],hE.trans MM⟩
 ·rintro _ K ρ ⟨rfl,hE,ha⟩;refine wXA ?_;exact⟨by rw[ze (p:=λb:cY=>decide (aT b.v x=0)) ha];rfl,hE⟩
theorem On(S:List cY)(x:Tm)(hS:S.length<1000000000)(hb:∀b∈S,ax b.v<1000000000)(hx:ax x<1000000000)(id:Nat)(H:ab)(hH:HV H)(h0:H[id]?=some ⟨.m,0,4,[enc x]⟩):ay C 50 [.aa false (bE S),.fn 51 [.ptr id 0 0 0]] H (λr h'=>r=.bool (Kt S x)/\fM H h'):=by
 have hi:=Om S x hS hb hx id H hH h0;have ha:decide (wD (λb=>decide (aT b.v x=0)) S 0>=0)=Kt S x:=Cj _ S 0;refine ay.x T6 Tryz.func50 rfl ?_;refine wXA ?_;refine .ex hi (λh' hE=>?_);refine wXC (λhc=>?_) λhc=>?_
 all_goals exact⟨by rw[<-ha];simp[aY, *],hE⟩
theorem K9(S:List cY)(x:Tm)(hS:S.length<1000000000)(hb:∀b∈S,ax b.v<1000000000)(hx:ax x<1000000000)(id:Nat)(H:ab)(hH:HV H)(h0:H[id]?=some ⟨.m,0,1,[.aa false (bE S)]⟩):ay C 49 [enc x,.ptr id 0 0 0] H (λr h'=>r=.bool (Kt S x)/\fM H h'):=by
 have cz:=ag h0;have hc:=On S x hS hb hx H.length (H++[⟨.m,0,4,[enc x]⟩]) (hH.ct (HV.one (by simp))) (by simp);rw[aw]at hc ⊢;refine ay.x T6 Tryz.func49 rfl ?_;refine wXA ?_;refine .ex hc (λh' hE=>?_);refine wXA ?_;exact⟨rfl,fM.trans ((fM.refl _).ct (HV.one (by simp))) hE⟩
end bO
theorem Cn{S:List cY}{n:Bool×Int}{d:fg}{q:List fg}(h1:iD S (d::q)=n):∀{p:List fg},(∀u∈p,jg S u=0/\lc (cj S u.kn) (cF S u.tm)=0/\uk (cj S u.kn) (cF S u.tm)=true)->iD S (p++d::q)=n
 |[],_=>h1
 |u::p,h=>by
  obtain⟨a,b,c⟩:=h u (by simp);rw[Z3,iD,if_neg (by omega),if_neg (by omega),if_neg (by rw[c];simp)];exact Cn h1 λx hx=>h x (by simp[hx])
theorem zf{S:List cY}:∀{p:List fg},(∀u∈p,jg S u=0/\lc (cj S u.kn) (cF S u.tm)=0/\uk (cj S u.kn) (cF S u.tm)=true)->iD S p=(true,0)
 |[],_=>rfl
 |u::p,h=>by
  obtain⟨a,b,c⟩:=h u (by simp);rw[iD,if_neg (by omega),if_neg (by omega),if_neg (by rw[c];simp)];exact zf λx hx=>h x (by simp[hx])
namespace bO
open Go.Proofs
attribute [local irreducible] aE aC aI aJ Ev ah ai ay aV bU
theorem Hr(l:List fg)(S:List cY)(hl:l.length<1000000)(hb:bz (fa l)<10000000)(hls:S.length<1000000)(Dx:∀b∈S,ax b.v<10000000/\ax b.t<10000000)(BI:∀b∈S,ko b.t=true):
  aO C 14 [.aa false (bW l),.aa false (bE S)] (.cm [.bool (l6 l S).1,.int .i64 (l6 l S).2]):=by
 have cT:=gq l;have iP:=fu S;have eW:∀d∈l,∀t∈d.kn++[d.tm],t∈fa l:=λd hd t ht=>aaz.2 ⟨d,hd,ht⟩
 have SK:∀t∈fa l,ax t<10000000:=λt ht=>by have:=bN ht;omega
 have FG:∀d∈l,d.kn.length<10000000:=λd hd=>by
  obtain⟨p,q,e⟩:=List.append_of_mem hd;have h1:=bD (fa l);have h2:d.kn.length<=(fa l).length:=by rw[e];simp[fa];omega
  omega
 have h1:=qH l (by omega) (λd hd=>⟨FG d hd,λt ht=>SK t (eW d hd t ht)⟩);have h2:=qI S (by omega) (λb hb=>by have:=Dx b hb;omega);have h3:=yd l hl hb;have X':∀x∈dL l,ax x<10000000:=λx hx=>zc SK x (aao.1 hx).1
 have RN:(dL l).length<10000000:=by have:=rB (fa l);have:=aaP (λt=>decide (t.k=1)) (jW (fa l));unfold dL;unfold fa at *;omega
 have qv:=an (dL l);refine aO.x T6 Tryz.func14 rfl ?_;refine wXA ?_;refine .p h1 ?_;refine wXC (λhc=>?_) λhc=>?_
 ·have Fm:nr l=0:=by omega
  obtain⟨xF,QT⟩:=pF Fm;refine .p h2 ?_;refine wXC (λhc=>?_) λhc=>?_
  ·have hS:j9 S=0:=by omega
   refine .p h3 ?_;refine wXA ?_;refine eJ.zip T6 (dL l) (λp q L H=>L=[(0,.aa false (bW l)),(3,.ptr 0 0 0 0),(8,.fn 49 [.ptr 0 0 0 0]),(34,.aa false (ae (dL l))),(35,.int .i64 (ae (dL l)).length),(36,.int .i64 p.length)]/\HV H/\H[0]?=some ⟨.m,0,1,[.aa false (bE S)]⟩/\∀x∈p,Kt S x=true) (.nx ⟨rfl,HV.one (by simp),rfl,by simp⟩) ?_ ?_
   ·rintro p x q _ H ρ e ⟨rfl,hH,h0,hp⟩;have cV:=bS e;have cH:=congrArg List.length e;simp only[Zx,ZA]at cH;have hx:=K9 S x (by omega) (λb hb=>by have:=Dx b hb;omega) (by have:=X' x (by rw[e];simp);omega) 0 (H++[⟨.m,0,4,[enc x]⟩]) (hH.ct (HV.one (by simp))) (by rw[Zv (ag h0)];exact h0);rw[aw]at hx;refine wXA ?_;refine .ex hx (λh' hE=>?_)
    cases FY:Kt S x
    ·have hM:l6 l S=(false,13):=by
      have:(dL l).all (Kt S)=false:=by rw[e];simp[FY]
      have hs:qE l S=13:=by rw[qE,if_neg (by omega),if_pos this]
      rw[l6,if_neg (by omega),if_pos (by omega),hs]
     refine wXA ?_;exact⟨_,rfl,by rw[hM];rfl⟩
    ·obtain⟨J,hJ,rfl⟩:=hE;refine wXA ?_;refine .nx ⟨rfl,(hH.ct (HV.one (by simp))).ct hJ,by rw[ZZ,Zv (ag h0)];exact h0,λy hy=>?_⟩;rcases ZE.1 hy with h |h
     ·exact hp y h
     ·simp at h;rw[h];exact FY
   ·rintro _ H ρ ⟨rfl,hH,h0,hp⟩;have IX:(dL l).all (Kt S)=true:=Zw.2 hp;refine wXA ?_;refine eJ.zip T6 S (λp q L H=>L=[(0,.aa false (bW l)),(3,.ptr 0 0 0 0),(45,.aa false (bE S)),(46,.int .i64 (bE S).length),(47,.int .i64 p.length)]/\HV H/\H[0]?=some ⟨.m,0,1,[.aa false (bE S)]⟩/\∀b∈p,bF b.t=[]) (.nx ⟨rfl,hH,h0,by simp⟩) ?_ ?_
    ·rintro p b q _ H ρ e ⟨rfl,hH,h0,hp⟩;have cV:=mz e;have cH:=congrArg List.length e;simp only[Zx,ZA]at cH;have hv:=kZ b.t (Dx b (by rw[e];simp)).2;have hvn:=an (bF b.t);rw[aw]at hv;refine wXA ?_;refine .p hv ?_;refine wXC (λhc=>?_) λhc=>?_
     ·have hM:l6 l S=(false,13):=by
       have h5:bF b.t≠[]:=λhh=>by
        have h0:(ae (bF b.t)).length=0:=by rw[hh];rfl
        omega
       have h6:S.any (λb=>decide (bF b.t≠[]))=true:=F9 e (decide_eq_true h5);have hs:qE l S=13:=by rw[qE,if_neg (by omega),if_neg (by rw[IX];simp),if_pos h6]
       rw[l6,if_neg (by omega),if_pos (by omega),hs]
      exact⟨_,rfl,by rw[hM];rfl⟩
     ·have h5:bF b.t=[]:=ZL (by omega);refine .nx ⟨rfl,hH.ct (HV.one (by simp)),by rw[Zv (ag h0)];exact h0,λy hy=>?_⟩;rcases ZE.1 hy with h |h
      ·exact hp y h
      ·simp at h;rw[h];exact h5
    ·rintro _ H ρ ⟨rfl,hH,h0,hp⟩
     have Ul:¬S.any (λb=>decide (bF b.t≠[]))=true:=by
      rw[aau];rintro⟨b,hb,h⟩;exact of_decide_eq_true h (hp b hb)
     refine wXA ?_;refine eJ.zip T6 S (λp q L H=>L=[(0,.aa false (bW l)),(3,.ptr 0 0 0 0),(57,.aa false (bE S)),(58,.int .i64 (bE S).length),(59,.int .i64 p.length)]/\HV H/\H[0]?=some ⟨.m,0,1,[.aa false (bE S)]⟩/\∀b∈p,km b.t=0) (.nx ⟨rfl,hH,h0,by simp⟩) ?_ ?_
     ·rintro p b q _ H ρ e ⟨rfl,hH,h0,hp⟩;have cV:=mz e;have cH:=congrArg List.length e;simp only[Zx,ZA]at cH;have hbS:b∈S:=by rw[e];simp
      have hv:=yX b.t (BI b hbS) (by have:=(Dx b hbS).2;omega);rw[aw]at hv;refine wXA ?_;refine .p hv ?_
      by_cases ht:km b.t=0
      ·rw[decide_eq_true ht];refine wXA ?_;refine .nx ⟨rfl,hH.ct (HV.one (by simp)),by rw[Zv (ag h0)];exact h0,λy hy=>?_⟩;rcases ZE.1 hy with h |h
       ·exact hp y h
       ·simp at h;rw[h];exact ht
      ·rw[decide_eq_false ht]
       have hM:l6 l S=(false,10):=by
        have h6:S.any (λb=>decide (km b.t≠0))=true:=F9 e (decide_eq_true ht);have hs:qE l S=10:=by rw[qE,if_neg (by omega),if_neg (by rw[IX];simp),if_neg Ul,if_pos h6]
        rw[l6,if_neg (by omega),if_pos (by omega),hs]
       refine wXA ?_;exact⟨_,rfl,by rw[hM];rfl⟩
     ·rintro _ H ρ ⟨rfl,hH,h0,hp⟩
      have hs3:¬S.any (λb=>decide (km b.t≠0))=true:=by
       rw[aau];rintro⟨b,hb,h⟩;exact of_decide_eq_true h (hp b hb)
      have Zm:qE l S=0:=by rw[qE,if_neg (by omega),if_neg (by rw[IX];simp),if_neg Ul,if_neg hs3]
      have hMM:l6 l S=iD S l:=by rw[l6,if_neg (by omega),if_neg (by omega)]
      rw[hMM];refine wXA ?_;refine eJ.zip T6 l (λp q L H=>L=[(3,.ptr 0 0 0 0),(68,.aa false (bW l)),(69,.int .i64 (bW l).length),(70,.int .i64 p.length)]/\HV H/\H[0]?=some ⟨.m,0,1,[.aa false (bE S)]⟩/\∀u∈p,jg S u=0/\lc (cj S u.kn) (cF S u.tm)=0/\uk (cj S u.kn) (cF S u.tm)=true) (.nx ⟨rfl,hH,h0,by simp⟩) ?_ ?_
      ·rintro p u q _ H ρ e ⟨rfl,hH,h0,hp⟩;have cV:=my e;have cH:=congrArg List.length e;simp only[Zx,ZA]at cH;obtain⟨P0,Ga⟩:=QT u (by rw[e];simp);have Dz:=Co S hS u.kn (by omega) (λt ht=>by have:=eZ (Ga t (by simp[ht]));omega);have lY:=wG S hS u.tm (by have:=eZ (Ga u.tm (by simp));omega);have Ps:jg S u=if iW S u.kn≠0 then iW S u.kn else(bR S u.tm).2:=rfl;have hG:∀n,iD S (u::q)=n->iD S l=n:=λn h=>by rw[e];exact Cn h hp
       have Lf:jg S u≠0->iD S l=(false,jg S u):=λh=>hG _ (by rw[iD,if_pos h])
       rw[aw u.tm]at lY;obtain⟨w,hw⟩:∃w,w=(bR S u.tm).1:=⟨_,rfl⟩;have hw2:(bR S u.tm).2=0->w=cF S u.tm:=λh=>by rw[hw,(oX h).1]
       rw[<-hw]at lY;rw[aw w]at lY;refine wXA ?_;refine .p Dz ?_;refine wXC (λhc=>?_) λhc=>?_
       ·have SL:iW S u.kn=0:=by omega
        rw[if_neg (by omega)]
        skip
        refine .p lY ?_;refine wXC (λhc=>?_) λhc=>?_
        ·have WW:jg S u=0:=by rw[Ps,if_neg (by omega)];omega
         have SM:=hw2 (by omega);obtain⟨_,_,hdb⟩:=zg WW;have Wp:(cj S u.kn++[w]).length<=41:=by rw[Zx,mA];simp;omega
         have FY:bz (cj S u.kn++[w])<10000000:=by
          have:=vZ (B:=10000) (l:=cj S u.kn++[w]) (by rw[SM];exact hdb);have:=Z9 10000 Wp;omega
         have hfw:∀t∈cj S u.kn++[w],ko t=true:=λt ht=>by
          rcases ZE.1 ht with h |h
          ·rw[cQ]at h;obtain⟨y,hy,rfl⟩:=Z0.1 h;exact F5 BI y (yZ (Ga y (by simp[hy])))
          ·simp at h;rw[h,SM];exact F5 BI u.tm (yZ (Ga u.tm (by simp)))
         have Dd:=yb (cj S u.kn) w hfw FY;rw[aw w]at Dd;have YJ:lc (cj S u.kn) w≠0->iD S l=(false,lc (cj S u.kn) w):=λh=>hG _ (by rw[iD,if_neg (by omega),<-SM,if_pos h])
         have YK:lc (cj S u.kn) w=0->uk (cj S u.kn) w=false->iD S l=(false,0):=λh h'=>hG _ (by rw[iD,if_neg (by omega),<-SM,if_neg (by omega),if_pos h'])
         refine .p Dd ?_
         cases VE:uk (cj S u.kn) w
         ·refine wXA ?_
          by_cases hu:lc (cj S u.kn) w=0
          ·exact⟨_,rfl,by rw[YK hu VE,hu];rfl⟩
          ·exact⟨_,rfl,by rw[YJ hu];rfl⟩
         ·have hu0:lc (cj S u.kn) w=0:=by
           unfold uk at VE;simp at VE;exact VE.1
          rw[hu0];refine wXA ?_;refine .nx ⟨rfl,?_,?_,λy hy=>?_⟩
          ·exact(hH.ct (HV.one (by simp))).ct (HV.one (by simp))
          ·rw[ZZ,Zv (ag h0)];exact h0
          ·rcases ZE.1 hy with h |h
           ·exact hp y h
           ·simp at h;rw[h,<-SM];exact⟨WW,hu0,VE⟩
        ·have hde:jg S u=(bR S u.tm).2:=by rw[Ps,if_neg (by omega)]
         exact⟨_,rfl,by rw[Lf (by omega),hde];rfl⟩
       ·have hde:jg S u=iW S u.kn:=by rw[Ps,if_pos (by omega)]
        exact⟨_,rfl,by rw[Lf (by omega),hde];rfl⟩
      ·rintro _ H ρ ⟨rfl,hH,h0,hp⟩;refine wXA ?_;exact⟨_,rfl,by rw[zf hp];rfl⟩
  ·have hM:l6 l S=(false,j9 S):=by
    have hs:qE l S=j9 S:=by rw[qE,if_pos (by omega)]
    rw[l6,if_neg (by omega),if_pos (by omega),hs]
   exact⟨_,rfl,by rw[hM];rfl⟩
 ·have hM:l6 l S=(false,nr l):=by rw[l6,if_pos (by omega)]
  exact⟨_,rfl,by rw[hM];rfl⟩
theorem IL(p a:List Tm)(u:Tm):pV (p++[u]) a=eQ u (pV p a):=by simp[pV]
theorem C5(l:List Tm)(hl:l.length<1000000)(hb:∀t∈l,ax t<100000000):aO C 70 [.aa false (ae l)] (.aa false (ae (kS l))):=by
 have cT:=an l;refine aO.x T6 Tryz.func70 rfl ?_;refine wXA ?_;refine eJ.zip T6 l (λp q L H=>∃f,L=[(0,.aa false (ae l)),(3,.aa f (ae (pV p []))),(4,.int .i64 p.length)]/\H=[]) (.nx ⟨true,rfl,rfl⟩) ?_ ?_
 ·rintro p u q _ _ ρ e ⟨f,rfl,rfl⟩;have cV:=bS e;have cH:=congrArg List.length e;simp only[Zx,ZA]at cH;have h1:=vt p [];simp only[Z']at h1
  have had:=(Js u (pV p []) (by have:=hb u (by rw[e];simp);omega) (λx hx=>by
   rcases Bj hx with h |h
   ·have:=hb x (by rw[e];simp[h]);omega
   ·cases h) (by omega)).nine
  rw[aw]at had;refine wXA ?_;refine .p had ?_;refine wXA ?_;exact .nx ⟨_,by rw[IL],rfl⟩
 ·rintro _ _ ρ ⟨f,rfl,rfl⟩;refine wXA ?_;exact⟨_,rfl,by simp[aY,b9,kS]⟩
theorem IM(t:Tm)(n:Int)(hb:ax t<1000000):aO C 124 [enc t,.int .i64 n] (.aa false (ae (qb n t))):=by
 have h1:=L3 t (by omega);have nS:=uC t;have cT:=an (pre t);have hse:=C5 (uo n (pre t)) (by have:=uQ n (pre t);omega) (λu hu=>by have:=oE t u (aao.1 hu).1;omega);rw[aw]at h1 ⊢;refine aO.x T6 Tryz.func124 rfl ?_;refine wXA ?_;refine .p h1 ?_;refine wXA ?_;refine eJ.zip T6 (pre t) (λp q L H=>∃v,L=[(1,.int .i64 n),(5,v),(6,.aa false (ae (pre t))),(7,.int .i64 p.length)]/\HV H/\Out 4 H v (ae (uo n p))) (.nx ⟨_,rfl,HV.one (by simp),.inl ⟨rfl,rfl⟩⟩) ?_ ?_
 ·rintro p u q _ H ρ e ⟨v,rfl,hH,ho⟩;have cV:=bS e;have cH:=congrArg List.length e;simp only[Zx,ZA]at cH;have WQ:=uQ n p;have hle:=an (uo n p);have e9:ae (uo n p)++[.agg [.int .i64 u.k,.str u.s,.int .i64 u.o,.aa false (ae u.l)]]=ae (uo n p++[u]):=by rw[cd,<-aw];rfl
  have rZ:=Gw n p [u];rw[C6]at rZ;refine wXM (λhc v H lp=>?_) λhc=>?_
  ·rw[if_pos (by assumption)]at rZ;refine .nx ⟨_,rfl,lp.hv,?_⟩;have:=lp.out;rw[e9]at this;rw[rZ];exact this
  ·rw[if_neg (by assumption)]at rZ;refine .nx ⟨_,rfl,hH,?_⟩;rw[rZ];simpa[uo]using ho
 ·rintro _ H ρ ⟨v,rfl,hH,ho⟩;refine wXA ?_;refine .pl (.inl ho) hse (λh' fz=>?_);refine wXA ?_;exact⟨_,rfl,by simp[aY,b9,qb,uo]⟩
theorem yR(t:Tm)(hb:ax t<1000000):aO C 67 [enc t] (.aa false (ae (bF t))):=by
 have h1:=IM t 1 hb;rw[aw]at h1 ⊢;refine aO.x T6 Tryz.func67 rfl ?_;refine wXA ?_;refine .p h1 ?_;refine wXA ?_;exact⟨_,rfl,by simp[aY,bF]⟩
theorem BO(l:List Tm)(hl:(l.flatMap bF).length<1000000)(th:l.length<1000000)(hb:∀t∈l,ax t<1000000):aO C 21 [.aa false (ae l)] (.aa false (ae (kS (l.flatMap bF)))):=by
 have cT:=an l
 have hse:=C5 (l.flatMap bF) hl (λu hu=>by
  obtain⟨t,ht,hu⟩:=aaz.1 hu;have:=kT hu;have:=hb t ht;omega)
 refine aO.x T6 Tryz.func21 rfl ?_;refine wXA ?_;refine eJ.zip T6 l (λp q L H=>∃v,L=[(0,.aa false (ae l)),(3,v),(4,.int .i64 p.length)]/\HV H/\Out 4 H v (ae (p.flatMap bF))) (.nx ⟨_,rfl,HV.nil,.inl ⟨rfl,rfl⟩⟩) ?_ ?_
 ·rintro p u q _ H ρ e ⟨v,rfl,hH,ho⟩;have cV:=bS e;have cH:=congrArg List.length e;simp only[Zx,ZA]at cH;have I5:=yR u (hb u (by rw[e];simp));have rZ:(p++[u]).flatMap bF=p.flatMap bF++bF u:=by simp
  have TJ:(p.flatMap bF).length+(bF u).length<=(l.flatMap bF).length:=by rw[e];simp
  have hle:=an (p.flatMap bF);have hlu:=an (bF u);rw[aw]at I5;refine wXA ?_;refine .p I5 ?_;refine wXH λv H lp=>?_;refine .nx ⟨_,rfl,lp.hv,?_⟩;have:=lp.out;rw[rZ,cd];exact this
 ·rintro _ H ρ ⟨v,rfl,hH,ho⟩;refine wXA ?_;refine .pl (.inl ho) hse (λh' fz=>?_);refine wXA ?_;exact⟨_,rfl,by simp[aY,b9]⟩
def bG(d:fg):Int:=if 40<d.kn.length then 3 else gW (d.kn++[d.tm])
theorem iB(s:ByteArray)(n:Int):aO C 44 [.str s,.int .i64 n] (enc (.mk 2 s n [])):=by
 rw[bj];refine aO.x T6 Tryz.func44 rfl ?_;refine wXA ?_;exact⟨_,rfl,by simp[aY,b9,aU]⟩
theorem Hh:aO C 66 [] (.aa false (ae tv)):=aO.od (n:=40) (by kernel_rfl)
theorem BG(n:Nat)(h:n<2):aO C 68 [.int .i64 n] (.str ⟨#[UInt8.ofNat (48+n)]⟩):=by
 match n,h with
 |0,_=>exact aO.od (n:=40) (by kernel_rfl)
 |1,_=>exact aO.od (n:=40) (by kernel_rfl)
theorem D9(x:List Nat):aO C 63 [.aa false (eG x)] (.bool (decide (20<x.length))):=by
 have cT:=kU x;refine aO.x T6 Tryz.func63 rfl ?_;refine wXC (λhc=>?_) λhc=>?_
 ·exact⟨_,rfl,by rw[decide_eq_true (by omega)];rfl⟩
 ·exact⟨_,rfl,by rw[decide_eq_false (by omega)];rfl⟩
theorem FO{h:ab}{k o:Int}{n:ByteArray}{es:List PV}{x:PV}(hv:ar es=true:=by simp)(hm:aU es=es:=by simp)(hx:ly h x=some x:=by rfl)(hn:b9 x=x:=by rfl):∃r1,rb h (aY [.agg (List.take (3+1) (List.drop 0 (cells (.agg [.int .i64 k,.str n,.int .i64 o,.aa false es])))),x])=some r1/\b9 r1=.cm [.agg [.int .i64 k,.str n,.int .i64 o,.aa false es],x]:=by
 refine⟨.cm [.agg [.int .i64 k,.str n,.int .i64 o,.aa false es],x],?_,by simp[b9,aU,hn,hm]⟩;simp only[aY,rb,iK,hx];simp[ly,nW,qi,cells,aW]
theorem TF:enc DY=.agg [.int .i64 2,.str ⟨#[97]⟩,.int .i64 1,.aa false []]:=by rw[DY,bj,oI]
theorem WG:enc PJ=.agg [.int .i64 2,.str ⟨#[98]⟩,.int .i64 1,.aa false []]:=by rw[PJ,bj,oI]
theorem FP(s:ByteArray)(t:Tm){v:PV}(h:enc t=v):aO C 43 [.str s,.aa false [v]] (.agg [.int .i64 3,.str s,.int .i64 0,.aa false [v]]):=by
 have a:=(oJ s [t] (by simp)).nine;rw[bj,ae,h]at a;exact a
theorem PN(s:ByteArray)(t u:Tm){v w:PV}(h:enc t=v)(h2:enc u=w):aO C 43 [.str s,.aa false [v,w]] (.agg [.int .i64 3,.str s,.int .i64 0,.aa false [v,w]]):=by
 have a:=(oJ s [t,u] (by simp)).nine;rw[bj,ae,ae,h,h2]at a;exact a
theorem X8(a:Tm){v:PV}(h:enc a=v):enc (.mk 3 D5 0 [a])=.agg [.int .i64 3,.str ⟨#[115,107]⟩,.int .i64 0,.aa false [v]]:=by
 rw[bj,show ae [a]=[enc a] by simp[ae],h]
 rfl
theorem exP(a:Tm){v:PV}(h:enc a=v):enc (.mk 3 He 0 [.mk 3 D5 0 [a]])=.agg [.int .i64 3,.str ⟨#[112,107]⟩,.int .i64 0,.aa false [.agg [.int .i64 3,.str ⟨#[115,107]⟩,.int .i64 0,.aa false [v]]]]:=by
 rw[bj,show ae [Tm.mk 3 D5 0 [a]]=[enc (.mk 3 D5 0 [a])] by simp[ae],X8 a h]
 rfl
theorem x8(t:Tm):ae [t]=[.agg [.int .i64 t.k,.str t.s,.int .i64 t.o,.aa false (ae t.l)]]:=by rw[ae,aw];rfl
theorem ME(t u:Tm):ae [t,u]=[.agg [.int .i64 t.k,.str t.s,.int .i64 t.o,.aa false (ae t.l)],.agg [.int .i64 u.k,.str u.s,.int .i64 u.o,.aa false (ae u.l)]]:=by rw[ae,ae,aw,aw];rfl
theorem qB(H:ab)(hH:HR H):ay C 65 [] H (λr h'=>r=.aa true (ae lZ)/\fM H h'):=by
 have aA:=iB ⟨#[97]⟩ 1;have aB:=iB ⟨#[98]⟩ 1;have aN:=iB ⟨#[110,35,48]⟩ 2;have aM:=iB ⟨#[109,35,49]⟩ 2;have aK:=iB ⟨#[107,35,48]⟩ 3;have aH:=iB ⟨#[104,105]⟩ 5;have aS:=PN ⟨#[115,104,107]⟩ DY PJ TF WG;have aX:=FP ⟨#[115,107]⟩ PJ WG;have aP:=FP ⟨#[112,107]⟩ (.mk 3 D5 0 [PJ]) (X8 PJ WG);rw[bj,oI]at aA aB aN aM aK aH;refine ay.x T6 Tryz.func65 rfl ?_;refine wXA ?_;refine .p aA ?_;refine wXA ?_;refine .p aB ?_;have hJ:List.set (List.set (H++[(⟨.m,0,4,[.agg [.int .i64 0,.str ByteArray.empty,.int .i64 0,.aa true []]]⟩:au)]++[(⟨.m,0,4,[.agg [.int .i64 0,.str ByteArray.empty,.int .i64 0,.aa true []]]⟩:au)]) H.length ⟨.m,0,4,[.agg [.int .i64 2,.str ⟨#[97]⟩,.int .i64 1,.aa false []]]⟩) (H++[(⟨.m,0,4,[.agg [.int .i64 0,.str ByteArray.empty,.int .i64 0,.aa true []]]⟩:au)]).length ⟨.m,0,4,[.agg [.int .i64 2,.str ⟨#[98]⟩,.int .i64 1,.aa false []]]⟩=H++[⟨.m,0,4,[.agg [.int .i64 2,.str ⟨#[97]⟩,.int .i64 1,.aa false []]]⟩,⟨.m,0,4,[.agg [.int .i64 2,.str ⟨#[98]⟩,.int .i64 1,.aa false []]]⟩]:=by simp
 refine wXA ?_;refine .mk ?_ (bg (o:=(⟨.m,0,4,[.agg [.int .i64 0,.str ByteArray.empty,.int .i64 0,.aa true []]]⟩:au)) (by simp) rfl (by simp));refine wXA ?_;rw[hJ];clear hJ;have hA:(H++[(⟨.m,0,4,[.agg [.int .i64 2,.str ⟨#[97]⟩,.int .i64 1,.aa false []]]⟩:au),⟨.m,0,4,[.agg [.int .i64 2,.str ⟨#[98]⟩,.int .i64 1,.aa false []]]⟩])[H.length]?=some ⟨.m,0,4,[.agg [.int .i64 2,.str ⟨#[97]⟩,.int .i64 1,.aa false []]]⟩:=by simp
 have hB:(H++[(⟨.m,0,4,[.agg [.int .i64 2,.str ⟨#[97]⟩,.int .i64 1,.aa false []]]⟩:au),⟨.m,0,4,[.agg [.int .i64 2,.str ⟨#[98]⟩,.int .i64 1,.aa false []]]⟩])[(H++[(⟨.m,0,4,[.agg [.int .i64 0,.str ByteArray.empty,.int .i64 0,.aa true []]]⟩:au)]).length]?=some ⟨.m,0,4,[.agg [.int .i64 2,.str ⟨#[98]⟩,.int .i64 1,.aa false []]]⟩:=by simp
 have nN:HR (H++[(⟨.m,0,4,[.agg [.int .i64 2,.str ⟨#[97]⟩,.int .i64 1,.aa false []]]⟩:au),⟨.m,0,4,[.agg [.int .i64 2,.str ⟨#[98]⟩,.int .i64 1,.aa false []]]⟩]):=hH.dE (HV.vV ⟨by simp,by simp⟩ ⟨by simp,by simp⟩);refine .mk _ (by simpa[aU,b9]using aN) ?_;refine wXA ?_;refine .mk _ (by simpa[aU,b9]using aM) ?_;refine wXA ?_;refine .mk _ (by simpa[aU,b9]using aK) ?_;refine wXA ?_;refine .mk _ (by simpa[aU,b9]using aS) ?_;refine wXA ?_;refine .mk _ (by simpa[aU,b9]using aX) ?_;refine wXA ?_;refine .mk _ (by simpa[aU,b9]using aP) ?_;refine wXA ?_;refine .mk _ (by simpa[aU,b9]using aH) ?_;refine wXA ?_;exact⟨by simp[aY,lZ,ae,lfN,lfM,lfK,lfS,lfP,lfH,TF,WG,bj];exact⟨rfl,rfl,rfl⟩,_,HV.vV ⟨by simp,by simp⟩ ⟨by simp,by simp⟩,rfl⟩
theorem pH(b:List Nat)(l:List Tm)(B:Nat)(hb:Dl b)(My:b.length<100000000)(h0:0<l.length)(th:l.length<100000000)(hF:x6 B l):∀(f d i:Nat),d+f=3->i<=100000 * d->
  aO C 64 [.aa false (eG b),.int .i64 i,.int .i64 d,.aa false (ae l)] (.cm [enc (gH b l f i).1,.int .i64 (gH b l f i).2])
 |0,d,i,hd,hi=>by
  have cT:=an l;have heu:=kU b;have hn:=vW hb i;have hq:((fi b i:Nat):Int).tdiv 2=((fi b i / 2:Nat):Int):=NC (fi b i) 2;have ht:((fi b i:Nat):Int).tmod 2=((fi b i % 2:Nat):Int):=D0 (fi b i) 2;have oz:=rm (l:=l) (i:=fi b i / 2 % (ae l).length) (by rw[cT];exact abm _ h0);have hR:gH b l 0 i=(l.getD (fi b i / 2 % (ae l).length) eL,i+1):=by rw[cT];rfl
  rw[hR];dsimp only;generalize l.getD (fi b i / 2 % (ae l).length) eL=g at *;rw[aw]at oz;rw[aw]
  by_cases z8:i<b.length
  ·have cV:=mC z8;refine aO.x T6 Tryz.func64 rfl ?_;refine wXA ?_;exact lM
  ·have hz:=uG z8;rw[hz,Nat.zero_div,Nat.zero_mod]at oz;refine aO.x T6 Tryz.func64 rfl ?_;refine wXA ?_;refine .raw 0 rfl ?_;refine wXA ?_;exact lM
 |f+1,d,i,hd,hi=>by
  have cT:=an l;have heu:=kU b;have hn:=vW hb i;have hq:((fi b i:Nat):Int).tdiv 2=((fi b i / 2:Nat):Int):=NC (fi b i) 2;have ht:((fi b i:Nat):Int).tmod 2=((fi b i % 2:Nat):Int):=D0 (fi b i) 2;have h6:(((fi b i:Nat):Int).tdiv 2).tmod 6=((fi b i / 2 % 6:Nat):Int):=by rw[hq];exact D0 (fi b i / 2) 6
  have oz:=rm (l:=l) (i:=fi b i / 2 % (ae l).length) (by rw[cT];exact abm _ h0);have hgl:J3 b l i=l.getD (fi b i / 2 % (ae l).length) eL:=by rw[cT];rfl
  by_cases qv:fi b i % 2=0
  ·have hR:gH b l (f+1) i=(J3 b l i,i+1):=by rw[gH,if_pos qv]
   rw[hR,hgl];dsimp only;generalize l.getD (fi b i / 2 % (ae l).length) eL=g at *;rw[aw]at oz;rw[aw]
   by_cases z8:i<b.length
   ·have cV:=mC z8;refine aO.x T6 Tryz.func64 rfl ?_;refine wXA ?_;exact lM
   ·have hz:=uG z8;rw[hz,Nat.zero_div,Nat.zero_mod]at oz;refine aO.x T6 Tryz.func64 rfl ?_;refine wXA ?_;refine .raw 0 rfl ?_;refine wXA ?_;exact lM
  ·have z8:i<b.length:=by
    by_cases h:i<b.length
    ·exact h
    ·rw[uG h]at qv;omega
   have cV:=mC z8;have fQ:=vT (b:=b) h0 hF f (i+1);have h2f:2^ (f+1)<=8:=Nat.pow_le_pow_right (by omega) (show f+1<=3 by omega);have hX:=pH b l B hb My h0 th hF f (d+1) (i+1) (by omega) (by omega);have hY:=pH b l B hb My h0 th hF f (d+1) (gH b l f (i+1)).2 (by omega) (by omega);have WH:fi b i / 2 % 6=0->gH b l (f+1) i=(.mk 3 vP 0 [(gH b l f (i+1)).1],(gH b l f (i+1)).2):=λh=>by rw[gH,if_neg qv,if_pos h]
   have TG:fi b i / 2 % 6≠0->fi b i / 2 % 6<=2->gH b l (f+1) i=(.mk 3 jt 0 [(gH b l f (i+1)).1,(gH b l f (gH b l f (i+1)).2).1],(gH b l f (gH b l f (i+1)).2).2):=λh h'=>by rw[gH,if_neg qv,if_neg h,if_pos h']
   have hR3:fi b i / 2 % 6=3->gH b l (f+1) i=(.mk 3 fH 0 [(gH b l f (i+1)).1,J0],(gH b l f (gH b l f (i+1)).2).2):=λh=>by rw[gH,if_neg qv,if_neg (by omega),if_neg (by omega),if_pos h]
   have hR4:¬fi b i / 2 % 6<=2->fi b i / 2 % 6≠3->gH b l (f+1) i=(.mk 3 jP 0 [(gH b l f (i+1)).1,(gH b l f (gH b l f (i+1)).2).1],(gH b l f (gH b l f (i+1)).2).2):=λh h'=>by rw[gH,if_neg qv,if_neg (by omega),if_neg h,if_neg h']
   generalize gH b l (f+1) i=R at *;generalize gH b l f (gH b l f (i+1)).2=Y at *;generalize gH b l f (i+1)=X at *;obtain⟨x,nx⟩:=X;obtain⟨y,ny⟩:=Y;simp only at hX hY WH TG hR3 hR4
   push_cast at hX hY
   have a1:=(oJ ⟨#[104,97,115,104]⟩ [x] (by simp)).nine;have a2:=(oJ ⟨#[101,110,99]⟩ [x,y] (by simp)).nine;have a4:=(oJ ⟨#[112,97,105,114]⟩ [x,y] (by simp)).nine;rw[aw]at hX hY;rw[bj,x8]at a1;rw[bj,ME]at a2 a4;refine aO.x T6 Tryz.func64 rfl ?_;refine wXA ?_;refine .p hX ?_;refine wXC (λhc=>?_) λhc=>?_
   ·rw[WH (by omega),bj,x8];refine .p a1 ?_;refine wXA ?_;exact FO
   ·refine .p hY ?_;refine wXI (λhc=>?_) (λhc hc=>?_) λhc hc=>?_
    ·rw[TG (by omega) (by omega),bj,ME];refine .p a2 ?_;refine wXA ?_;exact FO
    ·rw[hR3 (by omega)]
     have e3:enc (.mk 3 fH 0 [x,J0])=.agg [.int .i64 3,.str ⟨#[97,101,110,99]⟩,.int .i64 0,.aa false [.agg [.int .i64 x.k,.str x.s,.int .i64 x.o,.aa false (ae x.l)],.agg [.int .i64 3,.str ⟨#[112,107]⟩,.int .i64 0,.aa false [.agg [.int .i64 3,.str ⟨#[115,107]⟩,.int .i64 0,.aa false [.agg [.int .i64 2,.str ⟨#[97]⟩,.int .i64 1,.aa false []]]]]]]]:=by
      rw[bj,show ae [x,J0]=[enc x,enc J0] by simp[ae],J0,exP DY TF,aw]
      rfl
     have b1:=iB ⟨#[97]⟩ 1;have b2:=FP ⟨#[115,107]⟩ DY TF;have b3:=FP ⟨#[112,107]⟩ (.mk 3 D5 0 [DY]) (X8 DY TF);have b4:=PN ⟨#[97,101,110,99]⟩ x J0 (aw x) (exP DY TF);rw[bj,oI]at b1;rw[e3]
     skip
     refine .mk _ (by simpa[aU,b9]using b1) ?_;refine wXA ?_;refine .mk _ (by simpa[aU,b9]using b2) ?_;refine wXA ?_;refine .mk _ (by simpa[aU,b9]using b3) ?_;refine wXA ?_;refine .p b4 ?_;refine wXA ?_;exact FO
    ·rw[hR4 (by omega) (by omega),bj,ME];refine .p a4 ?_;refine wXA ?_;exact FO
theorem Fe{t:Tm}(h:valid t=0):t.k=1\/t.k=2\/t.k=3:=by
 obtain⟨k,n,o,l⟩:=t;have h1:=(oD (fV.1 h).1).1;simp only[node]at h1
 split at h1
 ·cases h1
 ·show k=1\/k=2\/k=3;omega
theorem IN(t:Tm)(n:Int):aO C 126 [enc t,.int .i64 n] (.bool (decide ((t.k=1\/t.k=2)/\t.o=n))):=by
 rw[aw];refine aO.x T6 Tryz.func126 rfl ?_
 (repeat' (first |(refine Rn.go ?_;conv=>whnf)|refine .mk ?_ |refine .mk (λhc=>?_) λhc=>?_ |fail))
 all_goals exact⟨_,rfl,by simp[aY, *]⟩
theorem Hj(x t:Tm)(hx:ax x<100000000)(ht:ax t<100000000):aO C 69 [enc x,enc t] (.bool (kO x t)):=by
 have h1:=(xo x (by omega)).nine;have h2:=(xo t (by omega)).nine;have h3:=IN t x.o;have hk:=Fe (t:=t);rw[aw]at h1 h2 h3 ⊢;rw[aw t];refine aO.x T6 Tryz.func69 rfl ?_;refine wXA ?_;refine .p h1 ?_;refine wXK (λhc hc=>?_) (λhc hc=>?_) λhc=>?_
 ·refine .p h2 ?_;refine wXK (λhc hc=>?_) (λhc hc=>?_) λhc=>?_
  ·exact⟨_,rfl,by simp[aY,kO, *]⟩
  ·have hk:=hk (by omega)
   have h8:kO x t=decide ((t.k=1\/t.k=2)/\t.o=x.o):=by
    unfold kO
    congr 1
    rw[eq_iff_iff]
    constructor
    ·rintro⟨_,_,_,h |h⟩ <;>omega
    ·intro h;exact⟨by omega,by omega,by omega,by omega⟩
   refine .p h3 ?_;rw[h8]
   cases decide ((t.k=1\/t.k=2)/\t.o=x.o)
   all_goals
    refine wXA ?_;exact⟨_,rfl,rfl⟩
  ·exact⟨_,rfl,by simp[aY,kO, *]⟩
 all_goals exact⟨_,rfl,by simp[aY,kO, *]⟩
structure Hk(H:ab)(vo vk vb:PV)(s:MC)(ids:List Nat)(es:List PV):Prop where
 hr:HR H
 oo:Out 5 H vo es
 Dm:x7 H ids es s.out
 ok:Out 4 H vk (ae s.kn)
 ob:Out 4 H vb (ae s.bd)
 d1:∀i∈ck vo,i∉ck vk/\i∉ck vb/\i∉ids
 d2:∀i∈ck vb,i∉ck vk/\i∉ids
theorem Hk.aQ{H H':ab}{vo vk vb:PV}{s:MC}{ids:List Nat}{es:List PV}(M:Hk H vo vk vb s ids es)(hr:HR H')(BI:∀j,j<H.length->H'[j]?=H[j]?):Hk H' vo vk vb s ids es:=
 ⟨hr,M.oo.of_eq λi hi=>BI i (M.oo.mP i hi),M.Dm.of_eq λi hi=>BI i (M.Dm.lt i hi),M.ok.of_eq λi hi=>BI i (M.ok.mP i hi),M.ob.of_eq λi hi=>BI i (M.ob.mP i hi),M.d1,M.d2⟩
structure PO(H:ab)(bi ep:Nat)(b:List Nat)(vo vk vb:PV)(ids:List Nat):Prop where
 at_:∃mu,H[bi]?=some ⟨mu,ep,1,eG b⟩/\(mu=.m\/mu=.f)
 nb:bi∉ck vo/\bi∉ck vk/\bi∉ck vb/\bi∉ids
theorem PO.aQ{H H':ab}{bi ep:Nat}{b:List Nat}{vo vk vb:PV}{ids:List Nat}(B:PO H bi ep b vo vk vb ids)(BI:∀j,j<H.length->H'[j]?=H[j]?):PO H' bi ep b vo vk vb ids:=by
 obtain⟨⟨mu,e,hm⟩,nb⟩:=B;exact⟨⟨mu,(BI bi (ag e)).trans e,hm⟩,nb⟩
theorem Hl(l:List Nat):du 1 (eG l):=by
 unfold du;rw[Zw]
 intro v hv
 obtain⟨n,_,rfl⟩:=Z0.1 hv
 rfl
theorem Ae{H h':ab}{v r:PV}{sz:Nat}{es:List PV}(a:LR H v sz es r h'){j:Nat}(hj:j<H.length)(hv:j∉ck v):h'[j]?=H[j]?/\j∉ck r:=by
 refine⟨a.fr j hj λep n h=>hv (by rw[h];simp[ck]),λhh=>?_⟩;rcases a.ck j hh with h |h
 ·exact hv h
 ·omega
structure U5(h:ab)(vk:PV)(kn:List Tm)(g:Tm)(r1:PV)(G1:ab)(r2:PV)(G2:ab):Prop where
 RP:bL C.P 2 (cr [h.length] (h++[(⟨.m,0,4,[.agg [.int .i64 g.k,.str g.s,.int .i64 g.o,.aa false (ae g.l)]]⟩:au)])) 31 31 (.aa true []) vk=some (r1,G1)
 le1:(cr [h.length] (h++[(⟨.m,0,4,[.agg [.int .i64 g.k,.str g.s,.int .i64 g.o,.aa false (ae g.l)]]⟩:au)])).length<=G1.length
 kp1:∀(j:Nat) (o:au),(cr [h.length] (h++[(⟨.m,0,4,[.agg [.int .i64 g.k,.str g.s,.int .i64 g.o,.aa false (ae g.l)]]⟩:au)]))[j]?=some o->o.mu≠.m->G1[j]?=some o
 WJ:(cr [h.length] (h++[(⟨.m,0,4,[.agg [.int .i64 g.k,.str g.s,.int .i64 g.o,.aa false (ae g.l)]]⟩:au)]))[h.length]?=some ⟨.l,0,4,[.agg [.int .i64 g.k,.str g.s,.int .i64 g.o,.aa false (ae g.l)]]⟩
 at1:G1[h.length]?=some ⟨.l,0,4,[.agg [.int .i64 g.k,.str g.s,.int .i64 g.o,.aa false (ae g.l)]]⟩
 RQ:bL C.P 2 G1 31 31 r1 (.aa true [.agg [.int .i64 g.k,.str g.s,.int .i64 g.o,.aa false (ae g.l)]])=some (r2,G2)
 le2:G1.length<=G2.length
 kp2:∀(j:Nat) (o:au),G1[j]?=some o->o.mu≠.m->G2[j]?=some o
 nl:∀(j:Nat) (o:au),G2[j]?=some o->o.mu≠.l\/(cr [h.length] (h++[(⟨.m,0,4,[.agg [.int .i64 g.k,.str g.s,.int .i64 g.o,.aa false (ae g.l)]]⟩:au)]))[j]?=some o
 hr:HR (dR [h.length] (h++[(⟨.m,0,4,[.agg [.int .i64 g.k,.str g.s,.int .i64 g.o,.aa false (ae g.l)]]⟩:au)]) G2)
 fr:∀j,j<h.length->(dR [h.length] (h++[(⟨.m,0,4,[.agg [.int .i64 g.k,.str g.s,.int .i64 g.o,.aa false (ae g.l)]]⟩:au)]) G2)[j]?=h[j]?
 out:Out 4 (dR [h.length] (h++[(⟨.m,0,4,[.agg [.int .i64 g.k,.str g.s,.int .i64 g.o,.aa false (ae g.l)]]⟩:au)]) G2) r2 (ae (kn++[g]))
 vd:∀i∈ck r2,h.length<=i
theorem U6{h:ab}(hR:HR h){vk:PV}{kn:List Tm}(o:Out 4 h vk (ae kn))(hn:kn.length<100000000)(g:Tm):∃r1 G1 r2 G2,U5 h vk kn g r1 G1 r2 G2:=by
 have cT:=an kn;have xG:(cr [h.length] (h++[(⟨.m,0,4,[.agg [.int .i64 g.k,.str g.s,.int .i64 g.o,.aa false (ae g.l)]]⟩:au)])).length=h.length+1:=by rw[z7];simp
 have TL:HR (h++[(⟨.m,0,4,[.agg [.int .i64 g.k,.str g.s,.int .i64 g.o,.aa false (ae g.l)]]⟩:au)]):=hR.dE (HV.one (by simp));have hRL:HR (cr [h.length] (h++[(⟨.m,0,4,[.agg [.int .i64 g.k,.str g.s,.int .i64 g.o,.aa false (ae g.l)]]⟩:au)])):=TL.NN;have WJ:(cr [h.length] (h++[(⟨.m,0,4,[.agg [.int .i64 g.k,.str g.s,.int .i64 g.o,.aa false (ae g.l)]]⟩:au)]))[h.length]?=some ⟨.l,0,4,[.agg [.int .i64 g.k,.str g.s,.int .i64 g.o,.aa false (ae g.l)]]⟩:=Ke (by simp);have I3:∀j,j<h.length->(cr [h.length] (h++[(⟨.m,0,4,[.agg [.int .i64 g.k,.str g.s,.int .i64 g.o,.aa false (ae g.l)]]⟩:au)]))[j]?=h[j]?:=λj hj=>by rw[RE (by omega),Zv hj]
 have oL:Out 4 (cr [h.length] (h++[(⟨.m,0,4,[.agg [.int .i64 g.k,.str g.s,.int .i64 g.o,.aa false (ae g.l)]]⟩:au)])) vk (ae kn):=o.of_eq λi hi=>I3 i (o.mP i hi)
 obtain⟨r1,G1,RP,a1⟩:=D7 T6 (H:=cr [h.length] (h++[(⟨.m,0,4,[.agg [.int .i64 g.k,.str g.s,.int .i64 g.o,.aa false (ae g.l)]]⟩:au)])) (st:=31) (xt:=31) (v:=.aa true []) (u:=vk) (es:=[]) (ys:=ae kn) rfl rfl rfl rfl rfl (by decide) rfl rfl (.inl ⟨rfl,rfl⟩) oL.ch (by simp[ck]) (iC _) (by simp;omega)
 have xL:∀i∈ck r1,h.length+1<=i:=λi hi=>by
  rcases a1.ck i hi with h1 |h1
  ·simp[ck]at h1
  ·omega
 obtain⟨r2,G2,RQ,a2⟩:=D7 T6 (H:=G1) (st:=31) (xt:=31) (v:=r1) (u:=.aa true [.agg [.int .i64 g.k,.str g.s,.int .i64 g.o,.aa false (ae g.l)]]) (es:=[]++ae kn) (ys:=[.agg [.int .i64 g.k,.str g.s,.int .i64 g.o,.aa false (ae g.l)]]) rfl rfl rfl rfl rfl (by decide) rfl rfl a1.out rfl (by simp[ck]) rfl (by simp;omega)
 have A6:∀i∈ck r2,h.length+1<=i:=λi hi=>by
  rcases a2.ck i hi with h1 |h1
  ·exact xL i h1
  ·have:=a1.len;omega
 have U7:=a1.hr hRL (bq _ _ (by simp));have Yb:=a2.hr U7 (bq _ _ (by simp));have cH:h.length+1<=G2.length:=by have:=a1.len;have:=a2.len;omega
 have he:[]++ae kn++[.agg [.int .i64 g.k,.str g.s,.int .i64 g.o,.aa false (ae g.l)]]=ae (kn++[g]):=by rw[cd,aad,x8]
 have o2:=a2.out;rw[he]at o2;refine⟨r1,G1,r2,G2,RP,a1.len,a1.aQ,WJ,a1.aQ _ _ WJ (by simp),RQ,a2.len,a2.aQ,λj o hj=>?_,Yb.NO TL (by simp;omega),λj hj=>?_,o2.of_eq λi hi=>D8 (by have:=A6 i hi;omega),λi hi=>by have:=A6 i hi;omega⟩
 ·rcases a2.Kb j o hj with h1 |h1
  ·exact .inl h1
  ·exact a1.Kb j o h1
 ·rw[D8 (by omega),a2.fr j (by have:=a1.len;omega) (λhh=>by have:=xL j hh;omega),a1.fr j (by omega) (by simp[ck])];exact I3 j hj
structure Yc(h:ab)(vo vk vb:PV)(s:MC)(ids:List Nat)(es:List PV)(g:Tm)(w:PV)(J1:ab)(u:PV)(G3:ab)(r:PV)(G2:ab):Prop where
 RP:bL C.P 1 (h++[(⟨.m,0,4,[.agg [.int .i64 g.k,.str g.s,.int .i64 g.o,.aa false (ae g.l)]]⟩:au)]) 31 31 (.aa true []) vk=some (w,h++[(⟨.m,0,4,[.agg [.int .i64 g.k,.str g.s,.int .i64 g.o,.aa false (ae g.l)]]⟩:au)]++J1)
 jl:(J1.all λo=>decide (o.mu≠.l))=true
 ow:Out 4 (h++[(⟨.m,0,4,[.agg [.int .i64 g.k,.str g.s,.int .i64 g.o,.aa false (ae g.l)]]⟩:au)]++J1) w (ae s.kn)
 vkv:br (aL (h++[(⟨.m,0,4,[.agg [.int .i64 g.k,.str g.s,.int .i64 g.o,.aa false (ae g.l)]]⟩:au)])) vk=true
 bs:(ar [.agg [w,.int .i64 g.k,.str g.s,.int .i64 g.o,.aa false (ae g.l)]]=true/\u=.aa true [.agg [w,.int .i64 g.k,.str g.s,.int .i64 g.o,.aa false (ae g.l)]]/\G3=h++[(⟨.m,0,4,[.agg [.int .i64 g.k,.str g.s,.int .i64 g.o,.aa false (ae g.l)]]⟩:au)]++J1)\/(ar [.agg [w,.int .i64 g.k,.str g.s,.int .i64 g.o,.aa false (ae g.l)]]=false/\u=.aj (h++[(⟨.m,0,4,[.agg [.int .i64 g.k,.str g.s,.int .i64 g.o,.aa false (ae g.l)]]⟩:au)]++J1).length 0 0 1/\G3=newObj (h++[(⟨.m,0,4,[.agg [.int .i64 g.k,.str g.s,.int .i64 g.o,.aa false (ae g.l)]]⟩:au)]++J1) 5 [.agg [w,.int .i64 g.k,.str g.s,.int .i64 g.o,.aa false (ae g.l)]])
 RQ:bL C.P 2 G3 22 22 vo u=some (r,G2)
 md:Hk G2 r vk vb ⟨s.kn,s.bd,s.out++[⟨s.kn,g⟩]⟩ (ids++ck w) (es++[.agg [w,.int .i64 g.k,.str g.s,.int .i64 g.o,.aa false (ae g.l)]])
 cell:G2[h.length]?=some (⟨.m,0,4,[.agg [.int .i64 g.k,.str g.s,.int .i64 g.o,.aa false (ae g.l)]]⟩:au)
theorem Yd{h:ab}{vo vk vb:PV}{s:MC}{ids:List Nat}{es:List PV}(M:Hk h vo vk vb s ids es)(hn:s.kn.length<100000000)(PD:s.out.length<100000000)(g:Tm):∃w J1 u G3 r G2,Yc h vo vk vb s ids es g w J1 u G3 r G2:=by
 have cT:=an s.kn;have TL:HR (h++[(⟨.m,0,4,[.agg [.int .i64 g.k,.str g.s,.int .i64 g.o,.aa false (ae g.l)]]⟩:au)]):=M.hr.dE (HV.one (by simp));have MG:=M.aQ TL λj hj=>Zv hj
 have hgl:(h++[(⟨.m,0,4,[.agg [.int .i64 g.k,.str g.s,.int .i64 g.o,.aa false (ae g.l)]]⟩:au)]).length=h.length+1:=by simp
 obtain⟨w,J1,RP,_,hJ,xL,I4⟩:=Kc T6 (lv:=1) (by omega) (H:=h++[(⟨.m,0,4,[.agg [.int .i64 g.k,.str g.s,.int .i64 g.o,.aa false (ae g.l)]]⟩:au)]) (st:=31) (xt:=31) (u:=vk) (es:=[]) (ys:=ae s.kn) rfl rfl rfl rfl rfl (by decide) rfl rfl MG.ok.ch rfl (iC _) (by simp;omega);have I4:=I4 rfl;have U8:HV J1:=by rcases hJ with rfl |rfl;exact HV.nil;exact HV.one (by simp)
 have U7:HR (h++[(⟨.m,0,4,[.agg [.int .i64 g.k,.str g.s,.int .i64 g.o,.aa false (ae g.l)]]⟩:au)]++J1):=TL.dE U8;have M1:=MG.aQ U7 λj hj=>Zv hj
 have hwo:=I4.bG;have hwv:=I4.br;have xD:(h++[(⟨.m,0,4,[.agg [.int .i64 g.k,.str g.s,.int .i64 g.o,.aa false (ae g.l)]]⟩:au)]++J1).length=h.length+1+J1.length:=by simp;omega
 have fQ:du 5 [.agg [w,.int .i64 g.k,.str g.s,.int .i64 g.o,.aa false (ae g.l)]]:=by
  unfold du;rw[aaq,aaW];show((decide ((5:Nat)=5)&& (Pm.bG w&& (true&& (true&& (true&& (true&&true))))))&&true)=true;rw[hwo.1]
  rfl
 have xJ:es.length=s.out.length:=M.Dm.len
 obtain⟨u,G3,bs,hu,ME,h3R,Ye,h3l⟩:∃u G3,((ar [.agg [w,.int .i64 g.k,.str g.s,.int .i64 g.o,.aa false (ae g.l)]]=true/\u=.aa true [.agg [w,.int .i64 g.k,.str g.s,.int .i64 g.o,.aa false (ae g.l)]]/\G3=h++[(⟨.m,0,4,[.agg [.int .i64 g.k,.str g.s,.int .i64 g.o,.aa false (ae g.l)]]⟩:au)]++J1)\/(ar [.agg [w,.int .i64 g.k,.str g.s,.int .i64 g.o,.aa false (ae g.l)]]=false/\u=.aj (h++[(⟨.m,0,4,[.agg [.int .i64 g.k,.str g.s,.int .i64 g.o,.aa false (ae g.l)]]⟩:au)]++J1).length 0 0 1/\G3=newObj (h++[(⟨.m,0,4,[.agg [.int .i64 g.k,.str g.s,.int .i64 g.o,.aa false (ae g.l)]]⟩:au)]++J1) 5 [.agg [w,.int .i64 g.k,.str g.s,.int .i64 g.o,.aa false (ae g.l)]]))/\ch G3 u=some [.agg [w,.int .i64 g.k,.str g.s,.int .i64 g.o,.aa false (ae g.l)]]/\(∀i∈ck u,h.length+1<=i)/\HR G3/\(∀j,j<(h++[(⟨.m,0,4,[.agg [.int .i64 g.k,.str g.s,.int .i64 g.o,.aa false (ae g.l)]]⟩:au)]++J1).length->G3[j]?=(h++[(⟨.m,0,4,[.agg [.int .i64 g.k,.str g.s,.int .i64 g.o,.aa false (ae g.l)]]⟩:au)]++J1)[j]?)/\(h++[(⟨.m,0,4,[.agg [.int .i64 g.k,.str g.s,.int .i64 g.o,.aa false (ae g.l)]]⟩:au)]++J1).length<=G3.length:=by
  cases xZ:ar [.agg [w,.int .i64 g.k,.str g.s,.int .i64 g.o,.aa false (ae g.l)]]
  ·refine⟨_,_,.inr ⟨rfl,rfl,rfl⟩,by simp[ch,getM,newObj],λi hi=>(by simp only[ck,ZY]at hi;omega),U7.Ka (by simp) ?_,λj hj=>by rw[newObj,Zv hj],by simp[newObj]⟩;simp only[bw,br,aa9];exact vX (f:=λi=>decide (i<(h++[(⟨.m,0,4,[.agg [.int .i64 g.k,.str g.s,.int .i64 g.o,.aa false (ae g.l)]]⟩:au)]++J1).length)) (λi hi=>by have:=of_decide_eq_true hi;exact decide_eq_true (by omega)) _ hwv
  ·exact⟨_,_,.inl ⟨rfl,rfl,rfl⟩,rfl,by simp[ck],U7,λ_ _=>rfl,Zz _⟩
 have M3:=M1.aQ h3R Ye;have Dh:Out 4 G3 w (ae s.kn):=I4.of_eq λi hi=>Ye i (I4.mP i hi)
 obtain⟨r,G2,RQ,a2⟩:=D7 T6 (H:=G3) (st:=22) (xt:=22) (v:=vo) (u:=u) (es:=es) (ys:=[.agg [w,.int .i64 g.k,.str g.s,.int .i64 g.o,.aa false (ae g.l)]]) rfl rfl rfl rfl rfl (by decide) rfl rfl M3.oo hu (λi hi h=>by have:=M.oo.mP i hi;have:=ME i h;omega) fQ (by simp;omega)
 have ia:bw (λi=>decide (i<G3.length)) (es++[.agg [w,.int .i64 g.k,.str g.s,.int .i64 g.o,.aa false (ae g.l)]])=true:=by
  rw[fI,aaI,<-fI,M3.Dm.PL];simp only[aaq,aaW,br,bw,aa9,aaE];exact Dh.br
 have Yb:=a2.hr h3R ia;have WK:∀i∈ck r,i∈ck vo\/G3.length<=i:=a2.ck;have U9:∀i∈ck w,i<G3.length:=Dh.mP;have U':∀i∈ck w,i∉ck vo:=λi hi h=>by have:=xL i hi;have:=M.oo.mP i h;omega
 have f3:∀j,j<h.length+1->G3[j]?=(h++[(⟨.m,0,4,[.agg [.int .i64 g.k,.str g.s,.int .i64 g.o,.aa false (ae g.l)]]⟩:au)])[j]?:=λj hj=>by rw[Ye j (by omega),Zv (by omega)]
 have fin:∀j,j<h.length->j∉ck vo->G2[j]?=h[j]?:=λj hj hv=>by
  rw[a2.fr j (by omega) hv,f3 j (by omega),Zv hj]
 refine⟨w,J1,u,G3,r,G2,RP,?_,I4,?_,bs,RQ,⟨Yb,a2.out,.snoc (w:=w) (d:=⟨s.kn,g⟩) (M.Dm.of_eq λi hi=>fin i (M.Dm.lt i hi) λhh=>(M.d1 i hh).2.2 hi) (Dh.of_eq λi hi=>a2.fr i (U9 i hi) (U' i hi)),M.ok.of_eq λi hi=>fin i (M.ok.mP i hi) λhh=>(M.d1 i hh).1 hi,M.ob.of_eq λi hi=>fin i (M.ob.mP i hi) λhh=>(M.d1 i hh).2.1 hi,λi hi=>?_,λi hi=>⟨(M.d2 i hi).1,λhh=>?_⟩⟩,?_⟩
 ·rcases hJ with rfl |rfl <;>simp
 ·have:=MG.ok.br;exact vX (λi hi=>TL.PL (of_decide_eq_true hi)) _ this
 ·rcases WK i hi with h1 |h1
  ·obtain⟨q1,q2,q3⟩:=M.d1 i h1;refine⟨q1,q2,λhh=>?_⟩;rcases ZE.1 hh with hh |hh
   ·exact q3 hh
   ·exact U' i hh h1
  ·refine⟨λhh=>by have:=M.ok.mP i hh;omega,λhh=>by have:=M.ob.mP i hh;omega,λhh=>?_⟩;rcases ZE.1 hh with hh |hh
   ·have:=M.Dm.lt i hh;omega
   ·have:=U9 i hh;omega
 ·rcases ZE.1 hh with hh |hh
  ·exact(M.d2 i hi).2 hh
  ·have:=xL i hh;have:=M.ob.mP i hi;omega
 ·rw[a2.fr h.length (by omega) (λhh=>by have:=M.oo.mP _ hh;omega),f3 _ (by omega)];simp
theorem yQ(e:Nat->Bool)(h:ab):cc e h.length [] h=h:=by simp[cc]
theorem NQ{C:cK}{T:lz C.P}{M:ab}{t:TypeId}{c n sz:Nat}{mu:Mu}{cs:List PV}(hb:M[c]?=some ⟨mu,0,n,[.agg cs]⟩)(hm:mu≠.x)(hs:T.ts t=some (sz+1))(ht:T.ta t=some true)(hl:cs.length=sz+1):loadT T M t (.ptr c 0 0 0)=some (.agg cs):=by
 have hp:cC M (.ptr c 0 0 0)=some cs:=by simp[cC,bg hb rfl hm,cells]
 unfold loadT;rw[hs,ht,hp];have:Nat.ble (sz+1) cs.length=true:=Nat.ble_eq_true_of_le (by omega);simp only[this,if_true];rw[ZW (by omega)]
theorem _root_.Go.Pm.aV.RS{C:cK}{ops:Array Oper}{i d:Nat}{ty:TypeId}{pos:String}{af:Array Edge}{r:List Oper}{ρ:Nat->PV}{L:Al}{h:ab}{L0:Nat}{own:List Nat}{Q:St->Prop}{op:Op}{v:PV}{h':ab}(M J Hn:ab)(Va:List Nat)
  (hc:∃n0,∀n,n0<=n->ao C (eV C n) 1 op (al L ρ) M=some (v,h')) (k:aV C ops (i+1) r ⟨⟨al ((d,v)::L) ρ,Hn⟩,L0,Va⟩ Q) (hHn:h++J=Hn) (ho:own++List.replicate J.length i=Va) (hM:cc ((before ops).getD i 0).testBit L0 own h=M) (hJ:h'.drop h.length=J) (di:aR M=true) (kH:(op.operands.toList.all λy=>br (aL M) (ev (al L ρ) y))=true)
  (xG:(J.all λo=>decide (o.mu≠.l))=true) (hh:cR op=true:=by rfl) (hl:(level ops (before ops) i==2)=false:=by rfl):aV C ops i (⟨some d,op,ty,pos,af,none⟩::r) ⟨⟨al L ρ,h⟩,L0,own⟩ Q:=
 aV.AW M J hc (by rw[hHn,ho];exact k) hM hJ di kH xG hh hl
theorem Hk.JN{J H3:ab}{vo vk vb WL:PV}{s:MC}{ids:List Nat}{es:List PV}{V:List Tm}(M:Hk J vo vk vb s ids es)(l:LR J vb 4 (ae s.bd++ae V) WL H3):Hk H3 vo vk WL ⟨s.kn,s.bd++V,s.out⟩ ids es:=by
 have fr:∀i,i<J.length->i∉ck vb->H3[i]?=J[i]?:=λi hi hv=>(Ae l hi hv).1
 have ob:=l.out;rw[<-cd]at ob;refine⟨l.hr,M.oo.of_eq λi hi=>fr i (M.oo.mP i hi) (M.d1 i hi).2.1,M.Dm.of_eq λi hi=>fr i (M.Dm.lt i hi) λhh=>(M.d2 i hh).2 hi,M.ok.of_eq λi hi=>fr i (M.ok.mP i hi) λhh=>(M.d2 i hh).1 hi,ob,λi hi=>?_,λi hi=>?_⟩
 ·obtain⟨q1,q2,q3⟩:=M.d1 i hi;exact⟨q1,(Ae l (M.oo.mP i hi) q2).2,q3⟩
 ·rcases l.ck i hi with h1 |h1
  ·exact M.d2 i h1
  ·exact⟨λhh=>by have:=M.ok.mP i hh;omega,λhh=>by have:=M.Dm.lt i hh;omega⟩
theorem vY{H:ab}{bi ep:Nat}{mu:Mu}{b:List Nat}{i n:Int}{r R:PV}{l:List Tm}{Q:PV->ab->Prop}(hb:H[bi]?=some ⟨mu,ep,1,eG b⟩)(hm:mu=.m\/mu=.f)(hr:Ls 4 H r (ae l))(a:aO C 64 [.aa false (eG b),.int .i64 i,.int .i64 n,.aa false (ae l)] R)(q:∀h',NJ (bi::ck r) H h'->Q R h'):ai C 2 64 [.aj bi ep 0 (eG b).length,.int .i64 i,.int .i64 n,r] H Q:=by
 obtain⟨a2,b2,c2⟩:=hr.ly (by simp);have Ed:mu≠.x:=by rcases hm with rfl |rfl <;>simp
 have ht:List.take b.length (eG b)=eG b:=ZW (by simp);have RT:ly H (.aj bi ep 0 (eG b).length)=some (.aa false (eG b)):=by simp[ly,qi,bg hb rfl Ed,hm,ht]
 have i1:∀n:Int,ly H (.int .i64 n)=some (.int .i64 n):=λ_=>rfl
 have zO:jJ [.aj bi ep 0 (eG b).length,.int .i64 i,.int .i64 n,r]=bi::ck r:=by
  rcases hr with(⟨rfl,_⟩|⟨i,e,rfl,_⟩)|⟨f,rfl⟩ <;>rfl
 refine ai.X6 (args':=[.aa false (eG b),.int .i64 i,.int .i64 n,a2]) (by simp only[iK,RT,i1,b2]) (by simp[ar,aW]) (λid bT=>?_) (by simpa[aU,b9,c2]using a) (λh' z=>q h' (zO▸z));rw[zO]at bT;rcases ZF.1 bT with rfl |bT
 ·exact⟨_,hb,by simp,hm⟩
 ·rcases hr with(⟨rfl,_⟩|⟨j,e,rfl,hj⟩)|⟨f,rfl⟩
  ·simp[ck]at bT
  ·simp[ck]at bT;subst bT;exact⟨_,hj,by simp,.inl rfl⟩
  ·simp[ck]at bT
theorem Hk.NK{H H':ab}{l:List Nat}{vo vk vb:PV}{s:MC}{ids:List Nat}{es:List PV}(M:Hk H vo vk vb s ids es)(z:NJ l H H')(h:∀j∈l,j∉ck vo/\j∉ck vk/\j∉ck vb/\j∉ids):Hk H' vo vk vb s ids es:=
 ⟨z.hr M.hr,M.oo.of_eq λi hi=>z.same i λhh=>(h i hh).1 hi,M.Dm.of_eq λi hi=>z.same i λhh=>(h i hh).2.2.2 hi,M.ok.of_eq λi hi=>z.same i λhh=>(h i hh).2.1 hi,M.ob.of_eq λi hi=>z.same i λhh=>(h i hh).2.2.1 hi,M.d1,M.d2⟩
theorem PO.NK{H H':ab}{l:List Nat}{bi ep:Nat}{b:List Nat}{vo vk vb:PV}{ids:List Nat}(B:PO H bi ep b vo vk vb ids)(z:NJ l H H'):PO H' bi ep b vo vk vb ids:=by
 obtain⟨⟨mu,e,hm⟩,nb⟩:=B;obtain⟨mu',e',NR⟩:=z.nH bi _ e;refine⟨⟨mu',e',?_⟩,nb⟩;rcases NR with rfl |rfl
 ·exact hm
 ·exact .inr rfl
theorem Hm(bs:List (List Nat))(Dx:∀b∈bs,Dl b/\b.length<1000000)(hl:bs.length<1000000):
  aO C 19 [.aa false (gB bs)] (.aa false (bW (ez bs))):=by
 have cT:=sx bs;refine aO.xd T6 Tryz.func19 rfl ?_;refine wXA ?_;refine eJ.zip T6 (bs.take 5) (λp q L H=>∃vo vk vb ids es,L=[(0,.aa false (gB bs)),(3,vo),(4,vk),(5,vb),(6,.int .i64 p.length)]/\Hk H vo vk vb (cM p) ids es) (.nx ⟨_,_,_,[],[],rfl,HV.nil.hr,.inl ⟨rfl,rfl⟩,.nil,.inl ⟨rfl,rfl⟩,.inl ⟨rfl,rfl⟩,by simp[ck],by simp[ck]⟩) ?_ ?_
 ·rintro p x q _ H ρ e ⟨vo,vk,vb,ids,es,rfl,M⟩;have cH:=congrArg List.length e;simp only[Zx,ZA,aat]at cH;have e2:bs=p++x::(q++bs.drop 5):=by have:=(abg 5 bs).symm;rw[e]at this;simpa using this
  have cV:=BH e2;have hH:=M.hr;obtain⟨WM,RU⟩:=Dx x (by rw[e2];simp);have hex:=kU x;refine wXA ?_;refine .lr (λv1 h1 l1=>?_) (.inl ⟨rfl,rfl⟩) (Hl x) (by rw[kU];simp;omega);have lA:=l1.hr;refine wXA ?_;refine .lr (λv2 h2 l2=>?_) l1.out rfl (by simp;omega) (by exact bq _ _ (by simp));have nN:=l2.hr;have hle:H.length<=h2.length:=aaj l1.len l2.len
  have RV:∀j,j<H.length->h2[j]?=H[j]?/\j∉ck v2:=λj hj=>by
   obtain⟨a1,a2⟩:=Ae l1 hj (by simp[ck]);obtain⟨b1,b2⟩:=Ae l2 (by have:=l1.len;omega) a2;exact⟨b1.trans a1,b2⟩
  have NB:[]++eG x++[.int .u8 0,.int .u8 0]=eG (iA x):=by simp[iA,Kg];rfl
  have Bp:=l2.out;rw[NB]at Bp
  obtain⟨bi,ep,rfl,hbi⟩:∃bi ep,v2=.aj bi ep 0 (eG (iA x)).length/\h2[bi]?=some ⟨.m,ep,1,eG (iA x)⟩:=by
   rcases Bp with⟨_,h⟩|h
   ·have:=congrArg List.length h;simp[iA]at this
   ·exact h
  have M2:=M.aQ nN λj hj=>(RV j hj).1
  have Kl:∀j,j<H.length->j≠bi:=λj hj hh=>(RV j hj).2 (by simp[ck,hh])
  have B2:PO h2 bi ep (iA x) vo vk vb ids:=⟨⟨.m,hbi,.inl rfl⟩,λh=>Kl bi (M.oo.mP bi h) rfl,λh=>Kl bi (M.ok.mP bi h) rfl,λh=>Kl bi (M.ob.mP bi h) rfl,λh=>Kl bi (M.Dm.lt bi h) rfl⟩;clear RV Kl hbi;have TM:=vW (l:=iA x) (by intro n hn;rcases ZE.1 hn with h |h;exact WM n h;simp at h;omega) 0;have Zg:(eG (iA x))[0+0]?=some (.int .u8 (fi (iA x) 0:Int)):=mC (by simp[iA]);have ht3:((fi (iA x) 0:Nat):Int).tmod 3=((fi (iA x) 0 % 3:Nat):Int):=D0 _ 3;have hlen:2<=(eG (iA x)).length:=by simp[iA]
  refine wXA ?_;refine eJ.zip T6 (List.range (fi (iA x) 0 % 3)) (λa r L K=>∃MH,L=[(0,.aa false (gB bs)),(3,vo),(4,MH),(5,vb),(6,.int .i64 p.length),(7,.aj bi ep 0 (eG (iA x)).length),(8,.int .i64 a.length)]/\Hk K vo MH vb ⟨(cM p).kn++I2 (iA x) (cM p).bd a.length,(cM p).bd,(cM p).out⟩ ids es/\PO K bi ep (iA x) vo MH vb ids) (.nx ⟨_,rfl,by simpa[I2]using M2,B2⟩) ?_ ?_
  ·rintro a k r _ K ρ e3 ⟨MH,rfl,M3,B3⟩;have hk2:=congrArg List.length e3;simp only[Zx,ZA,List.length_range]at hk2;obtain⟨mu,hmb,xX⟩:=B3.at_;have Ed:mu≠Mu.x:=by rcases xX with rfl |rfl <;>simp
   have hK:=M3.hr;refine wXA ?_;refine .ex (qB K hK) (λh' hE=>?_);obtain⟨J,hJ,rfl⟩:=hE;have M4:=M3.aQ (hK.dE hJ) (λj hj=>Zv hj);have B4:=B3.aQ (H':=K++J) (λj hj=>Zv hj);clear M3 B3;have Y':(cM p).bd.length<=1000:=by have:=(mB _ p rfl).bl;omega
   have WN:=(mB _ p rfl).bf;rcases M4.ob with⟨rfl,xM⟩|⟨ib,eb,rfl,z8⟩
   case' inl=>
    refine wXA ?_;refine .nn ?_ rfl;have Yf:(cM p).bd=[]:=ZL (by have:=congrArg List.length xM;simpa using this);obtain⟨r',RW⟩:∃r,r=PV.aa true (ae lZ):=⟨_,rfl⟩;rw[<-RW];have TN:Ls (3+1) (K++J) r' (ae (lZ++(cM p).bd)):=.inr ⟨true,by rw[RW,Yf,ZV]⟩;have Vb:∀j∈ck r',j∉ck vo/\j∉ck MH/\j∉ck (.aa true [])/\j∉ids:=by rw[RW];simp[ck]
    have M5:=M4;have B5:=B4;have Vc:=M4.hr;generalize K++J=HH at *;clear M4 B4
   case' inr=>
    obtain⟨r',J2,ha,TN,No,WK,_⟩:=Kc T6 (lv:=2) (by omega) (H:=K++J) (st:=31) (xt:=31) (es:=ae lZ) (u:=.aj ib eb 0 (ae (cM p).bd).length) (ys:=ae (cM p).bd) rfl rfl rfl rfl rfl (by decide) rfl rfl M4.ob.ch (iC _) (iC _) (by rw[an,an,gY];omega);have Vc:HR (K++J++J2):=M4.hr.dE (by rcases No with rfl |rfl;exact HV.nil;exact HV.one (by simp));have M5:=M4.aQ Vc (λj hj=>Zv hj);have B5:=B4.aQ (H':=K++J++J2) (λj hj=>Zv hj);rw[<-cd]at TN
    have Vb:∀j∈ck r',j∉ck vo/\j∉ck MH/\j∉ck (.aj ib eb 0 (ae (cM p).bd).length)/\j∉ids:=λj hj=>by
     have h0:=WK j hj;exact⟨λh=>by have:=M4.oo.mP j h;omega,λh=>by have:=M4.ok.mP j h;omega,λh=>by have:=M4.ob.mP j h;omega,λh=>by have:=M4.Dm.lt j h;omega⟩
    refine wXA ?_;refine .mk (λrun ρ=>x9 rfl rfl ha) ?_;generalize K++J++J2=HH at *;clear ha No WK M4 B4
   all_goals
    obtain⟨mu2,RX,RY⟩:=B5.at_;have NS:=pH (iA x) (lZ++(cM p).bd) 170 (by intro n hn;rcases ZE.1 hn with h |h;exact WM n h;simp at h;omega) (by simp[iA];omega) (by simp[gY];omega) (by simp[gY];omega) ((su.mono (by omega)).ct WN) 2 1 (1+3 * a.length) rfl (by omega)
    push_cast at NS
    rw[aw]at NS;refine wXA ?_;refine vY RX RY TN NS (λh' z=>?_)
    have M6:=M5.NK z (λj hj=>by
     rcases ZF.1 hj with rfl |hj
     ·exact B5.nb
     ·exact Vb j hj)
    have B6:=B5.NK z;clear M5 B5 z NS;have FG:(cM p).kn.length<=1000:=by have:=(mB _ p rfl).kl;omega
    have Yg:=J6 (iA x) (cM p).bd a.length;have Wp:=uE (iA x) (cM p).bd a.length;obtain⟨r1,G1,r2,G2,cp⟩:=U6 M6.hr M6.ok (by simp;omega) (gH (iA x) (lZ++(cM p).bd) 2 (1+3 * a.length)).1;generalize gH (iA x) (lZ++(cM p).bd) 2 (1+3 * a.length)=gg at *;obtain⟨g,gn⟩:=gg;dsimp only at *;refine wXA ?_;refine .calm ?_ _ (NM (λ_=>rfl) rfl (by simp) cp.nl (λrun ρ=>?_)) ?_
    rotate_left
    ·refine(xI (Ww rfl rfl rfl (QC T6 (by exact rfl) rfl))).trans ?_;refine(xI (kP T6 (by exact rfl))).trans ?_;refine(xI (Ty rfl rfl rfl rfl (x9 rfl rfl cp.RP) cp.le1 cp.kp1)).trans ?_;refine(xI (kLd T6 (v:=.agg [.int .i64 g.k,.str g.s,.int .i64 g.o,.aa false (ae g.l)]) rfl cp.WJ (by simp) (by(conv=>whnf);exact .mk (o:=⟨.l,0,4,[.agg [.int .i64 g.k,.str g.s,.int .i64 g.o,.aa false (ae g.l)]]⟩) (.go (.mk (.go (by conv=>whnf)) rfl)) (bg cp.at1 rfl (by simp))))).trans ?_;refine(xI (Ww rfl rfl rfl (QC T6 (by exact rfl) (by simp)))).trans ?_;refine(xI (Ty rfl rfl rfl rfl (x9 rfl rfl cp.RQ) cp.le2 cp.kp2)).trans ?_;refine(xI (kP T6 (by exact rfl))).trans ?_;exact rfl
    ·refine wXA ?_;have M7:=M6.aQ cp.hr cp.fr;have B7:=B6.aQ cp.fr;refine .nx ⟨r2,rfl,⟨M7.hr,M7.oo,M7.Dm,?_,M7.ob,λi hi=>⟨λh=>?_,(M7.d1 i hi).2⟩,λi hi=>⟨λh=>?_,(M7.d2 i hi).2⟩⟩,B7.at_,B7.nb.1,λh=>?_,B7.nb.2.2⟩
     ·have:=cp.out;rw[Zx,List.length_singleton,Yg,<-ZZ];exact this
     ·have:=cp.vd i h;have:=M6.oo.mP i hi;omega
     ·have:=cp.vd i h;have:=M6.ob.mP i hi;omega
     ·have:=cp.vd bi h;obtain⟨_,e9,_⟩:=B6.at_;have:=ag e9;omega
  ·rintro _ K ρ ⟨MH,rfl,M3,B3⟩;obtain⟨mu,hmb,xX⟩:=B3.at_;have Ed:mu≠Mu.x:=by rcases xX with rfl |rfl <;>simp
   have hK:=M3.hr;have hrl:(List.range (fi (iA x) 0 % 3)).length=fi (iA x) 0 % 3:=List.length_range;rw[hrl]at M3 ⊢;refine wXA ?_;refine .ex (qB K hK) (λh' hE=>?_);obtain⟨J,hJ,rfl⟩:=hE;have Vc:HR (K++J++[⟨.m,0,4,ae lZ++ae tv⟩]):=(hK.dE hJ).dE (HV.one (by simp));have M4:=(M3.aQ (hK.dE hJ) (λj hj=>Zv hj)).aQ Vc (λj hj=>Zv hj);have B4:=(B3.aQ (H':=K++J) (λj hj=>Zv hj)).aQ (H':=K++J++[⟨.m,0,4,ae lZ++ae tv⟩]) (λj hj=>Zv hj)
   have hvK:∀j,(K++J).length<=j->j∉ck vo/\j∉ck MH/\j∉ck vb/\j∉ids:=λj hj=>by
    have h0:K.length<=j:=by simp at hj;omega
    exact⟨λh=>by have:=M3.oo.mP j h;omega,λh=>by have:=M3.ok.mP j h;omega,λh=>by have:=M3.ob.mP j h;omega,λh=>by have:=M3.Dm.lt j h;omega⟩
   clear M3 B3;have dv:=Hh;refine wXA ?_;refine .p dv ?_;refine wXA ?_;refine .sn (es:=ae lZ) ?_ rfl (by rw[an,an,gY,rk];omega)
   have TN:Ls 4 (K++J++[⟨.m,0,4,ae lZ++ae tv⟩]) (.aj (K++J).length 0 0 ((ae lZ).length+(ae tv).length)) (ae (lZ++tv)):=by
    rw[cd];exact .inl (.inr ⟨(K++J).length,0,by rw[show(ae lZ++ae tv).length=(ae lZ).length+(ae tv).length from Zx],by rw[ZI (Zz _)];simp⟩)
   obtain⟨mu2,RX,RY⟩:=B4.at_;have NS:=pH (iA x) (lZ++tv) 20 (by intro n hn;rcases ZE.1 hn with h |h;exact WM n h;simp at h;omega) (by simp[iA];omega) (by simp[gY];omega) (by simp[gY,rk]) (su.ct vR) 2 1 7 rfl (by omega);rw[aw]at NS;refine wXA ?_;refine vY RX RY TN NS (λh' z=>?_)
   have M6:=M4.NK z (λj hj=>by
    rcases ZF.1 hj with rfl |hj
    ·exact B4.nb
    ·simp[ck]at hj;exact hvK j (by simp;omega))
   have B6:=B4.NK z;clear M4 B4 TN hvK Vc z;have Yh:Dl (iA x):=by intro n hn;rcases ZE.1 hn with h |h;exact WM n h;simp at h;omega
   have Vd:=vW Yh 1;have Zh:(eG (iA x))[0+1]?=some (.int .u8 (fi (iA x) 1:Int)):=mC (by simp[iA]);have hq3:((fi (iA x) 0:Nat):Int).tdiv 3=((fi (iA x) 0 / 3:Nat):Int):=NC _ 3;have hqt:(((fi (iA x) 0:Nat):Int).tdiv 3).tmod 3=((fi (iA x) 0 / 3 % 3:Nat):Int):=by rw[hq3];exact D0 _ 3
   have MD:=rm (l:=tv) (i:=fi (iA x) 1 % 4) (by rw[rk];omega);have hT:RA (iA x)=if fi (iA x) 0 / 3 % 3=0 then tv.getD (fi (iA x) 1 % 4) eL else(gH (iA x) (lZ++tv) 2 7).1:=rfl;have hTo:=J7 (iA x);have hfo:=tw p x;generalize gH (iA x) (lZ++tv) 2 7=gg at *;obtain⟨g0,gn⟩:=gg;dsimp only at *;generalize tv.getD (fi (iA x) 1 % 4) eL=g1 at *;rw[aw]at MD;obtain⟨mu3,Zi,Yi⟩:=B6.at_;have Zj:mu3≠Mu.x:=by rcases Yi with rfl |rfl <;>simp
   have WO:HR (h'++[⟨.m,0,4,[.agg [.int .i64 g0.k,.str g0.s,.int .i64 g0.o,.aa false (ae g0.l)]]⟩]):=M6.hr.dE (HV.one (by simp))
   by_cases hz:fi (iA x) 0 / 3 % 3=0
   case' pos=>
    rw[if_pos hz]at hT;refine wXA ?_;refine .raw _ (PF (by omega) (by omega)) ?_;refine wXG ?_;refine .mk ?_;refine wXG ?_;refine .mk _ (by simpa[aU,b9]using dv) ?_;refine wXG ?_;clear WO;generalize g1=g at *
   case' neg=>
    rw[if_neg hz]at hT;refine wXA ?_;refine .raw _ (PF (by omega) (by omega)) ?_;refine wXG ?_;clear WO;generalize g0=g at *
   all_goals
    have WO:HR (h'++[(⟨.m,0,4,[.agg [.int .i64 g.k,.str g.s,.int .i64 g.o,.aa false (ae g.l)]]⟩:au)]):=M6.hr.dE (HV.one (by simp));have di:=WO.closed;have ok:=mB _ p rfl;have FG:=ok.kl;have WQ:=ok.ol;have My:=ok.bl;have Wp:=uE (iA x) (cM p).bd (fi (iA x) 0 % 3);obtain⟨w,J1,u,G3,r2,G2,cp⟩:=Yd M6 (by simp;omega) (by dsimp only;omega) g;have M7:=cp.md;have hR7:=M7.hr;have j0:=cp.cell;have I5:=yR g (by rw[<-hT];omega);have RN:=an (bF g);have hgb:ax g<=170:=by rw[<-hT];exact hTo.2
    have Yj:=gu g;have qv:=an (cM p).bd;rw[aw]at I5;refine .raw (λρ'=>?_);refine D.move rfl ?_;refine .RS (h'++[(⟨.m,0,4,[.agg [.int .i64 g.k,.str g.s,.int .i64 g.o,.aa false (ae g.l)]]⟩:au)]) [] (h'++[(⟨.m,0,4,[.agg [.int .i64 g.k,.str g.s,.int .i64 g.o,.aa false (ae g.l)]]⟩:au)]) [] ⟨0,λn _=>Ho T6 (vs:=[]) (by exact rfl) rfl⟩ ?_ (by simp) rfl (yQ _ _) (by simp) di rfl rfl;refine D.move rfl ?_;refine .RS (h'++[(⟨.m,0,4,[.agg [.int .i64 g.k,.str g.s,.int .i64 g.o,.aa false (ae g.l)]]⟩:au)]) J1 (h'++[(⟨.m,0,4,[.agg [.int .i64 g.k,.str g.s,.int .i64 g.o,.aa false (ae g.l)]]⟩:au)]++J1) (List.replicate J1.length 3) ⟨0,λn _=>x9 rfl rfl cp.RP⟩ ?_ rfl (by simp) (yQ _ _) (by simp) di (by show(true&& (br (aL (h'++[(⟨.m,0,4,[.agg [.int .i64 g.k,.str g.s,.int .i64 g.o,.aa false (ae g.l)]]⟩:au)])) MH &&true))=true;rw[cp.vkv];rfl) cp.jl;refine .RS (h'++[(⟨.m,0,4,[.agg [.int .i64 g.k,.str g.s,.int .i64 g.o,.aa false (ae g.l)]]⟩:au)]++J1.map eE) [] (h'++[(⟨.m,0,4,[.agg [.int .i64 g.k,.str g.s,.int .i64 g.o,.aa false (ae g.l)]]⟩:au)]++J1) (List.replicate J1.length 3) ⟨0,λn _=>Hq T6 (v:=.agg [.int .i64 g.k,.str g.s,.int .i64 g.o,.aa false (ae g.l)]) rfl (NQ (mu:=.m) (n:=4) (by simp) (by simp) rfl rfl rfl)⟩ ?_ (by simp) (by simp) (yS rfl) (by simp) (tx di) (by show(aL (h'++[(⟨.m,0,4,[.agg [.int .i64 g.k,.str g.s,.int .i64 g.o,.aa false (ae g.l)]]⟩:au)]++J1.map eE) h'.length&&true)=true;simp[aL]) rfl
    rcases cp.ow with⟨hw,_⟩|⟨iw,ew,hw,_⟩ <;>subst hw
    all_goals
     refine aV.sP T6 ?_
     conv=>whnf
     skip
     refine aV.two rfl ?_ ⟨0,λn _=>U2 T6 (z:=5) ?_ cp.bs⟩ ?_
     ·rfl
     ·exact⟨rfl,rfl⟩
     refine aV.two rfl rfl ⟨0,λn _=>x9 rfl rfl cp.RQ⟩ ?_;refine D.assign rfl ?_;refine aV.nil ⟨_,_,rfl,?_⟩
     conv=>whnf
     refine wXA ?_;refine .p I5 ?_;refine wXA ?_;refine .lr (λWL H3 l3=>?_) M7.ob (iC _) (by dsimp only;omega) (bq _ _ (by simp));refine wXA ?_;have Ve:cM (p++[x])=⟨(cM p).kn++I2 (iA x) (cM p).bd (fi (iA x) 0 % 3),(cM p).bd++bF g,(cM p).out++[⟨(cM p).kn++I2 (iA x) (cM p).bd (fi (iA x) 0 % 3),g⟩]⟩:=by rw[hfo,sw,hT]
     have M8:=M7.JN l3;dsimp only at M8;rw[<-Ve]at M8;exact .nx ⟨r2,MH,WL,_,_,rfl,M8⟩
 ·rintro _ H ρ ⟨vo,vk,vb,ids,es,rfl,M⟩;have Wx:(bs.take 5).length=min 5 bs.length:=by simp
  refine wXC (λhc=>?_) λhc=>?_
  all_goals exact M.Dm.ret M.oo
def oN(x:List Nat):Bool:=decide (20<x.length)
theorem Kj(l:List (List Nat))(hl:l.length<1000000000):aO C 123 [.aa false (gB l),.fn 63 []] (.int .i64 (ug oN l)):=by
 have cT:=sx l;refine aO.x T6 Tryz.func123 rfl ?_;refine wXA ?_;refine eJ.zip T6 l (λa q L K=>L=[(0,.aa false (gB l)),(1,.fn 63 []),(7,.int .i64 (gB l).length),(8,.int .i64 a.length)]/\HV K/\∀y∈a,oN y=false) (.nx ⟨rfl,HV.nil,by simp⟩) ?_ ?_
 ·rintro a x q _ K ρ e ⟨rfl,hK,ha⟩;have cV:=BH e;have cH:=congrArg List.length e;simp only[Zx,ZA]at cH;have Ab:aO C 63 [.aa false (eG x)] (.bool (oN x)):=D9 x;refine wXA ?_;refine .p Ab ?_
  cases hb:oN x
  ·refine wXA ?_;exact .nx ⟨rfl,hK,λy hy=>by rcases ZE.1 hy with h |h;exact ha y h;simp at h;rw[h];exact hb⟩
  ·refine wXA ?_;exact⟨_,rfl,by rw[e,pI ha hb];rfl⟩
 ·rintro _ K ρ ⟨rfl,hK,ha⟩;refine wXA ?_;exact⟨_,rfl,by rw[kq ha];rfl⟩
theorem Kk(l:List (List Nat))(hl:l.length<1000000000):aO C 62 [.aa false (gB l),.fn 63 []] (.bool (l.any oN)):=by
 have hi:=Kj l hl;have ha:=rn oN l;refine aO.x T6 Tryz.func62 rfl ?_;refine wXA ?_;refine .p hi ?_;refine wXC (λhc=>?_) λhc=>?_
 all_goals exact⟨_,rfl,by rw[<-ha];simp[aY, *]⟩
def Ac(b:List (List Nat))(s:List Nat):Bool:=decide (b.length<=5)&&decide (s.length<=10)&& !(b.any oN)
theorem Hi(b:List (List Nat))(s:List Nat)(hb:b.length<1000000000)(hs:s.length<1000000000):aO C 18 [.aa false (gB b),.aa false (eG s)] (.bool (Ac b s)):=by
 have h1:=Kk b hb;have e1:=sx b;have e2:=kU s;have hS:Ac b s=(decide (b.length<=5)&&decide (s.length<=10)&& !(b.any oN)):=rfl;generalize b.any oN=W at *;refine aO.x T6 Tryz.func18 rfl ?_;refine wXK (λhc hc=>?_) (λhc hc=>?_) λhc=>?_
 ·refine .p h1 ?_
  cases W
  ·refine wXA ?_;exact⟨_,rfl,by rw[hS,decide_eq_true (by omega),decide_eq_true (by omega)];rfl⟩
  ·refine wXA ?_;exact⟨_,rfl,by rw[hS];simp[aY]⟩
 ·exact⟨_,rfl,by rw[hS,decide_eq_false (p:=s.length<=10) (by omega)];simp[aY]⟩
 ·exact⟨_,rfl,by rw[hS,decide_eq_false (p:=b.length<=5) (by omega)];simp[aY]⟩
theorem FT{C:cK}(T:lz C.P){run:gU}{L:Al}{ρ:Nat->PV}{M:ab}{t:TypeId}{z:PV}{n:Nat}(hz:T.tz t=some z)(ho:(cells z).all Pm.bG=true)(hn:(cells z).length=n+1):ao C run 1 (.alloc t) (al L ρ) M=some (.ptr M.length 0 0 0,M++[⟨.m,0,n+1,[z]⟩]):=by
 simp only[ao,az,T.mO _ _ hz];rw[if_pos ⟨by omega,ho,by omega⟩,hn]
 rfl
theorem kV(a b:List cY):bE (a++b)=bE a++bE b:=by simp[bE]
theorem Eb(vs:List Tm)(s:List Nat)(hs:Dl s)(TJ:s.length<1000000)(RN:vs.length<1000000)(X':∀t∈vs,ax t<1000000):
  aO C 20 [.aa false (ae vs),.aa false (eG s)] (.aa false (bE (Hf vs s))):=by
 have cT:=an vs;have heu:=kU s;refine aO.x T6 Tryz.func20 rfl ?_;refine wXA ?_;refine eJ.zip T6 vs (λp q L H=>∃v,L=[(0,.aa false (ae vs)),(1,.aa false (eG s)),(5,v),(6,.int .i64 p.length)]/\HV H/\Out 8 H v (bE (ju s 0 p))) (.nx ⟨_,rfl,HV.nil,.inl ⟨rfl,rfl⟩⟩) ?_ ?_
 ·rintro p x q _ H ρ e ⟨v,rfl,hH,ho⟩;have cV:=bS e;have cH:=congrArg List.length e;simp only[Zx,ZA]at cH;have hle:=fu (ju s 0 p);have hlg:=(uF s 0 p).1;have hn:=vW hs p.length;have rZ:=yN s x 0 p;rw[ZS]at rZ;have hxb:=X' x (by rw[e];simp);have TK:zZ x (fi s p.length)=if fi s p.length % 3≠0/\kO x (lZ.getD (fi s p.length / 2 % (ae lZ).length) eL)=true then lZ.getD (fi s p.length / 2 % (ae lZ).length) eL else BE (fi s p.length % 2) x.o:=rfl;have hld:=su.getD (i:=fi s p.length / 2 % (ae lZ).length) (by rw[an];exact abm _ (by rw[gY];omega));have xT:=rm (l:=lZ) (i:=fi s p.length / 2 % (ae lZ).length) (by rw[an];exact abm _ (by rw[gY];omega));have hlf:=qB;have Zf:(ae lZ).length=7:=an lZ;generalize lZ.getD (fi s p.length / 2 % (ae lZ).length) eL=g at *;generalize zZ x (fi s p.length)=R at *;have Ec:=Hj x g (by omega) (by omega);generalize kO x g=F at *;rw[aw]at xT Ec;have Ad:=BG (fi s p.length % 2) (by omega)
  have NP:BE (fi s p.length % 2) x.o=.mk 2 (⟨#[101,35]⟩++⟨#[UInt8.ofNat (48+fi s p.length % 2)]⟩) x.o []:=by
   rw[BE];rfl
  have hDs:(⟨#[UInt8.ofNat (48+fi s p.length % 2)]⟩:ByteArray).size=1:=rfl;have hEs:(⟨#[101,35]⟩:ByteArray).size=2:=rfl;generalize(⟨#[UInt8.ofNat (48+fi s p.length % 2)]⟩:ByteArray)=Dg at *;have RO:=iB (⟨#[101,35]⟩++Dg) x.o;rw[bj,oI]at RO;generalize lZ=LF at *
  by_cases z8:p.length<s.length
  ·have hc:=mC z8;generalize fi s p.length=N at *;have hq:((N:Nat):Int).tdiv 2=((N / 2:Nat):Int):=NC N 2;have ht:((N:Nat):Int).tmod 2=((N % 2:Nat):Int):=D0 N 2;have h3:((N:Nat):Int).tmod 3=((N % 3:Nat):Int):=D0 N 3;rw[<-ht]at Ad;refine wXG ?_;refine .raw (λρ'=>?_);have di:=hH.closed;refine D.move rfl ?_;refine aV.sP T6 ?_
   conv=>whnf
   refine wXA ?_;refine D.jK di rfl rfl rfl (by simp) (by simp[bw,br]) rfl (by simpa[aU,b9]using Ad) ?_;refine aV.sP T6 ?_
   conv=>whnf
   refine wXA ?_;refine D.move rfl ?_;refine D.move rfl ?_;refine aV.sR T6 ?_ di (by repeat' (first |exact trivial |refine⟨?_,?_⟩|rfl))
   conv=>whnf
   refine wXA ?_;refine aV.sP T6 ?_
   conv=>whnf
   skip
   refine aV.sR T6 ?_ di (by repeat' (first |exact trivial |refine⟨?_,?_⟩|rfl))
   conv=>whnf
   skip
   refine D.jK di rfl rfl rfl (by simp) (by simp[bw,br]) rfl (by simpa[aU,b9]using RO) ?_;refine .AW H [(⟨.m,0,4,[.agg [.int .i64 0,.str ByteArray.empty,.int .i64 0,.aa true []]]⟩:au)] ⟨0,λn _=>FT T6 (z:=.agg [.int .i64 0,.str ByteArray.empty,.int .i64 0,.aa true []]) rfl rfl rfl⟩ ?_ (by simp[cc]) (by simp) di rfl rfl;refine D.hZ T6 (o:=(⟨.m,0,4,[.agg [.int .i64 0,.str ByteArray.empty,.int .i64 0,.aa true []]]⟩:au)) (j:=0) rfl rfl rfl rfl (bg (by simp) rfl (by simp)) rfl rfl rfl rfl (Zz 4) ?_;refine aV.heap (h':=H++[(⟨.m,0,4,[.agg [.int .i64 2,.str (⟨#[101,35]⟩++Dg),.int .i64 x.o,.aa false []]]⟩:au)]) (by simp[eD,cells]) ?_;refine aV.nil ⟨_,_,rfl,?_⟩
   conv=>whnf
   skip
   refine .ex (hlf _ (hH.ct (HV.one (by simp))).hr) (λh' hE=>?_);obtain⟨J,hJ,rfl⟩:=hE;have Ya:HV (H++[(⟨.m,0,4,[.agg [.int .i64 2,.str (⟨#[101,35]⟩++Dg),.int .i64 x.o,.aa false []]]⟩:au)]++J):=(hH.ct (HV.one (by simp))).ct hJ;have hHK:HV (H++[(⟨.m,0,4,[.agg [.int .i64 2,.str (⟨#[101,35]⟩++Dg),.int .i64 x.o,.aa false []]]⟩:au)]++J++[(⟨.m,0,4,[.agg [.int .i64 g.k,.str g.s,.int .i64 g.o,.aa false (ae g.l)]]⟩:au)]):=Ya.ct (HV.one (by simp));have h8:(H++[(⟨.m,0,4,[.agg [.int .i64 2,.str (⟨#[101,35]⟩++Dg),.int .i64 x.o,.aa false []]]⟩:au)]++J++[(⟨.m,0,4,[.agg [.int .i64 g.k,.str g.s,.int .i64 g.o,.aa false (ae g.l)]]⟩:au)])[H.length]?=some (⟨.m,0,4,[.agg [.int .i64 2,.str (⟨#[101,35]⟩++Dg),.int .i64 x.o,.aa false []]]⟩:au):=by simp
   have Dh:Out 8 (H++[(⟨.m,0,4,[.agg [.int .i64 2,.str (⟨#[101,35]⟩++Dg),.int .i64 x.o,.aa false []]]⟩:au)]++J++[(⟨.m,0,4,[.agg [.int .i64 g.k,.str g.s,.int .i64 g.o,.aa false (ae g.l)]]⟩:au)]) v (bE (ju s 0 p)):=((ho.ct _).ct _).ct _
   have WI:R=BE (N % 2) x.o->bE (ju s 0 (p++[x]))=bE (ju s 0 p)++[.agg [.int .i64 x.k,.str x.s,.int .i64 x.o,.aa false (ae x.l),.int .i64 2,.str (⟨#[101,35]⟩++Dg),.int .i64 x.o,.aa false []]]:=λh=>by
    rw[rZ,kV,h,NP];simp[bE,qy,Tm.k,Tm.s,Tm.o,Tm.l]
   have hbG:R=g->bE (ju s 0 (p++[x]))=bE (ju s 0 p)++[.agg [.int .i64 x.k,.str x.s,.int .i64 x.o,.aa false (ae x.l),.int .i64 g.k,.str g.s,.int .i64 g.o,.aa false (ae g.l)]]:=λh=>by
    rw[rZ,kV,h]
    rfl
   by_cases hm3:N % 3=0
   ·refine wXH λv H lp=>?_;refine .nx ⟨_,rfl,lp.hv,?_⟩;rw[WI (by rw[TK,if_neg (by simp[hm3])])];exact lp.out
   ·refine wXA ?_;refine .p Ec ?_
    cases F
    ·refine wXH λv H lp=>?_;refine .nx ⟨_,rfl,lp.hv,?_⟩;rw[WI (by rw[TK,if_neg (by simp)])];exact lp.out
    ·have hHS:HV (List.set (H++[(⟨.m,0,4,[.agg [.int .i64 2,.str (⟨#[101,35]⟩++Dg),.int .i64 x.o,.aa false []]]⟩:au)]++J++[(⟨.m,0,4,[.agg [.int .i64 g.k,.str g.s,.int .i64 g.o,.aa false (ae g.l)]]⟩:au)]) H.length (⟨.m,0,4,[.agg [.int .i64 g.k,.str g.s,.int .i64 g.o,.aa false (ae g.l)]]⟩:au)):=hHK.set _ (by simp) (by simp);have h8S:(List.set (H++[(⟨.m,0,4,[.agg [.int .i64 2,.str (⟨#[101,35]⟩++Dg),.int .i64 x.o,.aa false []]]⟩:au)]++J++[(⟨.m,0,4,[.agg [.int .i64 g.k,.str g.s,.int .i64 g.o,.aa false (ae g.l)]]⟩:au)]) H.length (⟨.m,0,4,[.agg [.int .i64 g.k,.str g.s,.int .i64 g.o,.aa false (ae g.l)]]⟩:au))[H.length]?=some (⟨.m,0,4,[.agg [.int .i64 g.k,.str g.s,.int .i64 g.o,.aa false (ae g.l)]]⟩:au):=ZB (by simp);have hoS:Out 8 (List.set (H++[(⟨.m,0,4,[.agg [.int .i64 2,.str (⟨#[101,35]⟩++Dg),.int .i64 x.o,.aa false []]]⟩:au)]++J++[(⟨.m,0,4,[.agg [.int .i64 g.k,.str g.s,.int .i64 g.o,.aa false (ae g.l)]]⟩:au)]) H.length (⟨.m,0,4,[.agg [.int .i64 g.k,.str g.s,.int .i64 g.o,.aa false (ae g.l)]]⟩:au)) v (bE (ju s 0 p)):=Dh.of_eq λi hi=>ZC (by have:=ho.mP i hi;omega)
     refine wXH λv H lp=>?_;refine .nx ⟨_,rfl,lp.hv,?_⟩;rw[hbG (by rw[TK,if_pos ⟨hm3,rfl⟩])];exact lp.out
  ·have hz:=uG z8;rw[hz]at Ad xT NP TK;have hq:(0:Int).tdiv 2=((0 / 2:Nat):Int):=rfl;have h3:(0:Int).tmod 3=((0 % 3:Nat):Int):=rfl;have Ad:aO C 68 [.int .i64 ((0:Int).tmod 2)] (.str Dg):=Ad;obtain⟨N,hN⟩:∃N,N=0:=⟨_,rfl⟩;rw[<-hN]at NP TK;refine wXG ?_;refine .raw (λρ'=>?_);have di:=hH.closed;refine D.move rfl ?_;refine aV.sP T6 ?_
   conv=>whnf
   refine wXA ?_;refine D.jK di rfl rfl rfl (by simp) (by simp[bw,br]) rfl (by simpa[aU,b9]using Ad) ?_;refine aV.sP T6 ?_
   conv=>whnf
   refine wXA ?_;refine D.move rfl ?_;refine D.move rfl ?_;refine aV.sR T6 ?_ di (by repeat' (first |exact trivial |refine⟨?_,?_⟩|rfl))
   conv=>whnf
   refine wXA ?_;refine aV.sP T6 ?_
   conv=>whnf
   skip
   refine aV.sR T6 ?_ di (by repeat' (first |exact trivial |refine⟨?_,?_⟩|rfl))
   conv=>whnf
   skip
   refine D.jK di rfl rfl rfl (by simp) (by simp[bw,br]) rfl (by simpa[aU,b9]using RO) ?_;refine .AW H [(⟨.m,0,4,[.agg [.int .i64 0,.str ByteArray.empty,.int .i64 0,.aa true []]]⟩:au)] ⟨0,λn _=>FT T6 (z:=.agg [.int .i64 0,.str ByteArray.empty,.int .i64 0,.aa true []]) rfl rfl rfl⟩ ?_ (by simp[cc]) (by simp) di rfl rfl;refine D.hZ T6 (o:=(⟨.m,0,4,[.agg [.int .i64 0,.str ByteArray.empty,.int .i64 0,.aa true []]]⟩:au)) (j:=0) rfl rfl rfl rfl (bg (by simp) rfl (by simp)) rfl rfl rfl rfl (Zz 4) ?_;refine aV.heap (h':=H++[(⟨.m,0,4,[.agg [.int .i64 2,.str (⟨#[101,35]⟩++Dg),.int .i64 x.o,.aa false []]]⟩:au)]) (by simp[eD,cells]) ?_;refine aV.nil ⟨_,_,rfl,?_⟩
   conv=>whnf
   skip
   refine .ex (hlf _ (hH.ct (HV.one (by simp))).hr) (λh' hE=>?_);obtain⟨J,hJ,rfl⟩:=hE;have Ya:HV (H++[(⟨.m,0,4,[.agg [.int .i64 2,.str (⟨#[101,35]⟩++Dg),.int .i64 x.o,.aa false []]]⟩:au)]++J):=(hH.ct (HV.one (by simp))).ct hJ;have hHK:HV (H++[(⟨.m,0,4,[.agg [.int .i64 2,.str (⟨#[101,35]⟩++Dg),.int .i64 x.o,.aa false []]]⟩:au)]++J++[(⟨.m,0,4,[.agg [.int .i64 g.k,.str g.s,.int .i64 g.o,.aa false (ae g.l)]]⟩:au)]):=Ya.ct (HV.one (by simp));have h8:(H++[(⟨.m,0,4,[.agg [.int .i64 2,.str (⟨#[101,35]⟩++Dg),.int .i64 x.o,.aa false []]]⟩:au)]++J++[(⟨.m,0,4,[.agg [.int .i64 g.k,.str g.s,.int .i64 g.o,.aa false (ae g.l)]]⟩:au)])[H.length]?=some (⟨.m,0,4,[.agg [.int .i64 2,.str (⟨#[101,35]⟩++Dg),.int .i64 x.o,.aa false []]]⟩:au):=by simp
   have Dh:Out 8 (H++[(⟨.m,0,4,[.agg [.int .i64 2,.str (⟨#[101,35]⟩++Dg),.int .i64 x.o,.aa false []]]⟩:au)]++J++[(⟨.m,0,4,[.agg [.int .i64 g.k,.str g.s,.int .i64 g.o,.aa false (ae g.l)]]⟩:au)]) v (bE (ju s 0 p)):=((ho.ct _).ct _).ct _
   have WI:R=BE (N % 2) x.o->bE (ju s 0 (p++[x]))=bE (ju s 0 p)++[.agg [.int .i64 x.k,.str x.s,.int .i64 x.o,.aa false (ae x.l),.int .i64 2,.str (⟨#[101,35]⟩++Dg),.int .i64 x.o,.aa false []]]:=λh=>by
    rw[rZ,kV,h,NP];simp[bE,qy,Tm.k,Tm.s,Tm.o,Tm.l]
   have hbG:R=g->bE (ju s 0 (p++[x]))=bE (ju s 0 p)++[.agg [.int .i64 x.k,.str x.s,.int .i64 x.o,.aa false (ae x.l),.int .i64 g.k,.str g.s,.int .i64 g.o,.aa false (ae g.l)]]:=λh=>by
    rw[rZ,kV,h]
    rfl
   refine wXH λv H lp=>?_;refine .nx ⟨_,rfl,lp.hv,?_⟩;rw[WI (by rw[TK,if_neg (by rw[hN];simp)])];exact lp.out
 ·rintro _ H ρ ⟨v,rfl,hH,ho⟩;refine wXA ?_;exact Ls.GW (.inl ho) (by simp) (by simp[Hf])
def oO(l:List fg):Nat:=(l.map λd=>bz d.kn+ax d.tm+2).sum
def Af(s:List cY):Nat:=(s.map λb=>ax b.v+ax b.t+1).sum
def ek(l:List fg):List Tm:=l.flatMap λd=>d.kn++[d.tm]
theorem kr(d:fg)(l:List fg):oO (d::l)=bz d.kn+ax d.tm+2+oO l:=by simp[oO]
theorem sy(b:cY)(s:List cY):Af (b::s)=ax b.v+ax b.t+1+Af s:=by simp[Af]
theorem Cr{d:fg}:∀{l:List fg},d∈l->bz d.kn+ax d.tm+2<=oO l
 |u::l,h=>by
  rw[kr];rcases ZF.1 h with rfl |h
  ·omega
  ·have:=Cr h;omega
theorem BM{b:cY}:∀{l:List cY},b∈l->ax b.v+ax b.t+1<=Af l
 |u::l,h=>by
  rw[sy];rcases ZF.1 h with rfl |h
  ·omega
  ·have:=BM h;omega
theorem oP:∀(l:List fg),l.length<=oO l
 |[]=>by simp
 |d::l=>by have:=oP l;rw[kr,ZA];omega
theorem BL:∀(l:List cY),l.length<=Af l
 |[]=>by simp
 |d::l=>by have:=BL l;rw[sy,ZA];omega
theorem IP(t:Tm):bz [t]=ax t:=by simp[bz]
theorem lN:∀(l:List fg),bz (ek l)<=oO l
 |[]=>by simp[ek,bz]
 |d::l=>by
  have:=lN l;rw[kr];simp only[ek,aa1,pL,IP]at this ⊢;omega
theorem EI(l:List fg)(hl:oO l<100000000):aO C 22 [.aa false (bW l)] (.aa false (ae (ek l))):=by
 have cT:=gq l;have IY:=oP l;refine aO.x T6 Tryz.func22 rfl ?_;refine wXA ?_;refine eJ.zip T6 l (λp q L H=>∃v,L=[(0,.aa false (bW l)),(3,v),(4,.int .i64 p.length)]/\HV H/\Out 4 H v (ae (ek p))) (.nx ⟨_,rfl,HV.nil,.inl ⟨rfl,rfl⟩⟩) ?_ ?_
 ·rintro p d q _ H ρ e ⟨v,rfl,hH,ho⟩;have cV:=my e;have cH:=congrArg List.length e;simp only[Zx,ZA]at cH;have lY:ek l=ek p++(d.kn++[d.tm])++ek q:=by rw[e];simp[ek]
  have MN:=lN l;have MA:=bD (ek l);have xF:=congrArg List.length lY;simp only[Zx,ZA,Z']at xF;have hle:=an (ek p);have xG:=an d.kn;have hvd:ar [PV.agg [.int .i64 d.tm.k,.str d.tm.s,.int .i64 d.tm.o,.aa false (ae d.tm.l)]]=true:=by simp
  have e9:[.agg [.int .i64 d.tm.k,.str d.tm.s,.int .i64 d.tm.o,.aa false (ae d.tm.l)]]=ae [d.tm]:=by rw[ae,<-aw];rfl
  obtain⟨r1,H1,a1,o1,v1,l1,k1,n1⟩:=Pz T6 (st:=31) (xt:=31) (full:=false) (es:=ae (ek p)) (ys:=ae d.kn) rfl rfl rfl rfl rfl (by decide) rfl rfl ho (iC _) (by omega) (by simp) (by simp) hH;have xD:(ae (ek p)++ae d.kn).length=(ek p).length+d.kn.length:=by rw[Zx];omega
  obtain⟨r2,H2,a2,o2,v2,l2,k2,n2⟩:=Pz T6 (st:=31) (xt:=31) (full:=true) (es:=ae (ek p)++ae d.kn) (ys:=[.agg [.int .i64 d.tm.k,.str d.tm.s,.int .i64 d.tm.o,.aa false (ae d.tm.l)]]) rfl rfl rfl rfl rfl (by decide) rfl rfl o1 rfl (by rw[xD];simp;omega) (by rw[dj];simp) hvd v1;refine wXA ?_;refine .calm ?_ H2 (DH (λ_=>rfl) rfl (λj o h=>?_) (λrun ρ=>?_)) ?_
  rotate_left
  ·rcases n2 j o h with h |h
   ·exact .inl h
   ·exact n1 j o h
  ·refine(xI (kP T6 (by exact rfl))).trans ?_;refine(xI (kP T6 (by exact rfl))).trans ?_;refine(xI (kP T6 (by exact rfl))).trans ?_;refine(xI (kR T6 (by(conv=>whnf);exact .mk (n:=p.length) ⟨rfl⟩ rfl cV rfl) rfl)).trans ?_;refine(xI (kP T6 (by exact rfl))).trans ?_;refine(xI (kR T6 (by exact rfl) rfl)).trans ?_;refine(xI (Ty rfl rfl rfl rfl (x9 rfl rfl a1) l1 k1)).trans ?_;refine(xI (kP T6 (by exact rfl))).trans ?_;refine(xI (kP T6 (by exact rfl))).trans ?_;refine(xI (kR T6 (by(conv=>whnf);exact .mk (n:=p.length) ⟨rfl⟩ rfl cV rfl) rfl)).trans ?_;refine(xI (kP T6 (by exact rfl))).trans ?_;refine(xI (kR T6 (by exact rfl) rfl)).trans ?_;refine(xI (Ww rfl rfl rfl (QC T6 (by exact rfl) hvd))).trans ?_;refine(xI (Ty rfl rfl rfl rfl (x9 rfl rfl a2) l2 k2)).trans ?_;refine(xI (kP T6 (by exact rfl))).trans ?_;exact rfl
  ·refine wXA ?_;refine .nx ⟨_,rfl,v2,?_⟩;rw[e9,<-cd,<-cd]at o2;rw[show ek (p++[d])=ek p++d.kn++[d.tm] by simp[ek]];exact o2
 ·rintro _ H ρ ⟨v,rfl,hH,ho⟩;refine wXA ?_;exact Ls.GW (.inl ho) (by simp) (by simp)
theorem Kn{sz:Nat}{h:ab}{v:PV}{es:List PV}(o:Ls sz h v es)(hv:aW v=true):b9 v=.aa false (aU es):=by
 rcases o with(⟨rfl,rfl⟩|⟨id,ep,rfl,_⟩)|⟨f,rfl⟩
 ·rfl
 ·simp[aW]at hv
 ·simp[b9]
theorem Ko{sz:Nat}{h:ab}{v:PV}{es:List PV}(o:Ls sz h v es)(hv:ar es=true):∀id∈(cells v).flatMap xQ,∃o:au,h[id]?=some o/\ar o.es=true/\(o.mu=.m\/o.mu=.f):=by
 rcases o with(⟨rfl,rfl⟩|⟨i,ep,rfl,e⟩)|⟨f,rfl⟩
 ·intro id bT;simp[cells,xQ]at bT
 ·intro id bT
  simp[cells,xQ]at bT;subst bT;exact⟨_,e,hv,.inl rfl⟩
 ·intro id bT;simp[cells,xQ]at bT
theorem call2{f:FuncId}{sz1 sz2:Nat}{H:ab}{r1 r2 rv:PV}{lC dD:List PV}{Q:PV->ab->Prop}(o1:Ls sz1 H r1 lC)(o2:Ls sz2 H r2 dD)(a:aO C f [.aa false lC,.aa false dD] rv)(q:∀h',Q rv h')(hm:C.mode f=.pure:=by rfl)
  (xL:ar lC=true:=by simp) (A6:ar dD=true:=by simp) (Dc:aU lC=lC:=by simp) (PD:aU dD=dD:=by simp):ai C 2 f [r1,r2] H Q:=by
 by_cases xZ:ar [r1,r2]=true
 ·have RZ:=xZ;simp only[ar,aa9,ZD]at RZ;have n1:=Kn o1 RZ.1;have n2:=Kn o2 RZ.2;exact ai.pure hm xZ (by simpa[aU,n1,n2,Dc,PD]using a) (q H)
 ·obtain⟨a1,b1,c1⟩:=o1.ly xL;obtain⟨a2,b2,c2⟩:=o2.ly A6;refine ai.any (args':=[a1,a2]) (by simp[iK,b1,b2]) (by simpa using xZ) (λid bT=>?_) (by simpa[aU,c1,c2,Dc,PD]using a) q hm;simp only[jJ,aa1,List.flatMap_nil,ZV,ZE]at bT;rcases bT with bT |bT
  ·exact Ko o1 xL id bT
  ·exact Ko o2 A6 id bT
theorem FU{B:Nat}:∀{l:List fg},(∀d∈l,bz d.kn+ax d.tm+2<=B)->oO l<=l.length * B
 |[],_=>by simp[oO]
 |d::l,h=>by
  have h1:=h d (by simp);have h2:=FU (l:=l) λx hx=>h x (by simp[hx])
  rw[kr,ZA,aag];omega
theorem FV{B:Nat}:∀{l:List cY},(∀d∈l,ax d.v+ax d.t+1<=B)->Af l<=l.length * B
 |[],_=>by simp[Af]
 |d::l,h=>by
  have h1:=h d (by simp);have h2:=FV (l:=l) λx hx=>h x (by simp[hx])
  rw[sy,ZA,aag];omega
theorem BJ(b:List (List Nat)):oO (ez b)<=40000:=by
 obtain⟨h1,h2⟩:=BD b
 have h3:=FU (B:=7900) (l:=ez b) λd hd=>by
  obtain⟨q1,q2,_,q4⟩:=h2 d hd;have:=vZ (B:=770) (l:=d.kn) λt ht=>(q2 t ht).2
  have:=Z9 770 q1;omega
 have:=Z9 7900 h1;omega
def qD(b:List (List Nat))(s:List Nat):List cY:=Hf (dL (ez b)) s
theorem BK(b:List (List Nat))(s:List Nat):(qD b s).length<=4:=by
 have h1:=(nu b).1;have h2:=(uF s 0 (dL (ez b))).1;unfold qD Hf;omega
theorem Ag(b:List (List Nat))(s:List Nat):∀x∈qD b s,ax x.v<=20/\ko x.t=true/\ax x.t<=20:=λx hx=>by
 obtain⟨h1,h2,h3⟩:=(uF s 0 (dL (ez b))).2 x hx;exact⟨(vR x.v ((nu b).2 x.v h1)).2,(lL.1 h2).1,h3⟩
theorem Kp(b:List (List Nat))(s:List Nat):Af (qD b s)<=200:=by
 have h3:=FV (B:=50) (l:=qD b s) λd hd=>by have:=Ag b s d hd;omega
 have:=Z9 50 (BK b s);omega
theorem Ee(l:List fg):fa l=ek l:=rfl
theorem v7(l:List fg)(S:List cY)(hl:oO l<900000)(hS:Af S<900000)(BI:∀b∈S,ko b.t=true):
  aO C 14 [.aa false (bW l),.aa false (bE S)] (.cm [.bool (l6 l S).1,.int .i64 (l6 l S).2]):=by
 have h1:=oP l;have h2:=lN l;have h3:=BL S;exact Hr l S (by omega) (by rw[Ee];omega) (by omega) (λb hb=>by have:=BM hb;omega) BI
theorem Hs(b:List (List Nat)):aO C 21 [.aa false (ae (ek (ez b)))] (.aa false (ae (dL (ez b)))):=by
 have h0:=BJ b;have rV:=lN (ez b);have DS:=bD (ek (ez b));have hvq:kS ((ek (ez b)).flatMap bF)=dL (ez b):=BN (ez b);rw[<-hvq];refine BO (ek (ez b)) ?_ (by omega) (λt ht=>by have:=bN ht;omega)
 have key:∀l:List Tm,(l.flatMap bF).length<=bz l:=by
  intro l
  induction l with
  |nil=>simp[bz]
  |cons t l ih=>
   have:=gu t;simp only[aa1,Zx,bz];omega
 have:=key (ek (ez b));omega
theorem Ef{v:PV}{es:List PV}{H:ab}(o:Out 8 H v es)(hv:v=.aa true []\/es≠[])(ho:du 8 es)(hn:es.length<1000000000):∃r H',kM 8 [v] H=some (r,H')/\Out 8 H' r es/\(∀(j:Nat) (o:au),H[j]?=some o->H'[j]?=some o):=by
 rcases o with⟨rfl,rfl⟩|⟨id,ep,rfl,e⟩
 ·exact⟨.aa true [],H,rfl,.inl ⟨rfl,rfl⟩,λ_ _ h=>h⟩
 ·have bI:es≠[]:=hv.resolve_left (by simp);unfold du at ho;refine⟨.aj H.length 0 0 es.length,newObj H 8 es,?_,.inr ⟨H.length,0,rfl,by simp[newObj]⟩,λj o h=>by rw[newObj,Zv (ag h)];exact h⟩;simp only[kM,e];rw[if_pos ⟨by simp,trivial,trivial,trivial,trivial,bI,ho,hn⟩]
end bO
structure NT(S:List cY):Prop where
 gr:∀b∈S,bF b.t=[]
 nd:S.Pairwise λa b=>a.v≠b.v
theorem uI:∀{S:List cY} {x:Tm},(∃b∈S,b.v=x/\kQ S x=b.t)\/((∀b∈S,b.v≠x)/\kQ S x=x)
 |[],x=>.inr ⟨λb h=>(by cases h),rfl⟩
 |b::S,x=>by
  rw[kQ]
  by_cases h:aT b.v x=0
  ·rw[if_pos h];exact .inl ⟨b,by simp,dn h,rfl⟩
  ·rw[if_neg h];rcases uI (S:=S) (x:=x)with⟨c,h1,h2,h3⟩|⟨h1,h2⟩
   ·exact .inl ⟨c,by simp[h1],h2,h3⟩
   ·refine .inr ⟨λc hc=>?_,h2⟩;rcases ZF.1 hc with rfl |hc
    ·rintro rfl;exact h (cX _)
    ·exact h1 c hc
theorem NT.get{S:List cY}(g:NT S){b:cY}(hb:b∈S):kQ S b.v=b.t:=by
 rcases uI (S:=S) (x:=b.v)with⟨c,h1,h2,h3⟩|⟨h1,_⟩
 ·rw[h3]
  have key:∀{S:List cY},(S.Pairwise λa b=>a.v≠b.v)->∀b∈S,∀c∈S,c.v=b.v->c=b:=by
   intro S hS
   induction hS with
   |nil=>intro b hb;cases hb
   | @cons a l ha _ ih=>
    intro b hb c hc e
    rcases ZF.1 hb with h1 |h1 <;>rcases ZF.1 hc with h2 |h2
    ·rw[h1,h2]
    ·rw[h1]at e;exact absurd e.symm (ha c h2)
    ·rw[h2]at e;exact absurd e (ha b h1)
    ·exact ih b h1 c h2 e
  rw[key g.nd b hb c h1 h2]
 ·exact absurd rfl (h1 b hb)
theorem R9{S:List cY}(t:Tm):bF t=[]->cF S t=t:=by
 induction t using Tm.ind with
 |h k s o l ih=>
  intro h
  have hk:k≠1:=λhk=>by
   have:Tm.mk k s o l∈bF (.mk k s o l):=(fG _ _).2 ⟨oC _,hk⟩;rw[h]at this;cases this
  rw[cF,if_neg hk,cQ]
  congr 1
  conv=>rhs;rw[<-List.map_id l]
  refine aan λt ht=>ih t ht ?_;refine abb.2 λy hy=>?_;obtain⟨h1,h2⟩:=(fG t y).1 hy;have:y∈bF (.mk k s o l):=(fG _ _).2 ⟨by rw[pre];exact aa4 _ (eT.2 ⟨t,ht,h1⟩),h2⟩;rw[h]at this;cases this
theorem Ah{S T:List cY}(g:NT S)(hT:∀b∈T,b∈S)(t:Tm):cF S (cF T t)=cF S t:=by
 induction t using Tm.ind with
 |h k s o l ih=>
  by_cases hk:k=1
  ·rw[cF,if_pos hk];rcases uI (S:=T) (x:=.mk k s o l)with⟨c,h1,h2,h3⟩|⟨_,h2⟩
   ·rw[h3,R9 _ (g.gr c (hT c h1)),cF,if_pos hk,<-h2,g.get (hT c h1)]
   ·rw[h2]
  ·rw[cF,if_neg hk,cF,if_neg hk,cF,if_neg hk,cQ,cQ,cQ,aa5]
   congr 1
   exact aan λt ht=>ih t ht
theorem Kq{S T:List cY}(g:NT S)(hT:∀b∈T,b∈S)(l:List Tm):cj S (cj T l)=cj S l:=by
 rw[cQ,cQ,cQ,aa5];exact aan λt _=>Ah g hT t
theorem Kr{T:List cY}(hT:∀b∈T,bF b.t=[])(t:Tm):∀y∈bF (cF T t),y∈bF t:=by
 induction t using Tm.ind with
 |h k s o l ih=>
  intro y hy
  by_cases hk:k=1
  ·rw[cF,if_pos hk]at hy;rcases uI (S:=T) (x:=.mk k s o l)with⟨c,h1,h2,h3⟩|⟨_,h2⟩
   ·rw[h3,hT c h1]at hy;cases hy
   ·rw[h2]at hy;exact hy
  ·rw[cF,if_neg hk]at hy;obtain⟨h1,h2⟩:=(fG _ _).1 hy;rw[pre]at h1;rcases ZF.1 h1 with rfl |h1
   ·exact absurd h2 hk
   ·rw[cQ]at h1;obtain⟨u,hu,h1⟩:=eT.1 h1;obtain⟨w,hw,rfl⟩:=Z0.1 hu;obtain⟨q1,q2⟩:=(fG _ _).1 (ih w hw y ((fG _ _).2 ⟨h1,h2⟩));exact(fG _ _).2 ⟨by rw[pre];exact aa4 _ (eT.2 ⟨w,hw,q1⟩),q2⟩
theorem Ks{S T:List cY}(g:NT S)(hT:∀b∈T,b∈S){t:Tm}(h1:valid t=0)(h2:valid (cF T t)=0):(bR S (cF T t)).2=(bR S t).2:=by
 unfold bR;rw[Ah g hT,if_neg (show¬valid (cF T t)≠0 by omega),if_neg (show¬valid t≠0 by omega)]
theorem FW{S T:List cY}(g:NT S)(hT:∀b∈T,b∈S):∀{l:List Tm},(∀t∈l,valid t=0/\valid (cF T t)=0)->iW S (cj T l)=iW S l
 |[],_=>rfl
 |t::l,h=>by
  obtain⟨h1,h2⟩:=h t (by simp);rw[cj,iW,iW,Ks g hT h1 h2,FW g hT λu hu=>h u (by simp[hu])]
theorem v8{S T:List cY}(g:NT S)(hT:∀b∈T,b∈S):∀{l:List fg},(∀d∈l,∀t∈d.kn++[d.tm],valid t=0/\valid (cF T t)=0)->iD S (l.map (js T))=iD S l
 |[],_=>rfl
 |d::l,h=>by
  have hd:=h d (by simp)
  have h1:jg S (js T d)=jg S d:=by
   obtain⟨q1,q2⟩:=hd d.tm (by simp);have e1:iW S (js T d).kn=iW S d.kn:=FW g hT λt ht=>hd t (by simp[ht])
   have e2:(bR S (js T d).tm).2=(bR S d.tm).2:=Ks g hT q1 q2;simp only[jg,e1,e2]
  rw[ZN,iD,iD,h1,v8 g hT λu hu=>h u (by simp[hu])];simp only[js,Ah g hT,Kq g hT]
theorem BP{l:List fg}{y:Tm}:y∈dL l↔∃d∈l,∃t∈d.kn++[d.tm],y∈bF t:=by
 rw[<-BN,gX];simp only[aaz]
 constructor
 ·rintro⟨t,⟨d,hd,ht⟩,hy⟩;exact⟨d,hd,t,ht,hy⟩
 ·rintro⟨d,hd,t,ht,hy⟩;exact⟨t,⟨d,hd,ht⟩,hy⟩
theorem Ht{l:List fg}{S T:List cY}(g:NT S)(hT:∀b∈T,b∈S)(hb:(dL l).all (Kt S)=true)(he:instE l T=0):l6 (instL l T) S=l6 l S:=by
 have hL:instL l T=l.map (js T):=by rw[instL,if_neg (by omega)]
 have hz:nr l=0/\nr (l.map (js T))=0:=by
  unfold instE at he
  split at he
  ·rename_i hn;exact absurd he hn
  ·split at he
   ·rename_i hn;exact absurd he hn
   ·split at he
    ·rename_i hn;exact absurd he hn
    ·exact⟨by omega,he⟩
 have hv:∀d∈l,∀t∈d.kn++[d.tm],valid t=0/\valid (cF T t)=0:=λd hd t ht=>by
  refine⟨(nt (((pF hz.1).2 d hd).2 t ht)).1,?_⟩;have h2:=((pF hz.2).2 (js T d) (Z0.2 ⟨d,hd,rfl⟩)).2;refine(nt (h2 (cF T t) ?_)).1;simp only[js,cQ];rcases ZE.1 ht with ht |ht
  ·exact aa3 _ (Z0.2 ⟨t,ht,rfl⟩)
  ·simp at ht;subst ht;simp
 have vf:(dL (l.map (js T))).all (Kt S)=true:=by
  rw[Zw]at hb ⊢
  intro y hy
  refine hb y ?_;obtain⟨d',Db,t',TO,hy⟩:=BP.1 hy;obtain⟨d,hd,rfl⟩:=Z0.1 Db
  have:∃t∈d.kn++[d.tm],t'=cF T t:=by
   simp only[js,cQ]at TO;rcases ZE.1 TO with h |h
   ·obtain⟨t,ht,rfl⟩:=Z0.1 h;exact⟨t,by simp[ht],rfl⟩
   ·simp at h;exact⟨d.tm,by simp,h⟩
  obtain⟨t,ht,rfl⟩:=this;exact BP.2 ⟨d,hd,t,ht,Kr (λb hb=>g.gr b (hT b hb)) t y hy⟩
 have hs:qE (l.map (js T)) S=qE l S:=by
  unfold qE;rw[hb,vf]
 rw[hL];unfold l6;rw[hs,v8 g hT hv];simp[hz.1,hz.2]
end Go.Pm
