/-
  A part of the library Pm (joined by program). Conditions: none.
-/
import Derived.Test.YtimogkojklpdnaaGreatDoorPyAA
import Derived.Test.YtimogkojklpdnaaGreatDoorPyAM
import Derived.Test.YtimogkojklpdnaaGreatDoorPyAG
import Derived.Test.YtimogkojklpdnaaGreatDoorPyAI
import Derived.Test.YtimogkojklpdnaaGreatDoorPyAJ
set_option linter.unusedVariables false
set_option linter.unusedSimpArgs false
set_option linter.unnecessarySimpa false
namespace Go.Pm
namespace bP
open Go.Proofs
attribute [local irreducible] aE az aI aJ Ev ah ai ax aW bZ
set_option maxRecDepth 4000
structure Ic(H:ab)(vo vk vb:PV)(s:NB)(ids:List Nat)(es:List PV):Prop where
 hr:HR H
 oo:Out 5 H vo es
 DW:yI H ids es s.out
 ok:Out 4 H vk (ae s.kn)
 ob:Out 4 H vb (ae s.bd)
 d1:∀i∈cq vo,i∉cq vk/\i∉cq vb/\i∉ids
 d2:∀i∈cq vb,i∉cq vk/\i∉ids
theorem Ic.aR{H H':ab}{vo vk vb:PV}{s:NB}{ids:List Nat}{es:List PV}(M:Ic H vo vk vb s ids es)(hr:HR H')(Cm:∀j,j<H.length->H'[j]?=H[j]?):Ic H' vo vk vb s ids es:=
 ⟨hr,M.oo.of_eq λi hi=>Cm i (M.oo.mI i hi),M.DW.of_eq λi hi=>Cm i (M.DW.lt i hi),M.ok.of_eq λi hi=>Cm i (M.ok.mI i hi),M.ob.of_eq λi hi=>Cm i (M.ob.mI i hi),M.d1,M.d2⟩
structure QD(H:ab)(bi ep:Nat)(b:List Nat)(vo vk vb:PV)(ids:List Nat):Prop where
 at_:∃mu,H[bi]?=some ⟨mu,ep,1,eO b⟩/\(mu=.m\/mu=.f)
 nb:bi∉cq vo/\bi∉cq vk/\bi∉cq vb/\bi∉ids
theorem QD.aR{H H':ab}{bi ep:Nat}{b:List Nat}{vo vk vb:PV}{ids:List Nat}(B:QD H bi ep b vo vk vb ids)(Cm:∀j,j<H.length->H'[j]?=H[j]?):QD H' bi ep b vo vk vb ids:=by
 obtain⟨⟨mu,e,hm⟩,nb⟩:=B;exact⟨⟨mu,(Cm bi (ag e)).trans e,hm⟩,nb⟩
theorem Ie(l:List Nat):dB 1 (eO l):=by
 unfold dB;rw[Z1]
 intro v hv
 obtain⟨n,_,rfl⟩:=aak.1 hv
 rfl
theorem AR{H h':ab}{v r:PV}{sz:Nat}{es:List PV}(a:LR H v sz es r h'){j:Nat}(hj:j<H.length)(hv:j∉cq v):h'[j]?=H[j]?/\j∉cq r:=by
 refine⟨a.fr j hj λep n h=>hv (by rw[h];simp[cq]),λhh=>?_⟩;rcases a.cq j hh with h |h
 ·exact hv h
 ·omega
structure V1(h:ab)(vk:PV)(kn:List Tm)(g:Tm)(r1:PV)(G1:ab)(r2:PV)(G2:ab):Prop where
 SX:bQ C.P 2 (cA [h.length] (h++[(⟨.m,0,4,[.agg [.int .i64 g.k,.str g.s,.int .i64 g.o,.aa false (ae g.l)]]⟩:au)])) 31 31 (.aa true []) vk=some (r1,G1)
 le1:(cA [h.length] (h++[(⟨.m,0,4,[.agg [.int .i64 g.k,.str g.s,.int .i64 g.o,.aa false (ae g.l)]]⟩:au)])).length<=G1.length
 kp1:∀(j:Nat) (o:au),(cA [h.length] (h++[(⟨.m,0,4,[.agg [.int .i64 g.k,.str g.s,.int .i64 g.o,.aa false (ae g.l)]]⟩:au)]))[j]?=some o->o.mu≠.m->G1[j]?=some o
 XM:(cA [h.length] (h++[(⟨.m,0,4,[.agg [.int .i64 g.k,.str g.s,.int .i64 g.o,.aa false (ae g.l)]]⟩:au)]))[h.length]?=some ⟨.l,0,4,[.agg [.int .i64 g.k,.str g.s,.int .i64 g.o,.aa false (ae g.l)]]⟩
 at1:G1[h.length]?=some ⟨.l,0,4,[.agg [.int .i64 g.k,.str g.s,.int .i64 g.o,.aa false (ae g.l)]]⟩
 SY:bQ C.P 2 G1 31 31 r1 (.aa true [.agg [.int .i64 g.k,.str g.s,.int .i64 g.o,.aa false (ae g.l)]])=some (r2,G2)
 le2:G1.length<=G2.length
 kp2:∀(j:Nat) (o:au),G1[j]?=some o->o.mu≠.m->G2[j]?=some o
 nl:∀(j:Nat) (o:au),G2[j]?=some o->o.mu≠.l\/(cA [h.length] (h++[(⟨.m,0,4,[.agg [.int .i64 g.k,.str g.s,.int .i64 g.o,.aa false (ae g.l)]]⟩:au)]))[j]?=some o
 hr:HR (dW [h.length] (h++[(⟨.m,0,4,[.agg [.int .i64 g.k,.str g.s,.int .i64 g.o,.aa false (ae g.l)]]⟩:au)]) G2)
 fr:∀j,j<h.length->(dW [h.length] (h++[(⟨.m,0,4,[.agg [.int .i64 g.k,.str g.s,.int .i64 g.o,.aa false (ae g.l)]]⟩:au)]) G2)[j]?=h[j]?
 out:Out 4 (dW [h.length] (h++[(⟨.m,0,4,[.agg [.int .i64 g.k,.str g.s,.int .i64 g.o,.aa false (ae g.l)]]⟩:au)]) G2) r2 (ae (kn++[g]))
 vd:∀i∈cq r2,h.length<=i
theorem V2{h:ab}(hR:HR h){vk:PV}{kn:List Tm}(o:Out 4 h vk (ae kn))(hn:kn.length<100000000)(g:Tm):∃r1 G1 r2 G2,V1 h vk kn g r1 G1 r2 G2:=by
 have cX:=aj kn;have yk:(cA [h.length] (h++[(⟨.m,0,4,[.agg [.int .i64 g.k,.str g.s,.int .i64 g.o,.aa false (ae g.l)]]⟩:au)])).length=h.length+1:=by rw[AL];simp
 have UD:HR (h++[(⟨.m,0,4,[.agg [.int .i64 g.k,.str g.s,.int .i64 g.o,.aa false (ae g.l)]]⟩:au)]):=hR.dq (HV.one (by simp));have hRL:HR (cA [h.length] (h++[(⟨.m,0,4,[.agg [.int .i64 g.k,.str g.s,.int .i64 g.o,.aa false (ae g.l)]]⟩:au)])):=UD.OC;have XM:(cA [h.length] (h++[(⟨.m,0,4,[.agg [.int .i64 g.k,.str g.s,.int .i64 g.o,.aa false (ae g.l)]]⟩:au)]))[h.length]?=some ⟨.l,0,4,[.agg [.int .i64 g.k,.str g.s,.int .i64 g.o,.aa false (ae g.l)]]⟩:=K9 (by simp);have JI:∀j,j<h.length->(cA [h.length] (h++[(⟨.m,0,4,[.agg [.int .i64 g.k,.str g.s,.int .i64 g.o,.aa false (ae g.l)]]⟩:au)]))[j]?=h[j]?:=λj hj=>by rw[SL (by omega),Z0 hj]
 have oL:Out 4 (cA [h.length] (h++[(⟨.m,0,4,[.agg [.int .i64 g.k,.str g.s,.int .i64 g.o,.aa false (ae g.l)]]⟩:au)])) vk (ae kn):=o.of_eq λi hi=>JI i (o.mI i hi)
 obtain⟨r1,G1,SX,a1⟩:=EN T6 (H:=cA [h.length] (h++[(⟨.m,0,4,[.agg [.int .i64 g.k,.str g.s,.int .i64 g.o,.aa false (ae g.l)]]⟩:au)])) (st:=31) (xt:=31) (v:=.aa true []) (u:=vk) (es:=[]) (ys:=ae kn) rfl rfl rfl rfl rfl (by decide) rfl rfl (.inl ⟨rfl,rfl⟩) oL.cw (by simp[cq]) (gA _) (by simp;omega)
 have qZ:∀i∈cq r1,h.length+1<=i:=λi hi=>by
  rcases a1.cq i hi with h1 |h1
  ·simp[cq]at h1
  ·omega
 obtain⟨r2,G2,SY,a2⟩:=EN T6 (H:=G1) (st:=31) (xt:=31) (v:=r1) (u:=.aa true [.agg [.int .i64 g.k,.str g.s,.int .i64 g.o,.aa false (ae g.l)]]) (es:=[]++ae kn) (ys:=[.agg [.int .i64 g.k,.str g.s,.int .i64 g.o,.aa false (ae g.l)]]) rfl rfl rfl rfl rfl (by decide) rfl rfl a1.out rfl (by simp[cq]) rfl (by simp;omega)
 have uJ:∀i∈cq r2,h.length+1<=i:=λi hi=>by
  rcases a2.cq i hi with h1 |h1
  ·exact qZ i h1
  ·have:=a1.len;omega
 have V3:=a1.hr hRL (br _ _ (by simp));have h2R:=a2.hr V3 (br _ _ (by simp));have cE:h.length+1<=G2.length:=by have:=a1.len;have:=a2.len;omega
 have he:[]++ae kn++[.agg [.int .i64 g.k,.str g.s,.int .i64 g.o,.aa false (ae g.l)]]=ae (kn++[g]):=by rw[cc,aaL,yq]
 have o2:=a2.out;rw[he]at o2;refine⟨r1,G1,r2,G2,SX,a1.len,a1.aR,XM,a1.aR _ _ XM (by simp),SY,a2.len,a2.aR,λj o hj=>?_,h2R.OD UD (by simp;omega),λj hj=>?_,o2.of_eq λi hi=>EO (by have:=uJ i hi;omega),λi hi=>by have:=uJ i hi;omega⟩
 ·rcases a2.K7 j o hj with h1 |h1
  ·exact .inl h1
  ·exact a1.K7 j o h1
 ·rw[EO (by omega),a2.fr j (by have:=a1.len;omega) (λhh=>by have:=qZ j hh;omega),a1.fr j (by omega) (by simp[cq])];exact JI j hj
structure YU(h:ab)(vo vk vb:PV)(s:NB)(ids:List Nat)(es:List PV)(g:Tm)(w:PV)(J1:ab)(u:PV)(G3:ab)(r:PV)(G2:ab):Prop where
 SX:bQ C.P 1 (h++[(⟨.m,0,4,[.agg [.int .i64 g.k,.str g.s,.int .i64 g.o,.aa false (ae g.l)]]⟩:au)]) 31 31 (.aa true []) vk=some (w,h++[(⟨.m,0,4,[.agg [.int .i64 g.k,.str g.s,.int .i64 g.o,.aa false (ae g.l)]]⟩:au)]++J1)
 jl:(J1.all λo=>decide (o.mu≠.l))=true
 ow:Out 4 (h++[(⟨.m,0,4,[.agg [.int .i64 g.k,.str g.s,.int .i64 g.o,.aa false (ae g.l)]]⟩:au)]++J1) w (ae s.kn)
 vkv:bt (aL (h++[(⟨.m,0,4,[.agg [.int .i64 g.k,.str g.s,.int .i64 g.o,.aa false (ae g.l)]]⟩:au)])) vk=true
 bs:(ao [.agg [w,.int .i64 g.k,.str g.s,.int .i64 g.o,.aa false (ae g.l)]]=true/\u=.aa true [.agg [w,.int .i64 g.k,.str g.s,.int .i64 g.o,.aa false (ae g.l)]]/\G3=h++[(⟨.m,0,4,[.agg [.int .i64 g.k,.str g.s,.int .i64 g.o,.aa false (ae g.l)]]⟩:au)]++J1)\/(ao [.agg [w,.int .i64 g.k,.str g.s,.int .i64 g.o,.aa false (ae g.l)]]=false/\u=.ak (h++[(⟨.m,0,4,[.agg [.int .i64 g.k,.str g.s,.int .i64 g.o,.aa false (ae g.l)]]⟩:au)]++J1).length 0 0 1/\G3=newObj (h++[(⟨.m,0,4,[.agg [.int .i64 g.k,.str g.s,.int .i64 g.o,.aa false (ae g.l)]]⟩:au)]++J1) 5 [.agg [w,.int .i64 g.k,.str g.s,.int .i64 g.o,.aa false (ae g.l)]])
 SY:bQ C.P 2 G3 22 22 vo u=some (r,G2)
 md:Ic G2 r vk vb ⟨s.kn,s.bd,s.out++[⟨s.kn,g⟩]⟩ (ids++cq w) (es++[.agg [w,.int .i64 g.k,.str g.s,.int .i64 g.o,.aa false (ae g.l)]])
 cell:G2[h.length]?=some (⟨.m,0,4,[.agg [.int .i64 g.k,.str g.s,.int .i64 g.o,.aa false (ae g.l)]]⟩:au)
theorem YV{h:ab}{vo vk vb:PV}{s:NB}{ids:List Nat}{es:List PV}(M:Ic h vo vk vb s ids es)(hn:s.kn.length<100000000)(Ku:s.out.length<100000000)(g:Tm):∃w J1 u G3 r G2,YU h vo vk vb s ids es g w J1 u G3 r G2:=by
 have cX:=aj s.kn;have UD:HR (h++[(⟨.m,0,4,[.agg [.int .i64 g.k,.str g.s,.int .i64 g.o,.aa false (ae g.l)]]⟩:au)]):=M.hr.dq (HV.one (by simp));have MG:=M.aR UD λj hj=>Z0 hj
 have hgl:(h++[(⟨.m,0,4,[.agg [.int .i64 g.k,.str g.s,.int .i64 g.o,.aa false (ae g.l)]]⟩:au)]).length=h.length+1:=by simp
 obtain⟨w,J1,SX,_,hJ,qZ,Ig⟩:=K8 T6 (lv:=1) (by omega) (H:=h++[(⟨.m,0,4,[.agg [.int .i64 g.k,.str g.s,.int .i64 g.o,.aa false (ae g.l)]]⟩:au)]) (st:=31) (xt:=31) (u:=vk) (es:=[]) (ys:=ae s.kn) rfl rfl rfl rfl rfl (by decide) rfl rfl MG.ok.cw rfl (gA _) (by simp;omega);have Ig:=Ig rfl;have V4:HV J1:=by rcases hJ with rfl |rfl;exact HV.nil;exact HV.one (by simp)
 have V3:HR (h++[(⟨.m,0,4,[.agg [.int .i64 g.k,.str g.s,.int .i64 g.o,.aa false (ae g.l)]]⟩:au)]++J1):=UD.dq V4;have M1:=MG.aR V3 λj hj=>Z0 hj
 have hwo:=Ig.bI;have hwv:=Ig.bt;have yg:(h++[(⟨.m,0,4,[.agg [.int .i64 g.k,.str g.s,.int .i64 g.o,.aa false (ae g.l)]]⟩:au)]++J1).length=h.length+1+J1.length:=by simp;omega
 have fN:dB 5 [.agg [w,.int .i64 g.k,.str g.s,.int .i64 g.o,.aa false (ae g.l)]]:=by
  unfold dB;rw[aaX,abw];show((decide ((5:Nat)=5)&& (Pm.bI w&& (true&& (true&& (true&& (true&&true))))))&&true)=true;rw[hwo.1]
  rfl
 have yn:es.length=s.out.length:=M.DW.len
 obtain⟨u,G3,bs,hu,ND,h3R,h3f,h3l⟩:∃u G3,((ao [.agg [w,.int .i64 g.k,.str g.s,.int .i64 g.o,.aa false (ae g.l)]]=true/\u=.aa true [.agg [w,.int .i64 g.k,.str g.s,.int .i64 g.o,.aa false (ae g.l)]]/\G3=h++[(⟨.m,0,4,[.agg [.int .i64 g.k,.str g.s,.int .i64 g.o,.aa false (ae g.l)]]⟩:au)]++J1)\/(ao [.agg [w,.int .i64 g.k,.str g.s,.int .i64 g.o,.aa false (ae g.l)]]=false/\u=.ak (h++[(⟨.m,0,4,[.agg [.int .i64 g.k,.str g.s,.int .i64 g.o,.aa false (ae g.l)]]⟩:au)]++J1).length 0 0 1/\G3=newObj (h++[(⟨.m,0,4,[.agg [.int .i64 g.k,.str g.s,.int .i64 g.o,.aa false (ae g.l)]]⟩:au)]++J1) 5 [.agg [w,.int .i64 g.k,.str g.s,.int .i64 g.o,.aa false (ae g.l)]]))/\cw G3 u=some [.agg [w,.int .i64 g.k,.str g.s,.int .i64 g.o,.aa false (ae g.l)]]/\(∀i∈cq u,h.length+1<=i)/\HR G3/\(∀j,j<(h++[(⟨.m,0,4,[.agg [.int .i64 g.k,.str g.s,.int .i64 g.o,.aa false (ae g.l)]]⟩:au)]++J1).length->G3[j]?=(h++[(⟨.m,0,4,[.agg [.int .i64 g.k,.str g.s,.int .i64 g.o,.aa false (ae g.l)]]⟩:au)]++J1)[j]?)/\(h++[(⟨.m,0,4,[.agg [.int .i64 g.k,.str g.s,.int .i64 g.o,.aa false (ae g.l)]]⟩:au)]++J1).length<=G3.length:=by
  cases rN:ao [.agg [w,.int .i64 g.k,.str g.s,.int .i64 g.o,.aa false (ae g.l)]]
  ·refine⟨_,_,.inr ⟨rfl,rfl,rfl⟩,by simp[cw,getM,newObj],λi hi=>(by simp only[cq,aav]at hi;omega),V3.K6 (by simp) ?_,λj hj=>by rw[newObj,Z0 hj],by simp[newObj]⟩;simp only[bz,bt,abv];exact wK (f:=λi=>decide (i<(h++[(⟨.m,0,4,[.agg [.int .i64 g.k,.str g.s,.int .i64 g.o,.aa false (ae g.l)]]⟩:au)]++J1).length)) (λi hi=>by have:=of_decide_eq_true hi;exact decide_eq_true (by omega)) _ hwv
  ·exact⟨_,_,.inl ⟨rfl,rfl,rfl⟩,rfl,by simp[cq],V3,λ_ _=>rfl,Z5 _⟩
 have M3:=M1.aR h3R h3f;have Ep:Out 4 G3 w (ae s.kn):=Ig.of_eq λi hi=>h3f i (Ig.mI i hi)
 obtain⟨r,G2,SY,a2⟩:=EN T6 (H:=G3) (st:=22) (xt:=22) (v:=vo) (u:=u) (es:=es) (ys:=[.agg [w,.int .i64 g.k,.str g.s,.int .i64 g.o,.aa false (ae g.l)]]) rfl rfl rfl rfl rfl (by decide) rfl rfl M3.oo hu (λi hi h=>by have:=M.oo.mI i hi;have:=ND i h;omega) fN (by simp;omega)
 have im:bz (λi=>decide (i<G3.length)) (es++[.agg [w,.int .i64 g.k,.str g.s,.int .i64 g.o,.aa false (ae g.l)]])=true:=by
  rw[fw,abj,<-fw,M3.DW.Qz];simp only[aaX,abw,bt,bz,abv,abd];exact Ep.bt
 have h2R:=a2.hr h3R im;have XN:∀i∈cq r,i∈cq vo\/G3.length<=i:=a2.cq;have V5:∀i∈cq w,i<G3.length:=Ep.mI;have V6:∀i∈cq w,i∉cq vo:=λi hi h=>by have:=qZ i hi;have:=M.oo.mI i h;omega
 have f3:∀j,j<h.length+1->G3[j]?=(h++[(⟨.m,0,4,[.agg [.int .i64 g.k,.str g.s,.int .i64 g.o,.aa false (ae g.l)]]⟩:au)])[j]?:=λj hj=>by rw[h3f j (by omega),Z0 (by omega)]
 have fin:∀j,j<h.length->j∉cq vo->G2[j]?=h[j]?:=λj hj hv=>by
  rw[a2.fr j (by omega) hv,f3 j (by omega),Z0 hj]
 refine⟨w,J1,u,G3,r,G2,SX,?_,Ig,?_,bs,SY,⟨h2R,a2.out,.snoc (w:=w) (d:=⟨s.kn,g⟩) (M.DW.of_eq λi hi=>fin i (M.DW.lt i hi) λhh=>(M.d1 i hh).2.2 hi) (Ep.of_eq λi hi=>a2.fr i (V5 i hi) (V6 i hi)),M.ok.of_eq λi hi=>fin i (M.ok.mI i hi) λhh=>(M.d1 i hh).1 hi,M.ob.of_eq λi hi=>fin i (M.ob.mI i hi) λhh=>(M.d1 i hh).2.1 hi,λi hi=>?_,λi hi=>⟨(M.d2 i hi).1,λhh=>?_⟩⟩,?_⟩
 ·rcases hJ with rfl |rfl <;>simp
 ·have:=MG.ok.bt;exact wK (λi hi=>UD.Qz (of_decide_eq_true hi)) _ this
 ·rcases XN i hi with h1 |h1
  ·obtain⟨q1,q2,q3⟩:=M.d1 i h1;refine⟨q1,q2,λhh=>?_⟩;rcases Z8.1 hh with hh |hh
   ·exact q3 hh
   ·exact V6 i hh h1
  ·refine⟨λhh=>by have:=M.ok.mI i hh;omega,λhh=>by have:=M.ob.mI i hh;omega,λhh=>?_⟩;rcases Z8.1 hh with hh |hh
   ·have:=M.DW.lt i hh;omega
   ·have:=V5 i hh;omega
 ·rcases Z8.1 hh with hh |hh
  ·exact(M.d2 i hi).2 hh
  ·have:=qZ i hh;have:=M.ob.mI i hi;omega
 ·rw[a2.fr h.length (by omega) (λhh=>by have:=M.oo.mI _ hh;omega),f3 _ (by omega)];simp
theorem zB(e:Nat->Bool)(h:ab):cr e h.length [] h=h:=by simp[cr]
theorem OG{C:cP}{T:lL C.P}{M:ab}{t:TypeId}{c n sz:Nat}{mu:Mu}{cs:List PV}(hb:M[c]?=some ⟨mu,0,n,[.agg cs]⟩)(hm:mu≠.x)(hs:T.ts t=some (sz+1))(ht:T.ta t=some true)(hl:cs.length=sz+1):loadT T M t (.ptr c 0 0 0)=some (.agg cs):=by
 have hp:cK M (.ptr c 0 0 0)=some cs:=by simp[cK,bg hb rfl hm,cells]
 unfold loadT;rw[hs,ht,hp];have:Nat.ble (sz+1) cs.length=true:=Nat.ble_eq_true_of_le (by omega);simp only[this,if_true];rw[aar (by omega)]
theorem _root_.Go.Pm.aW.SZ{C:cP}{ops:Array Oper}{i d:Nat}{ty:TypeId}{pos:String}{af:Array Edge}{r:List Oper}{ρ:Nat->PV}{L:Al}{h:ab}{L0:Nat}{own:List Nat}{Q:St->Prop}{op:Op}{v:PV}{h':ab}(M J Hn:ab)(V7:List Nat)
  (hc:∃n0,∀n,n0<=n->ar C (fe C n) 1 op (al L ρ) M=some (v,h')) (k:aW C ops (i+1) r ⟨⟨al ((d,v)::L) ρ,Hn⟩,L0,V7⟩ Q) (hHn:h++J=Hn) (ho:own++List.replicate J.length i=V7) (hM:cr ((before ops).getD i 0).testBit L0 own h=M) (hJ:h'.drop h.length=J) (dp:aT M=true) (kV:(op.operands.toList.all λy=>bt (aL M) (ev (al L ρ) y))=true)
  (yk:(J.all λo=>decide (o.mu≠.l))=true) (hh:cV op=true:=by rfl) (hl:(level ops (before ops) i==2)=false:=by rfl):aW C ops i (⟨some d,op,ty,pos,af,none⟩::r) ⟨⟨al L ρ,h⟩,L0,own⟩ Q:=
 aW.BA M J hc (by rw[hHn,ho];exact k) hM hJ dp kV yk hh hl
theorem Ic.Kx{J H3:ab}{vo vk vb XO:PV}{s:NB}{ids:List Nat}{es:List PV}{V:List Tm}(M:Ic J vo vk vb s ids es)(l:LR J vb 4 (ae s.bd++ae V) XO H3):Ic H3 vo vk XO ⟨s.kn,s.bd++V,s.out⟩ ids es:=by
 have fr:∀i,i<J.length->i∉cq vb->H3[i]?=J[i]?:=λi hi hv=>(AR l hi hv).1
 have ob:=l.out;rw[<-cc]at ob;refine⟨l.hr,M.oo.of_eq λi hi=>fr i (M.oo.mI i hi) (M.d1 i hi).2.1,M.DW.of_eq λi hi=>fr i (M.DW.lt i hi) λhh=>(M.d2 i hh).2 hi,M.ok.of_eq λi hi=>fr i (M.ok.mI i hi) λhh=>(M.d2 i hh).1 hi,ob,λi hi=>?_,λi hi=>?_⟩
 ·obtain⟨q1,q2,q3⟩:=M.d1 i hi;exact⟨q1,(AR l (M.oo.mI i hi) q2).2,q3⟩
 ·rcases l.cq i hi with h1 |h1
  ·exact M.d2 i h1
  ·exact⟨λhh=>by have:=M.ok.mI i hh;omega,λhh=>by have:=M.DW.lt i hh;omega⟩
theorem wL{H:ab}{bi ep:Nat}{mu:Mu}{b:List Nat}{i n:Int}{r R:PV}{l:List Tm}{Q:PV->ab->Prop}(hb:H[bi]?=some ⟨mu,ep,1,eO b⟩)(hm:mu=.m\/mu=.f)(hr:Ls 4 H r (ae l))(a:aO C 64 [.aa false (eO b),.int .i64 i,.int .i64 n,.aa false (ae l)] R)(q:∀h',KX (bi::cq r) H h'->Q R h'):ai C 2 64 [.ak bi ep 0 (eO b).length,.int .i64 i,.int .i64 n,r] H Q:=by
 obtain⟨a2,b2,c2⟩:=hr.j' (by simp);have EU:mu≠.x:=by rcases hm with rfl |rfl <;>simp
 have ht:List.take b.length (eO b)=eO b:=aar (by simp);have S9:j' H (.ak bi ep 0 (eO b).length)=some (.aa false (eO b)):=by simp[j',qs,bg hb rfl EU,hm,ht]
 have i1:∀n:Int,j' H (.int .i64 n)=some (.int .i64 n):=λ_=>rfl
 have Ay:iD [.ak bi ep 0 (eO b).length,.int .i64 i,.int .i64 n,r]=bi::cq r:=by
  rcases hr with(⟨rfl,_⟩|⟨i,e,rfl,_⟩)|⟨f,rfl⟩ <;>rfl
 refine ai.VW (args':=[.aa false (eO b),.int .i64 i,.int .i64 n,a2]) (by simp only[gI,S9,i1,b2]) (by simp[ao,aV]) (λid bU=>?_) (by simpa[aQ,cf,c2]using a) (λh' z=>q h' (Ay▸z));rw[Ay]at bU;rcases Z'.1 bU with rfl |bU
 ·exact⟨_,hb,by simp,hm⟩
 ·rcases hr with(⟨rfl,_⟩|⟨j,e,rfl,hj⟩)|⟨f,rfl⟩
  ·simp[cq]at bU
  ·simp[cq]at bU;subst bU;exact⟨_,hj,by simp,.inl rfl⟩
  ·simp[cq]at bU
theorem Ic.KY{H H':ab}{l:List Nat}{vo vk vb:PV}{s:NB}{ids:List Nat}{es:List PV}(M:Ic H vo vk vb s ids es)(z:KX l H H')(h:∀j∈l,j∉cq vo/\j∉cq vk/\j∉cq vb/\j∉ids):Ic H' vo vk vb s ids es:=
 ⟨z.hr M.hr,M.oo.of_eq λi hi=>z.same i λhh=>(h i hh).1 hi,M.DW.of_eq λi hi=>z.same i λhh=>(h i hh).2.2.2 hi,M.ok.of_eq λi hi=>z.same i λhh=>(h i hh).2.1 hi,M.ob.of_eq λi hi=>z.same i λhh=>(h i hh).2.2.1 hi,M.d1,M.d2⟩
theorem QD.KY{H H':ab}{l:List Nat}{bi ep:Nat}{b:List Nat}{vo vk vb:PV}{ids:List Nat}(B:QD H bi ep b vo vk vb ids)(z:KX l H H'):QD H' bi ep b vo vk vb ids:=by
 obtain⟨⟨mu,e,hm⟩,nb⟩:=B;obtain⟨mu',e',OH⟩:=z.nj bi _ e;refine⟨⟨mu',e',?_⟩,nb⟩;rcases OH with rfl |rfl
 ·exact hm
 ·exact .inr rfl
theorem Ih(bs:List (List Nat))(HA:∀b∈bs,DV b/\b.length<1000000)(hl:bs.length<1000000):
  aO C 19 [.aa false (gG bs)] (.aa false (bA (eN bs))):=by
 have cX:=tg bs;refine aO.xd T6 Tryz.func19 rfl ?_;refine wXA ?_;refine eD.zip T6 (bs.take 5) (λp q L H=>∃vo vk vb ids es,L=[(0,.aa false (gG bs)),(3,vo),(4,vk),(5,vb),(6,.int .i64 p.length)]/\Ic H vo vk vb (cR p) ids es) (.nx ⟨_,_,_,[],[],rfl,HV.nil.hr,.inl ⟨rfl,rfl⟩,.nil,.inl ⟨rfl,rfl⟩,.inl ⟨rfl,rfl⟩,by simp[cq],by simp[cq]⟩) ?_ ?_
 ·rintro p x q _ H ρ e ⟨vo,vk,vb,ids,es,rfl,M⟩;have cE:=congrArg List.length e;simp only[Z2,Z4,aa0]at cE;have e2:bs=p++x::(q++bs.drop 5):=by have:=(abM 5 bs).symm;rw[e]at this;simpa using this
  have cY:=Ck e2;have hH:=M.hr;obtain⟨XP,OI⟩:=HA x (by rw[e2];simp);have hex:=ll x;refine wXA ?_;refine .lr (λv1 h1 l1=>?_) (.inl ⟨rfl,rfl⟩) (Ie x) (by rw[ll];simp;omega);have kY:=l1.hr;refine wXA ?_;refine .lr (λv2 h2 l2=>?_) l1.out rfl (by simp;omega) (by exact br _ _ (by simp));have oa:=l2.hr;have hle:H.length<=h2.length:=aaQ l1.len l2.len
  have Ta:∀j,j<H.length->h2[j]?=H[j]?/\j∉cq v2:=λj hj=>by
   obtain⟨a1,a2⟩:=AR l1 hj (by simp[cq]);obtain⟨b1,b2⟩:=AR l2 (by have:=l1.len;omega) a2;exact⟨b1.trans a1,b2⟩
  have Oo:[]++eO x++[.int .u8 0,.int .u8 0]=eO (iH x):=by simp[iH,La];rfl
  have Eo:=l2.out;rw[Oo]at Eo
  obtain⟨bi,ep,rfl,hbi⟩:∃bi ep,v2=.ak bi ep 0 (eO (iH x)).length/\h2[bi]?=some ⟨.m,ep,1,eO (iH x)⟩:=by
   rcases Eo with⟨_,h⟩|h
   ·have:=congrArg List.length h;simp[iH]at this
   ·exact h
  have M2:=M.aR oa λj hj=>(Ta j hj).1
  have Le:∀j,j<H.length->j≠bi:=λj hj hh=>(Ta j hj).2 (by simp[cq,hh])
  have B2:QD h2 bi ep (iH x) vo vk vb ids:=⟨⟨.m,hbi,.inl rfl⟩,λh=>Le bi (M.oo.mI bi h) rfl,λh=>Le bi (M.ok.mI bi h) rfl,λh=>Le bi (M.ob.mI bi h) rfl,λh=>Le bi (M.DW.lt bi h) rfl⟩;clear Ta Le hbi;have UE:=wJ (l:=iH x) (by intro n hn;rcases Z8.1 hn with h |h;exact XP n h;simp at h;omega) 0;have ZN:(eO (iH x))[0+0]?=some (.int .u8 (fm (iH x) 0:Int)):=mK (by simp[iH]);have ht3:((fm (iH x) 0:Nat):Int).tmod 3=((fm (iH x) 0 % 3:Nat):Int):=EG _ 3;have hlen:2<=(eO (iH x)).length:=by simp[iH]
  refine wXA ?_;refine eD.zip T6 (List.range (fm (iH x) 0 % 3)) (λa r L K=>∃NF,L=[(0,.aa false (gG bs)),(3,vo),(4,NF),(5,vb),(6,.int .i64 p.length),(7,.ak bi ep 0 (eO (iH x)).length),(8,.int .i64 a.length)]/\Ic K vo NF vb ⟨(cR p).kn++JH (iH x) (cR p).bd a.length,(cR p).bd,(cR p).out⟩ ids es/\QD K bi ep (iH x) vo NF vb ids) (.nx ⟨_,rfl,by simpa[JH]using M2,B2⟩) ?_ ?_
  ·rintro a k r _ K ρ e3 ⟨NF,rfl,M3,B3⟩;have Qg:=congrArg List.length e3;simp only[Z2,Z4,List.length_range]at Qg;obtain⟨mu,hmb,uO⟩:=B3.at_;have EU:mu≠Mu.x:=by rcases uO with rfl |rfl <;>simp
   have hK:=M3.hr;refine wXA ?_;refine .ex (qX K hK) (λh' hE=>?_);obtain⟨J,hJ,rfl⟩:=hE;have M4:=M3.aR (hK.dq hJ) (λj hj=>Z0 hj);have B4:=B3.aR (H':=K++J) (λj hj=>Z0 hj);clear M3 B3;have ZG:(cR p).bd.length<=1000:=by have:=(mJ _ p rfl).bl;omega
   have XQ:=(mJ _ p rfl).bf;rcases M4.ob with⟨rfl,yr⟩|⟨ib,eb,rfl,AM⟩
   case' inl=>
    refine wXA ?_;refine .nn ?_ rfl;have YW:(cR p).bd=[]:=aaf (by have:=congrArg List.length yr;simpa using this);obtain⟨r',Tb⟩:∃r,r=PV.aa true (ae nf):=⟨_,rfl⟩;rw[<-Tb];have UF:Ls (3+1) (K++J) r' (ae (nf++(cR p).bd)):=.inr ⟨true,by rw[Tb,YW,aao]⟩;have V8:∀j∈cq r',j∉cq vo/\j∉cq NF/\j∉cq (.aa true [])/\j∉ids:=by rw[Tb];simp[cq]
    have M5:=M4;have B5:=B4;have V9:=M4.hr;generalize K++J=HH at *;clear M4 B4
   case' inr=>
    obtain⟨r',J2,ha,UF,Oe,XN,_⟩:=K8 T6 (lv:=2) (by omega) (H:=K++J) (st:=31) (xt:=31) (es:=ae nf) (u:=.ak ib eb 0 (ae (cR p).bd).length) (ys:=ae (cR p).bd) rfl rfl rfl rfl rfl (by decide) rfl rfl M4.ob.cw (gA _) (gA _) (by rw[aj,aj,jc];omega);have V9:HR (K++J++J2):=M4.hr.dq (by rcases Oe with rfl |rfl;exact HV.nil;exact HV.one (by simp));have M5:=M4.aR V9 (λj hj=>Z0 hj);have B5:=B4.aR (H':=K++J++J2) (λj hj=>Z0 hj);rw[<-cc]at UF
    have V8:∀j∈cq r',j∉cq vo/\j∉cq NF/\j∉cq (.ak ib eb 0 (ae (cR p).bd).length)/\j∉ids:=λj hj=>by
     have h0:=XN j hj;exact⟨λh=>by have:=M4.oo.mI j h;omega,λh=>by have:=M4.ok.mI j h;omega,λh=>by have:=M4.ob.mI j h;omega,λh=>by have:=M4.DW.lt j h;omega⟩
    refine wXA ?_;refine .mk (λrun ρ=>yK rfl rfl ha) ?_;generalize K++J++J2=HH at *;clear ha Oe XN M4 B4
   all_goals
    obtain⟨mu2,Tc,Td⟩:=B5.at_;have OJ:=pZ (iH x) (nf++(cR p).bd) 170 (by intro n hn;rcases Z8.1 hn with h |h;exact XP n h;simp at h;omega) (by simp[iH];omega) (by simp[jc];omega) (by simp[jc];omega) ((td.mono (by omega)).cC XQ) 2 1 (1+3 * a.length) rfl (by omega)
    push_cast at OJ
    rw[aw]at OJ;refine wXA ?_;refine wL Tc Td UF OJ (λh' z=>?_)
    have M6:=M5.KY z (λj hj=>by
     rcases Z'.1 hj with rfl |hj
     ·exact B5.nb
     ·exact V8 j hj)
    have B6:=B5.KY z;clear M5 B5 z OJ;have AE:(cR p).kn.length<=1000:=by have:=(mJ _ p rfl).kl;omega
    have hks:=KT (iH x) (cR p).bd a.length;have Un:=vj (iH x) (cR p).bd a.length;obtain⟨r1,G1,r2,G2,cp⟩:=V2 M6.hr M6.ok (by simp;omega) (gN (iH x) (nf++(cR p).bd) 2 (1+3 * a.length)).1;generalize gN (iH x) (nf++(cR p).bd) 2 (1+3 * a.length)=gg at *;obtain⟨g,gn⟩:=gg;dsimp only at *;refine wXA ?_;refine .calm ?_ _ (OB (λ_=>rfl) rfl (by simp) cp.nl (λrun ρ=>?_)) ?_
    rotate_left
    ·refine(ym (Xz rfl rfl rfl (RC T6 (by exact rfl) rfl))).trans ?_;refine(ym (kP T6 (by exact rfl))).trans ?_;refine(ym (Ur rfl rfl rfl rfl (yK rfl rfl cp.SX) cp.le1 cp.kp1)).trans ?_;refine(ym (kLd T6 (v:=.agg [.int .i64 g.k,.str g.s,.int .i64 g.o,.aa false (ae g.l)]) rfl cp.XM (by simp) (by(conv=>whnf);exact .mk (o:=⟨.l,0,4,[.agg [.int .i64 g.k,.str g.s,.int .i64 g.o,.aa false (ae g.l)]]⟩) (.go (.mk (.go (by conv=>whnf)) rfl)) (bg cp.at1 rfl (by simp))))).trans ?_;refine(ym (Xz rfl rfl rfl (RC T6 (by exact rfl) (by simp)))).trans ?_;refine(ym (Ur rfl rfl rfl rfl (yK rfl rfl cp.SY) cp.le2 cp.kp2)).trans ?_;refine(ym (kP T6 (by exact rfl))).trans ?_;exact rfl
    ·refine wXA ?_;have M7:=M6.aR cp.hr cp.fr;have B7:=B6.aR cp.fr;refine .nx ⟨r2,rfl,⟨M7.hr,M7.oo,M7.DW,?_,M7.ob,λi hi=>⟨λh=>?_,(M7.d1 i hi).2⟩,λi hi=>⟨λh=>?_,(M7.d2 i hi).2⟩⟩,B7.at_,B7.nb.1,λh=>?_,B7.nb.2.2⟩
     ·have:=cp.out;rw[Z2,List.length_singleton,hks,<-aat];exact this
     ·have:=cp.vd i h;have:=M6.oo.mI i hi;omega
     ·have:=cp.vd i h;have:=M6.ob.mI i hi;omega
     ·have:=cp.vd bi h;obtain⟨_,e9,_⟩:=B6.at_;have:=ag e9;omega
  ·rintro _ K ρ ⟨NF,rfl,M3,B3⟩;obtain⟨mu,hmb,uO⟩:=B3.at_;have EU:mu≠Mu.x:=by rcases uO with rfl |rfl <;>simp
   have hK:=M3.hr;have hrl:(List.range (fm (iH x) 0 % 3)).length=fm (iH x) 0 % 3:=List.length_range;rw[hrl]at M3 ⊢;refine wXA ?_;refine .ex (qX K hK) (λh' hE=>?_);obtain⟨J,hJ,rfl⟩:=hE;have V9:HR (K++J++[⟨.m,0,4,ae nf++ae pY⟩]):=(hK.dq hJ).dq (HV.one (by simp));have M4:=(M3.aR (hK.dq hJ) (λj hj=>Z0 hj)).aR V9 (λj hj=>Z0 hj);have B4:=(B3.aR (H':=K++J) (λj hj=>Z0 hj)).aR (H':=K++J++[⟨.m,0,4,ae nf++ae pY⟩]) (λj hj=>Z0 hj)
   have hvK:∀j,(K++J).length<=j->j∉cq vo/\j∉cq NF/\j∉cq vb/\j∉ids:=λj hj=>by
    have h0:K.length<=j:=by simp at hj;omega
    exact⟨λh=>by have:=M3.oo.mI j h;omega,λh=>by have:=M3.ok.mI j h;omega,λh=>by have:=M3.ob.mI j h;omega,λh=>by have:=M3.DW.lt j h;omega⟩
   clear M3 B3;have dv:=H9;refine wXA ?_;refine .p dv ?_;refine wXA ?_;refine .sn (es:=ae nf) ?_ rfl (by rw[aj,aj,jc,rS];omega)
   have UF:Ls 4 (K++J++[⟨.m,0,4,ae nf++ae pY⟩]) (.ak (K++J).length 0 0 ((ae nf).length+(ae pY).length)) (ae (nf++pY)):=by
    rw[cc];exact .inl (.inr ⟨(K++J).length,0,by rw[show(ae nf++ae pY).length=(ae nf).length+(ae pY).length from Z2],by rw[aac (Z5 _)];simp⟩)
   obtain⟨mu2,Tc,Td⟩:=B4.at_;have OJ:=pZ (iH x) (nf++pY) 20 (by intro n hn;rcases Z8.1 hn with h |h;exact XP n h;simp at h;omega) (by simp[iH];omega) (by simp[jc];omega) (by simp[jc,rS]) (td.cC wD) 2 1 7 rfl (by omega);rw[aw]at OJ;refine wXA ?_;refine wL Tc Td UF OJ (λh' z=>?_)
   have M6:=M4.KY z (λj hj=>by
    rcases Z'.1 hj with rfl |hj
    ·exact B4.nb
    ·simp[cq]at hj;exact hvK j (by simp;omega))
   have B6:=B4.KY z;clear M4 B4 UF hvK V9 z;have YX:DV (iH x):=by intro n hn;rcases Z8.1 hn with h |h;exact XP n h;simp at h;omega
   have V':=wJ YX 1;have ZO:(eO (iH x))[0+1]?=some (.int .u8 (fm (iH x) 1:Int)):=mK (by simp[iH]);have hq3:((fm (iH x) 0:Nat):Int).tdiv 3=((fm (iH x) 0 / 3:Nat):Int):=Oq _ 3;have hqt:(((fm (iH x) 0:Nat):Int).tdiv 3).tmod 3=((fm (iH x) 0 / 3 % 3:Nat):Int):=by rw[hq3];exact EG _ 3
   have NC:=rT (l:=pY) (i:=fm (iH x) 1 % 4) (by rw[rS];omega);have hT:SH (iH x)=if fm (iH x) 0 / 3 % 3=0 then pY.getD (fm (iH x) 1 % 4) eU else(gN (iH x) (nf++pY) 2 7).1:=rfl;have hTo:=KU (iH x);have hfo:=uf p x;generalize gN (iH x) (nf++pY) 2 7=gg at *;obtain⟨g0,gn⟩:=gg;dsimp only at *;generalize pY.getD (fm (iH x) 1 % 4) eU=g1 at *;rw[aw]at NC;obtain⟨mu3,ZP,YY⟩:=B6.at_;have ZQ:mu3≠Mu.x:=by rcases YY with rfl |rfl <;>simp
   have XR:HR (h'++[⟨.m,0,4,[.agg [.int .i64 g0.k,.str g0.s,.int .i64 g0.o,.aa false (ae g0.l)]]⟩]):=M6.hr.dq (HV.one (by simp))
   by_cases hz:fm (iH x) 0 / 3 % 3=0
   case' pos=>
    rw[if_pos hz]at hT;refine wXA ?_;refine .raw _ (Qt (by omega) (by omega)) ?_;refine wXH ?_;refine .mk ?_;refine wXH ?_;refine .mk _ (by simpa[aQ,cf]using dv) ?_;refine wXH ?_;clear XR;generalize g1=g at *
   case' neg=>
    rw[if_neg hz]at hT;refine wXA ?_;refine .raw _ (Qt (by omega) (by omega)) ?_;refine wXH ?_;clear XR;generalize g0=g at *
   all_goals
    have XR:HR (h'++[(⟨.m,0,4,[.agg [.int .i64 g.k,.str g.s,.int .i64 g.o,.aa false (ae g.l)]]⟩:au)]):=M6.hr.dq (HV.one (by simp));have dp:=XR.closed;have ok:=mJ _ p rfl;have AE:=ok.kl;have XS:=ok.ol;have Nv:=ok.bl;have Un:=vj (iH x) (cR p).bd (fm (iH x) 0 % 3);obtain⟨w,J1,u,G3,r2,G2,cp⟩:=YV M6 (by simp;omega) (by dsimp only;omega) g;have M7:=cp.md;have hR7:=M7.hr;have kr:=cp.cell;have EV:=zC g (by rw[<-hT];omega);have OE:=aj (bV g);have hgb:ay g<=170:=by rw[<-hT];exact hTo.2
    have hbv:=gz g;have pT:=aj (cR p).bd;rw[aw]at EV;refine .raw (λρ'=>?_);refine D.move rfl ?_;refine .SZ (h'++[(⟨.m,0,4,[.agg [.int .i64 g.k,.str g.s,.int .i64 g.o,.aa false (ae g.l)]]⟩:au)]) [] (h'++[(⟨.m,0,4,[.agg [.int .i64 g.k,.str g.s,.int .i64 g.o,.aa false (ae g.l)]]⟩:au)]) [] ⟨0,λn _=>Ii T6 (vs:=[]) (by exact rfl) rfl⟩ ?_ (by simp) rfl (zB _ _) (by simp) dp rfl rfl;refine D.move rfl ?_;refine .SZ (h'++[(⟨.m,0,4,[.agg [.int .i64 g.k,.str g.s,.int .i64 g.o,.aa false (ae g.l)]]⟩:au)]) J1 (h'++[(⟨.m,0,4,[.agg [.int .i64 g.k,.str g.s,.int .i64 g.o,.aa false (ae g.l)]]⟩:au)]++J1) (List.replicate J1.length 3) ⟨0,λn _=>yK rfl rfl cp.SX⟩ ?_ rfl (by simp) (zB _ _) (by simp) dp (by show(true&& (bt (aL (h'++[(⟨.m,0,4,[.agg [.int .i64 g.k,.str g.s,.int .i64 g.o,.aa false (ae g.l)]]⟩:au)])) NF &&true))=true;rw[cp.vkv];rfl) cp.jl;refine .SZ (h'++[(⟨.m,0,4,[.agg [.int .i64 g.k,.str g.s,.int .i64 g.o,.aa false (ae g.l)]]⟩:au)]++J1.map eJ) [] (h'++[(⟨.m,0,4,[.agg [.int .i64 g.k,.str g.s,.int .i64 g.o,.aa false (ae g.l)]]⟩:au)]++J1) (List.replicate J1.length 3) ⟨0,λn _=>Ij T6 (v:=.agg [.int .i64 g.k,.str g.s,.int .i64 g.o,.aa false (ae g.l)]) rfl (OG (mu:=.m) (n:=4) (by simp) (by simp) rfl rfl rfl)⟩ ?_ (by simp) (by simp) (zD rfl) (by simp) (ug dp) (by show(aL (h'++[(⟨.m,0,4,[.agg [.int .i64 g.k,.str g.s,.int .i64 g.o,.aa false (ae g.l)]]⟩:au)]++J1.map eJ) h'.length&&true)=true;simp[aL]) rfl
    rcases cp.ow with⟨hw,_⟩|⟨iw,ew,hw,_⟩ <;>subst hw
    all_goals
     refine aW.sP T6 ?_
     conv=>whnf
     skip
     refine aW.two rfl ?_ ⟨0,λn _=>VX T6 (z:=5) ?_ cp.bs⟩ ?_
     ·rfl
     ·exact⟨rfl,rfl⟩
     refine aW.two rfl rfl ⟨0,λn _=>yK rfl rfl cp.SY⟩ ?_;refine D.assign rfl ?_;refine aW.nil ⟨_,_,rfl,?_⟩
     conv=>whnf
     refine wXA ?_;refine .p EV ?_;refine wXA ?_;refine .lr (λXO H3 l3=>?_) M7.ob (gA _) (by dsimp only;omega) (br _ _ (by simp));refine wXA ?_;have Wa:cR (p++[x])=⟨(cR p).kn++JH (iH x) (cR p).bd (fm (iH x) 0 % 3),(cR p).bd++bV g,(cR p).out++[⟨(cR p).kn++JH (iH x) (cR p).bd (fm (iH x) 0 % 3),g⟩]⟩:=by rw[hfo,tf,hT]
     have M8:=M7.Kx l3;dsimp only at M8;rw[<-Wa]at M8;exact .nx ⟨r2,NF,XO,_,_,rfl,M8⟩
 ·rintro _ H ρ ⟨vo,vk,vb,ids,es,rfl,M⟩;have XA:(bs.take 5).length=min 5 bs.length:=by simp
  refine wXC (λhc=>?_) λhc=>?_
  all_goals exact M.DW.ret M.oo
def pf(x:List Nat):Bool:=decide (20<x.length)
theorem Lc(l:List (List Nat))(hl:l.length<1000000000):aO C 123 [.aa false (gG l),.fn 63 []] (.int .i64 (uQ pf l)):=by
 have cX:=tg l;refine aO.x T6 Tryz.func123 rfl ?_;refine wXA ?_;refine eD.zip T6 l (λa q L K=>L=[(0,.aa false (gG l)),(1,.fn 63 []),(7,.int .i64 (gG l).length),(8,.int .i64 a.length)]/\HV K/\∀y∈a,pf y=false) (.nx ⟨rfl,HV.nil,by simp⟩) ?_ ?_
 ·rintro a x q _ K ρ e ⟨rfl,hK,ha⟩;have cY:=Ck e;have cE:=congrArg List.length e;simp only[Z2,Z4]at cE;have AO:aO C 63 [.aa false (eO x)] (.bool (pf x)):=EP x;refine wXA ?_;refine .p AO ?_
  cases hb:pf x
  ·refine wXA ?_;exact .nx ⟨rfl,hK,λy hy=>by rcases Z8.1 hy with h |h;exact ha y h;simp at h;rw[h];exact hb⟩
  ·refine wXA ?_;exact⟨_,rfl,by rw[e,p8 ha hb];rfl⟩
 ·rintro _ K ρ ⟨rfl,hK,ha⟩;refine wXA ?_;exact⟨_,rfl,by rw[kM ha];rfl⟩
theorem Ld(l:List (List Nat))(hl:l.length<1000000000):aO C 62 [.aa false (gG l),.fn 63 []] (.bool (l.any pf)):=by
 have hi:=Lc l hl;have ha:=rU pf l;refine aO.x T6 Tryz.func62 rfl ?_;refine wXA ?_;refine .p hi ?_;refine wXC (λhc=>?_) λhc=>?_
 all_goals exact⟨_,rfl,by rw[<-ha];simp[aY, *]⟩
def AP(b:List (List Nat))(s:List Nat):Bool:=decide (b.length<=5)&&decide (s.length<=10)&& !(b.any pf)
theorem Ia(b:List (List Nat))(s:List Nat)(hb:b.length<1000000000)(hs:s.length<1000000000):aO C 18 [.aa false (gG b),.aa false (eO s)] (.bool (AP b s)):=by
 have h1:=Ld b hb;have e1:=tg b;have e2:=ll s;have hS:AP b s=(decide (b.length<=5)&&decide (s.length<=10)&& !(b.any pf)):=rfl;generalize b.any pf=W at *;refine aO.x T6 Tryz.func18 rfl ?_;refine wXK (λhc hc=>?_) (λhc hc=>?_) λhc=>?_
 ·refine .p h1 ?_
  cases W
  ·refine wXA ?_;exact⟨_,rfl,by rw[hS,decide_eq_true (by omega),decide_eq_true (by omega)];rfl⟩
  ·refine wXA ?_;exact⟨_,rfl,by rw[hS];simp[aY]⟩
 ·exact⟨_,rfl,by rw[hS,decide_eq_false (p:=s.length<=10) (by omega)];simp[aY]⟩
 ·exact⟨_,rfl,by rw[hS,decide_eq_false (p:=b.length<=5) (by omega)];simp[aY]⟩
theorem Gw{C:cP}(T:lL C.P){run:hZ}{L:Al}{ρ:Nat->PV}{M:ab}{t:TypeId}{z:PV}{n:Nat}(hz:T.tz t=some z)(ho:(cells z).all Pm.bI=true)(hn:(cells z).length=n+1):ar C run 1 (.alloc t) (al L ρ) M=some (.ptr M.length 0 0 0,M++[⟨.m,0,n+1,[z]⟩]):=by
 simp only[ar,aC,T.na _ _ hz];rw[if_pos ⟨by omega,ho,by omega⟩,hn]
 rfl
theorem nN(a b:List c9):bM (a++b)=bM a++bM b:=by simp[bM]
theorem ES(vs:List Tm)(s:List Nat)(hs:DV s)(QC:s.length<1000000)(OE:vs.length<1000000)(XK:∀t∈vs,ay t<1000000):
  aO C 20 [.aa false (ae vs),.aa false (eO s)] (.aa false (bM (Oy vs s))):=by
 have cX:=aj vs;have heu:=ll s;refine aO.x T6 Tryz.func20 rfl ?_;refine wXA ?_;refine eD.zip T6 vs (λp q L H=>∃v,L=[(0,.aa false (ae vs)),(1,.aa false (eO s)),(5,v),(6,.int .i64 p.length)]/\HV H/\Out 8 H v (bM (li s 0 p))) (.nx ⟨_,rfl,HV.nil,.inl ⟨rfl,rfl⟩⟩) ?_ ?_
 ·rintro p x q _ H ρ e ⟨v,rfl,hH,ho⟩;have cY:=bW e;have cE:=congrArg List.length e;simp only[Z2,Z4]at cE;have hle:=jF (li s 0 p);have hlg:=(vn s 0 p).1;have hn:=wJ hs p.length;have oJ:=zy s x 0 p;rw[aan]at oJ;have hxb:=XK x (by rw[e];simp);have UC:EL x (fm s p.length)=if fm s p.length % 3≠0/\lc x (nf.getD (fm s p.length / 2 % (ae nf).length) eU)=true then nf.getD (fm s p.length / 2 % (ae nf).length) eU else EK (fm s p.length % 2) x.o:=rfl;have hld:=td.getD (i:=fm s p.length / 2 % (ae nf).length) (by rw[aj];exact abT _ (by rw[jc];omega));have yA:=rT (l:=nf) (i:=fm s p.length / 2 % (ae nf).length) (by rw[aj];exact abT _ (by rw[jc];omega));have hlf:=qX;have ZM:(ae nf).length=7:=aj nf;generalize nf.getD (fm s p.length / 2 % (ae nf).length) eU=g at *;generalize EL x (fm s p.length)=R at *;have ET:=Ib x g (by omega) (by omega);generalize lc x g=F at *;rw[aw]at yA ET;have AQ:=Cj (fm s p.length % 2) (by omega)
  have OF:EK (fm s p.length % 2) x.o=.mk 2 (⟨#[101,35]⟩++⟨#[UInt8.ofNat (48+fm s p.length % 2)]⟩) x.o []:=by
   rw[EK];rfl
  have hDs:(⟨#[UInt8.ofNat (48+fm s p.length % 2)]⟩:ByteArray).size=1:=rfl;have hEs:(⟨#[101,35]⟩:ByteArray).size=2:=rfl;generalize(⟨#[UInt8.ofNat (48+fm s p.length % 2)]⟩:ByteArray)=Dg at *;have SV:=iI (⟨#[101,35]⟩++Dg) x.o;rw[bj,o8]at SV;generalize nf=LF at *
  by_cases AM:p.length<s.length
  ·have hc:=mK AM;generalize fm s p.length=N at *;have hq:((N:Nat):Int).tdiv 2=((N / 2:Nat):Int):=Oq N 2;have ht:((N:Nat):Int).tmod 2=((N % 2:Nat):Int):=EG N 2;have h3:((N:Nat):Int).tmod 3=((N % 3:Nat):Int):=EG N 3;rw[<-ht]at AQ;refine wXH ?_;refine .raw (λρ'=>?_);have dp:=hH.closed;refine D.move rfl ?_;refine aW.sP T6 ?_
   conv=>whnf
   refine wXA ?_;refine D.jV dp rfl rfl rfl (by simp) (by simp[bz,bt]) rfl (by simpa[aQ,cf]using AQ) ?_;refine aW.sP T6 ?_
   conv=>whnf
   refine wXA ?_;refine D.move rfl ?_;refine D.move rfl ?_;refine aW.sR T6 ?_ dp (by repeat' (first |exact trivial |refine⟨?_,?_⟩|rfl))
   conv=>whnf
   refine wXA ?_;refine aW.sP T6 ?_
   conv=>whnf
   skip
   refine aW.sR T6 ?_ dp (by repeat' (first |exact trivial |refine⟨?_,?_⟩|rfl))
   conv=>whnf
   skip
   refine D.jV dp rfl rfl rfl (by simp) (by simp[bz,bt]) rfl (by simpa[aQ,cf]using SV) ?_;refine .BA H [(⟨.m,0,4,[.agg [.int .i64 0,.str ByteArray.empty,.int .i64 0,.aa true []]]⟩:au)] ⟨0,λn _=>Gw T6 (z:=.agg [.int .i64 0,.str ByteArray.empty,.int .i64 0,.aa true []]) rfl rfl rfl⟩ ?_ (by simp[cr]) (by simp) dp rfl rfl;refine D.ij T6 (o:=(⟨.m,0,4,[.agg [.int .i64 0,.str ByteArray.empty,.int .i64 0,.aa true []]]⟩:au)) (j:=0) rfl rfl rfl rfl (bg (by simp) rfl (by simp)) rfl rfl rfl rfl (Z5 4) ?_;refine aW.heap (h':=H++[(⟨.m,0,4,[.agg [.int .i64 2,.str (⟨#[101,35]⟩++Dg),.int .i64 x.o,.aa false []]]⟩:au)]) (by simp[eI,cells]) ?_;refine aW.nil ⟨_,_,rfl,?_⟩
   conv=>whnf
   skip
   refine .ex (hlf _ (hH.cC (HV.one (by simp))).hr) (λh' hE=>?_);obtain⟨J,hJ,rfl⟩:=hE;have hHJ:HV (H++[(⟨.m,0,4,[.agg [.int .i64 2,.str (⟨#[101,35]⟩++Dg),.int .i64 x.o,.aa false []]]⟩:au)]++J):=(hH.cC (HV.one (by simp))).cC hJ;have hHK:HV (H++[(⟨.m,0,4,[.agg [.int .i64 2,.str (⟨#[101,35]⟩++Dg),.int .i64 x.o,.aa false []]]⟩:au)]++J++[(⟨.m,0,4,[.agg [.int .i64 g.k,.str g.s,.int .i64 g.o,.aa false (ae g.l)]]⟩:au)]):=hHJ.cC (HV.one (by simp));have h8:(H++[(⟨.m,0,4,[.agg [.int .i64 2,.str (⟨#[101,35]⟩++Dg),.int .i64 x.o,.aa false []]]⟩:au)]++J++[(⟨.m,0,4,[.agg [.int .i64 g.k,.str g.s,.int .i64 g.o,.aa false (ae g.l)]]⟩:au)])[H.length]?=some (⟨.m,0,4,[.agg [.int .i64 2,.str (⟨#[101,35]⟩++Dg),.int .i64 x.o,.aa false []]]⟩:au):=by simp
   have Ep:Out 8 (H++[(⟨.m,0,4,[.agg [.int .i64 2,.str (⟨#[101,35]⟩++Dg),.int .i64 x.o,.aa false []]]⟩:au)]++J++[(⟨.m,0,4,[.agg [.int .i64 g.k,.str g.s,.int .i64 g.o,.aa false (ae g.l)]]⟩:au)]) v (bM (li s 0 p)):=((ho.cC _).cC _).cC _
   have XL:R=EK (N % 2) x.o->bM (li s 0 (p++[x]))=bM (li s 0 p)++[.agg [.int .i64 x.k,.str x.s,.int .i64 x.o,.aa false (ae x.l),.int .i64 2,.str (⟨#[101,35]⟩++Dg),.int .i64 x.o,.aa false []]]:=λh=>by
    rw[oJ,nN,h,OF];simp[bM,qT,Tm.k,Tm.s,Tm.o,Tm.l]
   have hbG:R=g->bM (li s 0 (p++[x]))=bM (li s 0 p)++[.agg [.int .i64 x.k,.str x.s,.int .i64 x.o,.aa false (ae x.l),.int .i64 g.k,.str g.s,.int .i64 g.o,.aa false (ae g.l)]]:=λh=>by
    rw[oJ,nN,h]
    rfl
   by_cases hm3:N % 3=0
   ·refine wXG λv H lp=>?_;refine .nx ⟨_,rfl,lp.hv,?_⟩;rw[XL (by rw[UC,if_neg (by simp[hm3])])];exact lp.out
   ·refine wXA ?_;refine .p ET ?_
    cases F
    ·refine wXG λv H lp=>?_;refine .nx ⟨_,rfl,lp.hv,?_⟩;rw[XL (by rw[UC,if_neg (by simp)])];exact lp.out
    ·have hHS:HV (List.set (H++[(⟨.m,0,4,[.agg [.int .i64 2,.str (⟨#[101,35]⟩++Dg),.int .i64 x.o,.aa false []]]⟩:au)]++J++[(⟨.m,0,4,[.agg [.int .i64 g.k,.str g.s,.int .i64 g.o,.aa false (ae g.l)]]⟩:au)]) H.length (⟨.m,0,4,[.agg [.int .i64 g.k,.str g.s,.int .i64 g.o,.aa false (ae g.l)]]⟩:au)):=hHK.set _ (by simp) (by simp);have h8S:(List.set (H++[(⟨.m,0,4,[.agg [.int .i64 2,.str (⟨#[101,35]⟩++Dg),.int .i64 x.o,.aa false []]]⟩:au)]++J++[(⟨.m,0,4,[.agg [.int .i64 g.k,.str g.s,.int .i64 g.o,.aa false (ae g.l)]]⟩:au)]) H.length (⟨.m,0,4,[.agg [.int .i64 g.k,.str g.s,.int .i64 g.o,.aa false (ae g.l)]]⟩:au))[H.length]?=some (⟨.m,0,4,[.agg [.int .i64 g.k,.str g.s,.int .i64 g.o,.aa false (ae g.l)]]⟩:au):=Z6 (by simp);have hoS:Out 8 (List.set (H++[(⟨.m,0,4,[.agg [.int .i64 2,.str (⟨#[101,35]⟩++Dg),.int .i64 x.o,.aa false []]]⟩:au)]++J++[(⟨.m,0,4,[.agg [.int .i64 g.k,.str g.s,.int .i64 g.o,.aa false (ae g.l)]]⟩:au)]) H.length (⟨.m,0,4,[.agg [.int .i64 g.k,.str g.s,.int .i64 g.o,.aa false (ae g.l)]]⟩:au)) v (bM (li s 0 p)):=Ep.of_eq λi hi=>Z7 (by have:=ho.mI i hi;omega)
     refine wXG λv H lp=>?_;refine .nx ⟨_,rfl,lp.hv,?_⟩;rw[hbG (by rw[UC,if_pos ⟨hm3,rfl⟩])];exact lp.out
  ·have hz:=vp AM;rw[hz]at AQ yA OF UC;have hq:(0:Int).tdiv 2=((0 / 2:Nat):Int):=rfl;have h3:(0:Int).tmod 3=((0 % 3:Nat):Int):=rfl;have AQ:aO C 68 [.int .i64 ((0:Int).tmod 2)] (.str Dg):=AQ;obtain⟨N,hN⟩:∃N,N=0:=⟨_,rfl⟩;rw[<-hN]at OF UC;refine wXH ?_;refine .raw (λρ'=>?_);have dp:=hH.closed;refine D.move rfl ?_;refine aW.sP T6 ?_
   conv=>whnf
   refine wXA ?_;refine D.jV dp rfl rfl rfl (by simp) (by simp[bz,bt]) rfl (by simpa[aQ,cf]using AQ) ?_;refine aW.sP T6 ?_
   conv=>whnf
   refine wXA ?_;refine D.move rfl ?_;refine D.move rfl ?_;refine aW.sR T6 ?_ dp (by repeat' (first |exact trivial |refine⟨?_,?_⟩|rfl))
   conv=>whnf
   refine wXA ?_;refine aW.sP T6 ?_
   conv=>whnf
   skip
   refine aW.sR T6 ?_ dp (by repeat' (first |exact trivial |refine⟨?_,?_⟩|rfl))
   conv=>whnf
   skip
   refine D.jV dp rfl rfl rfl (by simp) (by simp[bz,bt]) rfl (by simpa[aQ,cf]using SV) ?_;refine .BA H [(⟨.m,0,4,[.agg [.int .i64 0,.str ByteArray.empty,.int .i64 0,.aa true []]]⟩:au)] ⟨0,λn _=>Gw T6 (z:=.agg [.int .i64 0,.str ByteArray.empty,.int .i64 0,.aa true []]) rfl rfl rfl⟩ ?_ (by simp[cr]) (by simp) dp rfl rfl;refine D.ij T6 (o:=(⟨.m,0,4,[.agg [.int .i64 0,.str ByteArray.empty,.int .i64 0,.aa true []]]⟩:au)) (j:=0) rfl rfl rfl rfl (bg (by simp) rfl (by simp)) rfl rfl rfl rfl (Z5 4) ?_;refine aW.heap (h':=H++[(⟨.m,0,4,[.agg [.int .i64 2,.str (⟨#[101,35]⟩++Dg),.int .i64 x.o,.aa false []]]⟩:au)]) (by simp[eI,cells]) ?_;refine aW.nil ⟨_,_,rfl,?_⟩
   conv=>whnf
   skip
   refine .ex (hlf _ (hH.cC (HV.one (by simp))).hr) (λh' hE=>?_);obtain⟨J,hJ,rfl⟩:=hE;have hHJ:HV (H++[(⟨.m,0,4,[.agg [.int .i64 2,.str (⟨#[101,35]⟩++Dg),.int .i64 x.o,.aa false []]]⟩:au)]++J):=(hH.cC (HV.one (by simp))).cC hJ;have hHK:HV (H++[(⟨.m,0,4,[.agg [.int .i64 2,.str (⟨#[101,35]⟩++Dg),.int .i64 x.o,.aa false []]]⟩:au)]++J++[(⟨.m,0,4,[.agg [.int .i64 g.k,.str g.s,.int .i64 g.o,.aa false (ae g.l)]]⟩:au)]):=hHJ.cC (HV.one (by simp));have h8:(H++[(⟨.m,0,4,[.agg [.int .i64 2,.str (⟨#[101,35]⟩++Dg),.int .i64 x.o,.aa false []]]⟩:au)]++J++[(⟨.m,0,4,[.agg [.int .i64 g.k,.str g.s,.int .i64 g.o,.aa false (ae g.l)]]⟩:au)])[H.length]?=some (⟨.m,0,4,[.agg [.int .i64 2,.str (⟨#[101,35]⟩++Dg),.int .i64 x.o,.aa false []]]⟩:au):=by simp
   have Ep:Out 8 (H++[(⟨.m,0,4,[.agg [.int .i64 2,.str (⟨#[101,35]⟩++Dg),.int .i64 x.o,.aa false []]]⟩:au)]++J++[(⟨.m,0,4,[.agg [.int .i64 g.k,.str g.s,.int .i64 g.o,.aa false (ae g.l)]]⟩:au)]) v (bM (li s 0 p)):=((ho.cC _).cC _).cC _
   have XL:R=EK (N % 2) x.o->bM (li s 0 (p++[x]))=bM (li s 0 p)++[.agg [.int .i64 x.k,.str x.s,.int .i64 x.o,.aa false (ae x.l),.int .i64 2,.str (⟨#[101,35]⟩++Dg),.int .i64 x.o,.aa false []]]:=λh=>by
    rw[oJ,nN,h,OF];simp[bM,qT,Tm.k,Tm.s,Tm.o,Tm.l]
   have hbG:R=g->bM (li s 0 (p++[x]))=bM (li s 0 p)++[.agg [.int .i64 x.k,.str x.s,.int .i64 x.o,.aa false (ae x.l),.int .i64 g.k,.str g.s,.int .i64 g.o,.aa false (ae g.l)]]:=λh=>by
    rw[oJ,nN,h]
    rfl
   refine wXG λv H lp=>?_;refine .nx ⟨_,rfl,lp.hv,?_⟩;rw[XL (by rw[UC,if_neg (by rw[hN];simp)])];exact lp.out
 ·rintro _ H ρ ⟨v,rfl,hH,ho⟩;refine wXA ?_;exact Ls.HJ (.inl ho) (by simp) (by simp[Oy])
def nO(l:List eE):Nat:=(l.map λd=>bF d.kn+ay d.tm+2).sum
def AS(s:List c9):Nat:=(s.map λb=>ay b.v+ay b.t+1).sum
def eC(l:List eE):List Tm:=l.flatMap λd=>d.kn++[d.tm]
theorem jJ(d:eE)(l:List eE):nO (d::l)=bF d.kn+ay d.tm+2+nO l:=by simp[nO]
theorem th(b:c9)(s:List c9):AS (b::s)=ay b.v+ay b.t+1+AS s:=by simp[AS]
theorem Cq{b:c9}:∀{l:List c9},b∈l->ay b.v+ay b.t+1<=AS l
 |u::l,h=>by
  rw[th];rcases Z'.1 h with rfl |h
  ·omega
  ·have:=Cq h;omega
theorem rW:∀(l:List eE),l.length<=nO l
 |[]=>by simp
 |d::l=>by have:=rW l;rw[jJ,Z4];omega
theorem Cp:∀(l:List c9),l.length<=AS l
 |[]=>by simp
 |d::l=>by have:=Cp l;rw[th,Z4];omega
theorem Jx(t:Tm):bF [t]=ay t:=by simp[bF]
theorem j4:∀(l:List eE),bF (eC l)<=nO l
 |[]=>by simp[eC,bF]
 |d::l=>by
  have:=j4 l;rw[jJ];simp only[eC,aa9,qc,Jx]at this ⊢;omega
theorem Fm(l:List eE)(hl:nO l<100000000):aO C 22 [.aa false (bA l)] (.aa false (ae (eC l))):=by
 have cX:=fL l;have DT:=rW l;refine aO.x T6 Tryz.func22 rfl ?_;refine wXA ?_;refine eD.zip T6 l (λp q L H=>∃v,L=[(0,.aa false (bA l)),(3,v),(4,.int .i64 p.length)]/\HV H/\Out 4 H v (ae (eC p))) (.nx ⟨_,rfl,HV.nil,.inl ⟨rfl,rfl⟩⟩) ?_ ?_
 ·rintro p d q _ H ρ e ⟨v,rfl,hH,ho⟩;have cY:=jZ e;have cE:=congrArg List.length e;simp only[Z2,Z4]at cE;have mq:eC l=eC p++(d.kn++[d.tm])++eC q:=by rw[e];simp[eC]
  have NN:=j4 l;have Ny:=bE (eC l);have yi:=congrArg List.length mq;simp only[Z2,Z4,aaE]at yi;have hle:=aj (eC p);have yk:=aj d.kn;have hvd:ao [PV.agg [.int .i64 d.tm.k,.str d.tm.s,.int .i64 d.tm.o,.aa false (ae d.tm.l)]]=true:=by simp
  have e9:[.agg [.int .i64 d.tm.k,.str d.tm.s,.int .i64 d.tm.o,.aa false (ae d.tm.l)]]=ae [d.tm]:=by rw[ae,<-aw];rfl
  obtain⟨r1,H1,a1,o1,v1,l1,k1,n1⟩:=Qo T6 (st:=31) (xt:=31) (full:=false) (es:=ae (eC p)) (ys:=ae d.kn) rfl rfl rfl rfl rfl (by decide) rfl rfl ho (gA _) (by omega) (by simp) (by simp) hH;have yg:(ae (eC p)++ae d.kn).length=(eC p).length+d.kn.length:=by rw[Z2];omega
  obtain⟨r2,H2,a2,o2,v2,l2,k2,n2⟩:=Qo T6 (st:=31) (xt:=31) (full:=true) (es:=ae (eC p)++ae d.kn) (ys:=[.agg [.int .i64 d.tm.k,.str d.tm.s,.int .i64 d.tm.o,.aa false (ae d.tm.l)]]) rfl rfl rfl rfl rfl (by decide) rfl rfl o1 rfl (by rw[yg];simp;omega) (by rw[du];simp) hvd v1;refine wXA ?_;refine .calm ?_ H2 (Eh (λ_=>rfl) rfl (λj o h=>?_) (λrun ρ=>?_)) ?_
  rotate_left
  ·rcases n2 j o h with h |h
   ·exact .inl h
   ·exact n1 j o h
  ·refine(ym (kP T6 (by exact rfl))).trans ?_;refine(ym (kP T6 (by exact rfl))).trans ?_;refine(ym (kP T6 (by exact rfl))).trans ?_;refine(ym (kR T6 (by(conv=>whnf);exact .mk (n:=p.length) ⟨rfl⟩ rfl cY rfl) rfl)).trans ?_;refine(ym (kP T6 (by exact rfl))).trans ?_;refine(ym (kR T6 (by exact rfl) rfl)).trans ?_;refine(ym (Ur rfl rfl rfl rfl (yK rfl rfl a1) l1 k1)).trans ?_;refine(ym (kP T6 (by exact rfl))).trans ?_;refine(ym (kP T6 (by exact rfl))).trans ?_;refine(ym (kR T6 (by(conv=>whnf);exact .mk (n:=p.length) ⟨rfl⟩ rfl cY rfl) rfl)).trans ?_;refine(ym (kP T6 (by exact rfl))).trans ?_;refine(ym (kR T6 (by exact rfl) rfl)).trans ?_;refine(ym (Xz rfl rfl rfl (RC T6 (by exact rfl) hvd))).trans ?_;refine(ym (Ur rfl rfl rfl rfl (yK rfl rfl a2) l2 k2)).trans ?_;refine(ym (kP T6 (by exact rfl))).trans ?_;exact rfl
  ·refine wXA ?_;refine .nx ⟨_,rfl,v2,?_⟩;rw[e9,<-cc,<-cc]at o2;rw[show eC (p++[d])=eC p++d.kn++[d.tm] by simp[eC]];exact o2
 ·rintro _ H ρ ⟨v,rfl,hH,ho⟩;refine wXA ?_;exact Ls.HJ (.inl ho) (by simp) (by simp)
theorem wM{sz:Nat}{h:ab}{v:PV}{es:List PV}(o:Ls sz h v es)(hv:aV v=true):cf v=.aa false (aQ es):=by
 rcases o with(⟨rfl,rfl⟩|⟨id,ep,rfl,_⟩)|⟨f,rfl⟩
 ·rfl
 ·simp[aV]at hv
 ·simp[cf]
theorem wN{sz:Nat}{h:ab}{v:PV}{es:List PV}(o:Ls sz h v es)(hv:ao es=true):∀id∈(cells v).flatMap uG,∃o:au,h[id]?=some o/\ao o.es=true/\(o.mu=.m\/o.mu=.f):=by
 rcases o with(⟨rfl,rfl⟩|⟨i,ep,rfl,e⟩)|⟨f,rfl⟩
 ·intro id bU;simp[cells,uG]at bU
 ·intro id bU
  simp[cells,uG]at bU;subst bU;exact⟨_,e,hv,.inl rfl⟩
 ·intro id bU;simp[cells,uG]at bU
theorem call2{f:FuncId}{Wb sz2:Nat}{H:ab}{r1 r2 rv:PV}{jt dA:List PV}{Q:PV->ab->Prop}(o1:Ls Wb H r1 jt)(o2:Ls sz2 H r2 dA)(a:aO C f [.aa false jt,.aa false dA] rv)(q:∀h',Q rv h')(hm:C.mode f=.pure:=by rfl)
  (qZ:ao jt=true:=by simp) (uJ:ao dA=true:=by simp) (yj:aQ jt=jt:=by simp) (Ku:aQ dA=dA:=by simp):ai C 2 f [r1,r2] H Q:=by
 by_cases rN:ao [r1,r2]=true
 ·have yL:=rN;simp only[ao,abv,Z9]at yL;have n1:=wM o1 yL.1;have n2:=wM o2 yL.2;exact ai.pure hm rN (by simpa[aQ,n1,n2,yj,Ku]using a) (q H)
 ·obtain⟨a1,b1,c1⟩:=o1.j' qZ;obtain⟨a2,b2,c2⟩:=o2.j' uJ;refine ai.any (args':=[a1,a2]) (by simp[gI,b1,b2]) (by simpa using rN) (λid bU=>?_) (by simpa[aQ,c1,c2,yj,Ku]using a) q hm;simp only[iD,aa9,ace,aao,Z8]at bU;rcases bU with bU |bU
  ·exact wN o1 qZ id bU
  ·exact wN o2 uJ id bU
theorem Te{f:FuncId}{Wb:Nat}{H:ab}{r1 rv:PV}{k:IntKind}{n:Int}{jt:List PV}{Q:PV->ab->Prop}(o1:Ls Wb H r1 jt)(a:aO C f [.aa false jt,.int k n] rv)(q:∀h',Q rv h')(hm:C.mode f=.pure:=by rfl)
  (qZ:ao jt=true:=by simp) (yj:aQ jt=jt:=by simp):ai C 2 f [r1,.int k n] H Q:=by
 by_cases rN:ao [r1,.int k n]=true
 ·have yL:=rN;simp only[ao,abv,Z9]at yL;have n1:=wM o1 yL.1;exact ai.pure hm rN (by simpa[aQ,cf,n1,yj]using a) (q H)
 ·obtain⟨a1,b1,c1⟩:=o1.j' qZ;refine ai.any (args':=[a1,.int k n]) (by simp only[gI,b1,show j' H (.int k n)=some (.int k n)from rfl]) (by simpa using rN) (λid bU=>?_) (by simpa[aQ,cf,c1,yj]using a) q hm;simp only[iD,aa9,ace,aao,Z8]at bU;rcases bU with bU |bU
  ·exact wN o1 qZ id bU
  ·simp[cells,uG]at bU
theorem Gx{B:Nat}:∀{l:List eE},(∀d∈l,bF d.kn+ay d.tm+2<=B)->nO l<=l.length * B
 |[],_=>by simp[nO]
 |d::l,h=>by
  have h1:=h d (by simp);have h2:=Gx (l:=l) λx hx=>h x (by simp[hx])
  rw[jJ,Z4,aaO];omega
theorem Gy{B:Nat}:∀{l:List c9},(∀d∈l,ay d.v+ay d.t+1<=B)->AS l<=l.length * B
 |[],_=>by simp[AS]
 |d::l,h=>by
  have h1:=h d (by simp);have h2:=Gy (l:=l) λx hx=>h x (by simp[hx])
  rw[th,Z4,aaO];omega
theorem Cn(b:List (List Nat)):nO (eN b)<=40000:=by
 obtain⟨h1,h2⟩:=wG b
 have h3:=Gx (B:=7900) (l:=eN b) λd hd=>by
  obtain⟨q1,q2,_,q4⟩:=h2 d hd;have:=rV (B:=770) (l:=d.kn) λt ht=>(q2 t ht).2
  have:=aaC 770 q1;omega
 have:=aaC 7900 h1;omega
def AT(b:List (List Nat))(s:List Nat):List c9:=Oy (bH (eN b)) s
theorem Co(b:List (List Nat))(s:List Nat):(AT b s).length<=4:=by
 have h1:=(lj b).1;have h2:=(vn s 0 (bH (eN b))).1;unfold AT Oy;omega
theorem Gz(b:List (List Nat))(s:List Nat):∀x∈AT b s,ay x.v<=20/\iP x.t=true/\ay x.t<=20:=λx hx=>by
 obtain⟨h1,h2,h3⟩:=(vn s 0 (bH (eN b))).2 x hx;exact⟨(wD x.v ((lj b).2 x.v h1)).2,(ic.1 h2).1,h3⟩
theorem Lf(b:List (List Nat))(s:List Nat):AS (AT b s)<=200:=by
 have h3:=Gy (B:=50) (l:=AT b s) λd hd=>by have:=Gz b s d hd;omega
 have:=aaC 50 (Co b s);omega
theorem wO(l:List eE):cd l=eC l:=rfl
theorem EW(l:List eE)(S:List c9)(hl:nO l<900000)(hS:AS S<900000)(Cm:∀b∈S,iP b.t=true):
  aO C 14 [.aa false (bA l),.aa false (bM S)] (.cx [.bool (jd l S).1,.int .i64 (jd l S).2]):=by
 have h1:=rW l;have h2:=j4 l;have h3:=Cp S;exact Ik l S (by omega) (by rw[wO];omega) (by omega) (λb hb=>by have:=Cq hb;omega) Cm
theorem Il(b:List (List Nat)):aO C 21 [.aa false (ae (eC (eN b)))] (.aa false (ae (bH (eN b)))):=by
 have h0:=Cn b;have rI:=j4 (eN b);have Ey:=bE (eC (eN b));have hvq:jb ((eC (eN b)).flatMap bV)=bH (eN b):=Cs (eN b);rw[<-hvq];refine Ct (eC (eN b)) ?_ (by omega) (λt ht=>by have:=bS ht;omega)
 have key:∀l:List Tm,(l.flatMap bV).length<=bF l:=by
  intro l
  induction l with
  |nil=>simp[bF]
  |cons t l ih=>
   have:=gz t;simp only[aa9,Z2,bF];omega
 have:=key (eC (eN b));omega
end bP
open Go.MapKept
set_option maxRecDepth 4000
def Ip(es:List PV):Prop:=∀e∈es,∃s:ByteArray,e=.agg [.str s,.bool true]/\s.toList.head?≠some 113
theorem GG(s:ByteArray):∀{es:List PV} (i:Nat),Ip es->∃r,mr (.str s) es i=some r
 |[],i,_=>⟨_,rfl⟩
 |e::es,i,h=>by
  obtain⟨s',rfl,_⟩:=h e (by simp);have ih:=GG s (es:=es) (i+1) λx hx=>h x (by simp[hx])
  rw[mr]
  cases hb:s==s' with
  |true=>exact⟨some (i,.bool true),by simp[rz,hb]⟩
  |false=>obtain⟨r,hr⟩:=ih;exact⟨r,by simpa[rz,hb]using hr⟩
theorem GH{s:ByteArray}(hs:s.toList.head?=some 113):∀{es:List PV} (i:Nat),Ip es->mr (.str s) es i=some none
 |[],i,_=>rfl
 |e::es,i,h=>by
  obtain⟨s',rfl,h'⟩:=h e (by simp);have ih:=GH hs (es:=es) (i+1) λx hx=>h x (by simp[hx])
  have hb:(s==s')=false:=by
   cases hb:s==s' with
   |false=>rfl
   |true=>
    rw[(bytes_beq _ _).1 hb]at hs;exact absurd hs h'
  rw[mr];simpa[rz,hb]using ih
theorem Tl{s:ByteArray}{es:List PV}(h:Ip es)(hs:s.toList.head?≠some 113):∃eT,JO (.str s) (.bool true) es=some eT/\Ip eT:=by
 obtain⟨r,hr⟩:=GG s 0 h;unfold JO;rw[hr]
 cases r with
 |none=>exact⟨_,rfl,λe he=>by
   rcases Z8.1 he with he |he
   ·exact h e he
   ·simp at he;exact⟨s,he,hs⟩⟩
 |some p=>exact⟨_,rfl,λe he=>by
   rcases abc he with he |he
   ·exact h e he
   ·exact⟨s,he,hs⟩⟩
theorem Tn{f:Nat->Bool}{es:List PV}(h:Ip es):bz f es=true:=by
 rw[fw,Z1]
 intro e he
 obtain⟨s,rfl,_⟩:=h e he
 rfl
noncomputable def wW(l p:List eE)(d:eE):Bool×Int:=
 if nL l≠0 then(false,nL l)
 else if js (fA 0 (bH l)) (d.kn++jg p)≠0 then(false,js (fA 0 (bH l)) (d.kn++jg p))
 else if(b8 (fA 0 (bH l)) d.tm).2≠0 then(false,(b8 (fA 0 (bH l)) d.tm).2)
 else(lP (bG (fA 0 (bH l)) (d.kn++jg p)) (bw (fA 0 (bH l)) d.tm),gW (bG (fA 0 (bH l)) (d.kn++jg p)) (bw (fA 0 (bH l)) d.tm))
theorem Iq(p:List eE)(d:eE):jg (p++[d])=jg p++(if d.tm.k=1 then[d.tm]else[]):=by
 unfold jg;rw[abH,aaS]
 congr 1
 by_cases h:d.tm.k=1 <;>simp[h]
def ra:Nat->List Tm->List PV
 |_,[]=>[]
 |n,v::l=>.agg [.int .i64 v.k,.str v.s,.int .i64 v.o,.aa false (ae v.l),.int .i64 2,.str (⟨#[113]⟩++⟨#[UInt8.ofNat (48+n)]⟩),.int .i64 v.o,.aa true []]::ra (n+1) l
theorem Cz:∀(l:List Tm) (n:Nat),(ra n l).length=l.length
 |[],_=>rfl
 |v::l,n=>by rw[ra,Z4,Z4,Cz l]
theorem zJ(v:Tm):∀(l:List Tm) (n:Nat),ra n (l++[v])=ra n l++[.agg [.int .i64 v.k,.str v.s,.int .i64 v.o,.aa false (ae v.l),.int .i64 2,.str (⟨#[113]⟩++⟨#[UInt8.ofNat (48+(n+l.length))]⟩),.int .i64 v.o,.aa true []]]
 |[],n=>rfl
 |u::l,n=>by
  rw[aau,ra,ra,zJ v l (n+1),aau,Z4,show n+1+l.length=n+(l.length+1) by omega]
@[simp] theorem Ir:∀(l:List Tm) (n:Nat),ao (ra n l)=true
 |[],_=>rfl
 |v::l,n=>by simp[ra,ao,aV,Ir l]
@[simp] theorem CA:∀(l:List Tm) (n:Nat),aQ (ra n l)=bM (fA n l)
 |[],_=>rfl
 |v::l,n=>by
  have h:pn n v.o=.mk 2 (⟨#[113]⟩++⟨#[UInt8.ofNat (48+n)]⟩) v.o []:=rfl;rw[ra,fA,aQ,CA l,h];simp[bM,sT,cf,aQ,Tm.k,Tm.s,Tm.o,Tm.l]
def Wd(sz:Nat)(h:ab)(v:PV)(es:List PV):Prop:=(v=.aa true []/\es=[])\/∃id ep,∃mu:Mu,v=.ak id ep 0 es.length/\h[id]?=some ⟨mu,ep,sz,es⟩/\(mu=.m\/mu=.f)
theorem Out.KY{sz:Nat}{h h':ab}{v:PV}{es:List PV}{ids:List Nat}(o:Out sz h v es)(z:KX ids h h'):Wd sz h' v es:=by
 rcases o with o |⟨id,ep,rfl,e⟩
 ·exact .inl o
 ·obtain⟨mu,h1,h2⟩:=z.nj id _ e;exact .inr ⟨id,ep,mu,rfl,h1,h2⟩
end Go.Pm
namespace Go.Pm
namespace bP
open Go.Proofs
attribute [local irreducible] aE az aI aJ Ev ah ai ax aW bZ
set_option maxRecDepth 4000
theorem To{f:FuncId}{Wb sz2:Nat}{H:ab}{r1 r2 rv:PV}{jt dA We Wf:List PV}{Q:PV->ab->Prop}(o1:Ls Wb H r1 jt)(o2:Ls sz2 H r2 dA)(a:aO C f [.aa false We,.aa false Wf] rv)(q:∀ids h',KX ids H h'->Q rv h')(hm:C.mode f=.pure:=by rfl)
  (qZ:ao jt=true:=by simp) (uJ:ao dA=true:=by simp) (yj:aQ jt=We:=by simp) (Ku:aQ dA=Wf:=by simp):ai C 2 f [r1,r2] H Q:=by
 by_cases rN:ao [r1,r2]=true
 ·have yL:=rN;simp only[ao,abv,Z9]at yL;have n1:=wM o1 yL.1;have n2:=wM o2 yL.2;exact ai.pure hm rN (by simpa[aQ,n1,n2,yj,Ku]using a) (q [] H (.refl _ _))
 ·obtain⟨a1,b1,c1⟩:=o1.j' qZ;obtain⟨a2,b2,c2⟩:=o2.j' uJ;refine ai.VW (args':=[a1,a2]) (by simp[gI,b1,b2]) (by simpa using rN) (λid bU=>?_) (by simpa[aQ,c1,c2,yj,Ku]using a) (λh' z=>q _ h' z) hm;simp only[iD,aa9,ace,aao,Z8]at bU;rcases bU with bU |bU
  ·exact wN o1 qZ id bU
  ·exact wN o2 uJ id bU
theorem Tp{f:FuncId}{sz:Nat}{H:ab}{v rv:PV}{es eT:List PV}{t:Tm}{Q:PV->ab->Prop}(o:Wd sz H v es)(a:aO C f [.aa false eT,enc t] rv)(q:∀h',Q rv h')(hm:C.mode f=.pure:=by rfl)
  (hv:ao es=true:=by simp) (hn:aQ es=eT:=by simp):ai C 2 f [v,.agg [.int .i64 t.k,.str t.s,.int .i64 t.o,.aa false (ae t.l)]] H Q:=by
 rw[<-aw];rcases o with⟨rfl,rfl⟩|⟨id,ep,mu,rfl,e,uO⟩
 ·obtain rfl:eT=[]:=by simpa[aQ]using hn.symm
  exact ai.pure hm (by simp[ao,aV]) (by simpa[aQ,cf]using a) (q H)
 ·have hg:getM H id ep=some ⟨mu,ep,sz,es⟩:=by
   unfold getM;rw[e];rcases uO with rfl |rfl <;>simp
  have h2:=mO (h:=H) (show ao [enc t]=true by simp);refine ai.any (args':=[.aa false es,enc t]) ?_ (by simp[ao,aV]) (λi hi=>?_) (by simpa[aQ,cf,hn]using a) q hm
  ·unfold gI;rw[h2];simp[j',qs,hg,hv,uO]
  ·rw[aw]at hi
   have hi:i=id:=by
    unfold iD at hi;simpa only[aa9,ace,cells,uG,aao,Z',aa7,or_false]using hi
   subst hi;exact⟨_,e,hv,uO⟩
theorem Lp{sz:Nat}{es:List PV}(ho:dB sz es)(hn:es.length<1000000000)(hv:ao es=true){H:ab}(hH:HR H):∃r H',bq sz [.aa false es] H=some (r,H')/\Out sz H' r es/\HR H'/\(∀(j:Nat) (o:au),H[j]?=some o->H'[j]?=some o):=by
 unfold bq
 cases es with
 |nil=>exact⟨.aa true [],H,rfl,.inl ⟨rfl,rfl⟩,hH,λ_ _ h=>h⟩
 |cons x r=>
  unfold dB at ho;simp only[List.isEmpty_cons,aad,if_false];rw[if_pos ⟨ho,hn⟩];exact⟨_,_,rfl,.inr ⟨H.length,0,rfl,by simp[newObj]⟩,hH.dq (HV.one hv),λj o h=>by rw[newObj,Z0 (ag h)];exact h⟩
theorem Tq{h:ab}{v w:PV}{jt dA:List PV}{i:Nat}(o1:Out 8 h v jt)(o2:Out 4 h w dA)(hi:i∈cq v):∀ep n,w≠.ak i ep 0 n:=λep n hw=>by
 rcases o1 with⟨rfl,_⟩|⟨id,e,rfl,q⟩
 ·simp[cq]at hi
 ·simp[cq]at hi;subst hi;rcases o2 with⟨rfl,_⟩|⟨id2,e2,rfl,q2⟩
  ·cases hw
  ·cases hw
   rw[q]at q2
   cases q2
theorem Lq(n:Nat)(h:n<4):aO C 73 [.int .i64 n] (.str ⟨#[UInt8.ofNat (48+n)]⟩):=by
 match n,h with
 |0,_=>exact aO.kb (n:=40) (by kernel_rfl)
 |1,_=>exact aO.kb (n:=40) (by kernel_rfl)
 |2,_=>exact aO.kb (n:=40) (by kernel_rfl)
 |3,_=>exact aO.kb (n:=40) (by kernel_rfl)
theorem CB(l p0 q0:List eE)(d0:eE)(e0:l=p0++d0::q0)(D:UH l)(hl:l.length<1000000)(hb:bF (cd l)<900000):
  aO C 23 [.aa false (bA l),.int .i64 p0.length] (.cx [.bool (wW l p0 d0).1,.int .i64 (wW l p0 d0).2]):=by
 have cX:=fL l;have ez:∀d∈l,∀t∈d.kn++[d.tm],t∈cd l:=λd hd t ht=>aaU.2 ⟨d,hd,ht⟩
 have JJ:∀t∈cd l,ay t<900000:=λt ht=>by have:=bS ht;omega
 have cI:=bE (cd l)
 have AE:∀d∈l,d.kn.length<900000:=λd hd=>by
  obtain⟨p,q,e⟩:=acs hd;have h2:d.kn.length<=(cd l).length:=by rw[e];simp[cd];omega
  omega
 have h1:=wX l (by omega) (λd hd=>⟨by have:=AE d hd;omega,λt ht=>by have:=JJ t (ez d hd t ht);omega⟩);have h3:=qy l hl (by omega);have XK:∀x∈bH l,ay x<900000:=λx hx=>tn JJ x (aaM.1 hx).1
 have pT:=aj (bH l);have Is:p0.length<l.length:=by rw[e0];simp
 have hDn:=D.n
 have Ks:∀t∈fi (cd l),t.s.toList.head?≠some 113:=λt ht=>by
  obtain⟨u,hu,hp⟩:=bT.1 ((db _ _).1 ht);obtain⟨d,hd,hu⟩:=aaU.1 hu;exact(KQ (ic.1 (D.f d hd u hu)).2 hp).2
 have NG:d0∈l:=by rw[e0];simp
 have wg:=jZ e0;refine aO.x T6 Tryz.func23 rfl ?_;refine wXA ?_;refine .p h1 ?_;refine wXC (λhc=>?_) λhc=>?_
 ·have F5:nL l=0:=by omega
  have hM:wW l p0 d0=if js (fA 0 (bH l)) (d0.kn++jg p0)≠0 then(false,js (fA 0 (bH l)) (d0.kn++jg p0))
    else if(b8 (fA 0 (bH l)) d0.tm).2≠0 then(false,(b8 (fA 0 (bH l)) d0.tm).2)
    else(lP (bG (fA 0 (bH l)) (d0.kn++jg p0)) (bw (fA 0 (bH l)) d0.tm),gW (bG (fA 0 (bH l)) (d0.kn++jg p0)) (bw (fA 0 (bH l)) d0.tm)):=by rw[wW,if_neg (by omega)]
  rw[hM];refine eD.zip T6 l (λp q L H=>∃v,L=[(0,.aa false (bA l)),(1,.int .i64 p0.length),(7,v),(36,.aa false (bA l)),(37,.int .i64 (bA l).length),(38,.int .i64 p.length)]/\HV H/\Out 4 H v (ae (cd p))/\(p=[]->v=.aa true [])) (.nx ⟨_,rfl,HV.nil,.inl ⟨rfl,rfl⟩,λ_=>rfl⟩) ?_ ?_
  ·rintro p d q _ H ρ e ⟨v,rfl,hH,ho,_⟩;have cY:=jZ e;have cE:=congrArg List.length e;simp only[Z2,Z4]at cE;have oJ:cd (p++[d])=cd p++(d.kn++[d.tm]):=by simp[cd]
   have QC:(cd p).length+(d.kn++[d.tm]).length<=(cd l).length:=by rw[e];simp[cd]
   have hle:=aj (cd p);have hlu:=aj (d.kn++[d.tm]);have EV:=tq d (by simp at QC;omega);rw[rP]at EV;have kY:=hH.cC (HV.one (ep:=0) (n:=5) (es:=[PV.agg [.aa false (ae d.kn),.int .i64 d.tm.k,.str d.tm.s,.int .i64 d.tm.o,.aa false (ae d.tm.l)]]) (by simp));have Ig:=ho.cC [⟨.m,0,5,[PV.agg [.aa false (ae d.kn),.int .i64 d.tm.k,.str d.tm.s,.int .i64 d.tm.o,.aa false (ae d.tm.l)]]⟩];refine wXA ?_;refine .p EV ?_;refine wXG λv H lp=>?_;refine .nx ⟨_,rfl,lp.hv,?_,by simp⟩;have:=lp.out;rw[oJ,cc];exact this
  ·rintro _ H ρ ⟨v,rfl,hH,ho,Bw⟩;have bJ:cd l≠[]:=by rw[e0];simp[cd]
   obtain⟨id,ep,rfl,e1⟩:∃id ep,v=.ak id ep 0 (ae (cd l)).length/\H[id]?=some ⟨.m,ep,4,ae (cd l)⟩:=by
    rcases ho with⟨_,h⟩|h
    ·exact absurd (aaf (by rw[<-aj,h];rfl)) bJ
    ·exact h
   have kY:HR (H++[(⟨.m,0,0,[]⟩:au)]):=hH.hr.dq (HV.one (by simp));have yu:=nP (cd l) bJ (H++[⟨.m,0,0,[]⟩]) kY id ep (by rw[Z0 (ag e1)];exact e1) (by omega);rw[aj]at *;refine wXA ?_;refine .fr yu (λr h' hr hb=>?_) (λr h' r1 r2 r3 r4=>?_)
   ·obtain⟨_,id,ep,n,rfl,bU⟩:=hr;simp[dQ,cH,dP]at hb bU;omega
   obtain⟨⟨id2,Rm,tl,rfl,e2,e3⟩,id3,ep3,n,e4,bU⟩:=r4
   have uM:H.length<id2:=by
    cases e4
    simp at bU;omega
   have hm0:h'[H.length]?=some ⟨.m,0,0,[]⟩:=by rw[r3 _ (by simp)];simp
   refine wXA ?_;have Nw:=pp (cd l);refine eD.zip T6 (fi (cd l)) (λp q L K=>∃es,L=[(0,.aa false (bA l)),(1,.int .i64 p0.length),(10,.cB H.length),(49,.ak id2 Rm 0 (fi (cd l)).length),(50,.int .i64 (fi (cd l)).length),(51,.int .i64 p.length)]/\HR K/\K[id2]?=some ⟨.m,Rm,4,ae (fi (cd l))++tl⟩/\K[H.length]?=some ⟨.m,0,0,es⟩/\Ip es) (.nx ⟨[],rfl,r1,e2,hm0,λe he=>by cases he⟩) ?_ ?_
   ·rintro p x q _ K ρ e ⟨es,rfl,hK,XU,OP,hn⟩;have cY:=atM (tl:=tl) e;have cE:=congrArg List.length e;simp only[Z2,Z4]at cE;have hla:(ae (fi (cd l))++tl).length=(fi (cd l)).length+tl.length:=by rw[Z2,aj]
    obtain⟨eT,hp,Gi⟩:=Tl hn (Ks x (by rw[e];simp));refine wXA ?_;refine .mk hp ?_ (by rw[Z0 (ag OP)];exact OP);refine wXA ?_;have NH:HR (K++[(⟨.m,0,4,[.agg [.int .i64 x.k,.str x.s,.int .i64 x.o,.aa false (ae x.l)]]⟩:au)]):=hK.dq (HV.one (by simp));refine .nx ⟨eT,rfl,NH.set _ (by simp) (Tn Gi),?_,Z6 (by have:=ag OP;simp;omega),Gi⟩;rw[Z7 (by omega),Z0 (ag XU)];exact XU
   ·rintro _ K ρ ⟨es,rfl,hK,_,OP,hn⟩;refine wXA ?_;refine .p h3 ?_;refine wXA ?_;refine eD.zip T6 (bH l) (λp q L K=>∃v,L=[(0,.aa false (bA l)),(1,.int .i64 p0.length),(10,.cB H.length),(13,v),(14,.int .i64 p.length),(60,.aa false (ae (bH l))),(61,.int .i64 (ae (bH l)).length),(62,.int .i64 p.length)]/\HR K/\K[H.length]?=some ⟨.m,0,0,es⟩/\(∀i∈cq v,i≠H.length)/\Out 8 K v (ra 0 p)) (.nx ⟨_,rfl,hK,OP,by simp[cq],.inl ⟨rfl,rfl⟩⟩) ?_ ?_
    ·rintro p x q _ K ρ e ⟨v,rfl,hK,OP,UI,ho⟩;have cY:=bW e;have pT:=aj (bH l);have cE:=congrArg List.length e;simp only[Z2,Z4]at cE;have Lr:=Lq p.length (by omega);have oJ:=zJ x p 0;rw[aan]at oJ;have UJ:(⟨#[113]⟩++⟨#[UInt8.ofNat (48+p.length)]⟩:ByteArray)=⟨#[113,UInt8.ofNat (48+p.length)]⟩:=rfl;have hf:mr (.str (⟨#[113]⟩++⟨#[UInt8.ofNat (48+p.length)]⟩)) es 0=some none:=GH (by rw[UJ,ByteArray.toList_eq];simp) 0 hn;have hDs:(⟨#[UInt8.ofNat (48+p.length)]⟩:ByteArray).size=1:=rfl;have hEs:(⟨#[113]⟩:ByteArray).size=1:=rfl;have NH:HR (K++[(⟨.m,0,4,[.agg [.int .i64 x.k,.str x.s,.int .i64 x.o,.aa false (ae x.l)]]⟩:au)]):=hK.dq (HV.one (by simp));have XV:(K++[(⟨.m,0,4,[.agg [.int .i64 x.k,.str x.s,.int .i64 x.o,.aa false (ae x.l)]]⟩:au)])[H.length]?=some ⟨.m,0,0,es⟩:=by rw[Z0 (ag OP)];exact OP
     have Ig:=ho.cC [(⟨.m,0,4,[.agg [.int .i64 x.k,.str x.s,.int .i64 x.o,.aa false (ae x.l)]]⟩:au)];have hcx:(K++[(⟨.m,0,4,[.agg [.int .i64 x.k,.str x.s,.int .i64 x.o,.aa false (ae x.l)]]⟩:au)])[K.length]?=some (⟨.m,0,4,[.agg [.int .i64 x.k,.str x.s,.int .i64 x.o,.aa false (ae x.l)]]⟩:au):=by simp
     have hlf:=Cz p 0;clear UJ;generalize(⟨#[UInt8.ofNat (48+p.length)]⟩:ByteArray)=Dg at *;refine wXA ?_;refine eD.zip T6 ([]:List Nat) (λa b L J=>L=[(0,.aa false (bA l)),(1,.int .i64 p0.length),(10,.cB H.length),(13,v),(14,.int .i64 p.length),(16,.ptr K.length 0 0 0),(60,.aa false (ae (bH l))),(61,.int .i64 (ae (bH l)).length),(62,.int .i64 p.length)]/\J=K++[(⟨.m,0,4,[.agg [.int .i64 x.k,.str x.s,.int .i64 x.o,.aa false (ae x.l)]]⟩:au)]) (.nx ⟨rfl,rfl⟩) ?_ ?_
     ·rintro a u b _ J ρ e _
      cases a <;>cases e
     ·rintro _ _ ρ ⟨rfl,rfl⟩;refine wXA ?_;refine .p Lr ?_;refine wXA ?_;refine .Lt hf ?_ XV;refine wXA ?_;refine .mk (.str Dg) (by simpa[aQ,cf]using Lr) ?_;refine wXA ?_;refine .lr (λv' XW lr=>?_) Ig;refine wXA ?_
      have OE:∀i∈cq v',i≠H.length:=λi hi=>by
       rcases lr.cq i hi with h |h
       ·exact UI i h
       ·have:=ag XV;omega
      refine .nx ⟨_,rfl,lr.hr,?_,OE,?_⟩
      ·rw[lr.fr _ (ag XV) (λep n h=>UI H.length (by rw[h];simp[cq]) rfl)];exact XV
      ·rw[oJ];exact lr.out
    ·rintro _ K ρ ⟨v,rfl,hK,OP,UI,ho⟩;have pT:=aj (bH l);have hsd:(0<=p0.length/\p0.length<=(bA l).length)/\Option.all (λv=>(cells v).length==5) (bA l)[0]?=true:=⟨⟨by omega,by omega⟩,by rw[e0];cases p0 <;>simp[bA,rP,cells]⟩;have OQ:List.take (p0.length - 0) (List.drop 0 (bA l))=bA p0:=by rw[aaV,e0];simp[bA]
     obtain⟨w0,K1,a1,o1,NH,k1⟩:=Lp (gA d0.kn) (by rw[aj];have:=AE d0 NG;omega) (by simp) hK
     have Ig:Out 8 K1 v (ra 0 (bH l)):=ho.of_eq λi hi=>by
      have h1:=ho.mI i hi;rw[k1 i _ (Z3 h1),Z3 h1]
     refine wXA ?_;refine ai.cz rfl a1 ?_;refine wXA ?_;rw[OQ];have nI:=fL p0;refine eD.zip T6 p0 (λp q L K=>∃w,L=[(0,.aa false (bA l)),(1,.int .i64 p0.length),(13,v),(17,w),(95,.aa false (bA p0)),(96,.int .i64 (bA p0).length),(97,.int .i64 p.length)]/\HR K/\Out 8 K v (ra 0 (bH l))/\Out 4 K w (ae (d0.kn++jg p))) (.nx ⟨_,rfl,NH,Ig,by simpa[jg]using o1⟩) ?_ ?_
     ·rintro p u q _ K ρ e ⟨w,rfl,hK,hv,hw⟩;have cY:=jZ e;have cE:=congrArg List.length e;simp only[Z2,Z4]at cE;have Un:=AE d0 NG;have OI:(jg p).length<=p.length:=by unfold jg;rw[aa6];exact aa4 _ _
      have hle:=aj (d0.kn++jg p);rw[Z2]at hle;have oJ:=Iq p u;have XU:=hK.dq (HV.one (ep:=0) (n:=5) (es:=[PV.agg [.aa false (ae u.kn),.int .i64 u.tm.k,.str u.tm.s,.int .i64 u.tm.o,.aa false (ae u.tm.l)]]) (by simp));have uJ:=hv.cC [(⟨.m,0,5,[PV.agg [.aa false (ae u.kn),.int .i64 u.tm.k,.str u.tm.s,.int .i64 u.tm.o,.aa false (ae u.tm.l)]]⟩:au)];have Wg:=hw.cC [(⟨.m,0,5,[PV.agg [.aa false (ae u.kn),.int .i64 u.tm.k,.str u.tm.s,.int .i64 u.tm.o,.aa false (ae u.tm.l)]]⟩:au)];refine wXC (λhc=>?_) λhc=>?_
      ·refine .lr (λw' XW lr=>?_) Wg;refine wXA ?_;refine .nx ⟨_,rfl,lr.hr,uJ.of_eq λi hi=>lr.fr i (uJ.mI i hi) (Tq uJ Wg hi),?_⟩;rw[oJ,if_pos (by omega),<-aat,cc,yq];exact lr.out
      ·refine .nx ⟨_,rfl,XU,uJ,?_⟩;rw[oJ,if_neg (by omega),aao];exact Wg
     ·rintro _ K ρ ⟨w,rfl,hK,hv,hw⟩;have q8:=Lo D;have Un:=AE d0 NG;have OI:(jg p0).length<=p0.length:=by unfold jg;rw[aa6];exact aa4 _ _
      obtain⟨yi,Uw⟩:=zp F5;obtain⟨NI,zF⟩:=Uw d0 NG;have YZ:∀u∈p0,u∈l:=λu hu=>by rw[e0];exact aaH _ hu
      have UK:∀t∈d0.kn++jg p0,t∈cd l:=λt ht=>by
       rcases Z8.1 ht with h |h
       ·exact ez d0 NG t (by simp[h])
       ·obtain⟨u,hu,rfl⟩:=aak.1 h;exact ez u (YZ u (aaM.1 hu).1) u.tm (by simp)
      have Lu:∀t∈(d0.kn++jg p0)++[d0.tm],iP t=true:=λt ht=>by
       have:t∈cd l:=by
        rcases Z8.1 ht with h |h
        ·exact UK t h
        ·simp at h;rw[h];exact ez d0 NG d0.tm (by simp)
       obtain⟨u,hu,h⟩:=aaU.1 this;exact(ic.1 (D.f u hu t h)).1
      have hQf:∀b∈fA 0 (bH l),iP b.t=true:=λb hb=>by
       obtain⟨i,h1,_,h3,h4⟩:=qa D hb;rw[h4];exact(r8 h1 h3).2.2.1
      have D9:=CC (fA 0 (bH l)) q8 (d0.kn++jg p0) (by rw[Z2];omega) (λt ht=>by have:=JJ t (UK t ht);omega);have mq:=wY (fA 0 (bH l)) q8 d0.tm (by have:=JJ d0.tm (ez d0 NG d0.tm (by simp));omega);have OR:aQ (ra 0 (bH l))=bM (fA 0 (bH l)):=CA _ _;have QE:(d0.kn++jg p0).length<=80:=by rw[Z2];omega
      generalize fA 0 (bH l)=Q at *;generalize d0.kn++jg p0=KN at *;obtain⟨t1,XX⟩:∃t1,t1=(b8 Q d0.tm).1:=⟨_,rfl⟩;have Xv:(b8 Q d0.tm).2=0->t1=bw Q d0.tm:=λh=>by rw[XX,(ls h).1]
      rw[<-XX]at mq;rw[aw t1]at mq;refine wXA ?_;refine To (.inl hv) (.inl hw) D9 (λids h' hz=>?_) rfl (by simp) (by simp) OR;have BM:=hv.KY hz;refine wXC (λhc=>?_) λhc=>?_
      ·have QF:js Q KN=0:=by omega
       rw[if_neg (show¬js Q KN≠0 by omega)]
       skip
       refine Tp BM mq (λXW=>?_) rfl (by simp) OR;refine wXC (λhc=>?_) λhc=>?_
       ·have Is:(b8 Q d0.tm).2=0:=by omega
        have OS:=Xv Is
        have DX:bF (bG Q KN++[t1])<10000000:=by
         have h1:∀t∈bG Q KN++[t1],ay t<=10000:=λt ht=>by
          rcases Z8.1 ht with h |h
          ·rw[bN]at h;obtain⟨y,hy,rfl⟩:=aak.1 h;exact eL (ls (tu QF y hy)).2.2
          ·simp at h;rw[h,OS];exact eL (ls Is).2.2
         have:=rV (B:=10000) h1;have h2:(bG Q KN++[t1]).length<=81:=by rw[Z2,gy];simp;omega
         have:=aaC 10000 h2;omega
        have hfw:∀t∈bG Q KN++[t1],iP t=true:=by rw[OS];exact wU hQf Lu
        have vY:=qz (bG Q KN) t1 hfw DX;rw[aw t1]at vY;refine .p vY ?_;refine wXA ?_;refine⟨_,rfl,?_⟩;rw[if_neg (show¬js Q KN≠0 by omega),if_neg (show¬(b8 Q d0.tm).2≠0 by omega),<-OS]
        rfl
       ·refine⟨_,rfl,?_⟩;rw[if_neg (show¬js Q KN≠0 by omega),if_pos (show(b8 Q d0.tm).2≠0 by omega)]
        rfl
      ·refine⟨_,rfl,?_⟩;rw[if_pos (show js Q KN≠0 by omega)]
       rfl
 ·have hM:wW l p0 d0=(false,nL l):=by rw[wW,if_pos (by omega)]
  exact⟨_,rfl,by rw[hM];rfl⟩
theorem A8(b:List (List Nat))(s:List Nat)(hb:∀y∈b,DV y)(hs:DV s)(Nv:b.length<100000000)(QC:s.length<100000000):
  aO C 6 [.aa false (gG b),.aa false (eO s)] (.bool true):=by
 have haw:=Hr;have h1:=Ia b s (by omega) (by omega);have hS:AP b s=(decide (b.length<=5)&&decide (s.length<=10)&& !(b.any pf)):=rfl
 cases hsh:AP b s
 ·rw[hsh]at h1;refine aO.x T6 Tryz.func6 rfl ?_;refine wXA ?_;refine .p haw ?_;refine wXA ?_;refine .p h1 ?_;refine wXA ?_;refine .p haw ?_;refine wXA ?_;exact⟨_,rfl,rfl⟩
 ·rw[hsh]at h1 hS;have hS:=hS.symm;simp only[Z9,decide_eq_true_eq,abh]at hS;obtain⟨⟨hb5,ZU⟩,WJ⟩:=hS
  have DX:∀y∈b,DV y/\y.length<1000000:=λy hy=>by
   have:=abt.1 WJ y hy;simp only[pf,decide_eq_true_eq]at this;exact⟨hb y hy,by omega⟩
  have h2:=Ih b DX (by omega);have hd:=Cn b;have h3:=Fm (eN b) (by omega);have h4:=Il b;have hv4:=(lj b).1;have h5:aO C 20 [.aa false (ae (bH (eN b))),.aa false (eO s)] (.aa false (bM (AT b s))):=ES (bH (eN b)) s hs (by omega) (by omega) (λt ht=>by have:=(wD t ((lj b).2 t ht)).2;omega);have HA:=Lf b s;have Cm:∀x∈AT b s,iP x.t=true:=λx hx=>(Gz b s x hx).2.1
  have DT:=rW (eN b);have ZV:=Co b s;have D:=Io b;have rI:=j4 (eN b);have h6:=λX hX=>EW X (AT b s) hX (by omega) Cm
  generalize eN b=l at *;generalize AT b s=S at *;have cX:=fL l;have iU:=jF S;refine aO.x T6 Tryz.func6 rfl ?_;refine wXA ?_;refine .p haw ?_;refine wXA ?_;refine .p h1 ?_;refine wXA ?_;refine .p h2 ?_;refine wXA ?_;refine .p h3 ?_;refine wXA ?_;refine .p h4 ?_;refine wXA ?_;refine .p h5 ?_;refine wXA ?_;refine eD.zip T6 l (λp q L H=>L=[(5,.aa false (bA l)),(6,.aa false (bM S)),(31,.int .i64 (bA l).length),(32,.int .i64 p.length)]) (.nx rfl) ?_ ?_
  ·rintro p d q _ H ρ e rfl;have cE:=congrArg List.length e;simp only[Z2,Z4]at cE;have ht:=CB l p q d e D (by omega) (by rw[wO];omega)
   have hdp:nO (p++[d])<=nO l/\nO p<=nO l:=by
    rw[e]
    have key:∀a b:List eE,nO (a++b)=nO a+nO b:=λa b=>by
     induction a with
     |nil=>simp[nO]
     |cons x a ih=>rw[aau,jJ,jJ,ih];omega
    have h0:nO []=0:=rfl;rw[key,key,jJ,jJ,h0];omega
   have hA:Option.all (λv=>(cells v).length==5) (bA l)[0]?=true:=by rw[e];cases p <;>simp[bA,rP,cells]
   have HB:(0<=p.length/\p.length<=(bA l).length)/\Option.all (λv=>(cells v).length==5) (bA l)[0]?=true:=⟨⟨by omega,by omega⟩,hA⟩;have Up:(0<=p.length+1/\p.length+1<=(bA l).length)/\Option.all (λv=>(cells v).length==5) (bA l)[0]?=true:=⟨⟨by omega,by omega⟩,hA⟩;have Zh:List.take (p.length - 0) (List.drop 0 (bA l))=bA p:=by rw[aaV,e];simp[bA]
   have Zi:List.take (p.length+1 - 0) (List.drop 0 (bA l))=bA (p++[d]):=by
    rw[aaV,e,show p++d::q=(p++[d])++q by simp,IS,show p.length+1 - 0=(bA (p++[d])).length by rw[fL];simp,List.take_left]
   have vY:=Wc (S:=S) e D Cm;have C5:=fL p;have WK:=fL (p++[d]);rw[Z2]at WK
   have htM:(wW l p d).1=true->(wW l p d).2=0->nL l=0/\lP (bG (fA 0 (bH l)) (d.kn++jg p)) (bw (fA 0 (bH l)) d.tm)=true:=λh1 h2=>by
    unfold wW at h1
    split at h1
    ·cases h1
    ·split at h1
     ·cases h1
     ·split at h1
      ·cases h1
      ·exact⟨by omega,h1⟩
   obtain⟨r1,H1,a1,o1,_,_⟩:=gY (rf l) (by omega) H;have m6:=h6 p (by omega);have m7:=h6 (p++[d]) (by omega);generalize(wW l p d).1=tb at *;generalize(wW l p d).2=te at *;refine wXA ?_;refine ai.cz rfl a1 ?_;refine wXA ?_;refine Te (.inl o1) ht (λh'=>?_);obtain⟨r2,H2,a2,o2,_,k2⟩:=gY (rf p) (by omega) h';obtain⟨r3,H3,a3,o3,_,k3⟩:=gY (xw S) (by omega) H2
   have Xt:Out 5 H3 r2 (bA p):=o2.of_eq λi hi=>by
    have h1:=o2.mI i hi;rw[k3 i _ (Z3 h1),Z3 h1]
   refine wXA ?_;rw[Zh];refine ai.cz rfl a2 ?_;refine wXA ?_;refine ai.cz rfl a3 ?_;refine wXA ?_;refine call2 (.inl Xt) (.inl o3) m6 (λXW=>?_);obtain⟨r4,H4,a4,o4,_,k4⟩:=gY (rf (p++[d])) (by rw[WK];simp;omega) XW;obtain⟨r5,H5,a5,o5,_,k5⟩:=gY (xw S) (by omega) H4
   have o4':Out 5 H5 r4 (bA (p++[d])):=o4.of_eq λi hi=>by
    have h1:=o4.mI i hi;rw[k5 i _ (Z3 h1),Z3 h1]
   generalize(jd p S).1=pb at *;generalize(jd p S).2=pe at *
   cases tb <;>cases pb
   all_goals(repeat' (first |(refine Rn.go ?_;conv=>whnf)|refine .mk ?_ |refine .mk (λhc=>?_) λhc=>?_ |fail))
   all_goals try exact .nx rfl
   rw[Zi];refine ai.cz rfl a4 ?_;refine wXA ?_;refine ai.cz rfl a5 ?_;refine wXA ?_;refine call2 (.inl o4') (.inl o5) m7 (λh3=>?_);obtain⟨NI,zF⟩:=htM rfl (by omega);have vY:=vY NI zF rfl;generalize(jd (p++[d]) S).1=wb at *;generalize(jd (p++[d]) S).2=we at *
   cases wb
   all_goals refine wXC (λhc=>?_) λhc=>?_
   all_goals first |exact .nx rfl |exact absurd (vY (by omega)) (by simp)
  ·rintro _ H ρ rfl;refine wXA ?_;exact⟨_,rfl,rfl⟩
end bP
end Go.Pm
