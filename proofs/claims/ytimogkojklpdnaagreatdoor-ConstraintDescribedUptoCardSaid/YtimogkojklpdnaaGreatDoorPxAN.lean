/-
  Pm, a part. Conditions: none.
-/
import Derived.Test.YtimogkojklpdnaaGreatDoorPxAM
set_option linter.unusedVariables false
set_option linter.unusedSimpArgs false
set_option linter.unnecessarySimpa false
namespace Go.Pm
namespace bE
open Go.Proofs
attribute [local irreducible] aD az aL aJ Ev ah aj ay aY bJ
set_option maxRecDepth 4000
structure J'(H:ab)(vo vk vb:PV)(s:PM)(ids:List Nat)(es:List PV):Prop where
 hr:HR H
 oo:Out 5 H vo es
 FJ:Am H ids es s.out
 ok:Out 4 H vk (ae s.kn)
 ob:Out 4 H vb (ae s.bd)
 d1:∀i∈bV vo,i∉bV vk/\i∉bV vb/\i∉ids
 d2:∀i∈bV vb,i∉bV vk/\i∉ids
theorem J'.aU{H H':ab}{vo vk vb:PV}{s:PM}{ids:List Nat}{es:List PV}(M:J' H vo vk vb s ids es)(hr:HR H')(yb:∀j,j<H.length->H'[j]?=H[j]?):J' H' vo vk vb s ids es:=
 ⟨hr,M.oo.of_eq λi hi=>yb i (M.oo.ls i hi),M.FJ.of_eq λi hi=>yb i (M.FJ.lt i hi),M.ok.of_eq λi hi=>yb i (M.ok.ls i hi),M.ob.of_eq λi hi=>yb i (M.ob.ls i hi),M.d1,M.d2⟩
structure TE(H:ab)(bi ep:Nat)(b:List Nat)(vo vk vb:PV)(ids:List Nat):Prop where
 at_:∃mu,H[bi]?=some ⟨mu,ep,1,eW b⟩/\(mu=.m\/mu=.f)
 nb:bi∉bV vo/\bi∉bV vk/\bi∉bV vb/\bi∉ids
theorem TE.aU{H H':ab}{bi ep:Nat}{b:List Nat}{vo vk vb:PV}{ids:List Nat}(B:TE H bi ep b vo vk vb ids)(yb:∀j,j<H.length->H'[j]?=H[j]?):TE H' bi ep b vo vk vb ids:=by
 obtain⟨⟨mu,e,hm⟩,nb⟩:=B;exact⟨⟨mu,(yb bi (ag e)).trans e,hm⟩,nb⟩
theorem Ka(l:List Nat):dK 1 (eW l):=by
 unfold dK;rw[abk]
 intro v hv
 obtain⟨n,_,rfl⟩:=abZ.1 hv
 rfl
theorem Cr{H h':ab}{v r:PV}{sz:Nat}{es:List PV}(a:LR H v sz es r h'){j:Nat}(hj:j<H.length)(hv:j∉bV v):h'[j]?=H[j]?/\j∉bV r:=by
 refine⟨a.fr j hj λep n h=>hv (by rw[h];simp[bV]),λhh=>?_⟩;rcases a.bV j hh with h |h
 ·exact hv h
 ·omega
structure Yo(h:ab)(vk:PV)(kn:List Tm)(g:Tm)(r1:PV)(G1:ab)(r2:PV)(G2:ab):Prop where
 Vn:bP C.P 2 (cF [h.length] (h++[(⟨.m,0,4,[.agg [.int .i64 g.k,.str g.s,.int .i64 g.o,.aa false (ae g.l)]]⟩:aw)])) 31 31 (.aa true []) vk=some (r1,G1)
 le1:(cF [h.length] (h++[(⟨.m,0,4,[.agg [.int .i64 g.k,.str g.s,.int .i64 g.o,.aa false (ae g.l)]]⟩:aw)])).length<=G1.length
 kp1:∀(j:Nat) (o:aw),(cF [h.length] (h++[(⟨.m,0,4,[.agg [.int .i64 g.k,.str g.s,.int .i64 g.o,.aa false (ae g.l)]]⟩:aw)]))[j]?=some o->o.mu≠.m->G1[j]?=some o
 at0:(cF [h.length] (h++[(⟨.m,0,4,[.agg [.int .i64 g.k,.str g.s,.int .i64 g.o,.aa false (ae g.l)]]⟩:aw)]))[h.length]?=some ⟨.l,0,4,[.agg [.int .i64 g.k,.str g.s,.int .i64 g.o,.aa false (ae g.l)]]⟩
 at1:G1[h.length]?=some ⟨.l,0,4,[.agg [.int .i64 g.k,.str g.s,.int .i64 g.o,.aa false (ae g.l)]]⟩
 Vo:bP C.P 2 G1 31 31 r1 (.aa true [.agg [.int .i64 g.k,.str g.s,.int .i64 g.o,.aa false (ae g.l)]])=some (r2,G2)
 le2:G1.length<=G2.length
 kp2:∀(j:Nat) (o:aw),G1[j]?=some o->o.mu≠.m->G2[j]?=some o
 nl:∀(j:Nat) (o:aw),G2[j]?=some o->o.mu≠.l\/(cF [h.length] (h++[(⟨.m,0,4,[.agg [.int .i64 g.k,.str g.s,.int .i64 g.o,.aa false (ae g.l)]]⟩:aw)]))[j]?=some o
 hr:HR (ez [h.length] (h++[(⟨.m,0,4,[.agg [.int .i64 g.k,.str g.s,.int .i64 g.o,.aa false (ae g.l)]]⟩:aw)]) G2)
 fr:∀j,j<h.length->(ez [h.length] (h++[(⟨.m,0,4,[.agg [.int .i64 g.k,.str g.s,.int .i64 g.o,.aa false (ae g.l)]]⟩:aw)]) G2)[j]?=h[j]?
 out:Out 4 (ez [h.length] (h++[(⟨.m,0,4,[.agg [.int .i64 g.k,.str g.s,.int .i64 g.o,.aa false (ae g.l)]]⟩:aw)]) G2) r2 (ae (kn++[g]))
 vd:∀i∈bV r2,h.length<=i
theorem Yp{h:ab}(hR:HR h){vk:PV}{kn:List Tm}(o:Out 4 h vk (ae kn))(hn:kn.length<100000000)(g:Tm):∃r1 G1 r2 G2,Yo h vk kn g r1 G1 r2 G2:=by
 have cr:=ai kn;have vq:(cF [h.length] (h++[(⟨.m,0,4,[.agg [.int .i64 g.k,.str g.s,.int .i64 g.o,.aa false (ae g.l)]]⟩:aw)])).length=h.length+1:=by rw[Ck];simp
 have WT:HR (h++[(⟨.m,0,4,[.agg [.int .i64 g.k,.str g.s,.int .i64 g.o,.aa false (ae g.l)]]⟩:aw)]):=hR.dA (HV.one (by simp));have hRL:HR (cF [h.length] (h++[(⟨.m,0,4,[.agg [.int .i64 g.k,.str g.s,.int .i64 g.o,.aa false (ae g.l)]]⟩:aw)])):=WT.QS;have at0:(cF [h.length] (h++[(⟨.m,0,4,[.agg [.int .i64 g.k,.str g.s,.int .i64 g.o,.aa false (ae g.l)]]⟩:aw)]))[h.length]?=some ⟨.l,0,4,[.agg [.int .i64 g.k,.str g.s,.int .i64 g.o,.aa false (ae g.l)]]⟩:=Nw (by simp);have IN:∀j,j<h.length->(cF [h.length] (h++[(⟨.m,0,4,[.agg [.int .i64 g.k,.str g.s,.int .i64 g.o,.aa false (ae g.l)]]⟩:aw)]))[j]?=h[j]?:=λj hj=>by rw[Vf (by omega),abj hj]
 have oL:Out 4 (cF [h.length] (h++[(⟨.m,0,4,[.agg [.int .i64 g.k,.str g.s,.int .i64 g.o,.aa false (ae g.l)]]⟩:aw)])) vk (ae kn):=o.of_eq λi hi=>IN i (o.ls i hi)
 obtain⟨r1,G1,Vn,a1⟩:=GA T6 (H:=cF [h.length] (h++[(⟨.m,0,4,[.agg [.int .i64 g.k,.str g.s,.int .i64 g.o,.aa false (ae g.l)]]⟩:aw)])) (st:=31) (xt:=31) (v:=.aa true []) (u:=vk) (es:=[]) (ys:=ae kn) rfl rfl rfl rfl rfl (by decide) rfl rfl (.inl ⟨rfl,rfl⟩) oL.cu (by simp[bV]) (je _) (by simp;omega)
 have zR:∀i∈bV r1,h.length+1<=i:=λi hi=>by
  rcases a1.bV i hi with h1 |h1
  ·simp[bV]at h1
  ·omega
 obtain⟨r2,G2,Vo,a2⟩:=GA T6 (H:=G1) (st:=31) (xt:=31) (v:=r1) (u:=.aa true [.agg [.int .i64 g.k,.str g.s,.int .i64 g.o,.aa false (ae g.l)]]) (es:=[]++ae kn) (ys:=[.agg [.int .i64 g.k,.str g.s,.int .i64 g.o,.aa false (ae g.l)]]) rfl rfl rfl rfl rfl (by decide) rfl rfl a1.out rfl (by simp[bV]) rfl (by simp;omega)
 have Di:∀i∈bV r2,h.length+1<=i:=λi hi=>by
  rcases a2.bV i hi with h1 |h1
  ·exact zR i h1
  ·have:=a1.len;omega
 have Yq:=a1.hr hRL (bj _ _ (by simp));have h2R:=a2.hr Yq (bj _ _ (by simp));have di:h.length+1<=G2.length:=by have:=a1.len;have:=a2.len;omega
 have he:[]++ae kn++[.agg [.int .i64 g.k,.str g.s,.int .i64 g.o,.aa false (ae g.l)]]=ae (kn++[g]):=by rw[bT,abT,wm]
 have o2:=a2.out;rw[he]at o2;refine⟨r1,G1,r2,G2,Vn,a1.len,a1.aU,at0,a1.aU _ _ at0 (by simp),Vo,a2.len,a2.aU,λj o hj=>?_,h2R.QT WT (by simp;omega),λj hj=>?_,o2.of_eq λi hi=>GB (by have:=Di i hi;omega),λi hi=>by have:=Di i hi;omega⟩
 ·rcases a2.Nu j o hj with h1 |h1
  ·exact .inl h1
  ·exact a1.Nu j o h1
 ·rw[GB (by omega),a2.fr j (by have:=a1.len;omega) (λhh=>by have:=zR j hh;omega),a1.fr j (by omega) (by simp[bV])];exact IN j hj
structure Z8(h:ab)(vo vk vb:PV)(s:PM)(ids:List Nat)(es:List PV)(g:Tm)(w:PV)(J1:ab)(u:PV)(G3:ab)(r:PV)(G2:ab):Prop where
 Vn:bP C.P 1 (h++[(⟨.m,0,4,[.agg [.int .i64 g.k,.str g.s,.int .i64 g.o,.aa false (ae g.l)]]⟩:aw)]) 31 31 (.aa true []) vk=some (w,h++[(⟨.m,0,4,[.agg [.int .i64 g.k,.str g.s,.int .i64 g.o,.aa false (ae g.l)]]⟩:aw)]++J1)
 jl:(J1.all λo=>decide (o.mu≠.l))=true
 ow:Out 4 (h++[(⟨.m,0,4,[.agg [.int .i64 g.k,.str g.s,.int .i64 g.o,.aa false (ae g.l)]]⟩:aw)]++J1) w (ae s.kn)
 vkv:bq (aQ (h++[(⟨.m,0,4,[.agg [.int .i64 g.k,.str g.s,.int .i64 g.o,.aa false (ae g.l)]]⟩:aw)])) vk=true
 bs:(ar [.agg [w,.int .i64 g.k,.str g.s,.int .i64 g.o,.aa false (ae g.l)]]=true/\u=.aa true [.agg [w,.int .i64 g.k,.str g.s,.int .i64 g.o,.aa false (ae g.l)]]/\G3=h++[(⟨.m,0,4,[.agg [.int .i64 g.k,.str g.s,.int .i64 g.o,.aa false (ae g.l)]]⟩:aw)]++J1)\/(ar [.agg [w,.int .i64 g.k,.str g.s,.int .i64 g.o,.aa false (ae g.l)]]=false/\u=.ak (h++[(⟨.m,0,4,[.agg [.int .i64 g.k,.str g.s,.int .i64 g.o,.aa false (ae g.l)]]⟩:aw)]++J1).length 0 0 1/\G3=newObj (h++[(⟨.m,0,4,[.agg [.int .i64 g.k,.str g.s,.int .i64 g.o,.aa false (ae g.l)]]⟩:aw)]++J1) 5 [.agg [w,.int .i64 g.k,.str g.s,.int .i64 g.o,.aa false (ae g.l)]])
 Vo:bP C.P 2 G3 22 22 vo u=some (r,G2)
 md:J' G2 r vk vb ⟨s.kn,s.bd,s.out++[⟨s.kn,g⟩]⟩ (ids++bV w) (es++[.agg [w,.int .i64 g.k,.str g.s,.int .i64 g.o,.aa false (ae g.l)]])
 cell:G2[h.length]?=some (⟨.m,0,4,[.agg [.int .i64 g.k,.str g.s,.int .i64 g.o,.aa false (ae g.l)]]⟩:aw)
theorem Z9{h:ab}{vo vk vb:PV}{s:PM}{ids:List Nat}{es:List PV}(M:J' h vo vk vb s ids es)(hn:s.kn.length<100000000)(Tq:s.out.length<100000000)(g:Tm):∃w J1 u G3 r G2,Z8 h vo vk vb s ids es g w J1 u G3 r G2:=by
 have cr:=ai s.kn;have WT:HR (h++[(⟨.m,0,4,[.agg [.int .i64 g.k,.str g.s,.int .i64 g.o,.aa false (ae g.l)]]⟩:aw)]):=M.hr.dA (HV.one (by simp));have MG:=M.aU WT λj hj=>abj hj
 have hgl:(h++[(⟨.m,0,4,[.agg [.int .i64 g.k,.str g.s,.int .i64 g.o,.aa false (ae g.l)]]⟩:aw)]).length=h.length+1:=by simp
 obtain⟨w,J1,Vn,_,hJ,zR,IP⟩:=Nv T6 (lv:=1) (by omega) (H:=h++[(⟨.m,0,4,[.agg [.int .i64 g.k,.str g.s,.int .i64 g.o,.aa false (ae g.l)]]⟩:aw)]) (st:=31) (xt:=31) (u:=vk) (es:=[]) (ys:=ae s.kn) rfl rfl rfl rfl rfl (by decide) rfl rfl MG.ok.cu rfl (je _) (by simp;omega);have IP:=IP rfl;have Yr:HV J1:=by rcases hJ with rfl |rfl;exact HV.nil;exact HV.one (by simp)
 have Yq:HR (h++[(⟨.m,0,4,[.agg [.int .i64 g.k,.str g.s,.int .i64 g.o,.aa false (ae g.l)]]⟩:aw)]++J1):=WT.dA Yr;have M1:=MG.aU Yq λj hj=>abj hj
 have hwo:=IP.bH;have hwv:=IP.bq;have wQ:(h++[(⟨.m,0,4,[.agg [.int .i64 g.k,.str g.s,.int .i64 g.o,.aa false (ae g.l)]]⟩:aw)]++J1).length=h.length+1+J1.length:=by simp;omega
 have ga:dK 5 [.agg [w,.int .i64 g.k,.str g.s,.int .i64 g.o,.aa false (ae g.l)]]:=by
  unfold dK;rw[ace,acS];show((decide ((5:Nat)=5)&& (Pm.bH w&& (true&& (true&& (true&& (true&&true))))))&&true)=true;rw[hwo.1]
  rfl
 have zP:es.length=s.out.length:=M.FJ.len
 obtain⟨u,G3,bs,hu,PN,h3R,h3f,h3l⟩:∃u G3,((ar [.agg [w,.int .i64 g.k,.str g.s,.int .i64 g.o,.aa false (ae g.l)]]=true/\u=.aa true [.agg [w,.int .i64 g.k,.str g.s,.int .i64 g.o,.aa false (ae g.l)]]/\G3=h++[(⟨.m,0,4,[.agg [.int .i64 g.k,.str g.s,.int .i64 g.o,.aa false (ae g.l)]]⟩:aw)]++J1)\/(ar [.agg [w,.int .i64 g.k,.str g.s,.int .i64 g.o,.aa false (ae g.l)]]=false/\u=.ak (h++[(⟨.m,0,4,[.agg [.int .i64 g.k,.str g.s,.int .i64 g.o,.aa false (ae g.l)]]⟩:aw)]++J1).length 0 0 1/\G3=newObj (h++[(⟨.m,0,4,[.agg [.int .i64 g.k,.str g.s,.int .i64 g.o,.aa false (ae g.l)]]⟩:aw)]++J1) 5 [.agg [w,.int .i64 g.k,.str g.s,.int .i64 g.o,.aa false (ae g.l)]]))/\cu G3 u=some [.agg [w,.int .i64 g.k,.str g.s,.int .i64 g.o,.aa false (ae g.l)]]/\(∀i∈bV u,h.length+1<=i)/\HR G3/\(∀j,j<(h++[(⟨.m,0,4,[.agg [.int .i64 g.k,.str g.s,.int .i64 g.o,.aa false (ae g.l)]]⟩:aw)]++J1).length->G3[j]?=(h++[(⟨.m,0,4,[.agg [.int .i64 g.k,.str g.s,.int .i64 g.o,.aa false (ae g.l)]]⟩:aw)]++J1)[j]?)/\(h++[(⟨.m,0,4,[.agg [.int .i64 g.k,.str g.s,.int .i64 g.o,.aa false (ae g.l)]]⟩:aw)]++J1).length<=G3.length:=by
  cases Ab:ar [.agg [w,.int .i64 g.k,.str g.s,.int .i64 g.o,.aa false (ae g.l)]]
  ·refine⟨_,_,.inr ⟨rfl,rfl,rfl⟩,by simp[cu,getM,newObj],λi hi=>(by simp only[bV,abP]at hi;omega),Yq.wk (by simp) ?_,λj hj=>by rw[newObj,abj hj],by simp[newObj]⟩;simp only[bw,bq,acN];exact yi (f:=λi=>decide (i<(h++[(⟨.m,0,4,[.agg [.int .i64 g.k,.str g.s,.int .i64 g.o,.aa false (ae g.l)]]⟩:aw)]++J1).length)) (λi hi=>by have:=of_decide_eq_true hi;exact decide_eq_true (by omega)) _ hwv
  ·exact⟨_,_,.inl ⟨rfl,rfl,rfl⟩,rfl,by simp[bV],Yq,λ_ _=>rfl,abn _⟩
 have M3:=M1.aU h3R h3f;have zO:Out 4 G3 w (ae s.kn):=IP.of_eq λi hi=>h3f i (IP.ls i hi)
 obtain⟨r,G2,Vo,a2⟩:=GA T6 (H:=G3) (st:=22) (xt:=22) (v:=vo) (u:=u) (es:=es) (ys:=[.agg [w,.int .i64 g.k,.str g.s,.int .i64 g.o,.aa false (ae g.l)]]) rfl rfl rfl rfl rfl (by decide) rfl rfl M3.oo hu (λi hi h=>by have:=M.oo.ls i hi;have:=PN i h;omega) ga (by simp;omega)
 have ij:bw (λi=>decide (i<G3.length)) (es++[.agg [w,.int .i64 g.k,.str g.s,.int .i64 g.o,.aa false (ae g.l)]])=true:=by
  rw[gj,acj,<-gj,M3.FJ.TA];simp only[ace,acS,bq,bw,acN,acs];exact zO.bq
 have h2R:=a2.hr h3R ij;have hvr:∀i∈bV r,i∈bV vo\/G3.length<=i:=a2.bV;have Ys:∀i∈bV w,i<G3.length:=zO.ls;have Yt:∀i∈bV w,i∉bV vo:=λi hi h=>by have:=zR i hi;have:=M.oo.ls i h;omega
 have f3:∀j,j<h.length+1->G3[j]?=(h++[(⟨.m,0,4,[.agg [.int .i64 g.k,.str g.s,.int .i64 g.o,.aa false (ae g.l)]]⟩:aw)])[j]?:=λj hj=>by rw[h3f j (by omega),abj (by omega)]
 have fin:∀j,j<h.length->j∉bV vo->G2[j]?=h[j]?:=λj hj hv=>by
  rw[a2.fr j (by omega) hv,f3 j (by omega),abj hj]
 refine⟨w,J1,u,G3,r,G2,Vn,?_,IP,?_,bs,Vo,⟨h2R,a2.out,.snoc (w:=w) (d:=⟨s.kn,g⟩) (M.FJ.of_eq λi hi=>fin i (M.FJ.lt i hi) λhh=>(M.d1 i hh).2.2 hi) (zO.of_eq λi hi=>a2.fr i (Ys i hi) (Yt i hi)),M.ok.of_eq λi hi=>fin i (M.ok.ls i hi) λhh=>(M.d1 i hh).1 hi,M.ob.of_eq λi hi=>fin i (M.ob.ls i hi) λhh=>(M.d1 i hh).2.1 hi,λi hi=>?_,λi hi=>⟨(M.d2 i hi).1,λhh=>?_⟩⟩,?_⟩
 ·rcases hJ with rfl |rfl <;>simp
 ·have:=MG.ok.bq;exact yi (λi hi=>WT.TA (of_decide_eq_true hi)) _ this
 ·rcases hvr i hi with h1 |h1
  ·obtain⟨q1,q2,q3⟩:=M.d1 i h1;refine⟨q1,q2,λhh=>?_⟩;rcases abp.1 hh with hh |hh
   ·exact q3 hh
   ·exact Yt i hh h1
  ·refine⟨λhh=>by have:=M.ok.ls i hh;omega,λhh=>by have:=M.ob.ls i hh;omega,λhh=>?_⟩;rcases abp.1 hh with hh |hh
   ·have:=M.FJ.lt i hh;omega
   ·have:=Ys i hh;omega
 ·rcases abp.1 hh with hh |hh
  ·exact(M.d2 i hi).2 hh
  ·have:=zR i hh;have:=M.ob.ls i hi;omega
 ·rw[a2.fr h.length (by omega) (λhh=>by have:=M.oo.ls _ hh;omega),f3 _ (by omega)];simp
theorem Be(e:Nat->Bool)(h:ab):cy e h.length [] h=h:=by simp[cy]
theorem QV{C:cR}{T:lQ C.P}{M:ab}{t:TypeId}{c n sz:Nat}{mu:Mu}{cs:List PV}(hb:M[c]?=some ⟨mu,0,n,[.agg cs]⟩)(hm:mu≠.x)(hs:T.ts t=some (sz+1))(ht:T.ta t=some true)(hl:cs.length=sz+1):loadT T M t (.ptr c 0 0 0)=some (.agg cs):=by
 have hp:cN M (.ptr c 0 0 0)=some cs:=by simp[cN,bo hb rfl hm,cells]
 unfold loadT;rw[hs,ht,hp];have:Nat.ble (sz+1) cs.length=true:=Nat.ble_eq_true_of_le (by omega);simp only[this,if_true];rw[abO (by omega)]
theorem _root_.Go.Pm.aY.Vp{C:cR}{ops:Array Oper}{i d:Nat}{ty:TypeId}{pos:String}{af:Array Edge}{r:List Oper}{ρ:Nat->PV}{L:Al}{h:ab}{L0:Nat}{own:List Nat}{Q:St->Prop}{op:Op}{v:PV}{h':ab}(M J Hn:ab)(Yu:List Nat)
  (hc:∃n0,∀n,n0<=n->au C (fo C n) 1 op (al L ρ) M=some (v,h')) (k:aY C ops (i+1) r ⟨⟨al ((d,v)::L) ρ,Hn⟩,L0,Yu⟩ Q) (hHn:h++J=Hn) (ho:own++List.replicate J.length i=Yu) (hM:cy ((before ops).getD i 0).testBit L0 own h=M) (hJ:h'.drop h.length=J) (dw:aV M=true) (kU:(op.operands.toList.all λy=>bq (aQ M) (ev (al L ρ) y))=true)
  (vq:(J.all λo=>decide (o.mu≠.l))=true) (hh:cZ op=true:=by rfl) (hl:(level ops (before ops) i==2)=false:=by rfl):aY C ops i (⟨some d,op,ty,pos,af,none⟩::r) ⟨⟨al L ρ,h⟩,L0,own⟩ Q:=
 aY.C' M J hc (by rw[hHn,ho];exact k) hM hJ dw kU vq hh hl
theorem J'.C9{J H3:ab}{vo vk vb vb3:PV}{s:PM}{ids:List Nat}{es:List PV}{V:List Tm}(M:J' J vo vk vb s ids es)(l:LR J vb 4 (ae s.bd++ae V) vb3 H3):J' H3 vo vk vb3 ⟨s.kn,s.bd++V,s.out⟩ ids es:=by
 have fr:∀i,i<J.length->i∉bV vb->H3[i]?=J[i]?:=λi hi hv=>(Cr l hi hv).1
 have ob:=l.out;rw[<-bT]at ob;refine⟨l.hr,M.oo.of_eq λi hi=>fr i (M.oo.ls i hi) (M.d1 i hi).2.1,M.FJ.of_eq λi hi=>fr i (M.FJ.lt i hi) λhh=>(M.d2 i hh).2 hi,M.ok.of_eq λi hi=>fr i (M.ok.ls i hi) λhh=>(M.d2 i hh).1 hi,ob,λi hi=>?_,λi hi=>?_⟩
 ·obtain⟨q1,q2,q3⟩:=M.d1 i hi;exact⟨q1,(Cr l (M.oo.ls i hi) q2).2,q3⟩
 ·rcases l.bV i hi with h1 |h1
  ·exact M.d2 i h1
  ·exact⟨λhh=>by have:=M.ok.ls i hh;omega,λhh=>by have:=M.FJ.lt i hh;omega⟩
theorem yj{H:ab}{bi ep:Nat}{mu:Mu}{b:List Nat}{i n:Int}{r R:PV}{l:List Tm}{Q:PV->ab->Prop}(hb:H[bi]?=some ⟨mu,ep,1,eW b⟩)(hm:mu=.m\/mu=.f)(hr:Ls 4 H r (ae l))(a:aI C 64 [.aa false (eW b),.int .i64 i,.int .i64 n,.aa false (ae l)] R)(q:∀h',QO (bi::bV r) H h'->Q R h'):aj C 2 64 [.ak bi ep 0 (eW b).length,.int .i64 i,.int .i64 n,r] H Q:=by
 obtain⟨a2,b2,c2⟩:=hr.ke (by simp);have GH:mu≠.x:=by rcases hm with rfl |rfl <;>simp
 have ht:List.take b.length (eW b)=eW b:=abO (by simp);have Vq:ke H (.ak bi ep 0 (eW b).length)=some (.aa false (eW b)):=by simp[ke,oB,bo hb rfl GH,hm,ht]
 have i1:∀n:Int,ke H (.int .i64 n)=some (.int .i64 n):=λ_=>rfl
 have xJ:jK [.ak bi ep 0 (eW b).length,.int .i64 i,.int .i64 n,r]=bi::bV r:=by
  rcases hr with(⟨rfl,_⟩|⟨i,e,rfl,_⟩)|⟨f,rfl⟩ <;>rfl
 refine aj.Z5 (args':=[.aa false (eW b),.int .i64 i,.int .i64 n,a2]) (by simp only[gz,Vq,i1,b2]) (by simp[ar,aW]) (λid bW=>?_) (by simpa[aR,b9,c2]using a) (λh' z=>q h' (xJ▸z));rw[xJ]at bW;rcases abu.1 bW with rfl |bW
 ·exact⟨_,hb,by simp,hm⟩
 ·rcases hr with(⟨rfl,_⟩|⟨j,e,rfl,hj⟩)|⟨f,rfl⟩
  ·simp[bV]at bW
  ·simp[bV]at bW;subst bW;exact⟨_,hj,by simp,.inl rfl⟩
  ·simp[bV]at bW
theorem J'.QP{H H':ab}{l:List Nat}{vo vk vb:PV}{s:PM}{ids:List Nat}{es:List PV}(M:J' H vo vk vb s ids es)(z:QO l H H')(h:∀j∈l,j∉bV vo/\j∉bV vk/\j∉bV vb/\j∉ids):J' H' vo vk vb s ids es:=
 ⟨z.hr M.hr,M.oo.of_eq λi hi=>z.same i λhh=>(h i hh).1 hi,M.FJ.of_eq λi hi=>z.same i λhh=>(h i hh).2.2.2 hi,M.ok.of_eq λi hi=>z.same i λhh=>(h i hh).2.1 hi,M.ob.of_eq λi hi=>z.same i λhh=>(h i hh).2.2.1 hi,M.d1,M.d2⟩
theorem TE.QP{H H':ab}{l:List Nat}{bi ep:Nat}{b:List Nat}{vo vk vb:PV}{ids:List Nat}(B:TE H bi ep b vo vk vb ids)(z:QO l H H'):TE H' bi ep b vo vk vb ids:=by
 obtain⟨⟨mu,e,hm⟩,nb⟩:=B;obtain⟨mu',e',QW⟩:=z.pj bi _ e;refine⟨⟨mu',e',?_⟩,nb⟩;rcases QW with rfl |rfl
 ·exact hm
 ·exact .inr rfl
theorem Kb(bs:List (List Nat))(AS:∀b∈bs,FI b/\b.length<1000000)(hl:bs.length<1000000):
  aI C 19 [.aa false (gZ bs)] (.aa false (cw (eV bs))):=by
 have cr:=uF bs;refine aI.xd T6 Tryz.func19 rfl ?_;refine wA ?_;refine cO.zip T6 (bs.take 5) (λp q L H=>∃vo vk vb ids es,L=[(0,.aa false (gZ bs)),(3,vo),(4,vk),(5,vb),(6,.int .i64 p.length)]/\J' H vo vk vb (cV p) ids es) (.nx ⟨_,_,_,[],[],rfl,HV.nil.hr,.inl ⟨rfl,rfl⟩,.nil,.inl ⟨rfl,rfl⟩,.inl ⟨rfl,rfl⟩,by simp[bV],by simp[bV]⟩) ?_ ?_
 ·rintro p x q _ H ρ e ⟨vo,vk,vb,ids,es,rfl,M⟩;have di:=congrArg List.length e;simp only[abr,abx,ab7]at di;have e2:bs=p++x::(q++bs.drop 5):=by have:=(ac0 5 bs).symm;rw[e]at this;simpa using this
  have cm:=DV e2;have hH:=M.hr;obtain⟨hx8,Vr⟩:=AS x (by rw[e2];simp);have hex:=lZ x;refine wA ?_;refine .lr (λv1 h1 l1=>?_) (.inl ⟨rfl,rfl⟩) (Ka x) (by rw[lZ];simp;omega);have mB:=l1.hr;refine wA ?_;refine .lr (λv2 h2 l2=>?_) l1.out rfl (by simp;omega) (by exact bj _ _ (by simp));have oN:=l2.hr;have hle:H.length<=h2.length:=acb l1.len l2.len
  have Vs:∀j,j<H.length->h2[j]?=H[j]?/\j∉bV v2:=λj hj=>by
   obtain⟨a1,a2⟩:=Cr l1 hj (by simp[bV]);obtain⟨b1,b2⟩:=Cr l2 (by have:=l1.len;omega) a2;exact⟨b1.trans a1,b2⟩
  have QE:[]++eW x++[.int .u8 0,.int .u8 0]=eW (iZ x):=by simp[iZ,NA];rfl
  have ui:=l2.out;rw[QE]at ui
  obtain⟨bi,ep,rfl,hbi⟩:∃bi ep,v2=.ak bi ep 0 (eW (iZ x)).length/\h2[bi]?=some ⟨.m,ep,1,eW (iZ x)⟩:=by
   rcases ui with⟨_,h⟩|h
   ·have:=congrArg List.length h;simp[iZ]at this
   ·exact h
  have M2:=M.aU oN λj hj=>(Vs j hj).1
  have NF:∀j,j<H.length->j≠bi:=λj hj hh=>(Vs j hj).2 (by simp[bV,hh])
  have B2:TE h2 bi ep (iZ x) vo vk vb ids:=⟨⟨.m,hbi,.inl rfl⟩,λh=>NF bi (M.oo.ls bi h) rfl,λh=>NF bi (M.ok.ls bi h) rfl,λh=>NF bi (M.ob.ls bi h) rfl,λh=>NF bi (M.FJ.lt bi h) rfl⟩;clear Vs NF hbi;have WU:=yh (l:=iZ x) (by intro n hn;rcases abp.1 hn with h |h;exact hx8 n h;simp at h;omega) 0;have aa3:(eW (iZ x))[0+0]?=some (.int .u8 (fG (iZ x) 0:Int)):=nP (by simp[iZ]);have ht3:((fG (iZ x) 0:Nat):Int).tmod 3=((fG (iZ x) 0 % 3:Nat):Int):=Gs _ 3;have hlen:2<=(eW (iZ x)).length:=by simp[iZ]
  refine wA ?_;refine cO.zip T6 (List.range (fG (iZ x) 0 % 3)) (λa r L K=>∃PT,L=[(0,.aa false (gZ bs)),(3,vo),(4,PT),(5,vb),(6,.int .i64 p.length),(7,.ak bi ep 0 (eW (iZ x)).length),(8,.int .i64 a.length)]/\J' K vo PT vb ⟨(cV p).kn++LW (iZ x) (cV p).bd a.length,(cV p).bd,(cV p).out⟩ ids es/\TE K bi ep (iZ x) vo PT vb ids) (.nx ⟨_,rfl,by simpa[LW]using M2,B2⟩) ?_ ?_
  ·rintro a k r _ K ρ e3 ⟨PT,rfl,M3,B3⟩;have Dr:=congrArg List.length e3;simp only[abr,abx,List.length_range]at Dr;obtain⟨mu,hmb,Aa⟩:=B3.at_;have GH:mu≠Mu.x:=by rcases Aa with rfl |rfl <;>simp
   have hK:=M3.hr;refine wA ?_;refine .ex (sa K hK) (λh' hE=>?_);obtain⟨J,hJ,rfl⟩:=hE;have M4:=M3.aU (hK.dA hJ) (λj hj=>abj hj);have B4:=B3.aU (H':=K++J) (λj hj=>abj hj);clear M3 B3;have aaX:(cV p).bd.length<=1000:=by have:=(nN _ p rfl).bl;omega
   have hfb:=(nN _ p rfl).bf;rcases M4.ob with⟨rfl,sC⟩|⟨ib,eb,rfl,Cm⟩
   case' inl=>
    refine wA ?_;refine .nn ?_ rfl;have Z':(cV p).bd=[]:=abA (by have:=congrArg List.length sC;simpa using this);obtain⟨r',Vt⟩:∃r,r=PV.aa true (ae oq):=⟨_,rfl⟩;rw[<-Vt];have WV:Ls (3+1) (K++J) r' (ae (oq++(cV p).bd)):=.inr ⟨true,by rw[Vt,Z',abJ]⟩;have Yv:∀j∈bV r',j∉bV vo/\j∉bV PT/\j∉bV (.aa true [])/\j∉ids:=by rw[Vt];simp[bV]
    have M5:=M4;have B5:=B4;have Vu:=M4.hr;generalize K++J=HH at *;clear M4 B4
   case' inr=>
    obtain⟨r',J2,ha,WV,DD,hvr,_⟩:=Nv T6 (lv:=2) (by omega) (H:=K++J) (st:=31) (xt:=31) (es:=ae oq) (u:=.ak ib eb 0 (ae (cV p).bd).length) (ys:=ae (cV p).bd) rfl rfl rfl rfl rfl (by decide) rfl rfl M4.ob.cu (je _) (je _) (by rw[ai,ai,jB];omega);have Vu:HR (K++J++J2):=M4.hr.dA (by rcases DD with rfl |rfl;exact HV.nil;exact HV.one (by simp));have M5:=M4.aU Vu (λj hj=>abj hj);have B5:=B4.aU (H':=K++J++J2) (λj hj=>abj hj);rw[<-bT]at WV
    have Yv:∀j∈bV r',j∉bV vo/\j∉bV PT/\j∉bV (.ak ib eb 0 (ae (cV p).bd).length)/\j∉ids:=λj hj=>by
     have h0:=hvr j hj;exact⟨λh=>by have:=M4.oo.ls j h;omega,λh=>by have:=M4.ok.ls j h;omega,λh=>by have:=M4.ob.ls j h;omega,λh=>by have:=M4.FJ.lt j h;omega⟩
    refine wA ?_;refine .mk (λrun ρ=>An rfl rfl ha) ?_;generalize K++J++J2=HH at *;clear ha DD hvr M4 B4
   all_goals
    obtain⟨mu2,Vv,Vw⟩:=B5.at_;have uG:=qN (iZ x) (oq++(cV p).bd) 170 (by intro n hn;rcases abp.1 hn with h |h;exact hx8 n h;simp at h;omega) (by simp[iZ];omega) (by simp[jB];omega) (by simp[jB];omega) ((uA.mono (by omega)).cB hfb) 2 1 (1+3 * a.length) rfl (by omega)
    push_cast at uG
    rw[ao]at uG;refine wA ?_;refine yj Vv Vw WV uG (λh' z=>?_)
    have M6:=M5.QP z (λj hj=>by
     rcases abu.1 hj with rfl |hj
     ·exact B5.nb
     ·exact Yv j hj)
    have B6:=B5.QP z;clear M5 B5 z uG;have Ae:(cV p).kn.length<=1000:=by have:=(nN _ p rfl).kl;omega
    have Yw:=Nn (iZ x) (cV p).bd a.length;have Dq:=wX (iZ x) (cV p).bd a.length;obtain⟨r1,G1,r2,G2,cp⟩:=Yp M6.hr M6.ok (by simp;omega) (iq (iZ x) (oq++(cV p).bd) 2 (1+3 * a.length)).1;generalize iq (iZ x) (oq++(cV p).bd) 2 (1+3 * a.length)=gg at *;obtain⟨g,gn⟩:=gg;dsimp only at *;refine wA ?_;refine .calm ?_ _ (QR (λ_=>rfl) rfl (by simp) cp.nl (λrun ρ=>?_)) ?_
    rotate_left
    ·refine(zN (kBs rfl rfl rfl (Uo T6 (by exact rfl) rfl))).trans ?_;refine(zN (kP T6 (by exact rfl))).trans ?_;refine(zN (WE rfl rfl rfl rfl (An rfl rfl cp.Vn) cp.le1 cp.kp1)).trans ?_;refine(zN (kLd T6 (v:=.agg [.int .i64 g.k,.str g.s,.int .i64 g.o,.aa false (ae g.l)]) rfl cp.at0 (by simp) (by(conv=>whnf);exact .mk (o:=⟨.l,0,4,[.agg [.int .i64 g.k,.str g.s,.int .i64 g.o,.aa false (ae g.l)]]⟩) (.go (.mk (.go (by conv=>whnf)) rfl)) (bo cp.at1 rfl (by simp))))).trans ?_;refine(zN (kBs rfl rfl rfl (Uo T6 (by exact rfl) (by simp)))).trans ?_;refine(zN (WE rfl rfl rfl rfl (An rfl rfl cp.Vo) cp.le2 cp.kp2)).trans ?_;refine(zN (kP T6 (by exact rfl))).trans ?_;exact rfl
    ·refine wA ?_;have M7:=M6.aU cp.hr cp.fr;have B7:=B6.aU cp.fr;refine .nx ⟨r2,rfl,⟨M7.hr,M7.oo,M7.FJ,?_,M7.ob,λi hi=>⟨λh=>?_,(M7.d1 i hi).2⟩,λi hi=>⟨λh=>?_,(M7.d2 i hi).2⟩⟩,B7.at_,B7.nb.1,λh=>?_,B7.nb.2.2⟩
     ·have:=cp.out;rw[abr,List.length_singleton,Yw,<-abI];exact this
     ·have:=cp.vd i h;have:=M6.oo.ls i hi;omega
     ·have:=cp.vd i h;have:=M6.ob.ls i hi;omega
     ·have:=cp.vd bi h;obtain⟨_,e9,_⟩:=B6.at_;have:=ag e9;omega
  ·rintro _ K ρ ⟨PT,rfl,M3,B3⟩;obtain⟨mu,hmb,Aa⟩:=B3.at_;have GH:mu≠Mu.x:=by rcases Aa with rfl |rfl <;>simp
   have hK:=M3.hr;have hrl:(List.range (fG (iZ x) 0 % 3)).length=fG (iZ x) 0 % 3:=List.length_range;rw[hrl]at M3 ⊢;refine wA ?_;refine .ex (sa K hK) (λh' hE=>?_);obtain⟨J,hJ,rfl⟩:=hE;have Vu:HR (K++J++[⟨.m,0,4,ae oq++ae vC⟩]):=(hK.dA hJ).dA (HV.one (by simp));have M4:=(M3.aU (hK.dA hJ) (λj hj=>abj hj)).aU Vu (λj hj=>abj hj);have B4:=(B3.aU (H':=K++J) (λj hj=>abj hj)).aU (H':=K++J++[⟨.m,0,4,ae oq++ae vC⟩]) (λj hj=>abj hj)
   have Yx:∀j,(K++J).length<=j->j∉bV vo/\j∉bV PT/\j∉bV vb/\j∉ids:=λj hj=>by
    have h0:K.length<=j:=by simp at hj;omega
    exact⟨λh=>by have:=M3.oo.ls j h;omega,λh=>by have:=M3.ok.ls j h;omega,λh=>by have:=M3.ob.ls j h;omega,λh=>by have:=M3.FJ.lt j h;omega⟩
   clear M3 B3;have dv:=J8;refine wA ?_;refine .p dv ?_;refine wA ?_;refine .sn (es:=ae oq) ?_ rfl (by rw[ai,ai,jB,s9];omega)
   have WV:Ls 4 (K++J++[⟨.m,0,4,ae oq++ae vC⟩]) (.ak (K++J).length 0 0 ((ae oq).length+(ae vC).length)) (ae (oq++vC)):=by
    rw[bT];exact .inl (.inr ⟨(K++J).length,0,by rw[show(ae oq++ae vC).length=(ae oq).length+(ae vC).length from abr],by rw[abt (abn _)];simp⟩)
   obtain⟨mu2,Vv,Vw⟩:=B4.at_;have uG:=qN (iZ x) (oq++vC) 20 (by intro n hn;rcases abp.1 hn with h |h;exact hx8 n h;simp at h;omega) (by simp[iZ];omega) (by simp[jB];omega) (by simp[jB,s9]) (uA.cB x8) 2 1 7 rfl (by omega);rw[ao]at uG;refine wA ?_;refine yj Vv Vw WV uG (λh' z=>?_)
   have M6:=M4.QP z (λj hj=>by
    rcases abu.1 hj with rfl |hj
    ·exact B4.nb
    ·simp[bV]at hj;exact Yx j (by simp;omega))
   have B6:=B4.QP z;clear M4 B4 WV Yx Vu z;have aaa:FI (iZ x):=by intro n hn;rcases abp.1 hn with h |h;exact hx8 n h;simp at h;omega
   have Yy:=yh aaa 1;have aa4:(eW (iZ x))[0+1]?=some (.int .u8 (fG (iZ x) 1:Int)):=nP (by simp[iZ]);have hq3:((fG (iZ x) 0:Nat):Int).tdiv 3=((fG (iZ x) 0 / 3:Nat):Int):=QF _ 3;have hqt:(((fG (iZ x) 0:Nat):Int).tdiv 3).tmod 3=((fG (iZ x) 0 / 3 % 3:Nat):Int):=by rw[hq3];exact Gs _ 3
   have yf:=te (l:=vC) (i:=fG (iZ x) 1 % 4) (by rw[s9];omega);have hT:U' (iZ x)=if fG (iZ x) 0 / 3 % 3=0 then vC.getD (fG (iZ x) 1 % 4) dM else(iq (iZ x) (oq++vC) 2 7).1:=rfl;have hTo:=No (iZ x);have hfo:=vD p x;generalize iq (iZ x) (oq++vC) 2 7=gg at *;obtain⟨g0,gn⟩:=gg;dsimp only at *;generalize vC.getD (fG (iZ x) 1 % 4) dM=g1 at *;rw[ao]at yf;obtain⟨mu3,aa5,aab⟩:=B6.at_;have aa6:mu3≠Mu.x:=by rcases aab with rfl |rfl <;>simp
   have hRc:HR (h'++[⟨.m,0,4,[.agg [.int .i64 g0.k,.str g0.s,.int .i64 g0.o,.aa false (ae g0.l)]]⟩]):=M6.hr.dA (HV.one (by simp))
   by_cases hz:fG (iZ x) 0 / 3 % 3=0
   case' pos=>
    rw[if_pos hz]at hT;refine wA ?_;refine .raw _ (Ts (by omega) (by omega)) ?_;refine wH ?_;refine .mk ?_;refine wH ?_;refine .mk _ (by simpa[aR,b9]using dv) ?_;refine wH ?_;clear hRc;generalize g1=g at *
   case' neg=>
    rw[if_neg hz]at hT;refine wA ?_;refine .raw _ (Ts (by omega) (by omega)) ?_;refine wH ?_;clear hRc;generalize g0=g at *
   all_goals
    have hRc:HR (h'++[(⟨.m,0,4,[.agg [.int .i64 g.k,.str g.s,.int .i64 g.o,.aa false (ae g.l)]]⟩:aw)]):=M6.hr.dA (HV.one (by simp));have dw:=hRc.closed;have ok:=nN _ p rfl;have Ae:=ok.kl;have hol:=ok.ol;have Du:=ok.bl;have Dq:=wX (iZ x) (cV p).bd (fG (iZ x) 0 % 3);obtain⟨w,J1,u,G3,r2,G2,cp⟩:=Z9 M6 (by simp;omega) (by dsimp only;omega) g;have M7:=cp.md;have hR7:=M7.hr;have ll:=cp.cell;have DW:=nQ g (by rw[<-hT];omega);have PS:=ai (bu g);have hgb:ax g<=170:=by rw[<-hT];exact hTo.2
    have Yz:=eO g;have oQ:=ai (cV p).bd;rw[ao]at DW;refine .raw (λρ'=>?_);refine D.move rfl ?_;refine .Vp (h'++[(⟨.m,0,4,[.agg [.int .i64 g.k,.str g.s,.int .i64 g.o,.aa false (ae g.l)]]⟩:aw)]) [] (h'++[(⟨.m,0,4,[.agg [.int .i64 g.k,.str g.s,.int .i64 g.o,.aa false (ae g.l)]]⟩:aw)]) [] ⟨0,λn _=>Kc T6 (vs:=[]) (by exact rfl) rfl⟩ ?_ (by simp) rfl (Be _ _) (by simp) dw rfl rfl;refine D.move rfl ?_;refine .Vp (h'++[(⟨.m,0,4,[.agg [.int .i64 g.k,.str g.s,.int .i64 g.o,.aa false (ae g.l)]]⟩:aw)]) J1 (h'++[(⟨.m,0,4,[.agg [.int .i64 g.k,.str g.s,.int .i64 g.o,.aa false (ae g.l)]]⟩:aw)]++J1) (List.replicate J1.length 3) ⟨0,λn _=>An rfl rfl cp.Vn⟩ ?_ rfl (by simp) (Be _ _) (by simp) dw (by show(true&& (bq (aQ (h'++[(⟨.m,0,4,[.agg [.int .i64 g.k,.str g.s,.int .i64 g.o,.aa false (ae g.l)]]⟩:aw)])) PT &&true))=true;rw[cp.vkv];rfl) cp.jl;refine .Vp (h'++[(⟨.m,0,4,[.agg [.int .i64 g.k,.str g.s,.int .i64 g.o,.aa false (ae g.l)]]⟩:aw)]++J1.map eT) [] (h'++[(⟨.m,0,4,[.agg [.int .i64 g.k,.str g.s,.int .i64 g.o,.aa false (ae g.l)]]⟩:aw)]++J1) (List.replicate J1.length 3) ⟨0,λn _=>Ke T6 (v:=.agg [.int .i64 g.k,.str g.s,.int .i64 g.o,.aa false (ae g.l)]) rfl (QV (mu:=.m) (n:=4) (by simp) (by simp) rfl rfl rfl)⟩ ?_ (by simp) (by simp) (Bf rfl) (by simp) (vE dw) (by show(aQ (h'++[(⟨.m,0,4,[.agg [.int .i64 g.k,.str g.s,.int .i64 g.o,.aa false (ae g.l)]]⟩:aw)]++J1.map eT) h'.length&&true)=true;simp[aQ]) rfl
    rcases cp.ow with⟨hw,_⟩|⟨iw,ew,hw,_⟩ <;>subst hw
    all_goals
     refine aY.sP T6 ?_
     conv=>whnf
     skip
     refine aY.two rfl ?_ ⟨0,λn _=>Yl T6 (z:=5) ?_ cp.bs⟩ ?_
     ·rfl
     ·exact⟨rfl,rfl⟩
     refine aY.two rfl rfl ⟨0,λn _=>An rfl rfl cp.Vo⟩ ?_;refine D.assign rfl ?_;refine aY.nil ⟨_,_,rfl,?_⟩
     conv=>whnf
     refine wA ?_;refine .p DW ?_;refine wA ?_;refine .lr (λvb3 H3 l3=>?_) M7.ob (je _) (by dsimp only;omega) (bj _ _ (by simp));refine wA ?_;have YA:cV (p++[x])=⟨(cV p).kn++LW (iZ x) (cV p).bd (fG (iZ x) 0 % 3),(cV p).bd++bu g,(cV p).out++[⟨(cV p).kn++LW (iZ x) (cV p).bd (fG (iZ x) 0 % 3),g⟩]⟩:=by rw[hfo,uB,hT]
     have M8:=M7.C9 l3;dsimp only at M8;rw[<-YA]at M8;exact .nx ⟨r2,PT,vb3,_,_,rfl,M8⟩
 ·rintro _ H ρ ⟨vo,vk,vb,ids,es,rfl,M⟩;have hl6:(bs.take 5).length=min 5 bs.length:=by simp
  refine wC (λhc=>?_) λhc=>?_
  all_goals exact M.FJ.ret M.oo
def p8(x:List Nat):Bool:=decide (20<x.length)
theorem NC(l:List (List Nat))(hl:l.length<1000000000):aI C 123 [.aa false (gZ l),.fn 63 []] (.int .i64 (wo p8 l)):=by
 have cr:=uF l;refine aI.x T6 Tryz.func123 rfl ?_;refine wA ?_;refine cO.zip T6 l (λa q L K=>L=[(0,.aa false (gZ l)),(1,.fn 63 []),(7,.int .i64 (gZ l).length),(8,.int .i64 a.length)]/\HV K/\∀y∈a,p8 y=false) (.nx ⟨rfl,HV.nil,by simp⟩) ?_ ?_
 ·rintro a x q _ K ρ e ⟨rfl,hK,ha⟩;have cm:=DV e;have di:=lenE e;have Co:aI C 63 [.aa false (eW x)] (.bool (p8 x)):=GC x;refine wA ?_;refine .p Co ?_
  cases hb:p8 x
  ·refine wA ?_;exact .nx ⟨rfl,hK,λy hy=>by rcases abp.1 hy with h |h;exact ha y h;simp at h;rw[h];exact hb⟩
  ·refine wA ?_;exact⟨_,rfl,by rw[e,qO ha hb];rfl⟩
 ·rintro _ K ρ ⟨rfl,hK,ha⟩;refine wA ?_;exact⟨_,rfl,by rw[lJ ha];rfl⟩
theorem ND(l:List (List Nat))(hl:l.length<1000000000):aI C 62 [.aa false (gZ l),.fn 63 []] (.bool (l.any p8)):=by
 have hi:=NC l hl;have ha:=tf p8 l;refine aI.x T6 Tryz.func62 rfl ?_;refine wA ?_;refine .p hi ?_;refine wC (λhc=>?_) λhc=>?_
 all_goals exact⟨_,rfl,by rw[<-ha];simp[aO, *]⟩
def Cp(b:List (List Nat))(s:List Nat):Bool:=decide (b.length<=5)&&decide (s.length<=10)&& !(b.any p8)
theorem J9(b:List (List Nat))(s:List Nat)(hb:b.length<1000000000)(hs:s.length<1000000000):aI C 18 [.aa false (gZ b),.aa false (eW s)] (.bool (Cp b s)):=by
 have h1:=ND b hb;have e1:=uF b;have e2:=lZ s;have hS:Cp b s=(decide (b.length<=5)&&decide (s.length<=10)&& !(b.any p8)):=rfl;generalize b.any p8=W at *;refine aI.x T6 Tryz.func18 rfl ?_;refine wJ (λhc hc=>?_) (λhc hc=>?_) λhc=>?_
 ·refine .p h1 ?_
  cases W
  ·refine wA ?_;exact⟨_,rfl,by rw[hS,decide_eq_true (by omega),decide_eq_true (by omega)];rfl⟩
  ·refine wA ?_;exact⟨_,rfl,by rw[hS];simp[aO]⟩
 ·exact⟨_,rfl,by rw[hS,decide_eq_false (p:=s.length<=10) (by omega)];simp[aO]⟩
 ·exact⟨_,rfl,by rw[hS,decide_eq_false (p:=b.length<=5) (by omega)];simp[aO]⟩
theorem IM{C:cR}(T:lQ C.P){run:iI}{L:Al}{ρ:Nat->PV}{M:ab}{t:TypeId}{z:PV}{n:Nat}(hz:T.tz t=some z)(ho:(cells z).all Pm.bH=true)(hn:(cells z).length=n+1):au C run 1 (.alloc t) (al L ρ) M=some (.ptr M.length 0 0 0,M++[⟨.m,0,n+1,[z]⟩]):=by
 simp only[au,aC,T.nt _ _ hz];rw[if_pos ⟨by omega,ho,by omega⟩,hn]
 rfl
theorem oZ(a b:List dD):bD (a++b)=bD a++bD b:=by simp[bD]
theorem GF(vs:List Tm)(s:List Nat)(hs:FI s)(NE:s.length<1000000)(PS:vs.length<1000000)(hvb:∀t∈vs,ax t<1000000):
  aI C 20 [.aa false (ae vs),.aa false (eW s)] (.aa false (bD (QL vs s))):=by
 have cr:=ai vs;have heu:=lZ s;refine aI.x T6 Tryz.func20 rfl ?_;refine wA ?_;refine cO.zip T6 vs (λp q L H=>∃v,L=[(0,.aa false (ae vs)),(1,.aa false (eW s)),(5,v),(6,.int .i64 p.length)]/\HV H/\Out 8 H v (bD (lY s 0 p))) (.nx ⟨_,rfl,HV.nil,.inl ⟨rfl,rfl⟩⟩) ?_ ?_
 ·rintro p x q _ H ρ e ⟨v,rfl,hH,ho⟩;have cm:=bg e;have di:=lenE e;have hle:=gi (lY s 0 p);have hlg:=(wY s 0 p).1;have hn:=yh hs p.length;have m':=A9 s x 0 p;rw[abE]at m';have hxb:=hvb x (by rw[e];simp);have WS:Gw x (fG s p.length)=if fG s p.length % 3≠0/\lq x (oq.getD (fG s p.length / 2 % (ae oq).length) dM)=true then oq.getD (fG s p.length / 2 % (ae oq).length) dM else Gv (fG s p.length % 2) x.o:=rfl;have hld:=uA.getD (i:=fG s p.length / 2 % (ae oq).length) (by rw[ai];exact ado _ (by rw[jB];omega));have zY:=te (l:=oq) (i:=fG s p.length / 2 % (ae oq).length) (by rw[ai];exact ado _ (by rw[jB];omega));have hlf:=sa;have Z7:(ae oq).length=7:=ai oq;generalize oq.getD (fG s p.length / 2 % (ae oq).length) dM=g at *;generalize Gw x (fG s p.length)=R at *;have GG:=Bc x g (by omega) (by omega);generalize lq x g=F at *;rw[ao]at zY GG;have Cq:=DU (fG s p.length % 2) (by omega)
  have QU:Gv (fG s p.length % 2) x.o=.mk 2 (⟨#[101,35]⟩++⟨#[UInt8.ofNat (48+fG s p.length % 2)]⟩) x.o []:=by
   rw[Gv];rfl
  have hDs:(⟨#[UInt8.ofNat (48+fG s p.length % 2)]⟩:ByteArray).size=1:=rfl;have hEs:(⟨#[101,35]⟩:ByteArray).size=2:=rfl;generalize(⟨#[UInt8.ofNat (48+fG s p.length % 2)]⟩:ByteArray)=Dg at *;have Vm:=jc (⟨#[101,35]⟩++Dg) x.o;rw[bh,pY]at Vm;generalize oq=LF at *
  by_cases Cm:p.length<s.length
  ·have hc:=nP Cm;generalize fG s p.length=N at *;have hq:((N:Nat):Int).tdiv 2=((N / 2:Nat):Int):=QF N 2;have ht:((N:Nat):Int).tmod 2=((N % 2:Nat):Int):=Gs N 2;have h3:((N:Nat):Int).tmod 3=((N % 3:Nat):Int):=Gs N 3;rw[<-ht]at Cq;refine wH ?_;refine .raw (λρ'=>?_);have dw:=hH.closed;refine D.move rfl ?_;refine aY.sP T6 ?_
   conv=>whnf
   refine wA ?_;refine D.kD dw rfl rfl rfl (by simp) (by simp[bw,bq]) rfl (by simpa[aR,b9]using Cq) ?_;refine aY.sP T6 ?_
   conv=>whnf
   refine wA ?_;refine D.move rfl ?_;refine D.move rfl ?_;refine aY.sR T6 ?_ dw (by repeat' (first |exact trivial |refine⟨?_,?_⟩|rfl))
   conv=>whnf
   refine wA ?_;refine aY.sP T6 ?_
   conv=>whnf
   skip
   refine aY.sR T6 ?_ dw (by repeat' (first |exact trivial |refine⟨?_,?_⟩|rfl))
   conv=>whnf
   skip
   refine D.kD dw rfl rfl rfl (by simp) (by simp[bw,bq]) rfl (by simpa[aR,b9]using Vm) ?_;refine .C' H [(⟨.m,0,4,[.agg [.int .i64 0,.str ByteArray.empty,.int .i64 0,.aa true []]]⟩:aw)] ⟨0,λn _=>IM T6 (z:=.agg [.int .i64 0,.str ByteArray.empty,.int .i64 0,.aa true []]) rfl rfl rfl⟩ ?_ (by simp[cy]) (by simp) dw rfl rfl;refine D.iM T6 (o:=(⟨.m,0,4,[.agg [.int .i64 0,.str ByteArray.empty,.int .i64 0,.aa true []]]⟩:aw)) (j:=0) rfl rfl rfl rfl (bo (by simp) rfl (by simp)) rfl rfl rfl rfl (abn 4) ?_;refine aY.heap (h':=H++[(⟨.m,0,4,[.agg [.int .i64 2,.str (⟨#[101,35]⟩++Dg),.int .i64 x.o,.aa false []]]⟩:aw)]) (by simp[eR,cells]) ?_;refine aY.nil ⟨_,_,rfl,?_⟩
   conv=>whnf
   skip
   refine .ex (hlf _ (hH.cB (HV.one (by simp))).hr) (λh' hE=>?_);obtain⟨J,hJ,rfl⟩:=hE;have hHJ:HV (H++[(⟨.m,0,4,[.agg [.int .i64 2,.str (⟨#[101,35]⟩++Dg),.int .i64 x.o,.aa false []]]⟩:aw)]++J):=(hH.cB (HV.one (by simp))).cB hJ;have hHK:HV (H++[(⟨.m,0,4,[.agg [.int .i64 2,.str (⟨#[101,35]⟩++Dg),.int .i64 x.o,.aa false []]]⟩:aw)]++J++[(⟨.m,0,4,[.agg [.int .i64 g.k,.str g.s,.int .i64 g.o,.aa false (ae g.l)]]⟩:aw)]):=hHJ.cB (HV.one (by simp));have h8:(H++[(⟨.m,0,4,[.agg [.int .i64 2,.str (⟨#[101,35]⟩++Dg),.int .i64 x.o,.aa false []]]⟩:aw)]++J++[(⟨.m,0,4,[.agg [.int .i64 g.k,.str g.s,.int .i64 g.o,.aa false (ae g.l)]]⟩:aw)])[H.length]?=some (⟨.m,0,4,[.agg [.int .i64 2,.str (⟨#[101,35]⟩++Dg),.int .i64 x.o,.aa false []]]⟩:aw):=by simp
   have zO:Out 8 (H++[(⟨.m,0,4,[.agg [.int .i64 2,.str (⟨#[101,35]⟩++Dg),.int .i64 x.o,.aa false []]]⟩:aw)]++J++[(⟨.m,0,4,[.agg [.int .i64 g.k,.str g.s,.int .i64 g.o,.aa false (ae g.l)]]⟩:aw)]) v (bD (lY s 0 p)):=((ho.cB _).cB _).cB _
   have hbO:R=Gv (N % 2) x.o->bD (lY s 0 (p++[x]))=bD (lY s 0 p)++[.agg [.int .i64 x.k,.str x.s,.int .i64 x.o,.aa false (ae x.l),.int .i64 2,.str (⟨#[101,35]⟩++Dg),.int .i64 x.o,.aa false []]]:=λh=>by
    rw[m',oZ,h,QU];simp[bD,oW,Tm.k,Tm.s,Tm.o,Tm.l]
   have hbG:R=g->bD (lY s 0 (p++[x]))=bD (lY s 0 p)++[.agg [.int .i64 x.k,.str x.s,.int .i64 x.o,.aa false (ae x.l),.int .i64 g.k,.str g.s,.int .i64 g.o,.aa false (ae g.l)]]:=λh=>by
    rw[m',oZ,h]
    rfl
   by_cases hm3:N % 3=0
   ·refine wG λv H lp=>?_;refine .nx ⟨_,rfl,lp.hv,?_⟩;rw[hbO (by rw[WS,if_neg (by simp[hm3])])];exact lp.out
   ·refine wA ?_;refine .p GG ?_
    cases F
    ·refine wG λv H lp=>?_;refine .nx ⟨_,rfl,lp.hv,?_⟩;rw[hbO (by rw[WS,if_neg (by simp)])];exact lp.out
    ·have hHS:HV (List.set (H++[(⟨.m,0,4,[.agg [.int .i64 2,.str (⟨#[101,35]⟩++Dg),.int .i64 x.o,.aa false []]]⟩:aw)]++J++[(⟨.m,0,4,[.agg [.int .i64 g.k,.str g.s,.int .i64 g.o,.aa false (ae g.l)]]⟩:aw)]) H.length (⟨.m,0,4,[.agg [.int .i64 g.k,.str g.s,.int .i64 g.o,.aa false (ae g.l)]]⟩:aw)):=hHK.set _ (by simp) (by simp);have h8S:(List.set (H++[(⟨.m,0,4,[.agg [.int .i64 2,.str (⟨#[101,35]⟩++Dg),.int .i64 x.o,.aa false []]]⟩:aw)]++J++[(⟨.m,0,4,[.agg [.int .i64 g.k,.str g.s,.int .i64 g.o,.aa false (ae g.l)]]⟩:aw)]) H.length (⟨.m,0,4,[.agg [.int .i64 g.k,.str g.s,.int .i64 g.o,.aa false (ae g.l)]]⟩:aw))[H.length]?=some (⟨.m,0,4,[.agg [.int .i64 g.k,.str g.s,.int .i64 g.o,.aa false (ae g.l)]]⟩:aw):=abl (by simp);have hoS:Out 8 (List.set (H++[(⟨.m,0,4,[.agg [.int .i64 2,.str (⟨#[101,35]⟩++Dg),.int .i64 x.o,.aa false []]]⟩:aw)]++J++[(⟨.m,0,4,[.agg [.int .i64 g.k,.str g.s,.int .i64 g.o,.aa false (ae g.l)]]⟩:aw)]) H.length (⟨.m,0,4,[.agg [.int .i64 g.k,.str g.s,.int .i64 g.o,.aa false (ae g.l)]]⟩:aw)) v (bD (lY s 0 p)):=zO.of_eq λi hi=>abm (by have:=ho.ls i hi;omega)
     refine wG λv H lp=>?_;refine .nx ⟨_,rfl,lp.hv,?_⟩;rw[hbG (by rw[WS,if_pos ⟨hm3,rfl⟩])];exact lp.out
  ·have hz:=w9 Cm;rw[hz]at Cq zY QU WS;have hq:(0:Int).tdiv 2=((0 / 2:Nat):Int):=rfl;have h3:(0:Int).tmod 3=((0 % 3:Nat):Int):=rfl;have Cq:aI C 68 [.int .i64 ((0:Int).tmod 2)] (.str Dg):=Cq;obtain⟨N,hN⟩:∃N,N=0:=⟨_,rfl⟩;rw[<-hN]at QU WS;refine wH ?_;refine .raw (λρ'=>?_);have dw:=hH.closed;refine D.move rfl ?_;refine aY.sP T6 ?_
   conv=>whnf
   refine wA ?_;refine D.kD dw rfl rfl rfl (by simp) (by simp[bw,bq]) rfl (by simpa[aR,b9]using Cq) ?_;refine aY.sP T6 ?_
   conv=>whnf
   refine wA ?_;refine D.move rfl ?_;refine D.move rfl ?_;refine aY.sR T6 ?_ dw (by repeat' (first |exact trivial |refine⟨?_,?_⟩|rfl))
   conv=>whnf
   refine wA ?_;refine aY.sP T6 ?_
   conv=>whnf
   skip
   refine aY.sR T6 ?_ dw (by repeat' (first |exact trivial |refine⟨?_,?_⟩|rfl))
   conv=>whnf
   skip
   refine D.kD dw rfl rfl rfl (by simp) (by simp[bw,bq]) rfl (by simpa[aR,b9]using Vm) ?_;refine .C' H [(⟨.m,0,4,[.agg [.int .i64 0,.str ByteArray.empty,.int .i64 0,.aa true []]]⟩:aw)] ⟨0,λn _=>IM T6 (z:=.agg [.int .i64 0,.str ByteArray.empty,.int .i64 0,.aa true []]) rfl rfl rfl⟩ ?_ (by simp[cy]) (by simp) dw rfl rfl;refine D.iM T6 (o:=(⟨.m,0,4,[.agg [.int .i64 0,.str ByteArray.empty,.int .i64 0,.aa true []]]⟩:aw)) (j:=0) rfl rfl rfl rfl (bo (by simp) rfl (by simp)) rfl rfl rfl rfl (abn 4) ?_;refine aY.heap (h':=H++[(⟨.m,0,4,[.agg [.int .i64 2,.str (⟨#[101,35]⟩++Dg),.int .i64 x.o,.aa false []]]⟩:aw)]) (by simp[eR,cells]) ?_;refine aY.nil ⟨_,_,rfl,?_⟩
   conv=>whnf
   skip
   refine .ex (hlf _ (hH.cB (HV.one (by simp))).hr) (λh' hE=>?_);obtain⟨J,hJ,rfl⟩:=hE;have hHJ:HV (H++[(⟨.m,0,4,[.agg [.int .i64 2,.str (⟨#[101,35]⟩++Dg),.int .i64 x.o,.aa false []]]⟩:aw)]++J):=(hH.cB (HV.one (by simp))).cB hJ;have hHK:HV (H++[(⟨.m,0,4,[.agg [.int .i64 2,.str (⟨#[101,35]⟩++Dg),.int .i64 x.o,.aa false []]]⟩:aw)]++J++[(⟨.m,0,4,[.agg [.int .i64 g.k,.str g.s,.int .i64 g.o,.aa false (ae g.l)]]⟩:aw)]):=hHJ.cB (HV.one (by simp));have h8:(H++[(⟨.m,0,4,[.agg [.int .i64 2,.str (⟨#[101,35]⟩++Dg),.int .i64 x.o,.aa false []]]⟩:aw)]++J++[(⟨.m,0,4,[.agg [.int .i64 g.k,.str g.s,.int .i64 g.o,.aa false (ae g.l)]]⟩:aw)])[H.length]?=some (⟨.m,0,4,[.agg [.int .i64 2,.str (⟨#[101,35]⟩++Dg),.int .i64 x.o,.aa false []]]⟩:aw):=by simp
   have zO:Out 8 (H++[(⟨.m,0,4,[.agg [.int .i64 2,.str (⟨#[101,35]⟩++Dg),.int .i64 x.o,.aa false []]]⟩:aw)]++J++[(⟨.m,0,4,[.agg [.int .i64 g.k,.str g.s,.int .i64 g.o,.aa false (ae g.l)]]⟩:aw)]) v (bD (lY s 0 p)):=((ho.cB _).cB _).cB _
   have hbO:R=Gv (N % 2) x.o->bD (lY s 0 (p++[x]))=bD (lY s 0 p)++[.agg [.int .i64 x.k,.str x.s,.int .i64 x.o,.aa false (ae x.l),.int .i64 2,.str (⟨#[101,35]⟩++Dg),.int .i64 x.o,.aa false []]]:=λh=>by
    rw[m',oZ,h,QU];simp[bD,oW,Tm.k,Tm.s,Tm.o,Tm.l]
   have hbG:R=g->bD (lY s 0 (p++[x]))=bD (lY s 0 p)++[.agg [.int .i64 x.k,.str x.s,.int .i64 x.o,.aa false (ae x.l),.int .i64 g.k,.str g.s,.int .i64 g.o,.aa false (ae g.l)]]:=λh=>by
    rw[m',oZ,h]
    rfl
   refine wG λv H lp=>?_;refine .nx ⟨_,rfl,lp.hv,?_⟩;rw[hbO (by rw[WS,if_neg (by rw[hN];simp)])];exact lp.out
 ·rintro _ H ρ ⟨v,rfl,hH,ho⟩;refine wA ?_;exact Ls.Gc (.inl ho) (by simp) (by simp[QL])
def uC(l:List fV):Nat:=(l.map λd=>bp d.kn+ax d.tm+2).sum
def ya(s:List dD):Nat:=(s.map λb=>ax b.v+ax b.t+1).sum
def cW(l:List fV):List Tm:=l.flatMap λd=>d.kn++[d.tm]
theorem qP(d:fV)(l:List fV):uC (d::l)=bp d.kn+ax d.tm+2+uC l:=by simp[uC]
theorem uH(b:dD)(s:List dD):ya (b::s)=ax b.v+ax b.t+1+ya s:=by simp[ya]
theorem DS{d:fV}:∀{l:List fV},d∈l->bp d.kn+ax d.tm+2<=uC l
 |u::l,h=>by
  rw[qP];rcases abu.1 h with rfl |h
  ·omega
  ·have:=DS h;omega
theorem yl{b:dD}:∀{l:List dD},b∈l->ax b.v+ax b.t+1<=ya l
 |u::l,h=>by
  rw[uH];rcases abu.1 h with rfl |h
  ·omega
  ·have:=yl h;omega
theorem pX:∀(l:List fV),l.length<=uC l
 |[]=>by simp
 |d::l=>by have:=pX l;rw[qP,abx];omega
theorem yk:∀(l:List dD),l.length<=ya l
 |[]=>by simp
 |d::l=>by have:=yk l;rw[uH,abx];omega
theorem LH(t:Tm):bp [t]=ax t:=by simp[bp]
theorem kM:∀(l:List fV),bp (cW l)<=uC l
 |[]=>by simp[cW,bp]
 |d::l=>by
  have:=kM l;rw[qP];simp only[cW,acJ,j0,LH]at this ⊢;omega
theorem yL(l:List fV)(hl:uC l<100000000):aI C 22 [.aa false (cw l)] (.aa false (ae (cW l))):=by
 have cr:=jT l;have Iz:=pX l;refine aI.x T6 Tryz.func22 rfl ?_;refine wA ?_;refine cO.zip T6 l (λp q L H=>∃v,L=[(0,.aa false (cw l)),(3,v),(4,.int .i64 p.length)]/\HV H/\Out 4 H v (ae (cW p))) (.nx ⟨_,rfl,HV.nil,.inl ⟨rfl,rfl⟩⟩) ?_ ?_
 ·rintro p d q _ H ρ e ⟨v,rfl,hH,ho⟩;have cm:=kJ e;have di:=lenE e;have mK:cW l=cW p++(d.kn++[d.tm])++cW q:=by rw[e];simp[cW]
  have FK:=kM l;have ME:=ba (cW l);have zJ:=congrArg List.length mK;simp only[abr,abx,abX]at zJ;have hle:=ai (cW p);have vq:=ai d.kn;have L9:ar [PV.agg [.int .i64 d.tm.k,.str d.tm.s,.int .i64 d.tm.o,.aa false (ae d.tm.l)]]=true:=by simp
  have e9:[.agg [.int .i64 d.tm.k,.str d.tm.s,.int .i64 d.tm.o,.aa false (ae d.tm.l)]]=ae [d.tm]:=by rw[ae,<-ao];rfl
  obtain⟨r1,H1,a1,o1,v1,l1,k1,n1⟩:=Tl T6 (st:=31) (xt:=31) (full:=false) (es:=ae (cW p)) (ys:=ae d.kn) rfl rfl rfl rfl rfl (by decide) rfl rfl ho (je _) (by omega) (by simp) (by simp) hH;have wQ:(ae (cW p)++ae d.kn).length=(cW p).length+d.kn.length:=by rw[abr];omega
  obtain⟨r2,H2,a2,o2,v2,l2,k2,n2⟩:=Tl T6 (st:=31) (xt:=31) (full:=true) (es:=ae (cW p)++ae d.kn) (ys:=[.agg [.int .i64 d.tm.k,.str d.tm.s,.int .i64 d.tm.o,.aa false (ae d.tm.l)]]) rfl rfl rfl rfl rfl (by decide) rfl rfl o1 rfl (by rw[wQ];simp;omega) (by rw[dy];simp) L9 v1;refine wA ?_;refine .calm ?_ H2 (F8 (λ_=>rfl) rfl (λj o h=>?_) (λrun ρ=>?_)) ?_
  rotate_left
  ·rcases n2 j o h with h |h
   ·exact .inl h
   ·exact n1 j o h
  ·refine(zN (kP T6 (by exact rfl))).trans ?_;refine(zN (kP T6 (by exact rfl))).trans ?_;refine(zN (kP T6 (by exact rfl))).trans ?_;refine(zN (kR T6 (by(conv=>whnf);exact .mk (n:=p.length) ⟨rfl⟩ rfl cm rfl) rfl)).trans ?_;refine(zN (kP T6 (by exact rfl))).trans ?_;refine(zN (kR T6 (by exact rfl) rfl)).trans ?_;refine(zN (WE rfl rfl rfl rfl (An rfl rfl a1) l1 k1)).trans ?_;refine(zN (kP T6 (by exact rfl))).trans ?_;refine(zN (kP T6 (by exact rfl))).trans ?_;refine(zN (kR T6 (by(conv=>whnf);exact .mk (n:=p.length) ⟨rfl⟩ rfl cm rfl) rfl)).trans ?_;refine(zN (kP T6 (by exact rfl))).trans ?_;refine(zN (kR T6 (by exact rfl) rfl)).trans ?_;refine(zN (kBs rfl rfl rfl (Uo T6 (by exact rfl) L9))).trans ?_;refine(zN (WE rfl rfl rfl rfl (An rfl rfl a2) l2 k2)).trans ?_;refine(zN (kP T6 (by exact rfl))).trans ?_;exact rfl
  ·refine wA ?_;refine .nx ⟨_,rfl,v2,?_⟩;rw[e9,<-bT,<-bT]at o2;rw[show cW (p++[d])=cW p++d.kn++[d.tm] by simp[cW]];exact o2
 ·rintro _ H ρ ⟨v,rfl,hH,ho⟩;refine wA ?_;exact Ls.Gc (.inl ho) (by simp) (by simp)
theorem NG{sz:Nat}{h:ab}{v:PV}{es:List PV}(o:Ls sz h v es)(hv:aW v=true):b9 v=.aa false (aR es):=by
 rcases o with(⟨rfl,rfl⟩|⟨id,ep,rfl,_⟩)|⟨f,rfl⟩
 ·rfl
 ·simp[aW]at hv
 ·simp[b9]
theorem NH{sz:Nat}{h:ab}{v:PV}{es:List PV}(o:Ls sz h v es)(hv:ar es=true):∀id∈(cells v).flatMap zU,∃o:aw,h[id]?=some o/\ar o.es=true/\(o.mu=.m\/o.mu=.f):=by
 rcases o with(⟨rfl,rfl⟩|⟨i,ep,rfl,e⟩)|⟨f,rfl⟩
 ·intro id bW;simp[cells,zU]at bW
 ·intro id bW
  simp[cells,zU]at bW;subst bW;exact⟨_,e,hv,.inl rfl⟩
 ·intro id bW;simp[cells,zU]at bW
theorem call2{f:FuncId}{sz1 sz2:Nat}{H:ab}{r1 r2 rv:PV}{mD dL:List PV}{Q:PV->ab->Prop}(o1:Ls sz1 H r1 mD)(o2:Ls sz2 H r2 dL)(a:aI C f [.aa false mD,.aa false dL] rv)(q:∀h',Q rv h')(hm:C.mode f=.pure:=by rfl)
  (zR:ar mD=true:=by simp) (Di:ar dL=true:=by simp) (FA:aR mD=mD:=by simp) (Tq:aR dL=dL:=by simp):aj C 2 f [r1,r2] H Q:=by
 by_cases Ab:ar [r1,r2]=true
 ·have Vx:=Ab;simp only[ar,acN,abq]at Vx;have n1:=NG o1 Vx.1;have n2:=NG o2 Vx.2;exact aj.pure hm Ab (by simpa[aR,n1,n2,FA,Tq]using a) (q H)
 ·obtain⟨a1,b1,c1⟩:=o1.ke zR;obtain⟨a2,b2,c2⟩:=o2.ke Di;refine aj.any (args':=[a1,a2]) (by simp[gz,b1,b2]) (by simpa using Ab) (λid bW=>?_) (by simpa[aR,c1,c2,FA,Tq]using a) q hm;simp only[jK,acJ,List.flatMap_nil,abJ,abp]at bW;rcases bW with bW |bW
  ·exact NH o1 zR id bW
  ·exact NH o2 Di id bW
theorem IQ{B:Nat}:∀{l:List fV},(∀d∈l,bp d.kn+ax d.tm+2<=B)->uC l<=l.length * B
 |[],_=>by simp[uC]
 |d::l,h=>by
  have h1:=h d (by simp);have h2:=IQ (l:=l) λx hx=>h x (by simp[hx])
  rw[qP,abx,ab9];omega
theorem IR{B:Nat}:∀{l:List dD},(∀d∈l,ax d.v+ax d.t+1<=B)->ya l<=l.length * B
 |[],_=>by simp[ya]
 |d::l,h=>by
  have h1:=h d (by simp);have h2:=IR (l:=l) λx hx=>h x (by simp[hx])
  rw[uH,abx,ab9];omega
theorem DX(b:List (List Nat)):uC (eV b)<=40000:=by
 obtain⟨h1,h2⟩:=DR b
 have h3:=IQ (B:=7900) (l:=eV b) λd hd=>by
  obtain⟨q1,q2,_,q4⟩:=h2 d hd;have:=td (B:=770) (l:=d.kn) λt ht=>(q2 t ht).2
  have:=abY 770 q1;omega
 have:=abY 7900 h1;omega
def Ao(b:List (List Nat))(s:List Nat):List dD:=QL (dj (eV b)) s
theorem DY(b:List (List Nat))(s:List Nat):(Ao b s).length<=4:=by
 have h1:=(oX b).1;have h2:=(wY s 0 (dj (eV b))).1;unfold Ao QL;omega
theorem IS(b:List (List Nat))(s:List Nat):∀x∈Ao b s,ax x.v<=20/\iQ x.t=true/\ax x.t<=20:=λx hx=>by
 obtain⟨h1,h2,h3⟩:=(wY s 0 (dj (eV b))).2 x hx;exact⟨(x8 x.v ((oX b).2 x.v h1)).2,(mQ.1 h2).1,h3⟩
theorem NI(b:List (List Nat))(s:List Nat):ya (Ao b s)<=200:=by
 have h3:=IR (B:=50) (l:=Ao b s) λd hd=>by have:=IS b s d hd;omega
 have:=abY 50 (DY b s);omega
theorem GI(l:List fV):fD l=cW l:=rfl
theorem GJ(l:List fV)(S:List dD)(hl:uC l<900000)(hS:ya S<900000)(yb:∀b∈S,iQ b.t=true):
  aI C 14 [.aa false (cw l),.aa false (bD S)] (.ct [.bool (kL l S).1,.int .i64 (kL l S).2]):=by
 have h1:=pX l;have h2:=kM l;have h3:=yk S;exact Kf l S (by omega) (by rw[GI];omega) (by omega) (λb hb=>by have:=yl hb;omega) yb
theorem Kg(b:List (List Nat)):aI C 21 [.aa false (ae (cW (eV b)))] (.aa false (ae (dj (eV b)))):=by
 have h0:=DX b;have rU:=kM (eV b);have uk:=ba (cW (eV b));have hvq:gb ((cW (eV b)).flatMap bu)=dj (eV b):=DZ (eV b);rw[<-hvq];refine p9 (cW (eV b)) ?_ (by omega) (λt ht=>by have:=bC ht;omega)
 have key:∀l:List Tm,(l.flatMap bu).length<=bp l:=by
  intro l
  induction l with
  |nil=>simp[bp]
  |cons t l ih=>
   have:=eO t;simp only[acJ,abr,bp];omega
 have:=key (cW (eV b));omega
end bE
def b8(n:Int):Int:=IntKind.u8.wrap n
def TL:ByteArray:=⟨#[40]⟩
def sRp:ByteArray:=⟨#[41]⟩
def W2:ByteArray:=⟨#[44]⟩
mutual
def ub:Tm->ByteArray
 | .mk k s o l=>wx (uc [b8 k,b8 o,b8 l.length]++s++TL) l++sRp
def wx(out:ByteArray):List Tm->ByteArray
 |[]=>out
 |t::l=>wx (out++(ub t++W2)) l
end
def u8(n:Int):UInt8:=UInt8.ofNat (b8 n).toNat
mutual
def L4:Tm->List UInt8
 | .mk k s o l=>u8 k::u8 o::u8 l.length::(s.toList++40::(CA l++[41]))
def CA:List Tm->List UInt8
 |[]=>[]
 |t::l=>L4 t++44::CA l
end
theorem Bu(a b:ByteArray):(a++b).toList=a.toList++b.toList:=by
 rw[ByteArray.toList_eq,ByteArray.toList_eq,ByteArray.toList_eq,ByteArray.data_append,Array.toList_append]
theorem VS(l:List Int):(uc l).toList=l.map λn=>UInt8.ofNat n.toNat:=by rw[ByteArray.toList_eq];rfl
theorem YS:TL.toList=[40]:=by rw[ByteArray.toList_eq];rfl
theorem YT:sRp.toList=[41]:=by rw[ByteArray.toList_eq];rfl
theorem YU:W2.toList=[44]:=by rw[ByteArray.toList_eq];rfl
theorem Of:∀(l:List Tm) (out:ByteArray),(∀t∈l,(ub t).toList=L4 t)->(wx out l).toList=out.toList++CA l
 |[],out,_=>by simp[wx,CA]
 |t::l,out,h=>by
  rw[wx,Of l _ (λu hu=>h u (by simp[hu])),Bu,Bu,h t (by simp),YU,CA];simp
theorem TM(t:Tm):(ub t).toList=L4 t:=by
 induction t using Tm.ind with
 |h k s o l ih=>
  rw[ub,Bu,Of l _ ih,Bu,Bu,VS,YS,YT,L4];simp[u8]
theorem Og{c:UInt8}(h:nX c.toNat=true):c≠40:=by
 rintro rfl
 revert h
 decide
theorem yF:∀{l:List UInt8},gT l=true->∀c∈l,c≠40
 |[],_,c,h=>by cases h
 |d::l,h,c,hc=>by
  simp only[gT,abq]at h;rcases abu.1 hc with rfl |hc
  ·exact Og h.1
  ·exact yF h.2 c hc
theorem I4{s:ByteArray}(h:dR s=true):∀c∈s.toList,c≠40:=by
 unfold dR wV at h
 cases e:s.toList with
 |nil=>intro c hc;cases hc
 |cons d l=>
  rw[e]at h;simp only[abq]at h;exact yF h.2
theorem Oh:∀{a b x y:List UInt8},(∀c∈a,c≠40)->(∀c∈b,c≠40)->a++40::x=b++40::y->a=b/\x=y
 |[],[],x,y,_,_,h=>⟨rfl,by simpa using h⟩
 |[],d::b,x,y,_,hb,h=>by
  simp only[abT,abH,adb]at h;exact absurd h.1.symm (hb d (by simp))
 |c::a,[],x,y,ha,_,h=>by
  simp only[abT,abH,adb]at h;exact absurd h.1 (ha c (by simp))
 |c::a,d::b,x,y,ha,hb,h=>by
  simp only[abH,adb]at h;obtain⟨h1,h2⟩:=Oh (λe he=>ha e (by simp[he])) (λe he=>hb e (by simp[he])) h.2;exact⟨by rw[h.1,h1],h2⟩
theorem Hb{a b:Int}(ha:0<=a/\a<256)(hb:0<=b/\b<256)(h:u8 a=u8 b):a=b:=by
 have w:∀n:Int,0<=n/\n<256->b8 n=n:=λn hn=>by
  have:IntKind.u8.wrap n=n % 256:=by simp[IntKind.wrap,IntKind.bits,IntKind.signed]
  unfold b8;rw[this];omega
 unfold u8 at h;rw[w a ha,w b hb]at h;have:=congrArg UInt8.toNat h;simp only[UInt8.toNat_ofNat']at this;omega
theorem Ew{k s o l}(h:node (.mk k s o l)=0):(1<=k/\k<=3)/\(0<=o/\o<=5)/\dR s=true/\l.length<=8:=by
 obtain⟨h1,h2⟩:=uq h;simp only[node]at h
 split at h
 ·cases h
 ·exact⟨by omega,by omega,h1,h2⟩
theorem sj:∀{l:List Tm},ia l=0->∀t∈l,nodes t=0
 |[],_,t,h=>by cases h
 |u::l,e,t,h=>by
  rw[ia]at e
  split at e
  ·rename_i hn;exact absurd e hn
  ·rcases abu.1 h with rfl |h
   ·omega
   ·exact sj e t h
theorem Ey:∀{l l':List Tm} {r r':List UInt8},l.length=l'.length->(∀t∈l,∀t' r r',nodes t'=0->L4 t++r=L4 t'++r'->t=t'/\r=r')->(∀t∈l',nodes t=0)->CA l++r=CA l'++r'->l=l'/\r=r'
 |[],[],r,r',_,_,_,h=>⟨rfl,by simpa[CA]using h⟩
 |[],_::_,_,_,e,_,_,_=>by simp at e
 |_::_,[],_,_,e,_,_,_=>by simp at e
 |t::l,t'::l',r,r',e,ih,hv,h=>by
  simp only[CA,abI,abH]at h;obtain⟨rfl,h1⟩:=ih t (by simp) t' _ _ (hv t' (by simp)) h;simp only[adb,true_and]at h1;obtain⟨rfl,h2⟩:=Ey (by simpa using e) (λu hu=>ih u (by simp[hu])) (λu hu=>hv u (by simp[hu])) h1;exact⟨rfl,h2⟩
theorem Rz(t:Tm):nodes t=0->∀(t':Tm) (r r':List UInt8),nodes t'=0->L4 t++r=L4 t'++r'->t=t'/\r=r':=by
 induction t using Tm.ind with
 |h k s o l ih=>
  intro hv t' r r' C5 h
  obtain⟨k',s',o',l'⟩:=t';obtain⟨v1,v2⟩:=lV hv;obtain⟨v1',v2'⟩:=lV C5;obtain⟨hk,ho,hs,hl⟩:=Ew v1;obtain⟨gv,PH,LQ,hl'⟩:=Ew v1';rw[L4,L4]at h;simp only[abH,adb,abI]at h;obtain⟨h1,h2,h3,h4⟩:=h;have e1:=Hb (by omega) (by omega) h1;have e2:=Hb (by omega) (by omega) h2;have e3:=Hb (by omega) (by omega) h3;obtain⟨e4,h5⟩:=Oh (I4 hs) (I4 LQ) h4;obtain⟨e5,h6⟩:=Ey (by omega) (λu hu t' r r'=>ih u hu (sj v2 u hu) t' r r') (sj v2') h5;simp only[abT,adb,true_and]at h6;exact⟨by rw[e1,e2,e5,xe e4],h6⟩
theorem RA{t t':Tm}(h:valid t=0)(h':valid t'=0)(e:ub t=ub t'):t=t':=by
 have h1:L4 t++[]=L4 t'++[]:=by rw[<-TM,<-TM,e]
 exact(Rz t (fq.1 h).1 t' [] [] (fq.1 h').1 h1).1
theorem nm(a b:ByteArray):(a++b).size=a.size+b.size:=ByteArray.size_append
mutual
theorem Ez:∀t,(ub t).size+1<=8 * ax t
 | .mk k s o l=>by
  have h:=Bv (uc [b8 k,b8 o,b8 l.length]++s++TL) l;rw[ub,nm,ax];rw[nm,nm]at h;have h1:(uc [b8 k,b8 o,b8 l.length]).size=3:=rfl;have h2:TL.size=1:=rfl;have h3:sRp.size=1:=rfl;omega
theorem Bv:∀(out:ByteArray) (l:List Tm),(wx out l).size<=out.size+8 * bp l
 |out,[]=>by simp[wx]
 |out,t::l=>by
  have h1:=Ez t;have h:=Bv (out++(ub t++W2)) l;rw[nm,nm]at h;have h2:W2.size=1:=rfl;have h3:=yG t;rw[wx,bp];omega
end
end Go.Pm
section
open Go.MapKept
namespace Go.Pm
def pz:List Tm->Tm->Nat
 |[],_=>0
 |u::l,t=>if aT u t=0 then 0 else pz l t+1
theorem zh{u p q:List Tm}{t:Tm}(h:fv u)(e:u=p++t::q):pz u t=p.length:=by
 subst e
 induction p with
 |nil=>rw[abT,pz,if_pos (cq t)];rfl
 |cons a p ih=>
  rw[abH]at h ⊢;obtain⟨h1,h2⟩:=abG.1 h;have:=h1 t (by simp);rw[pz,if_neg (by omega),ih h2]
  rfl
theorem RZ{u:List Tm}(h:fv u){t:Tm}(ht:t∈u):u[pz u t]?=some t:=by
 obtain⟨p,q,e⟩:=acC ht;rw[zh h e,e,abt (abn _),acw];rfl
theorem uT{u:List Tm}(h:fv u){t:Tm}(ht:t∈u):pz u t<u.length:=by
 obtain⟨p,q,e⟩:=acC ht;rw[zh h e,e];simp
def kV(u l:List Tm):List PV:=l.map λt=>.int .i64 (pz u t)
def mo(u r:List Tm):List PV:=u.map λt=>.bool (bF r t)
theorem ku(u r:List Tm):(mo u r).length=u.length:=by simp[mo]
theorem uU{u r:List Tm}(h:fv u){t:Tm}(ht:t∈u):(mo u r)[pz u t]?=some (.bool (bF r t)):=by
 rw[mo,abB,RZ h ht];rfl
theorem j8(a x:Tm)(r:List Tm):bF (a::r) x=(decide (aT x a=0)||bF r x):=by simp[bF]
theorem qZ{u r:List Tm}(h:fv u){t:Tm}(ht:t∈u):(mo u r).set (pz u t) (.bool true)=mo u (t::r):=by
 obtain⟨p,q,e⟩:=acC ht;rw[zh h e];subst e
 have hp:∀x∈p,bF (t::r) x=bF r x:=λx hx=>by
  have:=(acU.1 h).2.2 x hx t (by simp);rw[j8,decide_eq_false (by omega),acD]
 have hq:∀x∈q,bF (t::r) x=bF r x:=λx hx=>by
  have h1:=(abG.1 (acU.1 h).2.1).1 x hx;rw[j8,decide_eq_false,acD]
  intro h0
  rw[cP h0,cq]at h1;omega
 have e1:(p.map λx=>PV.bool (bF (t::r) x))=p.map λx=>PV.bool (bF r x):=ach λx hx=>by rw[hp x hx]
 have e2:(q.map λx=>PV.bool (bF (t::r) x))=q.map λx=>PV.bool (bF r x):=ach λx hx=>by rw[hq x hx]
 have e3:bF (t::r) t=true:=by rw[j8,cq];rfl
 simp only[mo,ab6,abD,e1,e2,e3];rw[acA _ _ (by simp),acy,acw]
 rfl
theorem HA(u r:List Tm)(h:∀x∈r,x∈u)(hu:fv u):(u.filter (bF r))=gb r:=by
 refine mL (iR hu) (jA _) λy=>?_;rw[acf,bU,eG];exact⟨λhh=>hh.2,λhh=>⟨h y hh,hh⟩⟩
def mA(r:List Tm)(t:Tm):List Tm:=if db t gd=true then t.l else if db t iF=true\/(mi t=0/\bF r (cg t)=true)then t.l.take 1 else[]
theorem Wc{r:List Tm}{t x:Tm}(h:x∈mA r t):x∈t.l:=by
 unfold mA at h
 split at h
 ·exact h
 ·split at h
  ·exact ab3 h
  ·cases h
structure Kp(u s r:List Tm):Prop where
 base:∀x∈s,x∈r
 Ep:∀x∈r,x∈u/\sf u s x
theorem Kp.add{u s r:List Tm}(h:Kp u s r){t:Tm}(ht:t∈u)(hd:sf u s t):Kp u s (t::r):=
 ⟨λx hx=>by simp[h.base x hx],λx hx=>by rcases abu.1 hx with rfl |hx;exact⟨ht,hd⟩;exact h.Ep x hx⟩
theorem Kp.opens{u s r:List Tm}(U:Bn u)(h:Kp u s r){t x:Tm}(ht:t∈r)(hx:x∈mA r t):x∈u/\sf u s x:=by
 obtain⟨mS,htd⟩:=h.Ep t ht;refine⟨U.kids t mS x (Wc hx),?_⟩;unfold mA at hx
 split at hx
 ·rename_i hp
  exact .part htd (by unfold mj;rw[if_pos hp];exact hx)
 ·rename_i hp
  split at hx
  ·rename_i hs
   by_cases hsg:db t iF=true
   ·exact .part htd (by unfold mj;rw[if_neg hp,if_pos hsg];exact hx)
   ·obtain⟨hk,hv⟩:=hs.resolve_left hsg;have hd:=sf.open htd hk (h.Ep _ (bU.1 hv)).2;have h3:=(U.key mS hk).2.2
    obtain⟨a,l',e⟩:∃a l',t.l=a::l':=by
     cases e:t.l with
     |nil=>rw[e]at h3;cases h3
     |cons a l'=>exact⟨a,l',rfl⟩
    rw[e]at hx;simp at hx;rw[hx];simpa[fO,e]using hd
  ·cases hx
structure OQ(u r:List Tm):Prop where
 W1:∀t∈u,wq t=true->t∈r
 comp:∀t∈u,mg r t=true->t∈r
 opn:∀t∈r,∀x∈mA r t,x∈r
theorem OQ.all{u s r:List Tm}(U:Bn u)(f:OQ u r)(h:Kp u s r){t:Tm}(hd:sf u s t):t∈r:=by
 induction hd with
 |base hx=>exact h.base _ hx
 |W1 h1 h2=>exact f.W1 _ h1 h2
 |comp h1 h2 _ ih=>
  refine f.comp _ h1 ?_;simp only[mg,h2,acs,abk];exact λx hx=>bU.2 (ih x hx)
 | @part t x _ hx ih=>
  refine f.opn t ih x ?_;unfold mj at hx;unfold mA
  split at hx
  ·rename_i hp;rw[if_pos hp];exact hx
  ·rename_i hp
   split at hx
   ·rename_i hs;rw[if_neg hp,if_pos (.inl hs)];exact hx
   ·cases hx
 | @«open»t _ hk _ ih1 ih2=>
  have mS:=(h.Ep _ ih1).1;have h3:=(U.key mS hk).2.2;refine f.opn t ih1 _ ?_;unfold mA
  have hnp:¬db t gd=true:=λhp=>by
   rcases(qT hk).2 with⟨h2,_⟩|⟨h2,_,_⟩
   ·rw[uN h2 nW.2.1]at hp;cases hp
   ·rw[uN h2 nW.2.2.2.1]at hp;cases hp
  rw[if_neg hnp,if_pos (.inr ⟨hk,bU.2 ih2⟩)]
  cases e:t.l with
  |nil=>rw[e]at h3;cases h3
  |cons a l'=>simp[fO,e]
theorem OQ.eq{u s r:List Tm}(U:Bn u)(f:OQ u r)(h:Kp u s r):gb r=qe u s:=
 I0 U (jA _) (λt ht=>h.Ep t ((eG _ _).1 ht)) λt _ hd=>(eG _ _).2 (f.all U h hd)
theorem mq{p q r:List Tm}{t:Tm}(h:bF r t=false):eJ (p++t::q) (t::r)<eJ (p++t::q) r:=by
 have hm:∀l:List Tm,eJ l (t::r)<=eJ l r:=λl=>by
  refine adJ λx _ hx=>?_;simp only[acG]at hx ⊢;rw[j8]at hx;simp only[ac5]at hx;exact hx.2
 have ht:bF (t::r) t=true:=by rw[j8,cq];rfl
 have h1:=hm p;have h2:=hm q;unfold eJ at *;rw[adA,adA,acO,acO,ht,h];simp;omega
def BG:Nat->List Tm->List PV
 |_,[]=>[]
 |n,t::l=>.agg [.str (ub t),.int .i64 n]::BG (n+1) l
theorem Jh:∀(p q:List Tm) (n:Nat),BG n (p++q)=BG n p++BG (n+p.length) q
 |[],q,n=>by simp[BG]
 |t::p,q,n=>by
  rw[abH,BG,BG,Jh p q (n+1),abH]
  congr 3
  simp only[abx];omega
theorem qn{t:Tm}(hv:valid t=0):∀(l:List Tm) (n i:Nat),(∀x∈l,valid x=0)->ru (.str (ub t)) (BG n l) i=some (if bF l t=true then some (i+pz l t,.int .i64 ((n+pz l t:Nat):Int))else none)
 |[],n,i,_=>rfl
 |x::l,n,i,h=>by
  rw[BG,ru];have hx:=h x (by simp);have ih:=qn hv l (n+1) (i+1) λy hy=>h y (by simp[hy])
  by_cases hxt:x=t
  ·subst hxt;have h1:bF (x::l) x=true:=by rw[j8,cq];rfl
   have h2:pz (x::l) x=0:=by rw[pz,if_pos (cq x)]
   have h4:ve (.str (ub x)) (.str (ub x))=some true:=congrArg some ((bytes_beq _ _).2 rfl);rw[h1,h2];simp only[h4];simp
  ·have h0:aT x t≠0:=λh0=>hxt (cP h0)
   have h0':aT t x≠0:=λh0=>hxt (cP h0).symm
   have h1:bF (x::l) t=bF l t:=by rw[j8,decide_eq_false h0',acD]
   have h2:pz (x::l) t=pz l t+1:=by rw[pz,if_neg h0]
   have h4:ve (.str (ub t)) (.str (ub x))=some false:=by
    refine congrArg some ?_
    cases hb:ub t==ub x with
    |false=>rfl
    |true=>exact absurd (RA hv hx ((bytes_beq _ _).1 hb)).symm hxt
   simp only[h4];rw[ih,h1,h2]
   congr 1
   split
   ·congr 2
    ·omega
    ·congr 1
     omega
   ·rfl
end Go.Pm
end
namespace Go.Pm
namespace bE
open Go.Proofs
attribute [local irreducible] aD az aL aJ Ev ah aj ay aY bJ
set_option maxRecDepth 4000
theorem uS(t:Tm)(hf:iQ t=true):aI C 223 [enc t] (.bool false):=by
 have h1:=kr t ⟨#[109,117,108]⟩;have h2:=kr t ⟨#[105,110,118]⟩;obtain⟨g1,g2,_⟩:=jF hf;rw[show db t ⟨#[109,117,108]⟩=false from g1]at h1;rw[show db t ⟨#[105,110,118]⟩=false from g2]at h2;rw[ao]at h1 h2 ⊢;refine aI.x T6 Tryz.func223 rfl ?_;refine wA ?_;refine .p h1 ?_;refine wA ?_;refine .p h2 ?_;refine wA ?_;exact⟨_,rfl,rfl⟩
theorem OO(t:Tm)(hf:iQ t=true):aI C 172 [enc t] (.bool false):=by
 have h0:=uS t hf;have h1:=kr t ⟨#[120,111,114]⟩;have h2:=kr t ⟨#[101,120,112]⟩;obtain⟨_,_,g1,g2,_⟩:=jF hf;rw[show db t ⟨#[120,111,114]⟩=false from g2]at h1;rw[show db t ⟨#[101,120,112]⟩=false from g1]at h2;rw[ao]at h0 h1 h2 ⊢;refine aI.x T6 Tryz.func172 rfl ?_;refine wA ?_;refine .p h0 ?_;refine wA ?_;refine .p h1 ?_;refine wA ?_;refine .p h2 ?_;refine wA ?_;exact⟨_,rfl,rfl⟩
theorem Hx(l:List Tm)(t:Tm)(ht:ax t<1000000000)(hl:l.length<1000000000)(hb:∀u∈l,ax u<1000000000):aI C 121 [.aa false (ae l),enc t] (.bool (bF l t)):=by
 have h1:=tM l t ht hl hb;rw[ao]at h1 ⊢;refine aI.x T6 Tryz.func121 rfl ?_;refine wA ?_;refine .p h1 ?_;refine wA ?_;exact⟨_,rfl,rfl⟩
theorem Hy(t:Tm)(hf:iQ t=true)(hb:ax t<1000000):aI C 287 [enc t] (.int .i64 (rq t)):=by
 have h1:=qm t (by omega);have h2:=vU t hb;have h3:=zg t hf (by omega);have hR:rq t=if gw t≠0 then gw t else if bu t≠[]then 13 else 0:=rfl;rw[ao]at h1 h2 h3 ⊢;refine aI.x T6 Tryz.func287 rfl ?_;refine wA ?_;refine .p h1 ?_
 by_cases hv:gw t=0
 ·rw[if_neg (by omega)]at hR;rw[decide_eq_true hv]at h3;rw[hv];refine wA ?_;refine .p h2 ?_
  by_cases hg:bu t=[]
  ·rw[if_neg (by simp[hg])]at hR;rw[decide_eq_true hg];refine wA ?_;refine .p h3 ?_;refine wA ?_;exact⟨_,rfl,by rw[hR];rfl⟩
  ·rw[if_pos hg]at hR;rw[decide_eq_false hg];refine wA ?_;exact⟨_,rfl,by rw[hR];rfl⟩
 ·rw[if_pos hv]at hR;refine wA ?_;exact⟨_,rfl,by rw[hR];rfl⟩
theorem E6(l:List Tm)(hf:∀t∈l,iQ t=true)(hl:l.length<10000000)(hb:∀t∈l,ax t<1000000):aI C 220 [.aa false (ae l)] (.int .i64 (jg l)):=by
 have cr:=ai l;refine aI.x T6 Tryz.func220 rfl ?_;refine wA ?_;refine cO.zip T6 l (λp q L H=>L=[(0,.aa false (ae l)),(3,.int .i64 p.length)]/\HV H/\∀u∈p,rq u=0) (.nx ⟨rfl,HV.nil,by simp⟩) ?_ ?_
 ·rintro p u q _ H ρ e ⟨rfl,hH,hp⟩;have cm:=bg e;have di:=lenE e;have hu:u∈l:=by rw[e];simp
  have h1:=Hy u (hf u hu) (hb u hu);rw[ao]at h1;refine wA ?_;refine .p h1 ?_
  by_cases hz:rq u=0
  ·rw[hz];refine wA ?_;refine .nx ⟨rfl,hH,λy hy=>?_⟩;rcases abp.1 hy with h |h
   ·exact hp y h
   ·simp at h;rw[h];exact hz
  ·refine wA ?_;exact⟨_,rfl,by rw[Ef e hp hz];rfl⟩
 ·rintro _ H ρ ⟨rfl,hH,hp⟩;refine wA ?_;exact⟨_,rfl,by rw[se hp];rfl⟩
theorem CO(l:List Tm)(hf:∀t∈l,iQ t=true)(hl:l.length<10000000):aI C 288 [.aa false (ae l)] (.aa false []):=by
 have cr:=ai l;refine aI.x T6 Tryz.func288 rfl ?_;refine wA ?_;refine cO.zip T6 l (λp q L H=>L=[(0,.aa false (ae l)),(3,.aa true []),(4,.int .i64 p.length)]/\HV H) (.nx ⟨rfl,HV.nil⟩) ?_ ?_
 ·rintro p u q _ H ρ e ⟨rfl,hH⟩;have cm:=bg e;have di:=lenE e;have hu:u∈l:=by rw[e];simp
  have h1:=kr u ⟨#[101,120,112]⟩;rw[show db u ⟨#[101,120,112]⟩=false from(jF (hf u hu)).2.2.1]at h1;have h2:=uS u (hf u hu);rw[ao]at h1 h2;refine wA ?_;refine .p h1 ?_;refine wA ?_;refine .p h2 ?_;refine wA ?_;exact .nx ⟨rfl,hH.cB (HV.one (by simp))⟩
 ·rintro _ H ρ ⟨rfl,hH⟩;refine wA ?_;exact⟨_,rfl,rfl⟩
theorem K5(l:List Tm)(hf:∀t∈l,iQ t=true)(hl:l.length<10000000):aI C 222 [.aa false (ae l)] (.int .i64 (if 200<l.length then 3 else 0)):=by
 have cr:=ai l;have h3:=CO l hf hl;refine aI.x T6 Tryz.func222 rfl ?_;refine wA ?_;refine cO.zip T6 l (λp q L H=>L=[(0,.aa false (ae l)),(3,.int .i64 0),(4,.int .i64 p.length)]/\HV H) (.nx ⟨rfl,HV.nil⟩) ?_ ?_
 ·rintro p u q _ H ρ e ⟨rfl,hH⟩;have cm:=bg e;have di:=lenE e;have hu:u∈l:=by rw[e];simp
  have h2:=uS u (hf u hu);rw[ao]at h2;refine wA ?_;refine .p h2 ?_;refine wA ?_;exact .nx ⟨rfl,hH⟩
 ·rintro _ H ρ ⟨rfl,hH⟩;refine wC (λhc=>?_) λhc=>?_
  ·rw[if_pos (by omega)];exact⟨_,rfl,rfl⟩
  ·rw[if_neg (by omega)];refine .p h3 ?_;refine wA ?_;exact⟨_,rfl,rfl⟩
theorem K6(l:List Tm)(hb:bp l<1000000):aI C 221 [.aa false (ae l)] (.aa false (ae (fQ l))):=by
 have cr:=ai l;have tY:=ba l;have kH:=lW l;have hse:=tO (cQ l) (by omega) (λu hu=>by obtain⟨t,ht,hu⟩:=fm.1 hu;have:=nM t u hu;have:=bC ht;omega);refine aI.x T6 Tryz.func221 rfl ?_;refine wA ?_;refine cO.zip T6 l (λp q L H=>∃v,L=[(0,.aa false (ae l)),(3,v),(4,.int .i64 p.length)]/\HV H/\Out 4 H v (ae (cQ p))) (.nx ⟨_,rfl,HV.nil,.inl ⟨rfl,rfl⟩⟩) ?_ ?_
 ·rintro p u q _ H ρ e ⟨v,rfl,hH,ho⟩;have cm:=bg e;have di:=lenE e;have hu:u∈l:=by rw[e];simp
  have DW:=tL u (by have:=bC hu;omega);have m':cQ (p++[u])=cQ p++pre u:=by rw[lK];simp[cQ]
  have Du:bp l=bp p+(ax u+bp q):=by rw[e,j0];simp[bp]
  have LV:=lW p;have hpu:=qJ u;have hle:=ai (cQ p);have hlu:=ai (pre u);rw[ao]at DW;refine wA ?_;refine .p DW ?_;refine wG λv H lp=>?_;refine .nx ⟨_,rfl,lp.hv,?_⟩;have:=lp.out;rw[m',bT];exact this
 ·rintro _ H ρ ⟨v,rfl,hH,ho⟩;refine wA ?_;refine .pl (.inl ho) hse (λh' fz=>?_);refine wA ?_;exact⟨_,rfl,by simp[aO,b9,fQ]⟩
theorem K7(k:List Tm)(t:Tm)(hf:∀u∈k++[t],iQ u=true)(hl:bp (k++[t])<1000000):
  aI C 171 [.aa false (ae k),.aa false (ae [t])] (.ct [.aa false (ae (if fF k t≠0 then[]else fQ (k++[t]))),.int .i64 (fF k t)]):=by
 have cr:=ai k;have vq:=ba (k++[t]);simp only[abr,abx,abX]at vq;have FK:∀u∈k++[t],ax u<1000000:=λu hu=>by have:=bC hu;omega
 have h1:=E6 (k++[t]) hf (by simp;omega) FK;have h2:=K6 (k++[t]) hl
 have h3:=K5 (fQ (k++[t])) (λy hy=>by
  obtain⟨a,ha,hb⟩:=fm.1 ((eG _ _).1 hy);exact tc (hf a ha) hb) (by have:=mh (k++[t]);omega)
 have hE:fF k t=if 60<k.length then 3 else if jg (k++[t])≠0 then jg (k++[t])else if 200<(fQ (k++[t])).length then 3 else 0:=rfl;generalize hU:fQ (k++[t])=U at *;have PO:fF k t=0->(if fF k t≠0 then[]else U)=U:=λh=>if_neg (by omega)
 have PQ:fF k t≠0->(if fF k t≠0 then[]else U)=[]:=λh=>if_pos h
 generalize(if fF k t≠0 then[]else U)=R at *;have abd:(ae [t]).length=1:=ai [t];refine aI.x T6 Tryz.func171 rfl ?_
 (repeat' (first |(refine Rn.go ?_;conv=>whnf)|refine .mk ?_ |refine .mk (λhc=>?_) λhc=>?_ |refine .lp λv H lp=>?_ |fail))
 ·rw[if_pos (by omega)]at hE;exact⟨_,rfl,by rw[PQ (by omega),hE];rfl⟩
 ·rw[if_neg (by omega)]at hE;have ho:=lp.out;have hH:=lp.hv;rw[abT]at ho;refine wG λv H lp=>?_;have ho:=lp.out;have hH:=lp.hv;rw[<-bT]at ho
  skip
  refine .YX (.inl ho) h1 ?_;refine wC (λhc=>?_) λhc=>?_
  ·have hz:jg (k++[t])=0:=by omega
   rw[if_neg (by omega)]at hE;refine .pl (.inl ho) h2 (λh' fz=>?_);refine wA ?_;refine .p h3 ?_;refine wC (λhc=>?_) λhc=>?_
   ·rw[PO (by omega),show fF k t=0 by omega];exact⟨_,rfl,by simp[aO,b9,aR]⟩
   ·exact⟨_,rfl,by rw[PQ (by omega),hE];rfl⟩
  ·rw[if_pos (by omega)]at hE;exact⟨_,rfl,by rw[PQ (by omega),hE];rfl⟩
theorem K8(k:List Tm)(t:Tm)(hf:∀u∈k++[t],iQ u=true)(hl:bp (k++[t])<1000000):
  aI C 120 [.aa false (ae k),enc t] (.ct [.aa false (ae (if fF k t≠0 then[]else fQ (k++[t]))),.int .i64 (fF k t)]):=by
 have h1:=K7 k t hf hl;have wm:ae [t]=[.agg [.int .i64 t.k,.str t.s,.int .i64 t.o,.aa false (ae t.l)]]:=by rw[ae,ao];rfl
 rw[wm]at h1;rw[ao];refine aI.x T6 Tryz.func120 rfl ?_;refine wA ?_;refine .p h1 ?_;refine wA ?_;exact⟨_,rfl,by simp[aO,b9,aR,aZ]⟩
theorem OP(s:ByteArray)(hs:s.size<1000000000):aI C 290 [.str s] (.bool (wu s.toList)):=by
 have hl:=bsize s;have hO:wu s.toList=((s.toList.take 2==[101,35])&& (!(s.toList.drop 2).isEmpty&& (s.toList.drop 2).all kN)):=rfl;have hx:(s.extract 0 2).toList=s.toList.take 2:=by rw[Bj,acv]
 have hE:(⟨#[101,35]⟩:ByteArray).toList=[101,35]:=VG;refine aI.x T6 Tryz.func290 rfl ?_;refine wI (λhc=>?_) (λhc hc=>?_) λhc hc=>?_
 ·have h0:s.toList.drop 2=[]:=abR (by omega);rw[h0]at hO;exact⟨_,rfl,by rw[hO];simp[aO,b9]⟩
 ·have ht:(s.toList.take 2==[101,35])=true:=by rw[<-hx,hc,hE];rfl
  have bN:(s.toList.drop 2).isEmpty=false:=by
   cases h:s.toList.drop 2 with
   |nil=>have:=congrArg List.length h;simp at this;omega
   |cons=>rfl
  rw[ht,bN]at hO;refine cO.zip T6 (s.toList.drop 2) (λp q L H=>L=[(0,.str s),(3,.int .i64 (2+p.length))]/\HV H/\p.all kN=true) (.nx ⟨rfl,HV.nil,rfl⟩) ?_ ?_
  ·rintro p c q _ H ρ e ⟨rfl,hH,hp⟩;have di:=congrArg List.length e;simp only[abr,abx,acX]at di;have hg:s[2+p.length]?=some c:=Kr (by rw[<-abS,e];simp);have hd:kN c=decide (48<=(c.toNat:Int)/\(c.toNat:Int)<=57):=rfl;have Ch:kN c=false->wu s.toList=false:=λh=>by rw[hO,e,acj,ace,h];simp
   refine wI (λhc=>?_) (λhc hc=>?_) λhc hc=>?_
   ·exact⟨_,rfl,by rw[Ch (by rw[hd];simp;omega)];rfl⟩
   ·exact⟨_,rfl,by rw[Ch (by rw[hd];simp;omega)];rfl⟩
   ·exact .nx ⟨rfl,hH,by rw[acj,hp];simp[hd];omega⟩
  ·rintro _ H ρ ⟨rfl,hH,hp⟩;have AX:(s.toList.drop 2).length=s.size - 2:=by rw[acX,hl]
   refine wA ?_;exact⟨_,rfl,by rw[hO,hp];rfl⟩
 ·have ht:(s.toList.take 2==[101,35])=false:=by
   rw[<-hx];have:¬(s.extract 0 2).toList=[101,35]:=by rw[<-hE];exact hc
   simpa using this
  rw[ht]at hO;exact⟨_,rfl,by rw[hO];rfl⟩
theorem E7(t:Tm)(hb:ax t<100000000)(hl:t.l.length<100000000):aI C 227 [enc t] (.bool (wq t)):=by
 have hss:t.s.size<100000000:=by obtain⟨k,s,o,l⟩:=t;simp only[ax]at hb;simp only[Tm.s];omega
 have h4:=OP t.s (by omega);have cr:=ai t.l;have hP:wq t=if t.k=3 then(eI t.s hC ||eI t.s qc)&&t.l.isEmpty else if t.k≠2 then false else if t.o=1\/t.o=5 then true else if t.o=4 then eI t.s nG ||wu t.s.toList else if t.o=0\/t.o=2\/t.o=3 then wu t.s.toList else false:=rfl
 have Re:t.l.isEmpty=decide (((ae t.l).length:Int)=0):=by
  rw[cr]
  cases t.l with
  |nil=>rfl
  |cons a l=>rw[decide_eq_false (by simp only[abx];omega)];rfl
 have z1:eI t.s hC=(t.s.toList==(⟨#[122,101,114,111]⟩:ByteArray).toList):=rfl;have z2:eI t.s qc=(t.s.toList==(⟨#[111,110,101]⟩:ByteArray).toList):=rfl;have z3:eI t.s nG=(t.s.toList==(⟨#[103]⟩:ByteArray).toList):=rfl;generalize wu t.s.toList=W at *;rw[ao];refine aI.x T6 Tryz.func227 rfl ?_
 (repeat' (first |(refine Rn.go ?_;conv=>whnf)|refine .mk ?_ |refine .tt ?_ |refine .ff ?_ |refine .mk (λhc=>?_) λhc=>?_ |fail))
 all_goals first
  |exact⟨_,rfl,by rw[hP,z1,z2,z3,Re];clear hP z1 z2 z3 Re cr h4;generalize(⟨#[122,101,114,111]⟩:ByteArray).toList=L1 at *;generalize(⟨#[111,110,101]⟩:ByteArray).toList=L2 at *;generalize(⟨#[103]⟩:ByteArray).toList=L3 at *;generalize((ae t.l).length:Int)=N at *;simp[aO,b9, *]⟩
  |(refine .p h4 ?_
    refine wA ?_;exact⟨_,rfl,by rw[hP,z1,z2,z3,Re];clear hP z1 z2 z3 Re cr h4;generalize(⟨#[122,101,114,111]⟩:ByteArray).toList=L1 at *;generalize(⟨#[111,110,101]⟩:ByteArray).toList=L2 at *;generalize(⟨#[103]⟩:ByteArray).toList=L3 at *;generalize((ae t.l).length:Int)=N at *;simp[aO,b9, *]⟩)
end bE
set_option maxRecDepth 4000
theorem Hz(a b c:ByteArray):a++b++c=a++(b++c):=xe (by simp only[Bu,abI])
namespace bE
open Go.Proofs
attribute [local irreducible] aD az aL aJ Ev ah aj ay aY bJ
theorem K9(k s o l)(hb:ax (.mk k s o l)<1000000)(ih:∀t∈l,aI C 225 [enc t] (.str (ub t))):aI C 225 [enc (.mk k s o l)] (.str (ub (.mk k s o l))):=by
 have cr:=ai l;have tY:=ba l;simp only[ax]at hb;have hR:ub (.mk k s o l)=wx (uc [b8 k,b8 o,b8 l.length]++s++TL) l++sRp:=by rw[ub]
 rw[hR,bh];generalize AS:uc [b8 k,b8 o,b8 l.length]++s++TL=base;have Wb:uc [b8 k,b8 o,b8 ((ae l).length:Nat)]++s++TL=base:=by rw[cr];exact AS
 have z1:(uc [b8 k,b8 o,b8 ((ae l).length:Nat)]).size=3:=rfl;have z2:(uc [b8 k,b8 o,b8 ((ae l).length:Nat)]++s).size=3+s.size:=by rw[nm,z1]
 have z3:(⟨#[40]⟩:ByteArray).size=1:=rfl;have z4:(⟨#[41]⟩:ByteArray).size=1:=rfl;have z5:(⟨#[44]⟩:ByteArray).size=1:=rfl;have zb:base.size=4+s.size:=by rw[<-Wb,nm,z2];show 3+s.size+1=_;omega
 refine aI.x T6 Tryz.func225 rfl ?_;refine wA ?_;refine .raw (b8 k) rfl ?_;refine wA ?_;refine .raw (b8 o) rfl ?_;refine wA ?_;refine .raw (b8 (ae l).length) rfl ?_;refine wA ?_;refine cO.zip T6 l (λp q L H=>∃x,L=[(1,.ptr 0 0 0 0),(3,.str x),(4,.int .i64 p.length)]/\HV H/\H[0]?=some ⟨.m,0,4,[.agg [.int .i64 k,.str s,.int .i64 o,.aa false (ae l)]]⟩/\wx base l=wx x q/\x.size<=base.size+8 * bp p) (.nx ⟨uc [b8 k,b8 o,b8 ((ae l).length:Nat)]++s++TL,rfl,HV.one (by simp),rfl,by rw[Wb],by rw[Wb];simp[bp]⟩) ?_ ?_
 ·rintro p u q _ H ρ e ⟨x,rfl,hH,h0,hx,hz⟩;have cm:=bg e;have di:=lenE e;have h1:=ih u (by rw[e];simp);have gM:=Ez u;have Du:bp l=bp p+(ax u+bp q):=by rw[e,j0];simp[bp]
  have hxz:=nm x (ub u);have hz9:(x++ub u++W2).size=x.size+(ub u).size+1:=by rw[nm,nm];rfl
  have m':bp (p++[u])=bp p+ax u:=by rw[j0];simp[bp]
  rw[ao]at h1;refine wA ?_;refine .p h1 ?_;refine wA ?_;refine .nx ⟨x++ub u++W2,rfl,hH,h0,?_,?_⟩
  ·rw[hx,wx,<-Hz]
  ·omega
 ·rintro _ H ρ ⟨x,rfl,hH,h0,hx,hz⟩;rw[hx];refine wA ?_;exact⟨_,rfl,rfl⟩
theorem pf(t:Tm):ax t<1000000->aI C 225 [enc t] (.str (ub t)):=by
 induction t using Tm.ind with
 |h k s o l ih=>
  intro hb
  refine K9 k s o l hb λt ht=>ih t ht ?_;have:=bC ht;simp only[ax]at hb;omega
theorem q8(u l:List Tm):(kV u l).length=l.length:=by simp[kV]
theorem CP{u l p q:List Tm}{x:Tm}(e:l=p++x::q):(kV u l)[p.length]?=some (.int .i64 (pz u x)):=by
 rw[kV,abB,e,abt (abn _),acw];rfl
theorem OR{s n:ByteArray}(h:s.toList=n.toList)(hn:tw n=true):tw s=true:=by
 unfold tw eI at *;rw[h];exact hn
theorem HB(u r:List Tm)(U:Bn u)(hl:u.length<10000000)(t:Tm)(ht:t∈u)(hb:ax t<10000000)(key:Int):aI C 228 [enc t,.agg [.aa false (kV u t.l),.int .i64 key],.aa false (mo u r)] (.bool (mg r t)):=by
 have lu:=q8 u t.l;have Ae:=ku u r;have uk:t.l.length<10000000:=by obtain⟨k,n,o,l⟩:=t;have:=ba l;simp only[ax]at hb;simp only[Tm.l];omega
 have hR:mg r t=((decide (t.k=3)&&tw t.s)&&t.l.all (bF r)):=rfl;have Zf:tw t.s=((t.s.toList==(⟨#[112,97,105,114]⟩:ByteArray).toList)||(t.s.toList==(⟨#[101,110,99]⟩:ByteArray).toList)||(t.s.toList==(⟨#[97,101,110,99]⟩:ByteArray).toList)||(t.s.toList==(⟨#[112,107]⟩:ByteArray).toList)||(t.s.toList==(⟨#[115,105,103,110]⟩:ByteArray).toList)||(t.s.toList==(⟨#[104,97,115,104]⟩:ByteArray).toList)):=rfl;rw[ao];refine aI.x T6 Tryz.func228 rfl ?_;refine wL (λhc=>?_) (λhc hc=>?_) (λhc hc hc=>?_) (λhc hc hc hc=>?_) (λhc hc hc hc hc=>?_) (λhc hc hc hc hc hc=>?_) λhc hc hc hc hc hc=>?_
 all_goals first
  |(have TT:tw t.s=true:=OR hc (by kernel_rfl)
    rw[TT,acN]at hR;refine cO.zip T6 t.l (λp q L H=>L=[(2,.aa false (mo u r)),(3,.ptr 0 0 0 0),(4,.ptr 1 0 0 0),(7,.int .i64 p.length)]/\HV H/\H[0]?=some ⟨.m,0,4,[.agg [.int .i64 t.k,.str t.s,.int .i64 t.o,.aa false (ae t.l)]]⟩/\H[1]?=some ⟨.m,0,2,[.agg [.aa false (kV u t.l),.int .i64 key]]⟩/\∀x∈p,bF r x=true) (.nx ⟨rfl,(HV.one (by simp)).cB (HV.one (by simp[ar,aW,kV])),rfl,rfl,by simp⟩) ?_ ?_
    ·rintro p x q _ H ρ e ⟨rfl,hH,h0,h1,hp⟩;have cm:=CP (u:=u) e;have q9:=U.kids t ht x (by rw[e];simp);have Dq:=uU (r:=r) U.oT q9;have cG:=uT U.oT q9;have di:=lenE e
     cases hx:bF r x
     ·rw[hx]at Dq;refine wA ?_;exact⟨_,rfl,by rw[hR,e,acj,ace,hx];simp[aO,b9]⟩
     ·rw[hx]at Dq;refine wA ?_;refine .nx ⟨rfl,hH,h0,h1,λy hy=>?_⟩;rcases abp.1 hy with h |h
      ·exact hp y h
      ·simp at h;rw[h];exact hx
    ·rintro _ H ρ ⟨rfl,hH,h0,h1,hp⟩;rw[abk.2 hp,acN]at hR;refine wC (λhc=>?_) λhc=>?_
     ·exact⟨_,rfl,by rw[hR,decide_eq_true (by omega)];rfl⟩
     ·exact⟨_,rfl,by rw[hR,decide_eq_false (by omega)];rfl⟩)
  |(have TT:tw t.s=false:=by
     rw[Zf];simp only[ac5,beq_eq_false_iff_ne];refine⟨⟨⟨⟨⟨?_,?_⟩,?_⟩,?_⟩,?_⟩,?_⟩ <;>assumption
    rw[TT,Bool.and_false]at hR;exact⟨_,rfl,by rw[hR];rfl⟩)
def Ay(u:List Tm)(t:Tm):Int:=if mi t=0 then pz u (cg t)else -1
def tC(H:ab)(u l:List Tm)(r:PV):Prop:=(l=[]/\r=.aa true [])\/∃a ep tl,r=.ak a ep 0 l.length/\H[a]?=some ⟨.m,ep,1,kV u l++tl⟩
theorem uV(u r:List Tm)(U:Bn u)(hl:u.length<10000000)(t:Tm)(ht:t∈u)(hb:ax t<10000000)(v:PV)(b:Nat)(H:ab)(hH:HR H)(hv:Out 1 H v (kV u t.l))(h0:H[b]?=some ⟨.m,0,1,mo u r⟩):
  ay C 229 [enc t,.agg [v,.int .i64 (Ay u t)],.ak b 0 0 u.length] H (λx h'=>HR h'/\H.length<=h'.length/\(∀j,j<H.length->h'[j]?=H[j]?)/\tC H u (mA r t) x):=by
 have h1:=kr t ⟨#[112,97,105,114]⟩;have h2:=kr t ⟨#[115,105,103,110]⟩;have n1:db t ⟨#[112,97,105,114]⟩=db t gd:=rfl;have n2:db t ⟨#[115,105,103,110]⟩=db t iF:=rfl;rw[n1]at h1;rw[n2]at h2;have hR:mA r t=if db t gd=true then t.l else if db t iF=true\/(mi t=0/\bF r (cg t)=true)then t.l.take 1 else[]:=rfl;have hkb:=ku u r;have lu:=q8 u t.l;have Du:=ag h0;have hK:Ay u t=if mi t=0 then(pz u (cg t):Int)else -1:=rfl;have ga:=U.ok t ht
 have uk:db t gd=true\/db t iF=true\/mi t=0->0<t.l.length:=λh=>by
  rcases h with h |h |h
  ·rw[As ga h Bt.1];omega
  ·rw[As ga h Bt.2.2.2.1];omega
  ·exact List.length_pos_of_mem (U.key ht h).2.2
 have fr:∀j,j<H.length->(H++[(⟨.m,0,4,[.agg [.int .i64 t.k,.str t.s,.int .i64 t.o,.aa false (ae t.l)]]⟩:aw)]++[(⟨.m,0,2,[.agg [v,.int .i64 (Ay u t)]]⟩:aw)])[j]?=H[j]?:=λj hj=>by rw[abI,abj hj]
 have W9:HR (H++[(⟨.m,0,4,[.agg [.int .i64 t.k,.str t.s,.int .i64 t.o,.aa false (ae t.l)]]⟩:aw)]++[(⟨.m,0,2,[.agg [v,.int .i64 (Ay u t)]]⟩:aw)]):=by
  refine HR.wk (hH.dA (HV.one (by simp))) (by simp) ?_;rcases hv with⟨rfl,_⟩|⟨a,ep,rfl,e⟩
  ·rfl
  ·have:=ag e;simp[bw,bq];omega
 have fb:=(fr b Du).trans h0
 have fp:(H++[(⟨.m,0,4,[.agg [.int .i64 t.k,.str t.s,.int .i64 t.o,.aa false (ae t.l)]]⟩:aw)]++[(⟨.m,0,2,[.agg [v,.int .i64 (Ay u t)]]⟩:aw)])[H.length+1]?=some (⟨.m,0,2,[.agg [v,.int .i64 (Ay u t)]]⟩:aw):=by
  have:=adm (l:=H++[(⟨.m,0,4,[.agg [.int .i64 t.k,.str t.s,.int .i64 t.o,.aa false (ae t.l)]]⟩:aw)]) (a:=(⟨.m,0,2,[.agg [v,.int .i64 (Ay u t)]]⟩:aw));simpa using this
 have ft:(H++[(⟨.m,0,4,[.agg [.int .i64 t.k,.str t.s,.int .i64 t.o,.aa false (ae t.l)]]⟩:aw)]++[(⟨.m,0,2,[.agg [v,.int .i64 (Ay u t)]]⟩:aw)])[H.length]?=some (⟨.m,0,4,[.agg [.int .i64 t.k,.str t.s,.int .i64 t.o,.aa false (ae t.l)]]⟩:aw):=by simp
 generalize hK2:Ay u t=ky at *;rw[ao]at h1 h2 ⊢;rcases hv with⟨rfl,e0⟩|⟨a,ep,rfl,e⟩
 ·have hz:t.l.length=0:=by rw[<-lu,e0];rfl
  have hp:db t gd=false:=by
   cases h:db t gd with
   |false=>rfl
   |true=>have:=uk (.inl h);omega
  have hs:db t iF=false:=by
   cases h:db t iF with
   |false=>rfl
   |true=>have:=uk (.inr (.inl h));omega
  have hk:mi t≠0:=λh=>by have:=uk (.inr (.inr h));omega
  rw[if_neg hk]at hK;rw[hp,hs,if_neg (by simp),if_neg (by simp[hk])]at hR;rw[hp]at h1;rw[hs]at h2;refine ay.x T6 Tryz.func229 rfl ?_;refine wA ?_;refine .p h1 ?_;refine wA ?_;refine .p h2 ?_;refine wA ?_;exact⟨W9,by simp,fr,.inl ⟨hR,rfl⟩⟩
 ·have fa:=(fr a (ag e)).trans e;have hla:(kV u t.l).length=t.l.length:=lu;have hg:getM (H++[(⟨.m,0,4,[.agg [.int .i64 t.k,.str t.s,.int .i64 t.o,.aa false (ae t.l)]]⟩:aw)]++[⟨.m,0,2,[.agg [.ak a ep 0 (kV u t.l).length,.int .i64 ky]]⟩]) a ep=some ⟨.m,ep,1,kV u t.l⟩:=bo fa rfl (by simp);have PX:kV u t.l=kV u (t.l.take 1)++kV u (t.l.drop 1):=by unfold kV;rw[<-ab6,ac0]
  refine ay.x T6 Tryz.func229 rfl ?_;refine wA ?_;refine .p h1 ?_
  cases hp:db t gd
  ·rw[hp,if_neg (by simp)]at hR;refine wA ?_;refine .p h2 ?_
   cases hs:db t iF
   ·rw[hs]at hR
    by_cases hk:mi t=0
    ·rw[if_pos hk]at hK;have Xa:=(U.key ht hk);have cG:=uT U.oT Xa.1;have cm:=uU (r:=r) U.oT Xa.1;rw[<-abE (pz u (cg t))]at cm;have ni:=uk (.inr (.inr hk))
     cases hh:bF r (cg t)
     ·rw[hh]at cm hR;rw[if_neg (by simp)]at hR;subst hK;refine wA ?_;exact⟨W9,by simp,fr,.inl ⟨hR,rfl⟩⟩
     ·rw[hh]at cm hR;rw[if_pos (by simp[hk])]at hR;have YN:(t.l.take 1).length=1:=by rw[ab7];omega
      subst hK;refine wA ?_;refine .mk (λrun lv ρ=>Oc T6 (o:=⟨.m,ep,1,kV u t.l⟩) (b:=1) rfl rfl rfl rfl hg rfl (abn _) (by omega)) ?_;refine wA ?_;exact⟨W9,by simp,fr,.inr ⟨a,ep,kV u (t.l.drop 1),by rw[hR,YN];rfl,by rw[hR,<-PX];exact e⟩⟩
    ·rw[if_neg hk]at hK;rw[if_neg (by simp[hk])]at hR;subst hK;refine wA ?_;exact⟨W9,by simp,fr,.inl ⟨hR,rfl⟩⟩
   ·rw[if_pos (.inl hs)]at hR;have ni:=uk (.inr (.inl hs));have YN:(t.l.take 1).length=1:=by rw[ab7];omega
    refine wA ?_;refine .mk (λrun lv ρ=>Oc T6 (o:=⟨.m,ep,1,kV u t.l⟩) (b:=1) rfl rfl rfl rfl hg rfl (abn _) (by omega)) ?_;refine wA ?_;exact⟨W9,by simp,fr,.inr ⟨a,ep,kV u (t.l.drop 1),by rw[hR,YN];rfl,by rw[hR,<-PX];exact e⟩⟩
  ·rw[hp,if_pos rfl]at hR;refine wA ?_;exact⟨W9,by simp,fr,.inr ⟨a,ep,[],by rw[hR,<-hla];rfl,by rw[hR,abJ];exact e⟩⟩
end bE
open Go.Proofs
section
variable{C:cR}(T:lQ C.P){h:ab}
theorem wh.apN{sz:Nat}{L:Al}{t el:TypeId}{x y:Operand}{v e z:PV}{es:List PV}{iy gh:Nat}{K:PV->ab->Prop}(o:Out (sz+1) h v es)(hye:h[iy]?=some ⟨.m,0,sz+1,[e]⟩)(hv:∀ep n,v≠.ak iy ep 0 n)(hn:es.length<1000000)(hR:HR h)(hve:bw (λi=>decide (i<h.length)) (es++[e])=true)(he:(cells e).length=sz+1/\(cells e).all bH=true)
  (kk:∀v' h',LR h v (sz+1) (es++[e]) v' h'->Rn (K v' h')) (hx:cM L x=some v:=by rfl) (hy:cM L y=some (.ak iy 0 0 1):=by rfl) (hk:T.kd t=some (.sl el):=by rfl) (hs:T.ts el=some (sz+1):=by rfl) (hb:T.tb el=some gh:=by rfl) (hz:T.tz el=some z:=by rfl) (jo:gh<=1000:=by decide) (hl:(cells z).length=sz+1:=by rfl) (ho:(cells z).all bH=true:=by rfl):
  wh C (.call ⟨.builtin .append,#[x,y],#[t,t]⟩) L h K:=by
 have hgy:getM h iy 0=some ⟨.m,0,sz+1,[e]⟩:=bo hye rfl (by simp)
 have hrm:∀m,m<1000002->roomy m gh=true:=λm hm=>by
  unfold roomy;rw[abq,decide_eq_true_eq,decide_eq_true_eq];have:m * gh<=1000002 * 1000:=adi (by omega) jo
  omega
 have cr:cu h (.ak iy 0 0 1)=some [e]:=by simp[cu,hgy]
 have hce:([e].all λv=>decide ((cells v).length=sz+1)&& (cells v).all bH)=true:=by simp only[ace,acS,acN,abq,decide_eq_true_eq];exact he
 rcases o with⟨rfl,rfl⟩|⟨id,ep,rfl,e2⟩
 ·refine .mk (v:=.ak h.length 0 0 1) (h':=h++[⟨.m,0,sz+1,[e]⟩]) (λrun ρ=>?_) (kk _ _ ⟨.inr ⟨h.length,0,rfl,by simp⟩,hR.wk (by simp) (dW (f:=λi=>decide (i<h.length)) (λi hi=>by have:=of_decide_eq_true hi;exact decide_eq_true (by omega)) _ (by simpa using hve)),by simp,λj hj _=>abj hj,λj ep n hh=>by cases hh;exact .inr (abn _)⟩);simp only[au,bt,abD,abM,an hx,an hy,bP,bz (T.cT _ _ hk),T.dV _ _ hs,T.rU _ _ hb,T.nt _ _ hz,cC,cr];rw[if_pos ⟨by omega,by omega,⟨hl,ho⟩,hce⟩];simp[hrm 1 (by omega),newObj]
 ·have bN:id≠iy:=λhh=>hv ep es.length (by rw[hh])
  have hg:getM h id ep=some ⟨.m,ep,sz+1,es⟩:=bo e2 rfl (by simp);refine .mk (v:=.ak id (ep+1) 0 (es.length+1)) (h':=h.set id ⟨.m,ep+1,sz+1,es++[e]⟩) (λrun ρ=>?_) (kk _ _ ⟨.inr ⟨id,ep+1,by simp,abl (ag e2)⟩,hR.set id (by simp) hve,by simp,λj hj hjv=>abm (λhh=>hjv ep es.length (by rw[hh])),λj im n hh=>by cases hh;exact .inl ⟨ep,es.length,rfl⟩⟩);simp only[au,bt,abD,abM,an hx,an hy,bP,bz (T.cT _ _ hk),T.dV _ _ hs,T.rU _ _ hb,T.nt _ _ hz,cC,cr,hg];rw[if_pos ⟨by omega,by omega,⟨hl,ho⟩,hce⟩,if_pos ⟨by simp,trivial⟩];have My:iH id (.ak iy 0 0 1)=false:=by simp[iH];exact λhh=>bN hh.symm
  simp[My,hrm (es.length+1) (by omega)]
end
end Go.Pm
namespace Go.Pm
namespace bE
open Go.Proofs
attribute [local irreducible] aD az aL aJ Ev ah aj ay aY bJ
set_option maxRecDepth 4000
@[simp] theorem vV(v:PV)(b:Bool):fI false v b=v:=rfl
@[simp] theorem Wd(u l:List Tm):ar (kV u l)=true:=by rw[bB,abk];intro y hy;obtain⟨t,_,rfl⟩:=abZ.1 hy;rfl
theorem R9(u a b:List Tm):kV u (a++b)=kV u a++kV u b:=by simp[kV]
def aaD(H:ab)(u:List Tm)(v:PV)(t:Tm)(e:PV):Prop:=∃w,e=.agg [w,.int .i64 (Ay u t)]/\Out 1 H w (kV u t.l)/\∀i∈bV w,i∉bV v
def K'(H:ab)(u:List Tm)(v:PV)(p:List Tm)(els:List PV):Prop:=els.length=p.length/\∀(i:Nat) (t:Tm),p[i]?=some t->∃e,els[i]?=some e/\aaD H u v t e
theorem uW{v:PV}{k:Nat}(h:k∉bV v):∀ep n,v≠.ak k ep 0 n:=λep n hh=>h (by rw[hh];simp[bV])
theorem xh{H K J1 h':ab}{u p:List Tm}{t:Tm}{v v' w:PV}{els:List PV}
  (G9:H.length<=K.length) (Br:∀j,j<H.length->K[j]?=H[j]?) (Ji:∀i∈bV v,H.length<=i) (ho:Out 2 K v els) (kH:K' K u v p els)
  (hJl:K.length+1<=J1.length) (Sa:∀j,j<K.length->J1[j]?=K[j]?) (L8:∀i∈bV w,K.length<i) (hw:Out 1 J1 w (kV u t.l))
  (lr:LR J1 v 2 (els++[.agg [w,.int .i64 (Ay u t)]]) v' h'):
  (HR h'/\H.length<=h'.length/\∀j,j<H.length->h'[j]?=H[j]?)/\(∀i∈bV v',H.length<=i)/\Out 2 h' v' (els++[.agg [w,.int .i64 (Ay u t)]])/\K' h' u v' (p++[t]) (els++[.agg [w,.int .i64 (Ay u t)]]):=by
 have hlen:=lr.len;have Yx:∀i∈bV v,i<K.length:=λi hi=>ho.ls i hi
 have C5:∀i∈bV v',i∈bV v\/J1.length<=i:=lr.bV;refine⟨⟨lr.hr,by omega,λj hj=>?_⟩,λi hi=>?_,lr.out,by simp[kH.1],λi x hx=>?_⟩
 ·rw[lr.fr j (by omega) (uW λhh=>by have:=Ji j hh;omega),Sa j (by omega)];exact Br j hj
 ·rcases C5 i hi with h |h
  ·exact Ji i h
  ·omega
 ·by_cases XE:i<p.length
  ·rw[abj XE]at hx;obtain⟨e,he,w',rfl,B0,hd⟩:=kH.2 i x hx;refine⟨_,by rw[abj (by rw[kH.1];exact XE)];exact he,w',rfl,B0.of_eq λk hk=>?_,λk hk hkv=>?_⟩
   ·have hkK:=B0.ls k hk;rw[lr.fr k (by omega) (uW (hd k hk)),Sa k hkK]
   ·have hkK:=B0.ls k hk;rcases C5 k hkv with h |h
    ·exact hd k hk h
    ·omega
  ·have aaE:i=p.length:=by
    have:=(ac4.1 hx).1;simp at this;omega
   subst aaE;rw[abt (abn _),acw]at hx;obtain rfl:t=x:=by simpa using hx
   refine⟨.agg [w,.int .i64 (Ay u t)],by rw[<-kH.1,abt (abn _),acw];rfl,w,rfl,hw.of_eq λk hk=>?_,λk hk hkv=>?_⟩
   ·have h1:=L8 k hk;have h2:=hw.ls k hk;exact lr.fr k h2 (uW λhh=>by have:=Yx k hh;omega)
   ·have h1:=L8 k hk;have h2:=hw.ls k hk;rcases C5 k hkv with h |h
    ·have:=Yx k h;omega
    ·omega
theorem CQ{J1:ab}{v w:PV}{els l:List PV}{key:Int}(hR:HR J1)(ho:Out 2 J1 v els)(hw:Out 1 J1 w l):bw (λi=>decide (i<J1.length)) (els++[.agg [w,.int .i64 key]])=true:=by
 refine qQ ?_ (by simpa[bw,bq]using hw.bq);rcases ho with⟨_,rfl⟩|⟨id,ep,_,e⟩
 ·rfl
 ·exact(hR _ (aby e)).2
theorem HC(u:List Tm)(U:Bn u)(hl:u.length<1000000)(hb:∀t∈u,ax t<1000000)(m:Nat)(H:ab)(hH:HR H)(h0:H[m]?=some ⟨.m,0,0,BG 0 u⟩):
  ay C 226 [.aa false (ae u),.cD m] H (λx h'=>HR h'/\H.length<=h'.length/\(∀j,j<H.length->h'[j]?=H[j]?)/\(∀i∈bV x,H.length<=i)/\∃els,Out 2 h' x els/\K' h' u x u els):=by
 have cr:=ai u;have L9:∀t∈u,valid t=0:=λt ht=>(iE.1 (U.ok t ht)).1
 refine ay.x T6 Tryz.func226 rfl ?_;refine wA ?_;refine cO.zip T6 u (λp q L K=>∃v els,L=[(0,.aa false (ae u)),(1,.cD m),(5,v),(6,.int .i64 p.length)]/\(HR K/\H.length<=K.length/\∀j,j<H.length->K[j]?=H[j]?)/\(∀i∈bV v,H.length<=i)/\Out 2 K v els/\K' K u v p els) (.nx ⟨_,[],rfl,⟨hH,abn _,λ_ _=>rfl⟩,by simp[bV],.inl ⟨rfl,rfl⟩,rfl,by simp⟩) ?_ ?_
 ·rintro p t q _ K ρ e ⟨v,els,rfl,⟨hK,G9,Br⟩,Ji,ho,oS,kH⟩;have cm:=bg e;have di:=lenE e;have mS:t∈u:=by rw[e];simp
  have Ae:=ai t.l;have uk:t.l.length<1000000:=by obtain⟨k,n,o,l⟩:=t;have h1:=ba l;have h2:=hb _ mS;simp only[ax]at h2;simp only[Tm.l];omega
  refine wA ?_;refine cO.zip T6 t.l (λa b L J=>∃w,L=[(0,.aa false (ae u)),(1,.cD m),(5,v),(6,.int .i64 p.length),(7,.ptr K.length 0 0 0),(8,.int .i64 a.length)]/\(HR J/\K.length+1<=J.length/\∀j,j<K.length->J[j]?=K[j]?)/\(∀i∈bV w,K.length<i)/\J[K.length]?=some ⟨.m,0,2,[.agg [w,.int .i64 (-1)]]⟩/\Out 1 J w (kV u a)) (.nx ⟨_,rfl,⟨hK.wk (by simp) (by simp[bw,bq]),by simp,λj hj=>abj hj⟩,by simp[bV],by simp,.inl ⟨rfl,rfl⟩⟩) ?_ ?_
  ·rintro a x b _ J ρ e2 ⟨w,rfl,⟨hJ,hJl,Sa⟩,L8,h1,hw⟩;have nf:=bg e2;have AX:=lenE e2;have q9:=U.kids t mS x (by rw[e2];simp);have hm:=(Sa m (by have:=ag h0;omega)).trans ((Br m (ag h0)).trans h0);have hf:=qn (L9 x q9) u 0 0 L9;rw[bU.2 q9,if_pos rfl,abE]at hf;have Xb:=q8 u a;have Dv:=pf x (hb x q9);rw[ao]at Dv;refine wA ?_;refine .mk (.str (ub x)) (by simpa[aR,b9,aZ]using Dv) ?_;refine wA ?_;refine .Mm hf ?_ hm;refine wA ?_;refine .lr (λw' h' lr=>?_) hw;have lo:=lr.out;have hrr:=lr.hr;have hwn:∀ep n,w≠.ak K.length ep 0 n:=λep n hh=>by have:=L8 K.length (by rw[hh];simp[bV]);omega
   have g1:=(lr.fr K.length (by omega) hwn).trans h1;have hlen:=lr.len;have ij:=lo.bq;rcases lo with⟨_,hx⟩|⟨id,ep,rfl,bW⟩
   ·have:=congrArg List.length hx;simp at this
   have PJ:K.length<id:=by
    rcases lr.bV id (by simp[bV])with h |h
    ·exact L8 id h
    ·omega
   have m':kV u (a++[x])=kV u a++[fI false (.int .i64 (pz u x)) true]:=by rw[R9];rfl
   have hwj:∀j,j<K.length->∀ep n,w≠.ak j ep 0 n:=λj hj ep n hh=>by have:=L8 j (by rw[hh];simp[bV]);omega
   refine wA ?_;refine .nx ⟨_,rfl,⟨hrr.set _ (by simp) (by simpa[bw,bq]using ij),by simp;omega,λj hj=>by rw[abm (by omega),lr.fr j (by omega) (hwj j hj)];exact Sa j hj⟩,by simp[bV];exact PJ,abl (ag g1),.inr ⟨id,ep,by rw[m'],by rw[m',abm (by omega)];exact bW⟩⟩
  ·rintro _ J ρ ⟨w,rfl,⟨hJ,hJl,Sa⟩,L8,h1,hw⟩;have Xc:=ON t (by have:=hb t mS;omega);have Xd:Ay u t=if mi t=0 then(pz u (cg t):Int)else -1:=rfl;rw[ao,ao (cg t)]at Xc;have hoJ:Out 2 J v els:=ho.of_eq λk hk=>Sa k (ho.ls k hk)
   have hm:=(Sa m (by have:=ag h0;omega)).trans ((Br m (ag h0)).trans h0);have Sb:K' K u v p els:=⟨oS,kH⟩;have FN:HR (J++[(⟨.m,0,4,[.agg [.int .i64 (cg t).k,.str (cg t).s,.int .i64 (cg t).o,.aa false (ae (cg t).l)]]⟩:aw)]):=hJ.dA (HV.one (by simp));have IP:=hoJ.cB [(⟨.m,0,4,[.agg [.int .i64 (cg t).k,.str (cg t).s,.int .i64 (cg t).o,.aa false (ae (cg t).l)]]⟩:aw)];have hw1:=hw.cB [(⟨.m,0,4,[.agg [.int .i64 (cg t).k,.str (cg t).s,.int .i64 (cg t).o,.aa false (ae (cg t).l)]]⟩:aw)];have We:∀j,j<K.length->(J++[(⟨.m,0,4,[.agg [.int .i64 (cg t).k,.str (cg t).s,.int .i64 (cg t).o,.aa false (ae (cg t).l)]]⟩:aw)])[j]?=K[j]?:=λj hj=>by rw[abj (by omega)];exact Sa j hj
   have g1:(J++[(⟨.m,0,4,[.agg [.int .i64 (cg t).k,.str (cg t).s,.int .i64 (cg t).o,.aa false (ae (cg t).l)]]⟩:aw)])[K.length]?=some ⟨.m,0,2,[.agg [w,.int .i64 (-1)]]⟩:=by rw[abj (by omega)];exact h1
   by_cases hk:mi t=0
   ·rw[hk]at Xc;rw[if_pos hk]at Xd;have Xa:=U.key mS hk;have hf2:=qn (L9 _ Xa.1) u 0 0 L9;rw[bU.2 Xa.1,if_pos rfl,abE]at hf2;have FO:=pf (cg t) (hb _ Xa.1);rw[ao]at FO;have hm1:(J++[(⟨.m,0,4,[.agg [.int .i64 (cg t).k,.str (cg t).s,.int .i64 (cg t).o,.aa false (ae (cg t).l)]]⟩:aw)])[m]?=some ⟨.m,0,0,BG 0 u⟩:=by rw[abj (by have:=ag h0;omega)];exact hm
    obtain⟨J1,E8⟩:∃J1:ab,J1=(J++[(⟨.m,0,4,[.agg [.int .i64 (cg t).k,.str (cg t).s,.int .i64 (cg t).o,.aa false (ae (cg t).l)]]⟩:aw)]).set K.length ⟨.m,0,2,[.agg [w,.int .i64 (pz u (cg t))]]⟩:=⟨_,rfl⟩;have wQ:J1.length=J.length+1:=by rw[E8];simp
    have hwv:=hw1.bq;have PO:HR J1:=by rw[E8];exact FN.set K.length (by simp) (by simpa[bw,bq]using hwv)
    have zO:Out 2 J1 v els:=IP.of_eq λk hk=>by rw[E8,abm (by have:=ho.ls k hk;omega)]
    have hw3:Out 1 J1 w (kV u t.l):=hw1.of_eq λk hk=>by rw[E8,abm (by have:=L8 k hk;omega)]
    have Zg:∀j,j<K.length->J1[j]?=K[j]?:=λj hj=>by rw[E8,abm (by omega)];exact We j hj
    have g3:J1[K.length]?=some ⟨.m,0,2,[.agg [w,.int .i64 (pz u (cg t))]]⟩:=by rw[E8];exact abl (ag g1)
    have P5:=λv' h' lr=>xh (t:=t) (v':=v') (h':=h') G9 Br Ji ho Sb (by omega:K.length+1<=J1.length) Zg L8 hw3 lr
    rw[Xd]at P5;rcases hw with⟨rfl,hw0⟩|⟨wi,wep,rfl,hwe⟩
    ·refine wA ?_;refine .p Xc ?_;refine wA ?_;refine .p FO ?_;refine wA ?_;refine .Mm hf2 ?_ hm1;refine wA ?_;rw[vV,<-E8];refine wA ?_;refine .lr (λv' h' lr=>?_) zO rfl (by simp[oS];omega) (CQ PO zO hw3) PO;refine wA ?_;obtain⟨q1,q2,q3,q4⟩:=P5 _ _ lr;exact .nx ⟨_,_,rfl,q1,q2,q3,q4⟩
    ·obtain⟨PB,hPB⟩:∃PB:aw,PB=⟨.m,0,2,[.agg [.ak wi wep 0 (kV u t.l).length,.int .i64 (pz u (cg t))]]⟩:=⟨_,rfl⟩
     have DD:HR (J1++[PB]):=by
      rw[hPB];have:=ag hwe;exact PO.wk (by simp) (by simp[bw,bq];omega)
     have ui:=zO.cB [PB];have V1:=hw3.cB [PB];have Wf:∀j,j<K.length->(J1++[PB])[j]?=K[j]?:=λj hj=>by rw[abj (by omega)];exact Zg j hj
     have HD:=λv' h' lr=>xh (t:=t) (v':=v') (h':=h') G9 Br Ji ho Sb (by simp;omega:K.length+1<=(J1++[PB]).length) Wf L8 V1 lr
     rw[Xd]at HD;have hy:(J1++[PB])[J1.length]?=some PB:=adm;have oQ:=CQ (key:=(pz u (cg t):Int)) DD ui V1;have W5:∀ep n,v≠.ak J1.length ep 0 n:=uW λhh=>by have:=ho.ls _ hh;omega
     rw[hPB]at HD hy DD ui oQ;refine wA ?_;refine .p Xc ?_;refine wA ?_;refine .p FO ?_;refine wA ?_;refine .Mm hf2 ?_ hm1;refine wA ?_;rw[vV,<-E8];refine wA ?_;refine wh.apN (sz:=1) T6 ui hy W5 (by omega) DD oQ ⟨rfl,rfl⟩ (λv' h' lr=>?_);refine wA ?_;obtain⟨q1,q2,q3,q4⟩:=HD _ _ lr;exact .nx ⟨_,_,rfl,q1,q2,q3,q4⟩
   ·rw[if_neg hk]at Xd;have P5:=λv' h' lr=>xh (t:=t) (v':=v') (h':=h') G9 Br Ji ho Sb (by simp;omega:K.length+1<=(J++[(⟨.m,0,4,[.agg [.int .i64 (cg t).k,.str (cg t).s,.int .i64 (cg t).o,.aa false (ae (cg t).l)]]⟩:aw)]).length) We L8 hw1 lr
    rw[Xd]at P5;rcases hw with⟨rfl,hw0⟩|⟨wi,wep,rfl,hwe⟩
    ·refine wA ?_;refine .p Xc ?_;refine wA ?_;refine .lr (λv' h' lr=>?_) IP rfl (by simp[oS];omega) (CQ FN IP hw1) FN;refine wA ?_;obtain⟨q1,q2,q3,q4⟩:=P5 _ _ lr;exact .nx ⟨_,_,rfl,q1,q2,q3,q4⟩
    ·obtain⟨PB,hPB⟩:∃PB:aw,PB=⟨.m,0,2,[.agg [.ak wi wep 0 (kV u t.l).length,.int .i64 (-1)]]⟩:=⟨_,rfl⟩
     have DD:HR (J++[(⟨.m,0,4,[.agg [.int .i64 (cg t).k,.str (cg t).s,.int .i64 (cg t).o,.aa false (ae (cg t).l)]]⟩:aw)]++[PB]):=by
      rw[hPB];have:=ag hwe;exact FN.wk (by simp) (by simp[bw,bq];omega)
     have ui:=IP.cB [PB];have V1:=hw1.cB [PB];have Wf:∀j,j<K.length->(J++[(⟨.m,0,4,[.agg [.int .i64 (cg t).k,.str (cg t).s,.int .i64 (cg t).o,.aa false (ae (cg t).l)]]⟩:aw)]++[PB])[j]?=K[j]?:=λj hj=>by rw[abj (by simp;omega)];exact We j hj
     have HD:=λv' h' lr=>xh (t:=t) (v':=v') (h':=h') G9 Br Ji ho Sb (by simp;omega:K.length+1<=(J++[(⟨.m,0,4,[.agg [.int .i64 (cg t).k,.str (cg t).s,.int .i64 (cg t).o,.aa false (ae (cg t).l)]]⟩:aw)]++[PB]).length) Wf L8 V1 lr
     rw[Xd]at HD;have hy:(J++[(⟨.m,0,4,[.agg [.int .i64 (cg t).k,.str (cg t).s,.int .i64 (cg t).o,.aa false (ae (cg t).l)]]⟩:aw)]++[PB])[(J++[(⟨.m,0,4,[.agg [.int .i64 (cg t).k,.str (cg t).s,.int .i64 (cg t).o,.aa false (ae (cg t).l)]]⟩:aw)]).length]?=some PB:=adm;have oQ:=CQ (key:=-1) DD ui V1;have W5:∀ep n,v≠.ak (J++[(⟨.m,0,4,[.agg [.int .i64 (cg t).k,.str (cg t).s,.int .i64 (cg t).o,.aa false (ae (cg t).l)]]⟩:aw)]).length ep 0 n:=uW λhh=>by have:=ho.ls _ hh;simp at this;omega
     rw[hPB]at HD hy DD ui oQ;refine wA ?_;refine .p Xc ?_;refine wA ?_;refine wh.apN (sz:=1) T6 ui hy W5 (by omega) DD oQ ⟨rfl,rfl⟩ (λv' h' lr=>?_);refine wA ?_;obtain⟨q1,q2,q3,q4⟩:=HD _ _ lr;exact .nx ⟨_,_,rfl,q1,q2,q3,q4⟩
 ·rintro _ K ρ ⟨v,els,rfl,⟨hK,G9,Br⟩,Ji,ho,kH⟩;refine wA ?_;exact⟨hK,G9,Br,Ji,els,ho,kH⟩
end bE
end Go.Pm
