/-
  Pm, a part. Conditions: none.
-/
import Derived.Test.YtiipafafbpaaoaaGreatDoorPsAK
import Derived.Lib.Join
set_option linter.unusedVariables false
set_option linter.unusedSimpArgs false
set_option linter.unnecessarySimpa false
set_option linter.unusedSectionVars false
namespace Go.Pm
variable{H H' h h':ab}{K W a r:PV}{s:UK}{b l t:List Nat}{es:List PV}{ep g sz:Nat}{mu:Mu}
namespace aI
open Go.Proofs
attribute [local irreducible] aE az aO aL Ev ai ah ay bh bH
set_option maxRecDepth 4000
structure Me(H:ab)(vo vk vb:PV)(s:UK)(ids:List Nat)(es:List PV):Prop where
 hr:HR H
 oo:Out 5 H vo es
 EQ:Ce H ids es s.out
 ok:Out 4 H vk (ae s.kn)
 ob:Out 4 H vb (ae s.bd)
 d1:∀i∈bJ vo,i∉bJ vk/\i∉bJ vb/\i∉ids
 d2:∀i∈bJ vb,i∉bJ vk/\i∉ids
theorem Me.ba(M:Me H W K a s t es)(z:HR H')(u:∀j,j<H.length->H'[j]?=H[j]?):Me H' W K a s t es:=
 ⟨z,M.oo.of_eq λi B=>u i (M.oo.nP i B),M.EQ.of_eq λi B=>u i (M.EQ.lt i B),M.ok.of_eq λi B=>u i (M.ok.nP i B),M.ob.of_eq λi B=>u i (M.ob.nP i B),M.d1,M.d2⟩
structure Yk(H:ab)(bi ep:Nat)(b:List Nat)(vo vk vb:PV)(ids:List Nat):Prop where
 at_:∃mu,H[bi]?=some ⟨mu,ep,1,gd b⟩/\(mu=.m\/mu=.f)
 nb:bi∉bJ vo/\bi∉bJ vk/\bi∉bJ vb/\bi∉ids
theorem Yk.ba(B:Yk H g ep b W K a t)(u:∀j,j<H.length->H'[j]?=H[j]?):Yk H' g ep b W K a t:=by
 obtain⟨⟨i,e,d⟩,n⟩:=B;exact⟨⟨i,(u g (ag e)).trans e,d⟩,n⟩
theorem N0(l:List Nat):eE 1 (gd l):=by
 unfold eE;rw[af9]
 intro v J
 obtain⟨n,_,rfl⟩:=agv.1 J
 rfl
theorem ES{v:PV}(a:LR H v sz es r h'){j:Nat}(M:j<H.length)(J:j∉bJ v):h'[j]?=H[j]?/\j∉bJ r:=by
 refine⟨a.fr j M λg n h=>J (by rw[h];simp[bJ]),λR=>?_⟩;rcases a.bJ j R with h |h;exact J h;omega
structure ac1(h:ab)(vk:PV)(kn:List Tm)(g:Tm)(r1:PV)(G1:ab)(r2:PV)(G2:ab):Prop where
 UQ:bR C.P 2 (cJ [h.length] (h++[(⟨.m,0,4,[.agg [.int .i64 g.k,.str g.s,.int .i64 g.o,.aa false (ae g.l)]]⟩:ax)])) 36 36 (.aa true []) vk=some (r1,G1)
 le1:(cJ [h.length] (h++[(⟨.m,0,4,[.agg [.int .i64 g.k,.str g.s,.int .i64 g.o,.aa false (ae g.l)]]⟩:ax)])).length<=G1.length
 kp1:∀(j:Nat) (o:ax),(cJ [h.length] (h++[(⟨.m,0,4,[.agg [.int .i64 g.k,.str g.s,.int .i64 g.o,.aa false (ae g.l)]]⟩:ax)]))[j]?=some o->o.mu≠.m->G1[j]?=some o
 at0:(cJ [h.length] (h++[(⟨.m,0,4,[.agg [.int .i64 g.k,.str g.s,.int .i64 g.o,.aa false (ae g.l)]]⟩:ax)]))[h.length]?=some ⟨.l,0,4,[.agg [.int .i64 g.k,.str g.s,.int .i64 g.o,.aa false (ae g.l)]]⟩
 at1:G1[h.length]?=some ⟨.l,0,4,[.agg [.int .i64 g.k,.str g.s,.int .i64 g.o,.aa false (ae g.l)]]⟩
 UR:bR C.P 2 G1 36 36 r1 (.aa true [.agg [.int .i64 g.k,.str g.s,.int .i64 g.o,.aa false (ae g.l)]])=some (r2,G2)
 le2:G1.length<=G2.length
 kp2:∀(j:Nat) (o:ax),G1[j]?=some o->o.mu≠.m->G2[j]?=some o
 nl:∀(j:Nat) (o:ax),G2[j]?=some o->o.mu≠.l\/(cJ [h.length] (h++[(⟨.m,0,4,[.agg [.int .i64 g.k,.str g.s,.int .i64 g.o,.aa false (ae g.l)]]⟩:ax)]))[j]?=some o
 hr:HR (eZ [h.length] (h++[(⟨.m,0,4,[.agg [.int .i64 g.k,.str g.s,.int .i64 g.o,.aa false (ae g.l)]]⟩:ax)]) G2)
 fr:∀j,j<h.length->(eZ [h.length] (h++[(⟨.m,0,4,[.agg [.int .i64 g.k,.str g.s,.int .i64 g.o,.aa false (ae g.l)]]⟩:ax)]) G2)[j]?=h[j]?
 out:Out 4 (eZ [h.length] (h++[(⟨.m,0,4,[.agg [.int .i64 g.k,.str g.s,.int .i64 g.o,.aa false (ae g.l)]]⟩:ax)]) G2) r2 (ae (kn++[g]))
 vd:∀i∈bJ r2,h.length<=i
theorem ac2(w:HR h){a:List Tm}(o:Out 4 h K (ae a))(hn:a.length<100000000)(g:Tm):∃b d V z,ac1 h K a g b d V z:=by
 have Z:=aj a;have U:(cJ [h.length] (h++[(Pi g)])).length=h.length+1:=by rw[tj];simp
 have e:HR (h++[(Pi g)]):=w.cx (HV.one yxb);have N:HR (cJ [h.length] (h++[(Pi g)])):=e.L8;have D:(cJ [h.length] (h++[(Pi g)]))[h.length]?=some ⟨.l,0,4,[.agg (Do g)]⟩:=Gu yxb;have J:∀j,j<h.length->(cJ [h.length] (h++[(Pi g)]))[j]?=h[j]?:=λj M=>by rw[JL yxa,af8 M]
 have F:Out 4 (cJ [h.length] (h++[(Pi g)])) K (ae a):=o.of_eq λi B=>J i (o.nP i B)
 obtain⟨b,d,Q,f⟩:=xF T6 (H:=cJ [h.length] (h++[(Pi g)])) (st:=36) (xt:=36) (v:=.aa true []) (u:=K) (es:=[]) (ys:=ae a) rfl rfl rfl rfl rfl yxe rfl rfl (.inl ⟨rfl,rfl⟩) F.cr yxi (gC _) yxd
 have G:∀i∈bJ b,h.length+1<=i:=λi B=>by
  rcases f.bJ i B with O |O;simp[bJ]at O;omega
 obtain⟨V,z,Y,S⟩:=xF T6 (H:=d) (st:=36) (xt:=36) (v:=b) (u:=.aa true [.agg (Do g)]) (es:=[]++ae a) (ys:=[.agg (Do g)]) rfl rfl rfl rfl rfl yxe rfl rfl f.out rfl yxi rfl yxd
 have y:∀i∈bJ V,h.length+1<=i:=λi B=>by
  rcases S.bJ i B with O |O;exact G i O;have:=f.len;omega
 have n:=f.hr N (bg _ _ yxb);have A:=S.hr n (bg _ _ yxb);have P:h.length+1<=z.length:=by have:=f.len;have:=S.len;omega
 have t:[]++ae a++[.agg (Do g)]=ae (a++[g]):=by rw[ch,agS,Cf]
 have q:=S.out;rw[t]at q;refine⟨b,d,V,z,Q,f.len,f.ba,D,f.ba _ _ D yxb,Y,S.len,S.ba,λj o M=>?_,A.L9 e yxd,λj M=>?_,q.of_eq λi B=>Aw (by have:=y i B;omega),λi B=>by have:=y i B;omega⟩
 ·rcases S.EM j o M with O |O
  ·exact .inl O
  ·exact f.EM j o O
 ·rw[Aw yxa,S.fr j (by have:=f.len;omega) (λR=>by have:=G j R;omega),f.fr j yxa yxi];exact J j M
structure aeN(h:ab)(vo vk vb:PV)(s:UK)(ids:List Nat)(es:List PV)(g:Tm)(w:PV)(J1:ab)(u:PV)(G3:ab)(r:PV)(G2:ab):Prop where
 UQ:bR C.P 1 (h++[(⟨.m,0,4,[.agg [.int .i64 g.k,.str g.s,.int .i64 g.o,.aa false (ae g.l)]]⟩:ax)]) 36 36 (.aa true []) vk=some (w,h++[(⟨.m,0,4,[.agg [.int .i64 g.k,.str g.s,.int .i64 g.o,.aa false (ae g.l)]]⟩:ax)]++J1)
 jl:(J1.all λo=>decide (o.mu≠.l))=true
 ow:Out 4 (h++[(⟨.m,0,4,[.agg [.int .i64 g.k,.str g.s,.int .i64 g.o,.aa false (ae g.l)]]⟩:ax)]++J1) w (ae s.kn)
 vkv:bq (bj (h++[(⟨.m,0,4,[.agg [.int .i64 g.k,.str g.s,.int .i64 g.o,.aa false (ae g.l)]]⟩:ax)])) vk=true
 bs:(aw [.agg [w,.int .i64 g.k,.str g.s,.int .i64 g.o,.aa false (ae g.l)]]=true/\u=.aa true [.agg [w,.int .i64 g.k,.str g.s,.int .i64 g.o,.aa false (ae g.l)]]/\G3=h++[(⟨.m,0,4,[.agg [.int .i64 g.k,.str g.s,.int .i64 g.o,.aa false (ae g.l)]]⟩:ax)]++J1)\/(aw [.agg [w,.int .i64 g.k,.str g.s,.int .i64 g.o,.aa false (ae g.l)]]=false/\u=.an (h++[(⟨.m,0,4,[.agg [.int .i64 g.k,.str g.s,.int .i64 g.o,.aa false (ae g.l)]]⟩:ax)]++J1).length 0 0 1/\G3=newObj (h++[(⟨.m,0,4,[.agg [.int .i64 g.k,.str g.s,.int .i64 g.o,.aa false (ae g.l)]]⟩:ax)]++J1) 5 [.agg [w,.int .i64 g.k,.str g.s,.int .i64 g.o,.aa false (ae g.l)]])
 UR:bR C.P 2 G3 25 25 vo u=some (r,G2)
 md:Me G2 r vk vb ⟨s.kn,s.bd,s.out++[⟨s.kn,g⟩]⟩ (ids++bJ w) (es++[.agg [w,.int .i64 g.k,.str g.s,.int .i64 g.o,.aa false (ae g.l)]])
 cell:G2[h.length]?=some (⟨.m,0,4,[.agg [.int .i64 g.k,.str g.s,.int .i64 g.o,.aa false (ae g.l)]]⟩:ax)
theorem aeO{Y vb:PV}{D:List Nat}(M:Me h W Y vb s D es)(hn:s.kn.length<100000000)(VA:s.out.length<100000000)(g:Tm):∃w n u V r F,aeN h W Y vb s D es g w n u V r F:=by
 have cL:=aj s.kn;have t:HR (h++[(Pi g)]):=M.hr.cx (HV.one yxb);have G:=M.ba t λj a=>af8 a
 have hgl:(h++[(Pi g)]).length=h.length+1:=by simp
 obtain⟨w,n,UQ,_,hJ,tZ,b⟩:=Rr T6 (lv:=1) yxa (H:=h++[(Pi g)]) (st:=36) (xt:=36) (u:=Y) (es:=[]) (ys:=ae s.kn) rfl rfl rfl rfl rfl yxe rfl rfl G.ok.cr rfl (gC _) yxd;have b:=b rfl;have P:HV n:=by rcases hJ with rfl |rfl;exact HV.nil;exact HV.one yxb
 have e:HR (h++[(Pi g)]++n):=t.cx P;have M1:=G.ba e λj a=>af8 a
 have U:=b.bP;have X:=b.bq;have Fy:(h++[(Pi g)]++n).length=h.length+1+n.length:=by simp;omega
 have ig:eE 5 [.agg [w,.I g.k,.str g.s,.I g.o,.aa false (ae g.l)]]:=by
  unfold eE;rw[ahh,ahG];show((decide ((5:Nat)=5)&& (Pm.bP w&& (true&& (true&& (true&& (true&&true))))))&&true)=true;rw[U.1]
  rfl
 have xe:es.length=s.out.length:=M.EQ.len
 obtain⟨u,V,bs,hu,UM,A,q,h3l⟩:∃u V,((aw [.agg [w,.I g.k,.str g.s,.I g.o,.aa false (ae g.l)]]=true/\u=.aa true [.agg [w,.I g.k,.str g.s,.I g.o,.aa false (ae g.l)]]/\V=h++[(Pi g)]++n)\/(aw [.agg [w,.I g.k,.str g.s,.I g.o,.aa false (ae g.l)]]=false/\u=.an (h++[(Pi g)]++n).length 0 0 1/\V=newObj (h++[(Pi g)]++n) 5 [.agg [w,.I g.k,.str g.s,.I g.o,.aa false (ae g.l)]]))/\cr V u=some [.agg [w,.I g.k,.str g.s,.I g.o,.aa false (ae g.l)]]/\(∀i∈bJ u,h.length+1<=i)/\HR V/\(∀j,j<(h++[(Pi g)]++n).length->V[j]?=(h++[(Pi g)]++n)[j]?)/\(h++[(Pi g)]++n).length<=V.length:=by
  cases yg:aw [.agg [w,.I g.k,.str g.s,.I g.o,.aa false (ae g.l)]]
  ·refine⟨_,_,.inr ⟨rfl,rfl,rfl⟩,by simp[cr,getM,newObj],λi B=>(by simp only[bJ,agu]at B;omega),e.Gt yxb ?_,λj a=>by rw[newObj,af8 a],by simp[newObj]⟩;simp only[bB,bq,ahO];exact vX (f:=λi=>decide (i<(h++[(Pi g)]++n).length)) (λi B=>by have:=of_decide_eq_true B;exact decide_eq_true yxa) _ X
  exact⟨_,_,.inl ⟨rfl,rfl,rfl⟩,rfl,by simp[bJ],e,λ_ _=>rfl,agb _⟩
 have Z:=M1.ba A q;have K:Out 4 V w (ae s.kn):=b.of_eq λi B=>q i (b.nP i B)
 obtain⟨r,F,UR,S⟩:=xF T6 (H:=V) (st:=25) (xt:=25) (v:=W) (u:=u) (es:=es) (ys:=[.agg [w,.I g.k,.str g.s,.I g.o,.aa false (ae g.l)]]) rfl rfl rfl rfl rfl yxe rfl rfl Z.oo hu (λi B h=>by have:=M.oo.nP i B;have:=UM i h;omega) ig yxd
 have nR:bB (λi=>decide (i<V.length)) (es++[.agg [w,.I g.k,.str g.s,.I g.o,.aa false (ae g.l)]])=true:=by
  rw[dx,ag9,<-dx,Z.EQ.NV];simp only[ahh,ahG,bq,bB,ahO,ahA];exact K.bq
 have N:=S.hr A nR;have Q:∀i∈bJ r,i∈bJ W\/V.length<=i:=S.bJ;have y:∀i∈bJ w,i<V.length:=K.nP;have z:∀i∈bJ w,i∉bJ W:=λi B h=>by have:=tZ i B;have:=M.oo.nP i h;omega
 have f3:∀j,j<h.length+1->V[j]?=(h++[(Pi g)])[j]?:=λj a=>by rw[q j yxa,af8 yxa]
 have J:∀j,j<h.length->j∉bJ W->F[j]?=h[j]?:=λj a hv=>by
  rw[S.fr j yxa hv,f3 j yxa,af8 a]
 refine⟨w,n,u,V,r,F,UQ,?_,b,?_,bs,UR,⟨N,S.out,.snoc (w:=w) (d:=⟨s.kn,g⟩) (M.EQ.of_eq λi B=>J i (M.EQ.lt i B) λR=>(M.d1 i R).2.2 B) (K.of_eq λi B=>S.fr i (y i B) (z i B)),M.ok.of_eq λi B=>J i (M.ok.nP i B) λR=>(M.d1 i R).1 B,M.ob.of_eq λi B=>J i (M.ob.nP i B) λR=>(M.d1 i R).2.1 B,λi B=>?_,λi B=>⟨(M.d2 i B).1,λR=>?_⟩⟩,?_⟩;rcases hJ with rfl |rfl <;>simp
 ·have:=G.ok.bq;exact vX (λi B=>t.NV (of_decide_eq_true B)) _ this
 ·rcases Q i B with O |O
  ·obtain⟨q1,q2,q3⟩:=M.d1 i O;refine⟨q1,q2,λR=>?_⟩;rcases agh.1 R with R |R;exact q3 R;exact z i R O
  ·refine⟨λR=>by have:=M.ok.nP i R;omega,λR=>by have:=M.ob.nP i R;omega,λR=>?_⟩;rcases agh.1 R with R |R;have:=M.EQ.lt i R;omega;have:=y i R;omega
 ·rcases agh.1 R with R |R
  ·exact(M.d2 i B).2 R
  ·have:=tZ i R;have:=M.ob.nP i B;omega
 ·rw[S.fr h.length yxa (λR=>by have:=M.oo.nP _ R;omega),f3 _ yxa];simp
theorem Dc(e:Nat->Bool)(h:ab):cO e h.length [] h=h:=by simp[cO]
theorem VO{C:cA}{T:li C.P}{M:ab}{t:TypeId}{c n:Nat}{cs:List PV}(W:M[c]?=some ⟨mu,0,n,[.agg cs]⟩)(d:mu≠.x)(S:T.ts t=some (sz+1))(Z:T.ta t=some true)(A:cs.length=sz+1):loadT T M t (.ptr c 0 0 0)=some (.agg cs):=by
 have K:dP M (.ptr c 0 0 0)=some cs:=by simp[dP,bw W rfl d,cells]
 exact zbm
theorem _root_.Go.Pm.bh.aaG{C:cA}{ops:Array Oper}{i d:Nat}{ty:TypeId}{j:String}{e:Array Edge}{r:List Oper}{Y:Nat->PV}{L:Al}{Z:Nat}{P:List Nat}{Q:St->Prop}{H:Op}{v:PV}(M J b:ab)(a:List Nat)
  (G:∃B,∀n,B<=n->ar C (dC C n) 1 H (al L Y) M=some (v,h')) (k:bh C ops (i+1) r ⟨⟨al ((d,v)::L) Y,b⟩,Z,a⟩ Q) (g:h++J=b) (f:P++List.replicate J.length i=a) (u:cO ((before ops).getD i 0).testBit Z P h=M) (N:h'.drop h.length=J) (V:br M=true) (S:(H.operands.toList.all λy=>bq (bj M) (ev (al L Y) y))=true)
  (F:(J.all λo=>decide (o.mu≠.l))=true) (R:cI H=true:=by rfl) (A:(level ops (before ops) i==2)=false:=by rfl):bh C ops i (⟨some d,H,ty,j,e,none⟩::r) ⟨⟨al L Y,h⟩,Z,P⟩ Q:=
 bh.IY M J G (by rw[g,f];exact k) u N V S F R A
theorem Me.QV{J:ab}{v:PV}{V:List Tm}(M:Me J W K a s t es)(l:LR J a 4 (ae s.bd++ae V) v h):Me h W K v ⟨s.kn,s.bd++V,s.out⟩ t es:=by
 have X:∀i,i<J.length->i∉bJ a->h[i]?=J[i]?:=λi B d=>(ES l B d).1
 have b:=l.out;rw[<-ch]at b;refine⟨l.hr,M.oo.of_eq λi B=>X i (M.oo.nP i B) (M.d1 i B).2.1,M.EQ.of_eq λi B=>X i (M.EQ.lt i B) λR=>(M.d2 i R).2 B,M.ok.of_eq λi B=>X i (M.ok.nP i B) λR=>(M.d2 i R).1 B,b,λi B=>?_,λi B=>?_⟩
 ·obtain⟨U,z,g⟩:=M.d1 i B;exact⟨U,(ES l (M.oo.nP i B) z).2,g⟩
 ·rcases l.bJ i B with O |O
  ·exact M.d2 i O
  ·exact⟨λR=>by have:=M.ok.nP i R;omega,λR=>by have:=M.EQ.lt i R;omega⟩
theorem AA{i n:Int}{R:PV}{l:List Tm}{Q:PV->ab->Prop}(W:H[g]?=some ⟨mu,ep,1,gd b⟩)(d:mu=.m\/mu=.f)(h:Ls 4 H r (ae l))(a:aT C 13 [.aa false (gd b),.I i,.I n,.aa false (ae l)] R)(q:∀h',Ro (g::bJ r) H h'->Q R h'):ah C 2 13 [.an g ep 0 (gd b).length,.I i,.I n,r] H Q:=by
 obtain⟨S,U,v⟩:=h.kZ yxb;have u:mu≠.x:=by rcases d with rfl |rfl <;>simp
 have Z:List.take b.length (gd b)=gd b:=agB yxb;have X:kZ H (.an g ep 0 (gd b).length)=some (.aa false (gd b)):=by simp[kZ,rf,bw W rfl u,d,Z]
 have F:∀n:Int,kZ H (.I n)=some (.I n):=λ_=>rfl
 have w:jQ [.an g ep 0 (gd b).length,.I i,.I n,r]=g::bJ r:=by
  rcases h with(⟨rfl,_⟩|⟨i,e,rfl,_⟩)|⟨f,rfl⟩ <;>rfl
 refine ah.aay (args':=[.aa false (gd b),.I i,.I n,S]) (by simp only[iR,X,F,U]) yxk (λV t=>?_) (by simpa[aY,b9,v]using a) (λh' z=>q h' (w▸z));rw[w]at t;rcases agi.1 t with rfl |t;exact⟨_,W,by simp,d⟩
 ·rcases h with(⟨rfl,_⟩|⟨j,e,rfl,M⟩)|⟨f,rfl⟩
  ·simp[bJ]at t
  ·simp[bJ]at t;subst t;exact⟨_,M,by simp,.inl rfl⟩
  ·simp[bJ]at t
theorem Me.Rp(M:Me H W K a s t es)(z:Ro l H H')(h:∀j∈l,j∉bJ W/\j∉bJ K/\j∉bJ a/\j∉t):Me H' W K a s t es:=
 ⟨z.hr M.hr,M.oo.of_eq λi B=>z.same i λR=>(h i R).1 B,M.EQ.of_eq λi B=>z.same i λR=>(h i R).2.2.2 B,M.ok.of_eq λi B=>z.same i λR=>(h i R).2.1 B,M.ob.of_eq λi B=>z.same i λR=>(h i R).2.2.1 B,M.d1,M.d2⟩
theorem Yk.Rp(B:Yk H g ep b W K a t)(z:Ro l H H'):Yk H' g ep b W K a t:=by
 obtain⟨⟨i,e,d⟩,n⟩:=B;obtain⟨M,A,V⟩:=z.oD g _ e;refine⟨⟨M,A,?_⟩,n⟩;rcases V with rfl |rfl;exact d;exact .inr rfl
theorem Rt(B:List (List Nat))(ZI:∀b∈B,NZ b/\b.length<1000000)(hl:B.length<1000000):
  ay C 6 [.aa false (fA B)] [] (λr H=>∃vk P t es,Me H r vk P (dy (B.take 5)) t es):=by
 have cL:=Db B;refine ay.x T6 Tryz.func6 rfl ?_;refine wA ?_;refine dU.zip T6 (B.take 5) (λp q L H=>∃W vk P t es,L=[(0,.aa false (fA B)),(3,W),(4,vk),(5,P),(6,.I p.length)]/\Me H W vk P (dy p) t es) (.nx ⟨_,_,_,[],[],rfl,HV.nil.hr,.inl ⟨rfl,rfl⟩,.nil,.inl ⟨rfl,rfl⟩,.inl ⟨rfl,rfl⟩,by simp[bJ],by simp[bJ]⟩) ?_ ?_
 ·rintro p x q _ H Y e ⟨W,vk,P,t,es,rfl,M⟩;have eR:=congrArg List.length e;simp only[agf,agj,ag4]at eR;have e2:B=p++x::(q++B.drop 5):=by have:=(ahu 5 B).symm;rw[e]at this;simpa using this
  have dm:=Gw e2;have hH:=M.hr;obtain⟨X,FP⟩:=ZI x (by rw[e2];simp);have hex:=ss x;refine wA ?_;refine .lr (λv1 h1 l1=>?_) (.inl ⟨rfl,rfl⟩) (N0 x) (by rw[ss];simp;omega);have mo:=l1.hr;refine wA ?_;refine .lr (λv2 h2 l2=>?_) l1.out rfl yxd (by exact bg _ _ yxb);have tX:=l2.hr;have hle:H.length<=h2.length:=agI l1.len l2.len
  have aaH:∀j,j<H.length->h2[j]?=H[j]?/\j∉bJ v2:=λj d=>by
   obtain⟨a1,a2⟩:=ES l1 d yxi;obtain⟨b1,b2⟩:=ES l2 (by have:=l1.len;omega) a2;exact⟨b1.trans a1,b2⟩
  have LN:[]++gd x++[.int .u8 0,.int .u8 0]=gd (jU x):=by simp[jU,Rs];rfl
  have yh:=l2.out;rw[LN]at yh
  obtain⟨y,ep,rfl,hbi⟩:∃y ep,v2=.an y ep 0 (gd (jU x)).length/\h2[y]?=some ⟨.m,ep,1,gd (jU x)⟩:=by
   rcases yh with⟨_,h⟩|h
   ·have:=congrArg List.length h;simp[jU]at this
   exact h
  have M2:=M.ba tX λj d=>(aaH j d).1
  have Ru:∀j,j<H.length->j≠y:=λj d hh=>(aaH j d).2 (by simp[bJ,hh])
  have B2:Yk h2 y ep (jU x) W vk P t:=⟨⟨.m,hbi,.inl rfl⟩,λh=>Ru y (M.oo.nP y h) rfl,λh=>Ru y (M.ok.nP y h) rfl,λh=>Ru y (M.ob.nP y h) rfl,λh=>Ru y (M.EQ.lt y h) rfl⟩;clear aaH Ru hbi;have hB0:=EN (l:=jU x) (by intro n hn;rcases agh.1 hn with h |h;exact X n h;simp at h;omega) 0;have afI:(gd (jU x))[0+0]?=some (.int .u8 (jf (jU x) 0:Int)):=su (by simp[jU]);have ht3:((jf (jU x) 0:Nat):Int).tmod 3=((jf (jU x) 0 % 3:Nat):Int):=Ra _ 3;have hlen:2<=(gd (jU x)).length:=by simp[jU]
  refine wA ?_;refine dU.zip T6 (List.range (jf (jU x) 0 % 3)) (λa r L K=>∃R,L=[(0,.aa false (fA B)),(3,W),(4,R),(5,P),(6,.I p.length),(7,.an y ep 0 (gd (jU x)).length),(8,.I a.length)]/\Me K W R P ⟨(dy p).kn++PZ (jU x) (dy p).bd a.length,(dy p).bd,(dy p).out⟩ t es/\Yk K y ep (jU x) W R P t) (.nx ⟨_,rfl,by simpa[PZ]using M2,B2⟩) ?_ ?_
  ·rintro a k r _ K Y e3 ⟨R,rfl,N,Z⟩;have UG:=congrArg List.length e3;simp only[agf,agj,List.length_range]at UG;obtain⟨mu,hmb,vJ⟩:=Z.at_;have JN:mu≠Mu.x:=by rcases vJ with rfl |rfl <;>simp
   have hK:=N.hr;refine wA ?_;refine .ex (Ax K hK) (λF hE=>?_);obtain⟨J,hJ,rfl⟩:=hE;have A:=N.ba (hK.cx hJ) (λj d=>af8 d);have S:=Z.ba (H':=K++J) (λj d=>af8 d);clear N Z;have afD:(dy p).bd.length<=1000:=by have:=(qe _ p rfl).bl;omega
   have hfb:=(qe _ p rfl).bf;rcases A.ob with⟨rfl,FE⟩|⟨ib,eb,rfl,IX⟩
   case' inl=>
    refine wA ?_;refine .nn ?_ rfl;have aeP:(dy p).bd=[]:=agm (by have:=congrArg List.length FE;simpa using this);obtain⟨r',Yl⟩:∃r,r=PV.aa true (ae yo):=⟨_,rfl⟩;rw[<-Yl];have G:Ls (3+1) (K++J) r' (ae (yo++(dy p).bd)):=.inr ⟨true,by rw[Yl,aeP,agC]⟩;have ac6:∀j∈bJ r',j∉bJ W/\j∉bJ R/\j∉bJ (.aa true [])/\j∉t:=by rw[Yl];simp[bJ]
    have M5:=A;have B5:=S;have O:=A.hr;generalize K++J=HH at *;clear A S
   case' inr=>
    obtain⟨r',J2,ha,G,Vw,hvr,_⟩:=Rr T6 (lv:=2) yxa (H:=K++J) (st:=36) (xt:=36) (es:=ae yo) (u:=.an ib eb 0 (ae (dy p).bd).length) (ys:=ae (dy p).bd) rfl rfl rfl rfl rfl yxe rfl rfl A.ob.cr (gC _) (gC _) (by rw[aj,aj,oZ];omega);have O:HR (K++J++J2):=A.hr.cx (by rcases Vw with rfl |rfl;exact HV.nil;exact HV.one yxb);have M5:=A.ba O (λj d=>af8 d);have B5:=S.ba (H':=K++J++J2) (λj d=>af8 d);rw[<-ch]at G
    have ac6:∀j∈bJ r',j∉bJ W/\j∉bJ R/\j∉bJ (.an ib eb 0 (ae (dy p).bd).length)/\j∉t:=λj d=>by
     have h0:=hvr j d;exact⟨λh=>by have:=A.oo.nP j h;omega,λh=>by have:=A.ok.nP j h;omega,λh=>by have:=A.ob.nP j h;omega,λh=>by have:=A.EQ.lt j h;omega⟩
    refine wA ?_;refine .mk (λrun Y=>yS rfl rfl ha) ?_;generalize K++J++J2=HH at *;clear ha Vw hvr A S
   all_goals
    obtain⟨mu2,aaI,aaJ⟩:=B5.at_;have N3:=tq (jU x) (yo++(dy p).bd) 170 (by intro n hn;rcases agh.1 hn with h |h;exact X n h;simp at h;omega) (by simp[jU];omega) (by simp[oZ];omega) (by simp[oZ];omega) ((EI.mono yxa).cz hfb) 2 1 (1+3 * a.length) rfl yxa
    push_cast at N3
    rw[au]at N3;refine wA ?_;refine AA aaI aaJ G N3 (λF z=>?_)
    have U:=M5.Rp z (λj d=>by
     rcases agi.1 d with rfl |d;exact B5.nb;exact ac6 j d)
    have B6:=B5.Rp z;clear M5 B5 z N3;have JO:(dy p).kn.length<=1000:=by have:=(qe _ p rfl).kl;omega
    have hks:=Rk (jU x) (dy p).bd a.length;have UF:=zl (jU x) (dy p).bd a.length;obtain⟨r1,G1,r2,G2,f⟩:=ac2 U.hr U.ok yxd (jg (jU x) (yo++(dy p).bd) 2 (1+3 * a.length)).1;generalize jg (jU x) (yo++(dy p).bd) 2 (1+3 * a.length)=gg at *;obtain⟨g,gn⟩:=gg;dsimp only at *;refine wA ?_;refine .calm ?_ _ (L3 (λ_=>rfl) rfl yxb f.nl (λrun Y=>?_)) ?_
    rotate_left
    ·refine(uD (kBs rfl rfl rfl (Vx T6 yxg rfl))).trans ?_;refine(uD (kP T6 yxg)).trans ?_;refine(uD (X8 rfl rfl rfl rfl (yS rfl rfl f.UQ) f.le1 f.kp1)).trans ?_;refine(uD (kLd T6 (v:=.agg (Do g)) rfl f.at0 yxb (by(conv=>whnf);exact .mk (o:=⟨.l,0,4,[.agg (Do g)]⟩) (.go (.mk (.go (by conv=>whnf)) rfl)) (bw f.at1 rfl yxb)))).trans ?_;refine(uD (kBs rfl rfl rfl (Vx T6 yxg yxb))).trans ?_;refine(uD (X8 rfl rfl rfl rfl (yS rfl rfl f.UR) f.le2 f.kp2)).trans ?_;refine(uD (kP T6 yxg)).trans ?_;exact rfl
    ·refine wA ?_;have Q:=U.ba f.hr f.fr;have B7:=B6.ba f.fr;refine .nx ⟨r2,rfl,⟨Q.hr,Q.oo,Q.EQ,?_,Q.ob,λi hi=>⟨λh=>?_,(Q.d1 i hi).2⟩,λi hi=>⟨λh=>?_,(Q.d2 i hi).2⟩⟩,B7.at_,B7.nb.1,λh=>?_,B7.nb.2.2⟩
     ·have:=f.out;rw[agf,ag5,hks,<-ags];exact this
     have:=f.vd i h;have:=U.oo.nP i hi;omega;have:=f.vd i h;have:=U.ob.nP i hi;omega
     ·have:=f.vd y h;obtain⟨_,e9,_⟩:=B6.at_;have:=ag e9;omega
  ·rintro _ K Y ⟨R,rfl,N,Z⟩;obtain⟨mu,hmb,vJ⟩:=Z.at_;have JN:mu≠Mu.x:=by rcases vJ with rfl |rfl <;>simp
   have hK:=N.hr;have hrl:(List.range (jf (jU x) 0 % 3)).length=jf (jU x) 0 % 3:=List.length_range;rw[hrl]at N ⊢;refine wA ?_;refine .ex (Ax K hK) (λF hE=>?_);obtain⟨J,hJ,rfl⟩:=hE;have O:HR (K++J++[⟨.m,0,4,ae yo++ae uI⟩]):=(hK.cx hJ).cx (HV.one yxb);have A:=(N.ba (hK.cx hJ) (λj d=>af8 d)).ba O (λj d=>af8 d);have S:=(Z.ba (H':=K++J) (λj d=>af8 d)).ba (H':=K++J++[⟨.m,0,4,ae yo++ae uI⟩]) (λj d=>af8 d)
   have hvK:∀j,(K++J).length<=j->j∉bJ W/\j∉bJ R/\j∉bJ P/\j∉t:=λj d=>by
    have h0:K.length<=j:=by simp at d;omega
    exact⟨λh=>by have:=N.oo.nP j h;omega,λh=>by have:=N.ok.nP j h;omega,λh=>by have:=N.ob.nP j h;omega,λh=>by have:=N.EQ.lt j h;omega⟩
   clear N Z;have dv:=NY;refine wA ?_;refine .p dv ?_;refine wA ?_;refine .sn (es:=ae yo) ?_ rfl (by rw[aj,aj,oZ,vU];omega)
   have G:Ls 4 (K++J++[⟨.m,0,4,ae yo++ae uI⟩]) (.an (K++J).length 0 0 ((ae yo).length+(ae uI).length)) (ae (yo++uI)):=by
    rw[ch];exact .inl (.inr ⟨(K++J).length,0,by rw[show(ae yo++ae uI).length=(ae yo).length+(ae uI).length from agf],by rw[agl (agb _)];simp⟩)
   obtain⟨mu2,aaI,aaJ⟩:=S.at_;have N3:=tq (jU x) (yo++uI) 20 (by intro n hn;rcases agh.1 hn with h |h;exact X n h;simp at h;omega) (by simp[jU];omega) (by simp[oZ];omega) (by simp[oZ,vU]) (EI.cz JI) 2 1 7 rfl yxa;rw[au]at N3;refine wA ?_;refine AA aaI aaJ G N3 (λF z=>?_)
   have U:=A.Rp z (λj d=>by
    rcases agi.1 d with rfl |d;exact S.nb
    ·simp[bJ]at d;exact hvK j yxd)
   have B6:=S.Rp z;clear A S G hvK O z;have aeQ:NZ (jU x):=by intro n hn;rcases agh.1 hn with h |h;exact X n h;simp at h;omega
   have hB1:=EN aeQ 1;have afJ:(gd (jU x))[0+1]?=some (.int .u8 (jf (jU x) 1:Int)):=su (by simp[jU]);have hq3:((jf (jU x) 0:Nat):Int).tdiv 3=((jf (jU x) 0 / 3:Nat):Int):=lT _ 3;have hqt:(((jf (jU x) 0:Nat):Int).tdiv 3).tmod 3=((jf (jU x) 0 / 3 % 3:Nat):Int):=by rw[hq3];exact Ra _ 3
   have UL:=Az (l:=uI) (i:=jf (jU x) 1 % 4) (by rw[vU];omega);have hT:tmX (jU x)=if jf (jU x) 0 / 3 % 3=0 then uI.getD (jf (jU x) 1 % 4) gZ else(jg (jU x) (yo++uI) 2 7).1:=rfl;have hTo:=Rl (jU x);have hfo:=yq p x;generalize jg (jU x) (yo++uI) 2 7=gg at *;obtain⟨g0,gn⟩:=gg;dsimp only at *;generalize uI.getD (jf (jU x) 1 % 4) gZ=g1 at *;rw[au]at UL;obtain⟨mu3,afK,aeR⟩:=B6.at_;have afL:mu3≠Mu.x:=by rcases aeR with rfl |rfl <;>simp
   have V:HR (F++[Pi g0]):=U.hr.cx (HV.one yxb)
   by_cases hz:jf (jU x) 0 / 3 % 3=0
   case' pos=>
    rw[if_pos hz]at hT;refine wA ?_;refine .raw _ (Yd yxa yxa) ?_;refine wG ?_;refine .mk ?_;refine wG ?_;refine .mk _ (by simpa[aY,b9]using dv) ?_;refine wG ?_;clear V;generalize g1=g at *
   case' neg=>
    rw[if_neg hz]at hT;refine wA ?_;refine .raw _ (Yd yxa yxa) ?_;refine wG ?_;clear V;generalize g0=g at *
   all_goals
    have V:HR (F++[(Pi g)]):=U.hr.cx (HV.one yxb);have eW:=V.closed;have ok:=qe _ p rfl;have JO:=ok.kl;have hol:=ok.ol;have PW:=ok.bl;have UF:=zl (jU x) (dy p).bd (jf (jU x) 0 % 3);obtain⟨w,J1,u,G3,r2,G2,f⟩:=aeO U yxd (by dsimp only;omega) g;have Q:=f.md;have hR7:=Q.hr;have mI:=f.cell;have JP:=Dd g (by rw[<-hT];omega);have FF:=aj (cC g);have hgb:aC g<=170:=by rw[<-hT];exact hTo.2
    have hbv:=iW g;have tO:=aj (dy p).bd;rw[au]at JP;refine .raw (λY'=>?_);refine D.move rfl ?_;refine .aaG (F++[(Pi g)]) [] (F++[(Pi g)]) [] ⟨0,λn _=>N4 T6 (vs:=[]) yxg rfl⟩ ?_ yxb rfl (Dc _ _) yxb eW rfl rfl;refine D.move rfl ?_;refine .aaG (F++[(Pi g)]) J1 (F++[(Pi g)]++J1) (List.replicate J1.length 3) ⟨0,λn _=>yS rfl rfl f.UQ⟩ ?_ rfl yxb (Dc _ _) yxb eW (by show(true&& (bq (bj (F++[(Pi g)])) R &&true))=true;rw[f.vkv];rfl) f.jl;refine .aaG (F++[(Pi g)]++J1.map fE) [] (F++[(Pi g)]++J1) (List.replicate J1.length 3) ⟨0,λn _=>N5 T6 (v:=.agg (Do g)) rfl (VO (mu:=.m) (n:=4) yxb yxb rfl rfl rfl)⟩ ?_ yxb yxb (De rfl) yxb (yu eW) (by show(bj (F++[(Pi g)]++J1.map fE) F.length&&true)=true;simp[bj]) rfl
    rcases f.ow with⟨hw,_⟩|⟨iw,ew,hw,_⟩ <;>subst hw
    all_goals
     refine bh.sP T6 ?_
     conv=>whnf
     skip
     refine bh.two rfl ?_ ⟨0,λn _=>acY T6 (z:=5) ?_ f.bs⟩ ?_
     rfl
     exact⟨rfl,rfl⟩;refine bh.two rfl rfl ⟨0,λn _=>yS rfl rfl f.UR⟩ ?_;refine D.assign rfl ?_;refine bh.nil ⟨_,_,rfl,?_⟩
     conv=>whnf
     refine wA ?_;refine .p JP ?_;refine wA ?_;refine .lr (λvb3 H3 l3=>?_) Q.ob (gC _) (by dsimp only;omega) (bg _ _ yxb);refine wA ?_;have Ym:dy (p++[x])=⟨(dy p).kn++PZ (jU x) (dy p).bd (jf (jU x) 0 % 3),(dy p).bd++cC g,(dy p).out++[⟨(dy p).kn++PZ (jU x) (dy p).bd (jf (jU x) 0 % 3),g⟩]⟩:=by rw[hfo,xD,hT]
     have M8:=Q.QV l3;dsimp only at M8;rw[<-Ym]at M8;exact .nx ⟨r2,R,vb3,_,_,rfl,M8⟩
 ·rintro _ H Y ⟨W,vk,P,t,es,rfl,M⟩;have hl6:(B.take 5).length=min 5 B.length:=by simp
  refine wC (λhc=>?_) λhc=>?_
  all_goals exact⟨_,_,_,_,M⟩
def qR(l:List cg):Nat:=(l.map λd=>bm d.kn+aC d.tm+2).sum
def bX(l:List cg):List Tm:=l.flatMap λd=>d.kn++[d.tm]
theorem nf(d:cg)(l:List cg):qR (d::l)=bm d.kn+aC d.tm+2+qR l:=by simp[qR]
theorem wW{d:cg}:∀{l:List cg},d∈l->bm d.kn+aC d.tm+2<=qR l
 |u::l,h=>by
  rw[nf];rcases agi.1 h with rfl |h;omega;have:=wW h;omega
theorem sZ:∀(l:List cg),l.length<=qR l
 |[]=>by simp
 |d::l=>by have:=sZ l;rw[nf,agj];omega
theorem PG(t:Tm):bm [t]=aC t:=by simp[bm]
theorem jV:∀(l:List cg),bm (bX l)<=qR l
 |[]=>by simp[bX,bm]
 |d::l=>by
  have:=jV l;rw[nf];simp only[bX,ahC,ni,PG]at this ⊢;omega
theorem Lr(l:List cg)(V:qR l<100000000):aT C 31 [.aa false (aR l)] (.aa false (ae (bX l))):=by
 have Z:=dE l;have tP:=sZ l;refine aT.x T6 Tryz.func31 rfl ?_;refine wA ?_;refine dU.zip T6 l (λp q L H=>∃v,L=[(0,.aa false (aR l)),(3,v),(4,.I p.length)]/\HV H/\Out 4 H v (ae (bX p))) (.nx ⟨_,rfl,HV.nil,.inl ⟨rfl,rfl⟩⟩) ?_ ?_
 ·rintro p d q _ H Y e ⟨v,rfl,w,f⟩;have Q:=gA e;have U:=lenE e;have J:bX l=bX p++(d.kn++[d.tm])++bX q:=by rw[e];simp[bX]
  have W:=jV l;have R:=bF (bX l);have N:=congrArg List.length J;simp only[agf,agj,agH]at N;have g:=aj (bX p);have yN:=aj d.kn;have D:aw [PV.agg (Do d.tm)]=true:=by simp
  have P:[.agg (Do d.tm)]=ae [d.tm]:=by rw[ae,<-au];rfl
  obtain⟨r1,O,b,G,K,y,t,u⟩:=X' T6 (st:=36) (xt:=36) (full:=false) (es:=ae (bX p)) (ys:=ae d.kn) rfl rfl rfl rfl rfl yxe rfl rfl f (gC _) yxa yxb yxb w;have z:(ae (bX p)++ae d.kn).length=(bX p).length+d.kn.length:=by rw[agf];omega
  obtain⟨r2,i,S,a,M,B,A,F⟩:=X' T6 (st:=36) (xt:=36) (full:=true) (es:=ae (bX p)++ae d.kn) (ys:=[.agg (Do d.tm)]) rfl rfl rfl rfl rfl yxe rfl rfl G rfl (by rw[z];simp;omega) (by rw[cU];simp) D K;refine wA ?_;refine .calm ?_ i (Jr (λ_=>rfl) rfl (λj o h=>?_) (λX Y=>?_)) ?_
  rotate_left
  ·rcases F j o h with h |h
   ·exact .inl h
   ·exact u j o h
  ·refine(uD (kP T6 yxg)).trans ?_;refine(uD (kP T6 yxg)).trans ?_;refine(uD (kP T6 yxg)).trans ?_;refine(uD (kR T6 (by(conv=>whnf);exact .mk (n:=p.length) ⟨rfl⟩ rfl Q rfl) rfl)).trans ?_;refine(uD (kP T6 yxg)).trans ?_;refine(uD (kR T6 yxg rfl)).trans ?_;refine(uD (X8 rfl rfl rfl rfl (yS rfl rfl b) y t)).trans ?_;refine(uD (kP T6 yxg)).trans ?_;refine(uD (kP T6 yxg)).trans ?_;refine(uD (kR T6 (by(conv=>whnf);exact .mk (n:=p.length) ⟨rfl⟩ rfl Q rfl) rfl)).trans ?_;refine(uD (kP T6 yxg)).trans ?_;refine(uD (kR T6 yxg rfl)).trans ?_;refine(uD (kBs rfl rfl rfl (Vx T6 yxg D))).trans ?_;refine(uD (X8 rfl rfl rfl rfl (yS rfl rfl S) B A)).trans ?_;refine(uD (kP T6 yxg)).trans ?_;exact rfl
  ·refine wA ?_;refine .nx ⟨_,rfl,M,?_⟩;rw[P,<-ch,<-ch]at a;rw[show bX (p++[d])=bX p++d.kn++[d.tm] by simp[bX]];exact a
 ·rintro _ H Y ⟨v,rfl,w,f⟩;refine wA ?_;exact Ls.NO (.inl f) yxb yxb
theorem Rv{v:PV}(o:Ls sz h v es)(J:aW v=true):b9 v=.aa false (aY es):=by
 rcases o with(⟨rfl,rfl⟩|⟨V,g,rfl,_⟩)|⟨f,rfl⟩
 rfl
 simp[aW]at J;simp[b9]
theorem Rw{v:PV}(o:Ls sz h v es)(J:aw es=true):∀V∈(cells v).flatMap tJ,∃o:ax,h[V]?=some o/\aw o.es=true/\(o.mu=.m\/o.mu=.f):=by
 rcases o with(⟨rfl,rfl⟩|⟨i,g,rfl,e⟩)|⟨f,rfl⟩
 intro V t;simp[cells,tJ]at t
 ·intro V t
  simp[cells,tJ]at t;subst t;exact⟨_,e,J,.inl rfl⟩
 intro V t;simp[cells,tJ]at t
theorem Mf{B:Nat}:∀{l:List cg},(∀d∈l,bm d.kn+aC d.tm+2<=B)->qR l<=l.length * B
 |[],_=>by simp[qR]
 |d::l,h=>by
  have O:=h d yxb;have X:=Mf (l:=l) λx U=>h x yxl
  rw[nf,agj,ag0];omega
theorem Rx(b:List (List Nat)):qR (nQ b)<=40000:=by
 obtain⟨O,X⟩:=As b
 have Q:=Mf (B:=7900) (l:=nQ b) λd J=>by
  obtain⟨U,z,_,V⟩:=X d J;have:=AB (B:=770) (l:=d.kn) λt Z=>(z t Z).2
  have:=agR 770 U;omega
 have:=agR 7900 O;omega
end aI
open Go.MapKept
set_option maxRecDepth 4000
def N7(es:List PV):Prop:=∀e∈es,∃s:ByteArray,e=.agg [.str s,.bool true]/\s.toList.head?≠some 113
theorem Mk(s:ByteArray):∀{es:List PV} (i:Nat),N7 es->∃r,oO (.str s) es i=some r
 |[],i,_=>⟨_,rfl⟩
 |e::es,i,h=>by
  obtain⟨a,rfl,_⟩:=h e yxb;have P:=Mk s (es:=es) (i+1) λx U=>h x yxl
  rw[oO]
  cases W:s==a with
  |true=>exact⟨some (i,.bool true),by simp[kQ,W]⟩
  |false=>obtain⟨r,z⟩:=P;exact⟨r,by simpa[kQ,W]using z⟩
theorem Ml{s:ByteArray}(S:s.toList.head?=some 113):∀{es:List PV} (i:Nat),N7 es->oO (.str s) es i=some none
 |[],i,_=>rfl
 |e::es,i,h=>by
  obtain⟨U,rfl,d⟩:=h e yxb;have P:=Ml S (es:=es) (i+1) λx a=>h x (by simp[a])
  have W:(s==U)=false:=by
   cases W:s==U with
   |false=>rfl
   |true=>
    rw[(bytes_beq _ _).1 W]at S;exact absurd S d
  rw[oO];simpa[kQ,W]using P
theorem aaK{s:ByteArray}(h:N7 es)(S:s.toList.head?≠some 113):∃U,Qc (.str s) (.bool true) es=some U/\N7 U:=by
 obtain⟨r,z⟩:=Mk s 0 h;unfold Qc;rw[z]
 cases r with
 |none=>exact⟨_,rfl,λe q=>by
   rcases agh.1 q with q |q;exact h e q;simp at q;exact⟨s,q,S⟩⟩
 |some p=>exact⟨_,rfl,λe q=>by
   rcases ah0 q with q |q;exact h e q;exact⟨s,q,S⟩⟩
theorem aaL{f:Nat->Bool}(h:N7 es):bB f es=true:=by
 rw[dx,af9]
 intro e q
 obtain⟨s,rfl,_⟩:=h e q
 rfl
noncomputable def sx(l p:List cg)(d:cg):Bool×Int:=
 if gB l≠0 then(false,gB l)
 else if kK (jt 0 (bN l)) (d.kn++nS p)≠0 then(false,kK (jt 0 (bN l)) (d.kn++nS p))
 else if(cj (jt 0 (bN l)) d.tm).2≠0 then(false,(cj (jt 0 (bN l)) d.tm).2)
 else(JR (cR (jt 0 (bN l)) (d.kn++nS p)) (cw (jt 0 (bN l)) d.tm),uK (cR (jt 0 (bN l)) (d.kn++nS p)) (cw (jt 0 (bN l)) d.tm))
theorem N8(p:List cg)(d:cg):nS (p++[d])=nS p++(if d.tm.k=1 then[d.tm]else[]):=by
 unfold nS;rw[aia,agN]
 congr 1
 by_cases h:d.tm.k=1 <;>simp[h]
def uL:Nat->List Tm->List PV
 |_,[]=>[]
 |n,v::l=>.agg [.int .i64 v.k,.str v.s,.int .i64 v.o,.aa false (ae v.l),.int .i64 2,.str (⟨#[113]⟩++⟨#[UInt8.ofNat (48+n)]⟩),.int .i64 v.o,.aa true []]::uL (n+1) l
theorem Gz:∀(l:List Tm) (n:Nat),(uL n l).length=l.length
 |[],_=>rfl
 |v::l,n=>by rw[uL,agj,agj,Gz l]
theorem Dh(v:Tm):∀(l:List Tm) (n:Nat),uL n (l++[v])=uL n l++[.agg [.I v.k,.str v.s,.I v.o,.aa false (ae v.l),.I 2,.str (⟨#[113]⟩++⟨#[UInt8.ofNat (48+(n+l.length))]⟩),.I v.o,.aa true []]]
 |[],n=>rfl
 |u::l,n=>by
  rw[agL,uL,uL,Dh v l (n+1),agL,agj,show n+1+l.length=n+(l.length+1) by omega]
@[simp] theorem N9:∀(l:List Tm) (n:Nat),aw (uL n l)=true
 |[],_=>rfl
 |v::l,n=>by simp[uL,aw,aW,N9 l]
@[simp] theorem GA:∀(l:List Tm) (n:Nat),aY (uL n l)=aU (jt n l)
 |[],_=>rfl
 |v::l,n=>by
  have h:vY n v.o=.mk 2 (⟨#[113]⟩++⟨#[UInt8.ofNat (48+n)]⟩) v.o []:=rfl;rw[uL,jt,aY,GA l,h];simp[aU,fW,b9,aY,Tm.k,Tm.s,Tm.o,Tm.l]
def ac7(sz:Nat)(h:ab)(v:PV)(es:List PV):Prop:=(v=.aa true []/\es=[])\/∃V g,∃i:Mu,v=.an V g 0 es.length/\h[V]?=some ⟨i,g,sz,es⟩/\(i=.m\/i=.f)
theorem Out.Rp{v:PV}(o:Out sz h v es)(z:Ro t h h'):ac7 sz h' v es:=by
 rcases o with o |⟨V,g,rfl,e⟩;exact .inl o
 ·obtain⟨i,O,X⟩:=z.oD V _ e;exact .inr ⟨V,g,i,rfl,O,X⟩
end Go.Pm
namespace Go.Pm
variable{f:FuncId}{n sz:Nat}{H h:ab}{V:List Tm}{rv:PV}{W es:List PV}{Q:PV->ab->Prop}{a b t u y z:Tm}{l p q:List cg}{F:List (Tm×Tm)}{d:cg}{S:List cV}{r:Int}
namespace aI
open Go.Proofs
attribute [local irreducible] aE az aO aL Ev ai ah ay bh bH
set_option maxRecDepth 4000
theorem aaM{w:Nat}{g V:PV}{i j h:List PV}(u:Ls n H g i)(d:Ls w H V W)(a:aT C f [.aa false j,.aa false h] rv)(q:∀b h',Ro b H h'->Q rv h')(A:C.mode f=.pure:=by rfl)
  (G:aw i=true:=by simp) (D:aw W=true:=by simp) (y:aY i=j:=by simp) (P:aY W=h:=by simp):ah C 2 f [g,V] H Q:=by
 by_cases v:aw [g,V]=true
 ·have e:=v;simp only[aw,ahO,age]at e;have N:=Rv u e.1;have O:=Rv d e.2;exact ah.pure A v (by simpa[aY,N,O,y,P]using a) (q [] H (.refl _ _))
 ·obtain⟨F,J,K⟩:=u.kZ G;obtain⟨S,U,M⟩:=d.kZ D;refine ah.aay (args':=[F,S]) (by simp[iR,J,U]) (by simpa using v) (λB t=>?_) (by simpa[aY,K,M,y,P]using a) (λh' z=>q _ h' z) A;simp only[jQ,ahC,List.flatMap_nil,agC,agh]at t;rcases t with t |t;exact Rw u G B t;exact Rw d D B t
theorem aaO{v:PV}{U:List PV}(o:ac7 sz H v es)(a:aT C f [.aa false U,enc t] rv)(q:∀h',Q rv h')(d:C.mode f=.pure:=by rfl)
  (J:aw es=true:=by simp) (hn:aY es=U:=by simp):ah C 2 f [v,.agg (Do t)] H Q:=by
 rw[<-au];rcases o with⟨rfl,rfl⟩|⟨V,g,j,rfl,e,b⟩
 ·obtain rfl:U=[]:=by simpa[aY]using hn.symm
  exact ah.pure d yxk yxq (q H)
 ·have N:getM H V g=some ⟨j,g,sz,es⟩:=by
   unfold getM;rw[e];rcases b with rfl |rfl <;>simp
  have X:=qg (h:=H) (show aw [enc t]=true by simp);refine ah.any (args':=[.aa false es,enc t]) ?_ yxk (λi B=>?_) (by simpa[aY,b9,hn]using a) q d
  ·unfold iR;rw[X];simp[kZ,rf,N,J,b]
  ·rw[au]at B
   have B:i=V:=by
    unfold jQ at B;simpa only[ahC,List.flatMap_nil,cells,tJ,agC,agi,ahb,or_false]using B
   subst B;exact⟨_,e,J,b⟩
theorem RC(f:eE sz es)(hn:es.length<1000000000)(J:aw es=true)(w:HR H):∃r H',bW sz [.aa false es] H=some (r,H')/\Out sz H' r es/\HR H'/\(∀(j:Nat) (o:ax),H[j]?=some o->H'[j]?=some o):=by
 unfold bW
 cases es with
 |nil=>exact⟨.aa true [],H,rfl,.inl ⟨rfl,rfl⟩,w,λ_ _ h=>h⟩
 |cons x r=>
  unfold eE at f;simp only[List.isEmpty_cons,agn,if_false];rw[if_pos ⟨f,hn⟩];exact⟨_,_,rfl,.inr ⟨H.length,0,rfl,by simp[newObj]⟩,w.cx (HV.one J),λj o h=>by rw[newObj,af8 (ag h)];exact h⟩
theorem aaP{v w:PV}{g:List PV}{i:Nat}(u:Out 8 h v g)(b:Out 4 h w W)(B:i∈bJ v):∀ep n,w≠.an i ep 0 n:=λep n H=>by
 rcases u with⟨rfl,_⟩|⟨V,e,rfl,q⟩;simp[bJ]at B
 ·simp[bJ]at B;subst B;rcases b with⟨rfl,_⟩|⟨a,N,rfl,z⟩
  cases H
  ·cases H
   rw[q]at z
   cases z
theorem RD(n:Nat)(h:n<4):aT C 49 [.I n] (.str ⟨#[UInt8.ofNat (48+n)]⟩):=by
 match n,h with
 |0,_=>exact aT.pw (n:=40) (by kernel_rfl)
 |1,_=>exact aT.pw (n:=40) (by kernel_rfl)
 |2,_=>exact aT.pw (n:=40) (by kernel_rfl)
 |3,_=>exact aT.pw (n:=40) (by kernel_rfl)
theorem sy(l R q0:List cg)(g:cg)(X:l=R++g::q0)(D:Yn l)(hl:l.length<1000000)(hb:bm (cD l)<900000):
  aT C 19 [.aa false (aR l),.I R.length] (.b8 [.bool (sx l R g).1,.I (sx l R g).2]):=by
 have cL:=dE l;have il:∀d∈l,∀t∈d.kn++[d.tm],t∈cD l:=λd P t Z=>ag6.2 ⟨d,P,Z⟩
 have VT:∀t∈cD l,aC t<900000:=λt Z=>by have:=cc Z;omega
 have cK:=bF (cD l)
 have JO:∀d∈l,d.kn.length<900000:=λd P=>by
  obtain⟨p,q,e⟩:=aiI P;have h2:d.kn.length<=(cD l).length:=by rw[e];simp[cD];omega
  omega
 have O:=gP l yxa (λd P=>⟨by have:=JO d P;omega,λt Z=>by have:=VT t (il d P t Z);omega⟩);have h3:=Cu l hl yxa;have hvb:∀x∈bN l,aC x<900000:=λx hx=>Di VT x (aha.1 hx).1
 have tO:=aj (bN l);have yv:R.length<l.length:=by rw[X];simp
 have hDn:=D.n
 have VU:∀t∈fq (cD l),t.s.toList.head?≠some 113:=λt Z=>by
  obtain⟨u,M,hp⟩:=dN.1 ((gM _ _).1 Z);obtain⟨d,P,M⟩:=ag6.1 M;exact(Yh (oY.1 (D.f d P u M)).2 hp).2
 have V:g∈l:=by rw[X];simp
 have Ab:=gA X;refine aT.x T6 Tryz.func19 rfl ?_;refine wA ?_;refine .p O ?_;refine wC (λhc=>?_) λhc=>?_
 ·have yM:gB l=0:=by omega
  have hM:sx l R g=if kK (jt 0 (bN l)) (g.kn++nS R)≠0 then(false,kK (jt 0 (bN l)) (g.kn++nS R))
    else if(cj (jt 0 (bN l)) g.tm).2≠0 then(false,(cj (jt 0 (bN l)) g.tm).2)
    else(JR (cR (jt 0 (bN l)) (g.kn++nS R)) (cw (jt 0 (bN l)) g.tm),uK (cR (jt 0 (bN l)) (g.kn++nS R)) (cw (jt 0 (bN l)) g.tm)):=by rw[sx,if_neg yxa]
  rw[hM];refine dU.zip T6 l (λp q L H=>∃v,L=[(0,.aa false (aR l)),(1,.I R.length),(7,v),(36,.aa false (aR l)),(37,.I (aR l).length),(38,.I p.length)]/\HV H/\Out 4 H v (ae (cD p))/\(p=[]->v=.aa true [])) (.nx ⟨_,rfl,HV.nil,.inl ⟨rfl,rfl⟩,λ_=>rfl⟩) ?_ ?_
  ·rintro p d q _ H Y e ⟨v,rfl,hH,U,_⟩;have dm:=gA e;have eR:=lenE e;have vD:cD (p++[d])=cD p++(d.kn++[d.tm]):=by simp[cD]
   have RE:(cD p).length+(d.kn++[d.tm]).length<=(cD l).length:=by rw[e];simp[cD]
   have hle:=aj (cD p);have hlu:=aj (d.kn++[d.tm]);have JP:=xG d (by simp at RE;omega);rw[tQ]at JP;have mo:=hH.cz (HV.one (ep:=0) (n:=5) (es:=[PV.agg [.aa false (ae d.kn),.I d.tm.k,.str d.tm.s,.I d.tm.o,.aa false (ae d.tm.l)]]) yxb);have N1:=U.cz [⟨.m,0,5,[PV.agg [.aa false (ae d.kn),.I d.tm.k,.str d.tm.s,.I d.tm.o,.aa false (ae d.tm.l)]]⟩];refine wA ?_;refine .p JP ?_;refine wH λv H lp=>?_;refine .nx ⟨_,rfl,lp.hv,?_,by simp⟩;have:=lp.out;rw[vD,ch];exact this
  ·rintro _ H Y ⟨v,rfl,hH,U,Cb⟩;have bD:cD l≠[]:=by rw[X];simp[cD]
   obtain⟨id,N,rfl,e1⟩:∃id N,v=.an id N 0 (ae (cD l)).length/\H[id]?=some ⟨.m,N,4,ae (cD l)⟩:=by
    rcases U with⟨_,h⟩|h;exact absurd (agm (by rw[<-aj,h];rfl)) bD;exact h
   have mo:HR (H++[(⟨.m,0,0,[]⟩:ax)]):=hH.hr.cx (HV.one yxb);have qx:=mT (cD l) bD (H++[⟨.m,0,0,[]⟩]) mo id N (by rw[af8 (ag e1)];exact e1) yxa;rw[aj]at *;refine wA ?_;refine .fr qx (λr h' hr hb=>?_) (λr h' r1 r2 r3 r4=>?_)
   ·obtain⟨_,id,N,n,rfl,bL⟩:=hr;simp[eI,cY,eu]at hb bL;omega
   obtain⟨⟨id2,zP,tl,rfl,e2,e3⟩,id3,ep3,n,e4,bL⟩:=r4
   have tM:H.length<id2:=by
    cases e4
    simp at bL;omega
   have hm0:h'[H.length]?=some ⟨.m,0,0,[]⟩:=by rw[r3 _ yxb];simp
   refine wA ?_;have QK:=nT (cD l);refine dU.zip T6 (fq (cD l)) (λp q L K=>∃S,L=[(0,.aa false (aR l)),(1,.I R.length),(10,.cq H.length),(49,.an id2 zP 0 (fq (cD l)).length),(50,.I (fq (cD l)).length),(51,.I p.length)]/\HR K/\K[id2]?=some ⟨.m,zP,4,ae (fq (cD l))++tl⟩/\K[H.length]?=some ⟨.m,0,0,S⟩/\N7 S) (.nx ⟨[],rfl,r1,e2,hm0,λe he=>by cases he⟩) ?_ ?_
   ·rintro p x q _ K Y e ⟨S,rfl,z,JS,F,hn⟩;have dm:=atM (tl:=tl) e;have eR:=lenE e;have LI:(ae (fq (cD l))++tl).length=(fq (cD l)).length+tl.length:=by rw[agf,aj]
    obtain⟨eG,hp,RF⟩:=aaK hn (VU x yxf);refine wA ?_;refine .mk hp ?_ (by rw[af8 (ag F)];exact F);refine wA ?_;have IZ:HR (K++[(Pi x)]):=z.cx (HV.one yxb);refine .nx ⟨eG,rfl,IZ.set _ yxb (aaL RF),?_,agc (by have:=ag F;simp;omega),RF⟩;rw[aga yxa,af8 (ag JS)];exact JS
   ·rintro _ K Y ⟨S,rfl,z,_,F,hn⟩;refine wA ?_;refine .p h3 ?_;refine wA ?_;refine dU.zip T6 (bN l) (λp q L K=>∃v,L=[(0,.aa false (aR l)),(1,.I R.length),(10,.cq H.length),(13,v),(14,.I p.length),(60,.aa false (ae (bN l))),(61,.I (ae (bN l)).length),(62,.I p.length)]/\HR K/\K[H.length]?=some ⟨.m,0,0,S⟩/\(∀i∈bJ v,i≠H.length)/\Out 8 K v (uL 0 p)) (.nx ⟨_,rfl,z,F,by simp[bJ],.inl ⟨rfl,rfl⟩⟩) ?_ ?_
    ·rintro p x q _ K Y e ⟨v,rfl,z,F,hvm,U⟩;have dm:=bO e;have tO:=aj (bN l);have eR:=lenE e;have UC:=RD p.length yxa;have vD:=Dh x p 0;rw[agz]at vD;have hfa:(⟨#[113]⟩++⟨#[UInt8.ofNat (48+p.length)]⟩:ByteArray)=⟨#[113,UInt8.ofNat (48+p.length)]⟩:=rfl;have hf:oO (.str (⟨#[113]⟩++⟨#[UInt8.ofNat (48+p.length)]⟩)) S 0=some none:=Ml (by rw[hfa,ByteArray.toList_eq];simp) 0 hn;have hDs:(⟨#[UInt8.ofNat (48+p.length)]⟩:ByteArray).size=1:=rfl;have hEs:(⟨#[113]⟩:ByteArray).size=1:=rfl;have IZ:HR (K++[(Pi x)]):=z.cx (HV.one yxb);have G:(K++[(Pi x)])[H.length]?=some ⟨.m,0,0,S⟩:=by rw[af8 (ag F)];exact F
     have N1:=U.cz [(Pi x)];have hcx:(K++[(Pi x)])[K.length]?=some (Pi x):=by simp
     have hlf:=Gz p 0;clear hfa;generalize(⟨#[UInt8.ofNat (48+p.length)]⟩:ByteArray)=Dg at *;refine wA ?_;refine dU.zip T6 ([]:List Nat) (λa b L J=>L=[(0,.aa false (aR l)),(1,.I R.length),(10,.cq H.length),(13,v),(14,.I p.length),(16,.ptr K.length 0 0 0),(60,.aa false (ae (bN l))),(61,.I (ae (bN l)).length),(62,.I p.length)]/\J=K++[(Pi x)]) (.nx ⟨rfl,rfl⟩) ?_ ?_
     ·rintro a u b _ J Y e _
      cases a <;>cases e
     ·rintro _ _ Y ⟨rfl,rfl⟩;refine wA ?_;refine .p UC ?_;refine wA ?_;refine .RG hf ?_ G;refine wA ?_;refine .mk (.str Dg) (by simpa[aY,b9]using UC) ?_;refine wA ?_;refine .lr (λv' h'' A=>?_) N1;refine wA ?_
      have FF:∀i∈bJ v',i≠H.length:=λi hi=>by
       rcases A.bJ i hi with h |h;exact hvm i h;have:=ag G;omega
      refine .nx ⟨_,rfl,A.hr,?_,FF,?_⟩
      ·rw[A.fr _ (ag G) (λN n h=>hvm H.length (by rw[h];simp[bJ]) rfl)];exact G
      ·rw[vD];exact A.out
    ·rintro _ K Y ⟨v,rfl,z,F,hvm,U⟩;have tO:=aj (bN l);have hsd:(0<=R.length/\R.length<=(aR l).length)/\Option.all (λv=>(cells v).length==5) (aR l)[0]?=true:=⟨⟨by omega,by omega⟩,by rw[X];cases R <;>simp[aR,tQ,cells]⟩;have N':List.take (R.length - 0) (List.drop 0 (aR l))=aR R:=by rw[ahs,X];simp[aR]
     obtain⟨w0,K1,a1,o1,IZ,k1⟩:=RC (gC g.kn) (by rw[aj];have:=JO g V;omega) yxb z
     have N1:Out 8 K1 v (uL 0 (bN l)):=U.of_eq λi hi=>by
      have O:=U.nP i hi;rw[k1 i _ (agd O),agd O]
     refine wA ?_;refine ah.de rfl a1 ?_;refine wA ?_;rw[N'];have oH:=dE R;refine dU.zip T6 R (λp q L K=>∃w,L=[(0,.aa false (aR l)),(1,.I R.length),(13,v),(17,w),(95,.aa false (aR R)),(96,.I (aR R).length),(97,.I p.length)]/\HR K/\Out 8 K v (uL 0 (bN l))/\Out 4 K w (ae (g.kn++nS p))) (.nx ⟨_,rfl,IZ,N1,by simpa[nS]using o1⟩) ?_ ?_
     ·rintro p u q _ K Y e ⟨w,rfl,z,hv,hw⟩;have dm:=gA e;have eR:=lenE e;have UF:=JO g V;have FP:(nS p).length<=p.length:=by unfold nS;rw[agY];exact ahf _ _
      have hle:=aj (g.kn++nS p);rw[agf]at hle;have vD:=N8 p u;have JS:=z.cx (HV.one (ep:=0) (n:=5) (es:=[PV.agg [.aa false (ae u.kn),.I u.tm.k,.str u.tm.s,.I u.tm.o,.aa false (ae u.tm.l)]]) yxb);have vf:=hv.cz [(⟨.m,0,5,[PV.agg [.aa false (ae u.kn),.I u.tm.k,.str u.tm.s,.I u.tm.o,.aa false (ae u.tm.l)]]⟩:ax)];have UU:=hw.cz [(⟨.m,0,5,[PV.agg [.aa false (ae u.kn),.I u.tm.k,.str u.tm.s,.I u.tm.o,.aa false (ae u.tm.l)]]⟩:ax)];refine wC (λhc=>?_) λhc=>?_
      ·refine .lr (λw' h'' A=>?_) UU;refine wA ?_;refine .nx ⟨_,rfl,A.hr,vf.of_eq λi hi=>A.fr i (vf.nP i hi) (aaP vf UU hi),?_⟩;rw[vD,if_pos yxa,<-ags,ch,Cf];exact A.out
      ·refine .nx ⟨_,rfl,JS,vf,?_⟩;rw[vD,if_neg yxa,agC];exact UU
     ·rintro _ K Y ⟨w,rfl,z,hv,hw⟩;have RI:=RB D;have UF:=JO g V;have FP:(nS R).length<=R.length:=by unfold nS;rw[agY];exact ahf _ _
      obtain⟨yd,ko⟩:=mZ yM;obtain⟨Jf,FA⟩:=ko g V;have aeS:∀u∈R,u∈l:=λu M=>by rw[X];exact ahX _ M
      have hKb:∀t∈g.kn++nS R,t∈cD l:=λt Z=>by
       rcases agh.1 Z with h |h;exact il g V t (by simp[h])
       ·obtain⟨u,M,rfl⟩:=agv.1 h;exact il u (aeS u (aha.1 M).1) u.tm yxb
      have RJ:∀t∈(g.kn++nS R)++[g.tm],mL t=true:=λt Z=>by
       have:t∈cD l:=by
        rcases agh.1 Z with h |h;exact hKb t h;simp at h;rw[h];exact il g V g.tm yxb
       obtain⟨u,M,h⟩:=ag6.1 this;exact(oY.1 (D.f u M t h)).1
      have hQf:∀b∈jt 0 (bN l),mL b.t=true:=λb hb=>by
       obtain⟨i,O,_,h3,h4⟩:=VR D hb;rw[h4];exact(Mi O h3).2.2.1
      have CW:=GB (jt 0 (bN l)) RI (g.kn++nS R) (by rw[agf];omega) (λt Z=>by have:=VT t (hKb t Z);omega);have oT:=AD (jt 0 (bN l)) RI g.tm (by have:=VT g.tm (il g V g.tm yxb);omega);have VW:aY (uL 0 (bN l))=aU (jt 0 (bN l)):=GA _ _;have Dj:(g.kn++nS R).length<=80:=by rw[agf];omega
      generalize jt 0 (bN l)=Q at *;generalize g.kn++nS R=j at *;obtain⟨W,ht1⟩:∃W,W=(cj Q g.tm).1:=⟨_,rfl⟩;have PU:(cj Q g.tm).2=0->W=cw Q g.tm:=λh=>by rw[ht1,(nV h).1]
      rw[<-ht1]at oT;rw[au W]at oT;refine wA ?_;refine aaM (.inl hv) (.inl hw) CW (λids h' hz=>?_) rfl yxb yxb VW;have CL:=hv.Rp hz;refine wC (λhc=>?_) λhc=>?_
      ·have Yo:kK Q j=0:=by omega
       rw[if_neg (show¬kK Q j≠0 by omega)]
       skip
       refine aaO CL oT (λh''=>?_) rfl yxb VW;refine wC (λhc=>?_) λhc=>?_
       ·have yv:(cj Q g.tm).2=0:=by omega
        have hww:=PU yv
        have hbb:bm (cR Q j++[W])<10000000:=by
         have O:∀t∈cR Q j++[W],aC t<=10000:=λt Z=>by
          rcases agh.1 Z with h |h
          ·rw[eJ]at h;obtain⟨y,hy,rfl⟩:=agv.1 h;exact bu (nV (xH Yo y hy)).2.2
          ·simp at h;rw[h,hww];exact bu (nV yv).2.2
         have:=AB (B:=10000) O;have h2:(cR Q j++[W]).length<=81:=by rw[agf,iU];simp;omega
         have:=agR 10000 h2;omega
        have VX:∀t∈cR Q j++[W],mL t=true:=by rw[hww];exact RA hQf RJ
        have F9:=Cv (cR Q j) W VX hbb;rw[au W]at F9;refine .p F9 ?_;refine wA ?_;refine⟨_,rfl,?_⟩;rw[if_neg (show¬kK Q j≠0 by omega),if_neg (show¬(cj Q g.tm).2≠0 by omega),<-hww]
        rfl
       ·refine⟨_,rfl,?_⟩;rw[if_neg (show¬kK Q j≠0 by omega),if_pos (show(cj Q g.tm).2≠0 by omega)]
        rfl
      ·refine⟨_,rfl,?_⟩;rw[if_pos (show kK Q j≠0 by omega)]
       rfl
 ·have hM:sx l R g=(false,gB l):=by rw[sx,if_pos yxa]
  exact⟨_,rfl,by rw[hM];rfl⟩
end aI
theorem xI{l:List Tm}(h:gY l):l.Nodup:=List.Pairwise.imp (λh e=>by rw[e,cP]at h;omega) h
theorem sA{a:List Tm}:∀{b:List Tm},a.Nodup->(∀x∈a,x∈b)->a.length<=b.length:=by
 induction a with
 |nil=>intro b _ _;simp
 |cons x a P=>
  intro b J S
  have U:=S x yxb;obtain⟨p,q,rfl⟩:=aiI U;have V:=aio.1 J
  have:=P (b:=p++q) V.2 λy F=>by
   have O:=S y (by simp[F]);have X:y≠x:=λe=>V.1 (e▸F)
   simp only[agh,agi]at O ⊢;rcases O with h |h |h;exact .inl h;exact absurd h X;exact .inr h
  simp only[agf,agj]at this ⊢;omega
def alike(a b:Tm):Bool:=decide (a.k=3)&&decide (b.k=3)&&iP a.s b.s&&decide (a.l.length=b.l.length)
structure qp where
 ps:List (Tm×Tm)
 bs:List cV
variable{s:qp}
def uB(v t:Tm)(b:cV):cV:=⟨b.v,cw [⟨v,t⟩] b.t⟩
def uP(v t:Tm)(p:Tm×Tm):Tm×Tm:=(cw [⟨v,t⟩] p.1,cw [⟨v,t⟩] p.2)
def okP(p:Tm×Tm):Bool:=decide (valid p.1=0)&&decide (valid p.2=0)
def abn(b:cV):Bool:=decide (valid b.t=0)
def ij(v t:Tm)(s:qp):qp×Int:=(⟨s.ps.map (uP v t),s.bs.map (uB v t)++[⟨v,t⟩]⟩,if((s.ps.map (uP v t)).all okP&& (s.bs.map (uB v t)).all abn)=true then 0 else 3)
def Bo(a b:Tm)(s:qp):qp×Int:=
 if a.o=b.o then(if aZ a b<0 then ij b a s else ij a b s)
 else if b.o=0 then ij b a s else if a.o≠0 then(s,11)else ij a b s
def Bq(a b:Tm)(s:qp):qp×Int:=if rn a b=false then(s,11)else if cG (pre b) a=true then(s,12)else ij a b s
def dK(a b:Tm)(s:qp):qp×Int:=
 if aZ a b=0 then(s,0)
 else if alike a b=true then(⟨a.l.zip b.l++s.ps,s.bs⟩,0)
 else if a.k=1/\b.k=1 then Bo a b s
 else if b.k=1 then Bq b a s
 else if a.k≠1 then(s,11)else Bq a b s
def KY(t:cV):List cV->List cV
 |[]=>[t]
 |x::r=>if aZ t.v x.v<=0 then t::x::r else x::KY t r
def mj:List cV->List cV
 |[]=>[]
 |t::r=>KY t (mj r)
theorem x4(t:cV):∀l:List cV,(KY t l).Perm (t::l)
 |[]=>.refl _
 |x::r=>by
  unfold KY
  split
  exact .refl _
  ·exact((x4 t r).cons x).trans (.swap t x r)
theorem gU:∀l:List cV,(mj l).Perm l
 |[]=>.refl _
 |t::r=>(x4 t (mj r)).trans ((gU r).cons t)
def fv:Nat->qp->Option (List cV×Int)
 |0,_=>none
 |n+1,⟨[],D⟩=>some (mj D,0)
 |n+1,⟨(a,b)::F,D⟩=>if(dK a b ⟨F,D⟩).2≠0 then some ([],(dK a b ⟨F,D⟩).2)else fv n (dK a b ⟨F,D⟩).1
theorem iL(h:valid z=0)(g:z.k=1):z.l=[]:=by
 obtain⟨k,s,o,l⟩:=z;have O:=(mg (dS.1 h).1).1;simp only[Tm.k]at g;subst g;simp only[node]at O
 split at O
 cases O
 ·rename_i a
  cases l with
  |nil=>rfl
  |cons x l=>exact absurd yxb (λR:(0<(x::l).length)=>a (by right;right;right;right;exact⟨by decide,R⟩))
theorem Pn(h:valid z=0)(F:y∈pre z):valid y=0:=by
 induction z using Tm.ind with
 |h k s o l P=>
  simp only[pre,agi]at F;rcases F with rfl |F;exact h
  ·obtain⟨t,Z,F⟩:=dN.1 F;exact P t Z (iV h Z) F
theorem fD{v:Tm}(J:v.l=[]):∀z:Tm,valid z=0->∀y∈pre (cw [⟨v,t⟩] z),y.k=1->(y∈pre z/\y≠v)\/y∈pre t:=by
 intro z
 induction z using Tm.ind with
 |h k s o l P=>
  intro M y F g
  unfold cw at F
  split at F
  ·rename_i O
   simp only[mz]at F
   split at F
   exact .inr F
   ·rename_i Q
    refine .inl ⟨F,?_⟩;rintro rfl;have A:=iL M O;simp only[Tm.l]at A;subst A;simp only[pre,cX,agi,ahb,or_false]at F;exact Q (by rw[F];exact cP _)
  ·rename_i O
   simp only[pre,agi]at F;rcases F with rfl |F;exact absurd g O
   ·obtain⟨x,U,F⟩:=dN.1 F;rw[eJ]at U;obtain⟨w,H,rfl⟩:=agv.1 U;rcases P w H (iV M H) y F g with⟨a,b⟩|a;exact .inl ⟨by simp only[pre,agi];exact .inr (dN.2 ⟨w,H,a⟩),b⟩;exact .inr a
def pTs(F:List (Tm×Tm)):List Tm:=F.flatMap λp=>[p.1,p.2]
def uV(F:List (Tm×Tm)):List Tm:=(fq (pTs F)).filter λy=>decide (y.k=1)
theorem kE:y∈uV F↔y.k=1/\∃p∈F,y∈pre p.1\/y∈pre p.2:=by
 simp only[uV,fq,aha,gM,decide_eq_true_eq,dN,pTs,ag6,agi,ahb,or_false]
 constructor
 ·rintro⟨⟨t,⟨p,K,rfl |rfl⟩,h⟩,g⟩
  ·exact⟨g,p,K,.inl h⟩
  ·exact⟨g,p,K,.inr h⟩
 ·rintro⟨g,p,K,h |h⟩
  ·exact⟨⟨_,⟨p,K,.inl rfl⟩,h⟩,g⟩
  ·exact⟨⟨_,⟨p,K,.inr rfl⟩,h⟩,g⟩
theorem Iv(F:List (Tm×Tm)):(uV F).Nodup:=xI (gN (iH _))
theorem MZ{a b:List (Tm×Tm)}(h:∀y∈uV a,y∈uV b):(uV a).length<=(uV b).length:=sA (Iv a) h
theorem Ze{a b:List (Tm×Tm)}{v:Tm}(h:∀y∈uV a,y∈uV b/\y≠v)(J:v∈uV b):(uV a).length<(uV b).length:=by
 have:=sA (a:=v::uV a) (b:=uV b) (aio.2 ⟨λR=>(h v R).2 rfl,Iv a⟩) (λy F=>by
  rcases agi.1 F with rfl |F;exact J;exact(h y F).1)
 have X:(uV a).length+1<=(uV b).length:=by simpa using this
 omega
def uS(F:List (Tm×Tm)):Nat:=(F.map λp=>(size p.1).toNat+(size p.2).toNat).sum
def yX(F:List (Tm×Tm)):Prop:=∀p∈F,valid p.1=0/\valid p.2=0
theorem TY(h:F.all okP=true):yX F:=λp K=>by
 have:=af9.1 h p K;simpa[okP]using this
structure Bnd(v t:Tm)(s:qp):Prop where
 vk:v.k=1
 vl:v.l=[]
 vt:v∉pre t
 hv:valid v=0
 ht:valid t=0
theorem BI{v:Tm}(h:(ij v t s).2=0):yX (ij v t s).1.ps/\∀b∈s.bs,valid (cw [⟨v,t⟩] b.t)=0:=by
 unfold ij at h ⊢;simp only at h ⊢
 split at h
 ·rename_i R
  rw[age]at R;refine⟨TY R.1,λb W=>?_⟩;have:=af9.1 R.2 (uB v t b) (agv.2 ⟨b,W,rfl⟩);exact of_decide_eq_true this
 cases h
inductive UDo(a b:Tm)(s:qp):qp×Int->Prop
 |same (h:a=b):UDo a b s (s,0)
 |kids (h1:a.k=3) (h2:b.k=3) (h3:a.s=b.s) (h4:a.l.length=b.l.length):UDo a b s (⟨a.l.zip b.l++s.ps,s.bs⟩,0)
 |bind {v t:Tm} (h:Bnd v t s) (hp:(v=a/\t=b)\/(v=b/\t=a)) (hf:v.o=0\/(t.k≠3/\t.o=v.o)):UDo a b s (ij v t s)
 |bad {e:Int} (h:e≠0):UDo a b s (s,e)
theorem wU(s:qp)(j:valid a=0)(W:valid b=0):UDo a b s (dK a b s):=by
 have P:∀{x y:Tm},x.k=1->y.k=1->valid y=0->x≠y->x∉pre y:=λ{x y} O X d G n=>by
  rw[Ry (iL d X) x n]at G;exact G rfl
 unfold dK
 split
 ·rename_i h;exact .same (dD h)
 ·rename_i Q
  have A:a≠b:=λh=>Q (by rw[h];exact cP _)
  split
  ·rename_i h
   simp only[alike,age,decide_eq_true_eq]at h;exact .kids h.1.1.1 h.1.1.2 (Sq h.1.2) h.2
  ·split
   ·rename_i g
    have i:Bnd b a s:=⟨g.2,iL W g.2,P g.2 g.1 j (agV A),W,j⟩;have e:Bnd a b s:=⟨g.1,iL j g.1,P g.1 g.2 W A,j,W⟩;unfold Bo
    split
    ·rename_i f
     split
     exact .bind i (.inr ⟨rfl,rfl⟩) (.inr ⟨by omega,f⟩);exact .bind e (.inl ⟨rfl,rfl⟩) (.inr ⟨by omega,f.symm⟩)
    ·split
     ·rename_i B;exact .bind i (.inr ⟨rfl,rfl⟩) (.inl B)
     ·split
      ·exact .bad yxe
      ·rename_i B;exact .bind e (.inl ⟨rfl,rfl⟩) (.inl yxa)
   ·have V:∀{x y:Tm},x.k=1->valid x=0->valid y=0->((x=a/\y=b)\/(x=b/\y=a))->UDo a b s (Bq x y s):=by
     intro x y U O X K
     unfold Bq
     split
     exact .bad yxe
     ·split
      ·exact .bad yxe
      ·rename_i u f
       have u:rn x y=true:=by cases q:rn x y;exact absurd q u;rfl
       simp only[rn,decide_eq_true_eq]at u;exact .bind ⟨U,iL O U,λh=>f (eH.2 h),O,X⟩ K u.2.2.2
    split
    ·rename_i h;exact V h W j (.inr ⟨rfl,rfl⟩)
    ·split
     ·exact .bad yxe
     ·rename_i h;exact V yxa j W (.inl ⟨rfl,rfl⟩)
theorem x6{l m:List Tm}{p:Tm×Tm}(h:p∈l.zip m):p.1∈l/\p.2∈m:=⟨(List.of_mem_zip h).1,(List.of_mem_zip h).2⟩
theorem TZ:∀(l m:List Tm),uS (l.zip m)<=(eL l).toNat+(eL m).toNat
 |[],m=>by simp[uS]
 |x::l,[]=>by simp[uS]
 |x::l,y::m=>by
  have P:=TZ l m;have O:=dY x;have X:=dY y;have Q:=dR l;have G:=dR m;simp only[uS,List.zip_cons_cons,agp,ahP,eL]at P ⊢;omega
theorem abJ(a b:List (Tm×Tm)):uS (a++b)=uS a+uS b:=by simp[uS]
theorem _root_.zb4{P:Prop}(h:P:=by
 exact kE.2 ⟨B.vk,(a,b),by simp,by rcases K with⟨rfl,_⟩|⟨rfl,_⟩;exact .inl (fK _);exact .inr (fK _)⟩):P:=h
theorem x7(j:valid a=0)(W:valid b=0)(S:yX s.ps)(h:(dK a b s).2=0):
  yX (dK a b s).1.ps/\((uV (dK a b s).1.ps).length<(uV ((a,b)::s.ps)).length\/((uV (dK a b s).1.ps).length<=(uV ((a,b)::s.ps)).length/\uS (dK a b s).1.ps<uS ((a,b)::s.ps))):=by
 have d:=wU s j W;generalize dK a b s=r at *;have A:=dY a;have H:=dY b
 cases d with
 |same e=>
  refine⟨S,.inr ⟨MZ λy F=>?_,?_⟩⟩
  ·obtain⟨U,p,z,g⟩:=kE.1 F;exact kE.2 ⟨U,p,by simp[z],g⟩
  ·simp only[uS,agp,ahP];omega
 |kids O X Q G=>
  refine⟨λp K=>?_,.inr ⟨MZ λy F=>?_,?_⟩⟩
  ·rcases agh.1 K with K |K
   ·obtain⟨U,z⟩:=x6 K
    cases a;cases b
    exact⟨iV j U,iV W z⟩
   ·exact S p K
  ·obtain⟨U,p,z,g⟩:=kE.1 F;refine kE.2 ⟨U,?_⟩;rcases agh.1 z with z |z
   ·obtain⟨f,V⟩:=x6 z;refine⟨(a,b),by simp,?_⟩
    cases a;cases b
    simp only[pre,agi,dN];rcases g with g |g;exact .inl (.inr ⟨_,f,g⟩);exact .inr (.inr ⟨_,V,g⟩)
   exact⟨p,by simp[z],g⟩
  ·have:=TZ a.l b.l;rw[abJ];simp only[uS,agp,ahP]at this ⊢;have D:size a=1+eL a.l:=by cases a;rfl
   have N:size b=1+eL b.l:=by cases b;rfl
   have Q:=dR a.l;have G:=dR b.l;omega
 | @bind v t B K w=>
  obtain⟨i,_⟩:=BI h;refine⟨i,.inl (Ze (v:=v) (λy F=>?_) ?_)⟩
  ·obtain⟨U,p,z,g⟩:=kE.1 F;obtain⟨R,P,rfl⟩:=agv.1 z;have M:y∈pre t->y∈uV ((a,b)::s.ps)/\y≠v:=λF=>⟨kE.2 ⟨U,(a,b),by simp,by rcases K with⟨_,rfl⟩|⟨_,rfl⟩;exact .inr F;exact .inl F⟩,λe=>B.vt (e▸F)⟩
   obtain⟨n,u⟩:=S R P;rcases g with g |g
   ·rcases fD B.vl R.1 n y g U with⟨f,V⟩|r
    ·exact⟨kE.2 ⟨U,R,by simp[P],.inl f⟩,V⟩
    ·exact M r
   ·rcases fD B.vl R.2 u y g U with⟨f,V⟩|r
    ·exact⟨kE.2 ⟨U,R,by simp[P],.inr f⟩,V⟩
    ·exact M r
  exact zb4
 |bad q=>exact absurd h q
theorem Iw:∀(n m:Nat) (s:qp),yX s.ps->(uV s.ps).length<=n->uS s.ps<=m->∃k R,fv k s=some R:=by
 intro n
 induction n with
 |zero=>
  intro m
  induction m with
  |zero=>
   rintro⟨F,D⟩ S z e
   cases F with
   |nil=>exact⟨1,_,rfl⟩
   |cons p F=>
    have:=dY p.1;simp only[uS,agp,ahP]at e;omega
  |succ m P=>
   rintro⟨F,D⟩ S z e
   cases F with
   |nil=>exact⟨1,_,rfl⟩
   |cons p F=>
    obtain⟨a,b⟩:=p;obtain⟨j,W⟩:=S (a,b) yxb;dsimp only at j W
    by_cases d:(dK a b ⟨F,D⟩).2=0
    ·obtain⟨f,A⟩:=x7 (s:=⟨F,D⟩) j W (λq y=>S q yxj) d;dsimp only at z e f A;obtain⟨k,R,g⟩:=P _ f yxa yxa;exact⟨k+1,R,by rw[fv,if_neg (by simp[d])];exact g⟩
    exact⟨1,_,by rw[fv,if_pos d]⟩
 |succ n i=>
  intro m
  induction m with
  |zero=>
   rintro⟨F,D⟩ S z e
   cases F with
   |nil=>exact⟨1,_,rfl⟩
   |cons p F=>
    have:=dY p.1;simp only[uS,agp,ahP]at e;omega
  |succ m P=>
   rintro⟨F,D⟩ S z e
   cases F with
   |nil=>exact⟨1,_,rfl⟩
   |cons p F=>
    obtain⟨a,b⟩:=p;obtain⟨j,W⟩:=S (a,b) yxb;dsimp only at j W
    by_cases d:(dK a b ⟨F,D⟩).2=0
    ·obtain⟨f,A⟩:=x7 (s:=⟨F,D⟩) j W (λq y=>S q yxj) d;dsimp only at z e f A
     have:∃k R,fv k (dK a b ⟨F,D⟩).1=some R:=by
      rcases A with A |⟨A,Q⟩;exact i _ _ f yxa (agb _);exact P _ f yxa yxa
     obtain⟨k,R,g⟩:=this;exact⟨k+1,R,by rw[fv,if_neg (by simp[d])];exact g⟩
    exact⟨1,_,by rw[fv,if_pos d]⟩
open Classical in
noncomputable def c8(t u:Tm):List cV×Int:=
 if valid t≠0 then([],valid t)else if valid u≠0 then([],valid u)
 else if h:∃k R,fv k ⟨[(t,u)],[]⟩=some R then Classical.choose (ahT h)else([],3)
theorem xV(Z:valid t=0)(y:valid u=0):∃k,fv k ⟨[(t,u)],[]⟩=some (c8 t u):=by
 have h:∃k R,fv k ⟨[(t,u)],[]⟩=some R:=Iw _ _ _ (λp K=>by simp at K;subst K;exact⟨Z,y⟩) (agb _) (agb _);refine⟨Classical.choose h,?_⟩;have:=ahT (ahT h);rw[c8,if_neg yxa,if_neg yxa,dif_pos h];exact this
structure La(V:List Tm)(s:qp):Prop where
 ok:yX s.ps
 ob:∀b∈s.bs,valid b.t=0/\valid b.v=0/\b.v.k=1
 pv:∀p∈s.ps,∀y,y.k=1->y∈pre p.1\/y∈pre p.2->y∈V
 bv:∀b∈s.bs,b.v∈V/\∀y∈pre b.t,y.k=1->y∈V
 np:∀b∈s.bs,∀p∈s.ps,b.v∉pre p.1/\b.v∉pre p.2
 nb:∀b∈s.bs,∀c∈s.bs,b.v∉pre c.t
theorem La.step(h:La V ⟨(a,b)::s.ps,s.bs⟩)(J:(dK a b s).2=0):La V (dK a b s).1:=by
 obtain⟨A,W⟩:=h.ok (a,b) yxb;have S:yX s.ps:=λp K=>h.ok p (by simp[K])
 have d:=wU s A W;generalize dK a b s=r at *
 cases d with
 |same e=>exact⟨S,h.ob,λp K=>h.pv p (by simp[K]),h.bv,λc G p K=>h.np c G p (by simp[K]),h.nb⟩
 |kids O h2 h3 h4=>
  have D:∀p∈a.l.zip b.l,(∀y∈pre p.1,y∈pre a)/\(∀y∈pre p.2,y∈pre b):=λp K=>by
   obtain⟨g,n⟩:=x6 K;exact⟨λy F=>iX a _ (tv g) y F,λy F=>iX b _ (tv n) y F⟩
  refine⟨λp K=>?_,h.ob,λp K y F R=>?_,h.bv,λc G p K=>?_,h.nb⟩
  ·rcases agh.1 K with K |K
   ·obtain⟨q1,q2⟩:=x6 K
    cases a;cases b
    exact⟨iV A q1,iV W q2⟩
   ·exact S p K
  ·rcases agh.1 K with K |K
   ·exact h.pv (a,b) yxb y F (R.imp ((D p K).1 y) ((D p K).2 y))
   ·exact h.pv p (by simp[K]) y F R
  ·rcases agh.1 K with K |K
   ·have:=h.np c G (a,b) yxb;exact⟨λR=>this.1 ((D p K).1 _ R),λR=>this.2 ((D p K).2 _ R)⟩
   ·exact h.np c G p (by simp[K])
 | @bind v t B K hf=>
  obtain⟨X,Z⟩:=BI J;have Y:∀y∈pre t,y.k=1->y∈V:=λy F j=>h.pv (a,b) yxb y j (by rcases K with⟨_,rfl⟩|⟨_,rfl⟩;exact .inr F;exact .inl F)
  have vV:v∈V:=h.pv (a,b) yxb v B.vk (by rcases K with⟨rfl,_⟩|⟨rfl,_⟩;exact .inl (fK _);exact .inr (fK _))
  have N:∀c∈s.bs,c.v∉pre t/\c.v≠v:=λc G=>by
   have:=h.np c G (a,b) yxb;rcases K with⟨rfl,rfl⟩|⟨rfl,rfl⟩;exact⟨this.2,λe=>this.1 (e▸fK _)⟩;exact⟨this.1,λe=>this.2 (e▸fK _)⟩
  have H:∀c∈(ij v t s).1.bs,(∃M∈s.bs,c=uB v t M)\/c=⟨v,t⟩:=λc G=>by
   simp only[ij,agh,agv,agu]at G;rcases G with⟨M,O,rfl⟩|rfl;exact .inl ⟨M,O,rfl⟩;exact .inr rfl
  refine⟨X,λc G=>?_,λp z y F R=>?_,λc G=>?_,λc G p z=>?_,λc G d U=>?_⟩
  ·rcases H c G with⟨M,f,rfl⟩|rfl
   ·exact⟨Z M f,(h.ob M f).2⟩
   ·exact⟨B.ht,B.hv,B.vk⟩
  ·obtain⟨i,P,rfl⟩:=agv.1 z;obtain⟨q,w⟩:=S i P;rcases R with R |R
   ·rcases fD B.vl i.1 q y R F with⟨g,_⟩|r
    ·exact h.pv i (by simp[P]) y F (.inl g)
    ·exact Y y r F
   ·rcases fD B.vl i.2 w y R F with⟨g,_⟩|r
    ·exact h.pv i (by simp[P]) y F (.inr g)
    ·exact Y y r F
  ·rcases H c G with⟨M,f,rfl⟩|rfl
   ·refine⟨(h.bv M f).1,λy F j=>?_⟩;rcases fD B.vl M.t (h.ob M f).1 y F j with⟨g,_⟩|r;exact(h.bv M f).2 y g j;exact Y y r j
   ·exact⟨vV,Y⟩
  ·obtain⟨i,P,rfl⟩:=agv.1 z;obtain⟨q,w⟩:=S i P;rcases H c G with⟨M,f,rfl⟩|rfl
   ·have j:=(h.ob M f).2.2;have Q:=h.np M f i (by simp[P]);refine⟨λR=>?_,λR=>?_⟩
    ·rcases fD B.vl i.1 q _ R j with⟨g,_⟩|r
     ·exact Q.1 g
     ·exact(N M f).1 r
    ·rcases fD B.vl i.2 w _ R j with⟨g,_⟩|r
     ·exact Q.2 g
     ·exact(N M f).1 r
   ·refine⟨λR=>?_,λR=>?_⟩
    ·rcases fD B.vl i.1 q _ R B.vk with⟨_,n⟩|r
     ·exact n rfl
     ·exact B.vt r
    ·rcases fD B.vl i.2 w _ R B.vk with⟨_,n⟩|r
     ·exact n rfl
     ·exact B.vt r
  ·rcases H d U with⟨u,f,rfl⟩|rfl
   ·intro R
    rcases H c G with⟨M,O,rfl⟩|rfl
    ·rcases fD B.vl u.t (h.ob u f).1 _ R (h.ob M O).2.2 with⟨g,_⟩|r
     ·exact h.nb M O u f g
     ·exact(N M O).1 r
    ·rcases fD B.vl u.t (h.ob u f).1 _ R B.vk with⟨_,n⟩|r
     ·exact n rfl
     ·exact B.vt r
   ·rcases H c G with⟨M,O,rfl⟩|rfl
    ·exact(N M O).1
    ·exact B.vt
 |bad W=>exact absurd J W
theorem Lb:∀{n:Nat} {s:qp} {R:List cV},fv n s=some (R,0)->La V s->∀b∈R,valid b.t=0/\b.v∈V/\b.v.k=1/\∀y∈pre b.t,y.k=1->y∈V/\∀c∈R,y≠c.v:=by
 intro n
 induction n with
 |zero=>intro s R h;cases h
 |succ n P=>
  rintro⟨F,D⟩ R h I
  cases F with
  |nil=>
   rw[fv]at h;obtain rfl:=(agk (af7 h)).1
   intro b W
   have W:=(gU D).mem_iff.1 W;refine⟨(I.ob b W).1,(I.bv b W).1,(I.ob b W).2.2,λy d g=>⟨(I.bv b W).2 y d g,λc G e=>?_⟩⟩;exact I.nb c ((gU D).mem_iff.1 G) b W (e▸d)
  |cons p F=>
   obtain⟨a,b⟩:=p;rw[fv]at h
   split at h
   ·rename_i q
    exact absurd (agk (af7 h)).2 q
   ·rename_i q
    exact P h (La.step (s:=⟨F,D⟩) I yxa)
theorem Xj:s.bs.length<=(dK a b s).1.bs.length:=by
 have W:∀v t,s.bs.length<=(ij v t s).1.bs.length:=λv t=>by simp[ij]
 unfold dK Bo Bq
 repeat' split
 all_goals first |exact agb _ |exact W _ _
theorem Lc:∀{n:Nat} {s:qp} {R:List cV},fv n s=some (R,0)->s.bs.length<=R.length:=by
 intro n
 induction n with
 |zero=>intro s R h;cases h
 |succ n P=>
  rintro⟨F,D⟩ R h
  cases F with
  |nil=>
   rw[fv]at h;obtain rfl:=(agk (af7 h)).1;rw[(gU D).length_eq];exact agb _
  |cons p F=>
   obtain⟨a,b⟩:=p;rw[fv]at h
   split at h
   ·rename_i q
    exact absurd (agk (af7 h)).2 q
   exact agI (Xj (a:=a) (b:=b) (s:=⟨F,D⟩)) (P h)
theorem T1:∀{l m:List Tm},l.length=m.length->(∀p∈l.zip m,p.1=p.2)->l=m
 |[],[],_,_=>rfl
 |[],_::_,h,_=>by simp at h
 |_::_,[],h,_=>by simp at h
 |x::l,y::m,h,K=>by
  have O:=K (x,y) yxb;simp only at O;have X:l=m:=T1 (by simpa using h) λp w=>K p (by simp[w])
  rw[O,X]
theorem BJ(h:valid a=0)(g:a.k=3):a.o=0:=by
 obtain⟨k,s,o,l⟩:=a;have O:=(mg (dS.1 h).1).1;simp only[Tm.k]at g;subst g;simp only[node]at O
 split at O
 cases O
 ·rename_i z
  simp only[Tm.o]
  by_cases f:o=0
  exact f;exact absurd (by simp[f]) z
theorem Ld:∀{n:Nat} {F:List (Tm×Tm)},fv n ⟨F,[]⟩=some ([],0)->yX F->∀p∈F,p.1=p.2:=by
 intro n
 induction n with
 |zero=>intro F h;cases h
 |succ n P=>
  intro F h S p K
  cases F with
  |nil=>cases K
  |cons q F=>
   obtain⟨a,b⟩:=q;obtain⟨j,W⟩:=S (a,b) yxb;have H:yX F:=λp K=>S p (by simp[K])
   rw[fv]at h
   split at h
   ·rename_i f
    exact absurd (agk (af7 h)).2 f
   ·rename_i f
    have f:(dK a b ⟨F,[]⟩).2=0:=by omega
    have d:=wU (s:=⟨F,[]⟩) j W;have i:=(x7 (s:=⟨F,[]⟩) j W H f).1;generalize dK a b ⟨F,[]⟩=r at *
    cases d with
    |same e=>
     rcases agi.1 K with rfl |K;exact e;exact P h H p K
    |kids O X Q G=>
     have:=P h i;rcases agi.1 K with rfl |K
     ·have A:=T1 G λp K=>this p (ahX _ K)
      have u:=BJ j O;have g:=BJ W X
      cases a;cases b
      simp only[Tm.k,Tm.s,Tm.o,Tm.l]at O X Q A u g;simp[O,X,Q,A,u,g]
     exact this p (aiy _ K)
    | @bind v t B J w=>
     have:=Lc h;simp[ij]at this
    |bad W=>exact absurd f W
theorem Po(Z:valid t=0)(a:valid u=0)(w:∀y,y.k=1->y∈pre t\/y∈pre u->y∈V)(q:(c8 t u).2=0):
  (∀b∈(c8 t u).1,valid b.t=0/\b.v∈V/\b.v.k=1/\∀y∈pre b.t,y.k=1->y∈V/\∀c∈(c8 t u).1,y≠c.v)/\(t≠u->(c8 t u).1≠[]):=by
 obtain⟨k,g⟩:=xV Z a;obtain⟨R,e⟩:∃R,c8 t u=(R,0):=⟨(c8 t u).1,by rw[<-q]⟩;rw[e]at g ⊢;have G:yX [(t,u)]:=λp K=>by simp at K;subst K;exact⟨Z,a⟩
 refine⟨Lb g ⟨G,by simp,λp K y F d=>?_,by simp,by simp,by simp⟩,λQ B=>?_⟩;simp at K;subst K;exact w y F d
 ·simp only at B;subst B;exact Q (Ld g G (t,u) yxb)
def abI:List ByteArray:=[⟨#[97,110,121]⟩,⟨#[97,103,101,110,116]⟩,⟨#[110,111,110,99,101]⟩,⟨#[107,101,121]⟩,⟨#[100,97,116,97]⟩,⟨#[116,97,103]⟩]
def wrd(o:Int):ByteArray:=abI.getD o.toNat ⟨#[]⟩
mutual
def I5:Tm->ByteArray
 | .mk k s o l=>if k=1 then(if o=0 then⟨#[63]⟩++s else⟨#[63]⟩++s++(⟨#[58]⟩++wrd o))else if k=2 then s++⟨#[58]⟩++wrd o else s++⟨#[40]⟩++Is false l++⟨#[41]⟩
def Is:Bool->List Tm->ByteArray
 |_,[]=>⟨#[]⟩
 |f,t::l=>(if f=true then⟨#[44,32]⟩else⟨#[]⟩)++(I5 t++Is true l)
end
mutual
def TR:Tm->Bool
 | .mk k s o l=>decide (0<=o/\o<=5)&&x5 l
def x5:List Tm->Bool
 |[]=>true
 |t::l=>TR t&&x5 l
end
mutual
theorem D0:∀t,nodes t=0->TR t=true
 | .mk k s o l,h=>by
  simp only[nodes]at h
  split at h
  ·rename_i B;exact absurd h B
  ·rename_i B
   simp only[node,Decidable.not_not]at B
   split at B
   cases B
   ·rename_i O
    simp only[TR,BG l h,ahO,decide_eq_true_eq];omega
theorem BG:∀l,mr l=0->x5 l=true
 |[],_=>rfl
 |t::l,h=>by
  simp only[mr]at h
  split at h
  ·rename_i B;exact absurd h B
  ·rename_i B
   simp only[x5,D0 t (by simpa using B),BG l h,ahd]
end
theorem Pk(h:valid t=0):TR t=true:=by
 unfold valid at h
 split at h
 ·rename_i B;exact absurd h B
 ·rename_i B;exact D0 t (by simpa using B)
theorem TT{o:Int}(h:0<=o/\o<=5):abI[o.toNat]?=some (wrd o)/\(wrd o).size<=5:=by
 have:o=0\/o=1\/o=2\/o=3\/o=4\/o=5:=by omega
 rcases this with rfl |rfl |rfl |rfl |rfl |rfl <;>exact⟨rfl,by decide⟩
theorem rc(a b:ByteArray):(a++b).size=a.size+b.size:=by simp
theorem sY(a b c:ByteArray):a++b++c=a++(b++c):=by
 apply ByteArray.ext;simp[Array.append_assoc]
theorem TW(a:ByteArray):a++⟨#[]⟩=a:=by
 apply ByteArray.ext;simp
theorem K'(a:ByteArray):(⟨#[]⟩:ByteArray)++a=a:=by
 apply ByteArray.ext;simp
mutual
theorem Ir:∀t,TR t=true->(I5 t).size+2<=10 * aC t
 | .mk k s o l,h=>by
  simp only[TR,age,decide_eq_true_eq]at h;have H:=(TT h.1).2;have A:=wT false l h.2;have D:(⟨#[63]⟩:ByteArray).size=1:=rfl;have N:(⟨#[58]⟩:ByteArray).size=1:=rfl;have P:(⟨#[40]⟩:ByteArray).size=1:=rfl;have M:(⟨#[41]⟩:ByteArray).size=1:=rfl;simp only[I5,aC]
  split
  split <;>simp only[rc,D,N] <;>omega
  split <;>simp only[rc,N,P,M] <;>omega
theorem wT:∀f l,x5 l=true->(Is f l).size<=10 * bm l
 |_,[],_=>by simp[Is,bm];rfl
 |f,t::l,h=>by
  simp only[x5,age]at h;have O:=Ir t h.1;have X:=wT true l h.2;have D:(⟨#[44,32]⟩:ByteArray).size=2:=rfl;have N:(⟨#[]⟩:ByteArray).size=0:=rfl;simp only[Is,bm]
  split <;>simp only[rc,D,N] <;>omega
end
theorem It:∀{l:List Tm} {a:Tm},x5 l=true->a∈l->TR a=true
 |y::l,a,h,d=>by
  simp only[x5,age]at h;rcases agi.1 d with rfl |d;exact h.1;exact It h.2 d
theorem Iu:∀{p q:List Tm},x5 (p++q)=true->x5 p=true
 |[],_,_=>rfl
 |y::p,q,h=>by
  simp only[agL,x5,age]at h;simp only[x5,h.1,Iu h.2,ahd]
theorem BH:∀(p q:List Tm),bm (p++q)=bm p+bm q
 |[],q=>by simp[bm]
 |y::p,q=>by simp only[agL,bm,BH p q];omega
theorem TX{l p q:List Tm}(h:x5 l=true)(e:l=p++a::q):(Is false p).size+10 * aC a<=10 * bm l:=by
 subst e;have O:=wT false p (Iu h);rw[BH];simp only[bm];omega
theorem BE(x:Tm):∀(f:Bool) (p:List Tm),Is f (p++[x])=Is f p++((if f=true\/p≠[]then⟨#[44,32]⟩else⟨#[]⟩)++I5 x)
 |f,[]=>by simp[Is,TW,K']
 |f,y::p=>by
  simp only[agL,Is,BE x true p,true_or,if_true,ne_eq,reduceCtorEq,not_false_eq_true,or_true,sY]
namespace aI
open Go.Proofs
attribute [local irreducible] aE az aO aL Ev ai ah ay bh bH
set_option maxRecDepth 4000
def y8:List cg->Nat->Int
 |[],_=>-1
 |d::l,n=>if d.tm.k≠1 then n else y8 l (n+1)
theorem MV{d:cg}{q:List cg}:∀{p:List cg} {n:Nat},(∀y∈p,y.tm.k=1)->y8 (p++d::q) n=if d.tm.k≠1 then((n+p.length:Nat):Int)else y8 q (n+p.length+1)
 |[],n,_=>by simp[y8]
 |x::p,n,h=>by
  rw[agL,y8,if_neg (by simp[h x yxb]),MV (λy F=>h y (by simp[F]))];simp only[agj];rw[show n+1+p.length=n+(p.length+1) by omega]
theorem DP:∀{l:List cg} {n:Nat},(∀y∈l,y.tm.k=1)->y8 l n=-1
 |[],_,_=>rfl
 |x::l,n,h=>by rw[y8,if_neg (by simp[h x yxb]),DP (λy F=>h y (by simp[F]))]
theorem _root_.zav{P:Prop}(h:P:=by
 refine wC (λG=>?_) λG=>?_
 all_goals exact⟨_,rfl,by simp[bo,b9, *]⟩):P:=h
theorem KM(d:cg):aT C 47 [tQ d] (.bool (decide (d.tm.k≠1))):=by
 rw[tQ];refine aT.x T6 Tryz.func47 rfl ?_;exact zav
theorem W2(l:List cg)(A:l.length<1000000000):ay C 46 [.aa false (aR l),.fn 47 []] [] (λr h'=>r=.I (y8 l 0)/\h'=[]):=by
 have Z:=dE l;refine ay.x T6 Tryz.func46 rfl ?_;refine wA ?_;refine dU.zip T6 l (λp _ L H=>L=[(0,.aa false (aR l)),(1,.fn 47 []),(7,.I (aR l).length),(8,.I p.length)]/\H=[]/\∀y∈p,y.tm.k=1) (.nx ⟨rfl,rfl,by simp⟩) ?_ ?_
 ·rintro p d q _ _ Y e ⟨rfl,rfl,K⟩;have Q:=gA e;have b:=lenE e;have O:=KM d;rw[tQ]at O;refine wA ?_;refine .p O ?_
  by_cases g:d.tm.k=1
  ·rw[show decide (d.tm.k≠1)=false by simp[g]];refine wA ?_;refine .nx ⟨rfl,rfl,λy F=>?_⟩;rcases agh.1 F with h |h;exact K y h;simp at h;rw[h];exact g
  ·rw[show decide (d.tm.k≠1)=true by simp[g]];refine wA ?_;refine⟨?_,rfl⟩;rw[e,MV K,if_pos g];simp[bo]
 ·rintro _ _ Y ⟨rfl,rfl,K⟩;refine wA ?_;exact⟨by rw[DP K];rfl,rfl⟩
theorem tC(l:List cg)(A:l.length<1000000000):aT C 18 [.aa false (aR l)] (.I (y8 l 0)):=by
 have O:=W2 l A;refine aT.x T6 Tryz.func18 rfl ?_;refine wA ?_;refine .ln O (λr d z=>by rw[z.2]) (λr d z=>?_);obtain⟨rfl,rfl⟩:=z;refine wA ?_;exact⟨_,rfl,rfl⟩
end aI
structure lW where
 r:Int
 bs:List cV
 ds:List cg
def uU(a:lW):PV:=.agg [.int .i64 a.r,.aa false (aU a.bs),.aa false (aR a.ds)]
def gD(l:List lW):List PV:=l.map uU
@[simp] theorem abK(a:lW):aW (uU a)=true:=by simp[uU]
@[simp] theorem aea(a:lW):b9 (uU a)=uU a:=by simp[uU,b9,aY]
@[simp] theorem Xk(l:List lW):aw (gD l)=true:=by rw[bz];simp[gD]
@[simp] theorem abL(l:List lW):aY (gD l)=gD l:=by rw[cB];simp[gD]
@[simp] theorem Pp(l:List lW):(gD l).length=l.length:=by simp[gD]
@[simp] theorem ab8:gD []=[]:=rfl
theorem T2{l p q:List lW}{a:lW}(e:l=p++a::q):(gD l)[p.length]?=some (.agg [.I a.r,.aa false (aU a.bs),.aa false (aR a.ds)]):=by rw[gD,e];simp[uU]
def gj:List cV->List cV->Bool
 |[],[]=>true
 |b::s,c::t=>(decide (aZ b.v c.v=0)&&decide (aZ b.t c.t=0))&&gj s t
 |_,_=>false
def ml(r:Int)(s:List cV)(b:lW):Bool:=decide (r=b.r)&&gj s b.bs
structure fC where
 out:List lW
 e:Int
noncomputable def oJ(l:List cg)(R:Int)(t u:Tm)(c:fC):fC:=
 if c.e≠0 then c
 else if(c8 t u).2≠0 then c
 else if c.out.any (ml R (c8 t u).1)=true then c
 else if instE l (c8 t u).1≠0 then⟨c.out,instE l (c8 t u).1⟩
 else⟨c.out++[⟨R,(c8 t u).1,instL l (c8 t u).1⟩],0⟩
variable{c:fC}
def tU(R:Int)(d:List cg)(c:fC):fC:=
 if c.e≠0 then c else if gB d≠0 then⟨c.out,gB d⟩else if c.out.any (ml R [])=true then c else⟨c.out++[⟨R,[],d⟩],0⟩
def qt(a:List Tm):List Tm:=(fq a).filter λt=>decide (t.k≠1)
noncomputable def Bt(l:List cg)(tm:Tm)(c:fC)(t:Tm):fC:=if aZ t tm=0 then c else oJ l 2 t tm c
noncomputable def KJ(l:List cg):List Tm->fC->fC
 |[],c=>c
 |t::r,c=>KJ l r (r.foldl (λc u=>oJ l 3 t u c) c)
def Tp(t:Tm):Bool:=decide (t.k=3)&&Dt t.s
def xX(d:cg):List cg:=d.tm.l.map λk=>⟨d.kn,k⟩
def yZ:List cg->List cg->Option (List cg×cg×List cg)
 |_,[]=>none
 |p,d::q=>if d.tm.k≠1 then some (p,d,q)else yZ (p++[d]) q
def rF(c:fC):List lW×Int:=if c.e≠0 then([],c.e)else(c.out,0)
noncomputable def DO(l p:List cg)(d:cg)(q:List cg):List lW×Int:=
 if 80<(qt d.kn).length then([],3)
 else rF (if Tp d.tm=true then tU 4 (p++xX d++q) (KJ l (qt d.kn) ((qt d.kn).foldl (Bt l d.tm) ⟨[],0⟩))else KJ l (qt d.kn) ((qt d.kn).foldl (Bt l d.tm) ⟨[],0⟩))
noncomputable def fB(l:List cg):List lW×Int:=
 if gB l≠0 then([],gB l)
 else match yZ [] l with
  |none=>([],9)
  |some (p,d,q)=>
   if(sx l p d).2≠0 then([],(sx l p d).2)
   else if(sx l p d).1=true then rF (tU 1 (p++q) ⟨[],0⟩)
   else DO l p d q
theorem wP:∀{p l:List cg} {a:List cg} {d:cg} {q:List cg},yZ p l=some (a,d,q)->p++l=a++d::q/\d.tm.k≠1
 |p,[],a,d,q,h=>by cases h
 |p,x::l,a,d,q,h=>by
  rw[yZ]at h
  split at h
  ·rename_i g
   simp only[agx,ah7]at h;obtain⟨rfl,rfl,rfl⟩:=h;exact⟨rfl,g⟩
  ·have:=wP h;rw[ags]at this;exact this
def Ix(d:cg):Int:=if d.tm.k≠1 then size d.tm else 0
def iM:List cg->Int
 |[]=>0
 |d::l=>Ix d+iM l
theorem oB(a b:List cg):iM (a++b)=iM a+iM b:=by
 induction a with
 |nil=>simp[iM]
 |cons d a P=>simp only[agL,iM,P];omega
theorem Le(d:cg):0<=Ix d/\Ix d<=size d.tm:=by
 have:=(dY d.tm).1;unfold Ix
 split <;>omega
theorem D3(a:List Tm):∀l:List Tm,iM (l.map λk=>⟨a,k⟩)<=eL l
 |[]=>by simp[iM,eL]
 |t::l=>by
  have O:=D3 a l;have X:=(Le ⟨a,t⟩).2;simp only[agp,iM,eL]at O X ⊢;omega
def wV(a l:List cg):Prop:=(bN a).length<(bN l).length\/((bN a).length<=(bN l).length/\iM a<iM l)
theorem Iy(l:List cg):(bN l).Nodup:=xI (gN (iH _))
theorem Iz{a:List cg}(h:∀d∈a,∀t∈d.kn++[d.tm],∀y∈cC t,y∈bN l):(bN a).length<=(bN l).length:=
 sA (Iy a) λy F=>by
  obtain⟨d,J,t,Z,F⟩:=js.1 F;exact h d J t Z y F
theorem Pq(e:l=p++d::q)(g:d.tm.k≠1):wV (p++q) l:=by
 refine .inr ⟨Iz λx U t Z y F=>js.2 ⟨x,?_,t,Z,F⟩,?_⟩
 ·rw[e];rcases agh.1 U with h |h <;>simp[h]
 ·have:=(dY d.tm).1;rw[e,oB,oB,iM,Ix,if_pos g];omega
theorem Lf(e:l=p++d::q)(g:d.tm.k≠1):wV (p++xX d++q) l:=by
 refine .inr ⟨Iz λx U t Z y F=>?_,?_⟩
 ·have J:d∈l:=by rw[e];simp
  simp only[agh]at U;rcases U with(h |h)|h;exact js.2 ⟨x,by rw[e];simp[h],t,Z,F⟩
  ·obtain⟨k,a,rfl⟩:=agv.1 h;rcases agh.1 Z with Z |Z;exact js.2 ⟨d,J,t,by simp only at Z;simp[Z],F⟩
   ·simp only[agu]at Z;subst Z;obtain⟨O,X⟩:=(jq _ _).1 F;exact js.2 ⟨d,J,d.tm,by simp,(jq _ _).2 ⟨iX _ _ (tv a) _ O,X⟩⟩
  exact js.2 ⟨x,by rw[e];simp[h],t,Z,F⟩
 ·have O:=D3 d.kn d.tm.l;have X:size d.tm=1+eL d.tm.l:=by cases d.tm;rfl
  rw[e,oB,oB,oB,iM,Ix,if_pos g,xX];omega
theorem D4:∀z:Tm,valid z=0->∀y∈pre (cw S z),y.k=1->(∃b∈S,y∈pre b.t)\/(y∈pre z/\∀b∈S,b.v≠y):=by
 intro z
 induction z using Tm.ind with
 |h k s o l P=>
  intro M y F g
  unfold cw at F
  split at F
  ·rename_i O
   rcases Mg (S:=S) (x:=.mk k s o l)with⟨b,W,_,e⟩|⟨d,e⟩
   ·rw[e]at F;exact .inl ⟨b,W,F⟩
   ·rw[e]at F;refine .inr ⟨F,?_⟩;have A:=iL M O;simp only[Tm.l]at A;subst A;simp only[pre,cX,agi,ahb,or_false]at F;subst F;exact d
  ·rename_i O
   simp only[pre,agi]at F;rcases F with rfl |F;exact absurd g O
   ·obtain⟨x,U,F⟩:=dN.1 F;rw[eJ]at U;obtain⟨w,H,rfl⟩:=agv.1 U;rcases P w H (iV M H) y F g with h |⟨a,b⟩;exact .inl h;exact .inr ⟨by simp only[pre,agi];exact .inr (dN.2 ⟨w,H,a⟩),b⟩
theorem inst_zero(h:instE l S=0):instL l S=l.map (rB S)/\gB l=0:=by
 refine⟨by rw[instL,if_neg yxa],?_⟩;unfold instE at h
 split at h
 ·rename_i O;exact absurd h O
 ·rename_i O;omega
theorem _root_.zb1{P:Prop}(h:P:=by
 simp only[rB,agh,agu,eJ,agv]at U;rcases U with⟨Y,f,rfl⟩|rfl;exact⟨Y,by simp[f],rfl⟩;exact⟨e.tm,by simp,rfl⟩):P:=h
theorem Pr(Z:valid t=0)(A:valid u=0)(w:∀y,y.k=1->y∈pre t\/y∈pre u->y∈bN l)(Q:t≠u)(h0:(c8 t u).2=0)(q:instE l (c8 t u).1=0):wV (instL l (c8 t u).1) l:=by
 obtain⟨O,X⟩:=Po Z A w h0;have X:=X Q;generalize(c8 t u).1=S at *;obtain⟨D,N⟩:=inst_zero q;obtain⟨_,M⟩:=mZ N;rw[D]
 cases S with
 |nil=>exact absurd rfl X
 |cons b S=>
  left
  have W:=O b yxb;have:=sA (a:=b.v::bN (l.map (rB (b::S)))) (b:=bN l) ?_ ?_
  ·have i:(bN (List.map (rB (b::S)) l)).length+1<=(bN l).length:=by simpa using this
   exact i
  ·refine aio.2 ⟨λR=>?_,Iy _⟩;obtain⟨d,J,x,U,F⟩:=js.1 R;obtain⟨e,V,rfl⟩:=agv.1 J
   have:∃Y∈e.kn++[e.tm],x=cw (b::S) Y:=by
    exact zb1
   obtain⟨Y,f,rfl⟩:=this;obtain⟨g,z⟩:=(jq _ _).1 F;rcases D4 Y (lB ((M e V).2 Y f)).1 _ g z with⟨c,G,h⟩|⟨_,j⟩;exact((O c G).2.2.2 _ h z).2 b yxb rfl;exact j b yxb rfl
  ·intro y F
   rcases agi.1 F with rfl |F;exact W.2.1
   ·obtain⟨d,J,x,U,F⟩:=js.1 F;obtain⟨e,V,rfl⟩:=agv.1 J
    have:∃Y∈e.kn++[e.tm],x=cw (b::S) Y:=by
     exact zb1
    obtain⟨Y,f,rfl⟩:=this;obtain⟨g,z⟩:=(jq _ _).1 F;rcases D4 Y (lB ((M e V).2 Y f)).1 _ g z with⟨c,G,h⟩|⟨n,_⟩;exact((O c G).2.2.2 _ h z).1;exact js.2 ⟨e,V,Y,f,(jq _ _).2 ⟨n,z⟩⟩
def qu(l:List cg)(c:fC):Prop:=∀a∈c.out,wV a.ds l
structure Xl(l:List cg)(t:Tm):Prop where
 ok:valid t=0
 v:∀y,y.k=1->y∈pre t->y∈bN l
theorem qu.SP(h:qu l c)(Z:Xl l t)(b:Xl l u)(Q:t≠u):qu l (oJ l r t u c):=by
 unfold oJ
 split
 exact h
 ·split
  ·exact h
  ·rename_i B
   split
   exact h
   ·split
    ·exact h
    ·rename_i q
     intro a j
     rcases agh.1 j with j |j;exact h a j
     ·simp only[agu]at j;subst j;exact Pr Z.ok b.ok (λy g F=>F.elim (Z.v y g) (b.v y g)) Q yxa yxa
theorem qu.U2(h:qu l c){d:List cg}(J:wV d l):qu l (tU r d c):=by
 unfold tU
 split
 exact h
 ·split
  ·exact h
  ·split
   ·exact h
   ·intro a j
    rcases agh.1 j with j |j;exact h a j
    ·simp only[agu]at j;subst j;exact J
theorem qu.kn{l:List cg}{tm:Tm}(y:Xl l tm):∀(F:List Tm) {c:fC},qu l c->(∀t∈F,Xl l t)->qu l (F.foldl (Bt l tm) c)
 |[],c,h,_=>h
 |t::F,c,h,K=>by
  rw[aht];refine qu.kn y F ?_ λx U=>K x yxl
  unfold Bt
  split
  exact h
  ·rename_i Q
   exact h.SP (K t yxb) y λe=>Q (by rw[e];exact cP _)
theorem qu.eqs{l:List cg}:∀(F:List Tm) {c:fC},qu l c->(∀t∈F,Xl l t)->F.Nodup->qu l (KJ l F c)
 |[],c,h,_,_=>h
 |t::F,c,h,K,z=>by
  rw[KJ];obtain⟨S,v⟩:=aio.1 z;refine qu.eqs F ?_ (λx U=>K x yxl) v
  have X:∀(W:List Tm) {c:fC},qu l c->(∀u∈W,Xl l u/\t≠u)->qu l (W.foldl (λc u=>oJ l 3 t u c) c):=by
   intro W
   induction W with
   |nil=>intro c h _;exact h
   |cons u W P=>
    intro c h y
    rw[aht];exact P (h.SP (K t yxb) (y u yxb).1 (y u yxb).2) λx U=>y x yxl
  exact X F h λu a=>⟨K u (by simp[a]),λe=>S (e▸a)⟩
theorem MU(h:gB l=0)(J:d∈l):(∀t∈qt d.kn,Xl l t)/\Xl l d.tm:=by
 obtain⟨_,M⟩:=mZ h
 have V:∀x∈d.kn++[d.tm],∀t∈pre x,Xl l t:=λx U t Z=>by
  refine⟨Pn (lB ((M d J).2 x U)).1 Z,λy g F=>js.2 ⟨d,J,x,U,(jq _ _).2 ⟨iX x t Z y F,g⟩⟩⟩
 refine⟨λt Z=>?_,V d.tm yxb d.tm (fK _)⟩;obtain⟨O,_⟩:=aha.1 Z;obtain⟨x,U,Z⟩:=dN.1 ((gM _ _).1 O);exact V x yxl t Z
theorem Ps{l:List cg}(f:(fB l).2=0):∀a∈(fB l).1,wV a.ds l:=by
 have J:∀{c:fC},qu l c->∀a∈(rF c).1,wV a.ds l:=λ{c} h a j=>by
  unfold rF at j
  split at j
  cases j
  exact h a j
 have nil:qu l ⟨[],0⟩:=λa j=>by cases j
 intro a j
 unfold fB at j
 split at j
 cases j
 ·rename_i M
  have M:gB l=0:=by omega
  split at j
  cases j
  ·rename_i p d q S
   obtain⟨e,g⟩:=wP S;rw[agS]at e
   split at j
   cases j
   ·split at j
    ·exact J (nil.U2 (Pq e g)) a j
    ·unfold DO at j
     split at j
     cases j
     ·obtain⟨W,Y⟩:=MU M (d:=d) yxf;have b:=qu.eqs (qt d.kn) (qu.kn Y (qt d.kn) nil W) W (List.Nodup.sublist List.filter_sublist (xI (iH _)));refine J ?_ a j
      split
      exact b.U2 (Lf e g);exact b
set_option maxRecDepth 4000
theorem uY:∀{p p' a b:List cV},p.length=p'.length->gj (p++a) (p'++b)=(gj p p' &&gj a b)
 |[],[],a,b,_=>by simp[gj]
 |[],_::_,_,_,h=>by simp at h
 |_::_,[],_,_,h=>by simp at h
 |x::p,y::p',a,b,h=>by
  simp only[agL,gj,uY (p:=p) (p':=p') (a:=a) (b:=b) (by simpa using h),Bool.and_assoc]
theorem BK:∀{a b:List cV},gj a b=true->a.length=b.length
 |[],[],_=>rfl
 |[],_::_,h=>by simp[gj]at h
 |_::_,[],h=>by simp[gj]at h
 |x::a,y::b,h=>by
  rw[gj,age]at h;simp[BK h.2]
theorem T3{v:Type}{l:List v}(h:n<l.length):∃x,l=l.take n++x::l.drop (n+1)/\(l.take n).length=n:=⟨l[n],by simp,by simp;omega⟩
namespace aI
open Go.Proofs
attribute [local irreducible] aE az aO aL Ev ai ah ay bh bH
theorem xW(a b:Tm)(j:aC a<1000000000)(W:aC b<1000000000):aT C 24 [enc a,enc b] (.bool (decide (aZ a b=0))):=by
 have O:=(dT a b j W).nine;rw[au a,au b]at O ⊢;refine aT.x T6 Tryz.func24 rfl ?_;refine wA ?_;refine .p O ?_;exact zav
structure rD(b:cV):Prop where
 v:aC b.v<100000000
 t:aC b.t<100000000
theorem T4(a b:cV)(j:rD a)(W:rD b):aT C 132 [fW a,fW b] (.bool (decide (aZ a.v b.v=0)&&decide (aZ a.t b.t=0))):=by
 have O:=xW a.v b.v (by have:=j.v;omega) (by have:=W.v;omega);have X:=xW a.t b.t (by have:=j.t;omega) (by have:=W.t;omega);rw[au a.v,au b.v]at O;rw[au a.t,au b.t]at X;rw[iG a,iG b]
 cases J:decide (aZ a.v b.v=0)
 ·rw[J]at O;refine aT.x T6 Tryz.func132 rfl ?_;refine wA ?_;refine .p O ?_;refine wA ?_;exact⟨_,rfl,rfl⟩
 ·rw[J]at O;refine aT.x T6 Tryz.func132 rfl ?_;exact za8
theorem T5(a b:List cV)(j:∀x∈a,rD x)(W:∀x∈b,rD x)(u:a.length<100000000)(R:b.length<100000000):
  aT C 131 [.aa false (aU a),.aa false (aU b),.fn 132 []] (.bool (gj a b)):=by
 have D:=fR a;have N:=fR b;refine aT.x T6 Tryz.func131 rfl ?_;refine wC (λG=>?_) λG=>?_
 ·refine dU.zip T6 a (λp q L H=>L=[(1,.aa false (aU b)),(2,.fn 132 []),(15,.aa false (aU a)),(16,.I (aU a).length),(17,.I p.length)]/\HV H/\gj p (b.take p.length)=true) (.nx ⟨rfl,HV.nil,rfl⟩) ?_ ?_
  ·rintro p x q _ H Y e ⟨rfl,w,K⟩;have Q:=vP e;have g:=lenE e;obtain⟨y,P,M⟩:=T3 (l:=b) (n:=p.length) yxa;have O:=vP P;rw[M]at O;have U:=j x yxf;have F:=W y (by rw[P];simp);have f:=T4 x y U F;rw[iG x,iG y]at f
   have d:gj a b=((decide (aZ x.v y.v=0)&&decide (aZ x.t y.t=0))&&gj q (b.drop (p.length+1))):=by
    rw[e,P];rw[uY (by rw[M])];rw[<-P,K,gj,ahA]
   refine wA ?_;refine .p f ?_
   cases G:(decide (aZ x.v y.v=0)&&decide (aZ x.t y.t=0))
   ·refine wA ?_;exact⟨_,rfl,by rw[d,G];rfl⟩
   ·refine wA ?_;refine .nx ⟨rfl,(w.cz (HV.one yxb)).cz (HV.one yxb),?_⟩
    have Z:b.take (p++[x]).length=b.take p.length++[y]:=by
     rw[agf,ag5,List.take_add_one];have:b[p.length]?=some y:=by rw[P,agl yxa];simp[M]
     rw[this];rfl
    rw[Z,uY (by rw[M]),K,gj,G]
    rfl
  ·rintro _ H Y ⟨rfl,w,K⟩;refine wA ?_;refine⟨_,rfl,?_⟩;have:b.take a.length=b:=agB yxa;rw[this]at K;rw[K]
   rfl
 ·refine⟨_,rfl,?_⟩
  have:gj a b=false:=by
   cases h:gj a b
   rfl
   have:=BK h;omega
  rw[this]
  rfl
theorem T7(a b:List cV)(j:∀x∈a,rD x)(W:∀x∈b,rD x)(u:a.length<100000000)(R:b.length<100000000):aT C 96 [.aa false (aU a),.aa false (aU b)] (.bool (gj a b)):=by
 have O:=T5 a b j W u R;refine aT.x T6 Tryz.func96 rfl ?_;refine wA ?_;refine .p O ?_;refine wA ?_;exact⟨_,rfl,rfl⟩
theorem DL(r:Int)(s:List cV)(z:List cg)(b:lW)(j:∀x∈s,rD x)(W:∀x∈b.bs,rD x)(u:s.length<100000000)(R:b.bs.length<100000000):aT C 63 [.agg [.I r,.aa false (aU s),.aa false (aR z)],uU b] (.bool (ml r s b)):=by
 have O:=T7 s b.bs j W u R;have A:ml r s b=(decide (r=b.r)&&gj s b.bs):=rfl;rw[uU];refine aT.x T6 Tryz.func63 rfl ?_;refine wC (λG=>?_) λG=>?_
 ·refine .p O ?_;refine wA ?_;exact⟨_,rfl,by rw[A,decide_eq_true yxa];rfl⟩
 exact⟨_,rfl,by rw[A,decide_eq_false yxa];rfl⟩
theorem T8(H:ab)(w:HR H):ay C 28 [.aa false []] H (λr h'=>r=.aa true []/\h'=H++[⟨.m,0,1,[.aa true []]⟩]):=by
 refine ay.x T6 Tryz.func28 rfl ?_;refine wA ?_;refine dU.zip T6 ([]:List Tm) (λp q L K=>L=[(3,.ptr H.length 0 0 0),(6,.aa false []),(7,.I 0),(8,.I p.length)]/\K=H++[⟨.m,0,1,[.aa true []]⟩]) (.nx ⟨rfl,rfl⟩) ?_ ?_
 ·rintro p u q _ K Y e _
  cases p <;>cases e
 ·rintro _ _ Y ⟨rfl,rfl⟩;exact zay
theorem Ft(l:List Tm)(h0:l≠[])(H:ab)(W:HR H)(hl:bm l<10000000):ay C 28 [.aa false (ae l)] H (λr h'=>HR h'/\H.length<=h'.length/\(∀j,j<H.length->h'[j]?=H[j]?)/\AQ h' r (fq l)/\∃V ep n,r=.an V ep 0 n/\H.length<=V):=by
 have cL:=aj l;have uE:=bF l;obtain⟨B,X⟩:∃B:ab,B=H++[⟨.m,0,1,[.aa true []]⟩]:=⟨_,rfl⟩;have A:B.length=H.length+1:=by rw[X];simp
 have w:HR B:=by rw[X];exact W.cx (HV.one rfl)
 have b:B[H.length]?=some ⟨.m,0,1,[.aa true []]⟩:=by rw[X];simp
 refine ay.x T6 Tryz.func28 rfl ?_;refine wA ?_;rw[<-X];refine dU.zip T6 l (λp q L K=>L=[(3,.ptr H.length 0 0 0),(6,.aa false (ae l)),(7,.I (ae l).length),(8,.I p.length)]/\KV H.length B (.aa true []) (cX p) K) (.nx ⟨rfl,w,agb _,⟨_,b,.inl ⟨rfl,rfl⟩,λi g=>.inl g⟩,λ_ _ _ _=>rfl⟩) ?_ ?_
 ·rintro p u q _ K Y e ⟨rfl,d⟩;have dm:=bO e;have eR:=lenE e;obtain⟨v,U,q2,q3⟩:=d.var;have D:=d.len;have f:=d.hr
  have tZ:H.length∉bJ v:=λg=>by
   rcases q3 _ g with h |h;simp[bJ]at h;omega
  have Yx:bm l=bm p+(aC u+bm q):=by rw[e,ni];simp[bm]
  have oH:(cX p).length<=bm p:=nM p;have F:=Hi H.length u (K++[⟨.m,0,4,[enc u]⟩]) v (cX p) (f.cx (HV.one yxb)) (by rw[af8 (ag U)];exact U) (q2.cz _) tZ yxa;rw[au]at F;refine wA ?_;refine ah.kv F yxd (λh' ks=>?_);refine wA ?_;refine .nx ⟨rfl,?_⟩;have:=d.trans U ks.jk;rwa[show cX p++pre u=cX (p++[u]) by rw[nj];simp[cX]]at this
 ·rintro _ K Y ⟨rfl,d⟩;obtain⟨v',M,N,P⟩:=d.var;have R:=d.hr;have D:=d.len;have oH:=nM l;have G:dd (fj (cX l))=fq l:=EF _;rcases N with⟨rfl,S⟩|⟨V,ep,rfl,N⟩;exact absurd (agm (by rw[<-aj,S];rfl)) (MA h0)
  ·have ho:=uN K R V ep (cX l) N yxa (λu y=>by obtain⟨t,ht,y⟩:=dN.1 y;have:=qb t u y;have:=cc ht;omega);rw[aj]at M
   have bL:H.length+1<=V:=by
    rcases P V yxi with h |h;simp[bJ]at h;omega
   refine wA ?_;refine .ln ho (λr h' z=>by obtain⟨_,_,_,rfl⟩:=z;simp) (λr h' z=>?_);obtain⟨rfl,O,J,rfl⟩:=z;rw[G];have Q:=agc (a:=(⟨.m,ep,4,ae (fq l)++O⟩:ax)) (ag N);refine wA ?_;refine⟨R.set _ yxb (bg _ _ (by rw[cU,J];simp)),by simp;omega,λj Z=>?_,⟨V,ep,O,rfl,Q,J⟩,V,ep,_,rfl,by omega⟩;rw[aga yxa,d.fr j yxa yxa yxi,X,af8 Z]
theorem Lg(t:Tm):aT C 58 [enc t] (.bool (decide (t.k=1))):=by
 rw[au];refine aT.x T6 Tryz.func58 rfl ?_;exact zav
theorem KI(a:List Tm)(W:bm a<10000000):aT C 23 [.aa false (ae a)] (.aa false (ae (qt a))):=by
 have w:qt a=(fq a).filter λx=>!(decide (x.k=1)):=by
  unfold qt
  congr 1
  funext x
  simp
 rw[w];have F:=bF a;refine aT.x T6 Tryz.func23 rfl ?_
 by_cases B:a=[]
 ·subst B;refine wA ?_;refine ah.ex ((T8 _ HV.nil.hr).mono λr d z=>⟨z.1,_,HV.one rfl,z.2⟩) (λd R=>?_);refine wA ?_;refine .ln (Mx _ d) (λr d z=>by rw[z.2]) (λr d z=>?_);obtain⟨rfl,rfl⟩:=z;refine wA ?_;exact⟨_,rfl,rfl⟩
 ·have i:=Ft a B [] HV.nil.hr W;refine wA ?_;refine .fr i (λr d z W=>?_) (λr d b u S v=>?_)
  ·obtain⟨_,V,g,n,rfl,t⟩:=z;simp[eI,cY,eu]at W
  obtain⟨⟨e,h,O,rfl,N,P⟩,j,y,n,M,t⟩:=v;have J:=Mv (fq a) O P 58 (λx=>decide (x.k=1)) e h d b N (by have:=nT a;omega) (λx _=>Lg x) rfl;refine wA ?_;refine ah.del (ag N) J (λk q f=>?_);refine wA ?_;exact f.NO
def Lh:List ByteArray:=[kT,kM,gK,LV,pf,yp]
theorem KK(t:Tm):aT C 26 [enc t] (.bool (Tp t)):=by
 have O:=Dq Lh t.s yxe;have X:(Lh.any λn=>iP t.s n)=Dt t.s:=by simp[Lh,Dt,Bool.or_assoc]
 have S:Tp t=(decide (t.k=3)&&Dt t.s):=rfl;rw[X]at O;rw[au];refine aT.x T6 Tryz.func26 rfl ?_;refine wC (λG=>?_) λG=>?_
 ·refine .p O ?_ (hn:=rfl);refine wA ?_;exact⟨_,rfl,by rw[S,decide_eq_true yxa];rfl⟩
 exact⟨_,rfl,by rw[S,decide_eq_false yxa];rfl⟩
def abM(H:ab)(v:PV)(l:List cg):Prop:=(v=.aa true []/\l=[])\/∃V g S,v=.an V g 0 l.length/\H[V]?=some ⟨.m,g,5,S⟩/\l.length<=S.length/\S.take l.length=aR l
theorem T9(n:Nat)(hn:n<1000000000)(H:ab):ay C 90 [.aa true [],.I n] H (λr h'=>(n=0/\r=.aa true []/\h'=H)\/(r=.an H.length 0 0 0/\h'=H++[⟨.m,0,5,List.replicate n (.agg [.aa true [],.I 0,.str ByteArray.empty,.I 0,.aa true []])⟩])):=by
 refine ay.gk Tryz.func90 rfl ?_;refine wF λG=>?_;apply R.Es T6;exact rfl;exact rfl;refine wD ?_;refine R.arith (c':=0) rfl rfl rfl yxe ?_
 (repeat' (first |refine ai.nil ?_ |(apply R.move;exact rfl)|(apply R.assign;exact rfl)|(apply R.cmp;exact rfl;exact rfl;exact rfl;all_goals intro G;all_goals(try(exfalso;omega)))|(apply R.arith;exact rfl;exact rfl;exact rfl;exact(oQ yxa yxa))|refine Ev.seq ?_ |refine Ev.region ?_ |(apply Ev.ie;exact rfl)|refine Ev.ret ?_ |refine Ev.skip ?_ |refine aE.normal ?_ |(apply aL.ret;exact rfl)|fail))
 ·apply R.Es T6;exact rfl;exact rfl
  skip
  apply R.F7 T6;exact rfl;exact rfl;exact rfl;exact rfl;refine wD ?_;apply R.LF T6 (n:=n);exact rfl;exact(congrArg (λz=>some (PV.I z)) yxb)
  all_goals first |exact rfl |exact(by decide:(_:Nat)<=1000)|omega |skip
  refine wD ?_;apply R.LD T6 (o:=⟨.m,0,5,List.replicate n (.agg [.aa true [],.I 0,.str ByteArray.empty,.I 0,.aa true []])⟩);exact rfl;exact rfl;exact rfl;exact l9;exact rfl;simp;refine wD ?_;exact .inr ⟨rfl,rfl⟩
 exact .inl ⟨by omega,rfl,rfl⟩
def oC(a:List (List cg)):List PV:=a.map λl=>.aa false (aR l)
theorem D5{a p q:List (List cg)}(e:a=p++l::q):(oC a)[p.length]?=some (.aa false (aR l)):=by rw[oC,e];simp
@[simp] theorem Li(a:List (List cg)):(oC a).length=a.length:=by simp[oC]
theorem T'(a:List (List cg))(hl:a.length<1000000)(hn:a.flatten.length<100000000):aT C 55 [.aa false (oC a)] (.aa false (aR a.flatten)):=by
 have Z:=Li a;have J:∀{p q:List (List cg)} {l:List cg},a=p++l::q->p.flatten.length+l.length<=a.flatten.length:=λ{p q l} e=>by rw[e];simp
 refine aT.x T6 Tryz.func55 rfl ?_;refine wA ?_;refine dU.zip T6 a (λp q L H=>∃n:Int,L=[(0,.aa false (oC a)),(3,.I n),(9,.aa false (oC a)),(10,.I (oC a).length),(11,.I p.length)]/\n=p.flatten.length/\H=[]) (.nx ⟨_,rfl,rfl,rfl⟩) ?_ ?_
 ·rintro p l q _ _ Y e ⟨n,rfl,R,rfl⟩;have u:=D5 e;have w:=lenE e;have y:=J e;have t:=dE l;refine wA ?_;refine .nx ⟨_,rfl,?_,rfl⟩;simp[List.flatten_append,R]
 ·rintro _ _ Y ⟨n,rfl,rfl,rfl⟩;refine wA ?_
  have h:ah C 2 90 [.aa true [],.I a.flatten.length] [] (λr d=>abM d r []):=by
   refine .fr (P:=λr d=>abM d r []) ((T9 a.flatten.length yxa []).mono λr d z=>?_) (λr d z W=>?_) (λr d _ _ _ z=>z)
   ·rcases z with⟨_,rfl,rfl⟩|⟨rfl,rfl⟩
    ·exact⟨HV.nil.hr,by simp,λ_ _=>rfl,.inl ⟨rfl,rfl⟩⟩
    ·exact⟨HV.nil.hr.cx (HV.one (by rw[bz,af9];intro x U;rw[ag8 U];rfl)),by simp,λj A=>by simp at A,.inr ⟨0,0,_,rfl,rfl,by simp,by simp⟩⟩
   ·rcases z with⟨rfl,X⟩|⟨V,g,S,rfl,_⟩
    ·exact .inl ⟨rfl,X⟩
    ·simp[eI,cY,eu]at W
  refine h.mono λr d z=>?_;refine wA ?_;refine dU.zip T6 a (λp q L K=>∃v,L=[(6,v),(25,.aa false (oC a)),(26,.I (oC a).length),(27,.I p.length)]/\abM K v p.flatten) (.nx ⟨_,rfl,z⟩) ?_ ?_
  ·rintro p l q _ K Y e ⟨v,rfl,f⟩;have u:=D5 e;have w:=lenE e;have y:=J e;have t:=dE l;have i:(p++[l]).flatten=p.flatten++l:=by simp
   rw[i]
   by_cases B:l=[]
   ·subst B;rcases f with⟨rfl,O⟩|⟨V,g,S,rfl,N,b,M⟩
    ·refine wA ?_;refine .nn ?_ rfl;refine wA ?_;exact .nx ⟨_,rfl,.inl ⟨rfl,by simp[O]⟩⟩
    ·refine wA ?_;refine .mn ?_ rfl;refine wA ?_;rw[agC];exact .nx ⟨_,rfl,.inr ⟨V,g,S,rfl,N,b,M⟩⟩
   ·have Q:(aR l).isEmpty=false:=by cases l with |nil=>exact absurd rfl B |cons=>rfl
    have D:=Kj l;rcases f with⟨rfl,O⟩|⟨V,g,S,rfl,N,b,M⟩
    ·refine wA ?_;refine .sn (es:=[]) ?_ Q yxd rfl D rfl;refine wA ?_;rw[O];refine .nx ⟨_,rfl,.inr ⟨K.length,0,aR l,?_,?_,?_,agB yxb⟩⟩
     all_goals simp
    ·have F:=ag N;refine wA ?_;refine .ms ?_ Q;refine wA ?_;refine .nx ⟨_,rfl,.inr ⟨V,g+1,_,?_,agc F,?_,?_⟩⟩;rw[agf,t]
     ·rw[M,agf,agf,t,dE];exact agb _
     rw[M,<-D6,agB yxb]
  ·rintro _ K Y ⟨v,rfl,f⟩;refine wA ?_;rcases f with⟨rfl,O⟩|⟨V,g,S,rfl,N,b,M⟩
   ·rw[O];exact⟨_,rfl,rfl⟩
   ·have G:S=aR a.flatten++S.drop a.flatten.length:=by rw[<-M,ahu]
    rw[G]at N;exact iF N yxb yxb yxb
theorem Ua(l:List cg)(j:Nat):Option.all (λv=>(cells v).length==5) (aR l)[j]?=true:=by
 cases h:(aR l)[j]? with
 |none=>rfl
 |some v=>
  obtain⟨d,_,rfl⟩:=agv.1 (agq h)
  rfl
theorem Ie(l:List cg)(a:List cg)(i:Nat)(B:i<l.length)(A:l.length<1000000)(f:a.length<1000000):aT C 21 [.aa false (aR l),.I i,.aa false (aR a)] (.aa false (aR (l.take i++a++l.drop (i+1)))):=by
 have G:=T' [l.take i,a,l.drop (i+1)] yxb yxd;have J:[l.take i,a,l.drop (i+1)].flatten=l.take i++a++l.drop (i+1):=by simp
 have H:oC [l.take i,a,l.drop (i+1)]=[.aa false (aR (l.take i)),.aa false (aR a),.aa false (aR (l.drop (i+1)))]:=rfl;have O:aR (l.take i)=(aR l).take i:=by simp[aR]
 have X:aR (l.drop (i+1))=(aR l).drop (i+1):=by simp[aR]
 have Z:=dE l;have b:(0<=i/\i<=(aR l).length)/\Option.all (λv=>(cells v).length==5) (aR l)[0]?=true:=⟨⟨by omega,by omega⟩,Ua l 0⟩;have e:(i+1<=(aR l).length/\(aR l).length<=(aR l).length)/\Option.all (λv=>(cells v).length==5) (aR l)[i+1]?=true:=⟨⟨by omega,by omega⟩,Ua l (i+1)⟩;have q:List.drop (i+1) (aR l)=List.take ((aR l).length - (i+1)) (List.drop (i+1) (aR l)):=(agB yxb).symm;have n:List.take ((aR l).length - (i+1)) (aR (l.drop (i+1)))=aR (l.drop (i+1)):=agB yxb;rw[J,H,O,X,q]at G;refine aT.x T6 Tryz.func21 rfl ?_;refine wA ?_;refine .p G ?_ (hn:=by simp only[aY,b9,Bool.false_and,ahs,Nat.sub_zero,<-O,<-X,n,Ag]);refine wA ?_;exact⟨_,rfl,by simp[bo,b9,Ag]⟩
end aI
variable[iD:Inhabited Prop]
def Qv(md:FuncId->Mode)(F:List (FuncId× (List PV->ab->Option (PV×ab))))(f:FuncId):Mode:=match F.lookup f with |some g=>.de g |none=>md f
def Nt(C:cA)(F:List (FuncId× (List PV->ab->Option (PV×ab)))):cA:=⟨C.P,Qv C.mode F⟩
theorem lq(md:FuncId->Mode)(F:List (FuncId× (List PV->ab->Option (PV×ab))))(f:FuncId):(∃g,(f,g)∈F/\Qv md F f=.de g)\/Qv md F f=md f:=by
 unfold Qv
 cases h:F.lookup f with
 |none=>exact .inr rfl
 |some g=>exact .inl ⟨g,aI.zL h,rfl⟩
theorem lu{md:FuncId->Mode}{F:List (FuncId× (List PV->ab->Option (PV×ab)))}(hn:∀x∈F,md x.1=.no):vC md (Qv md F):=λf=>by
 rcases lq md F f with⟨g,h,_⟩|h;exact .inl (hn _ h);exact .inr h.symm
theorem ze {C : cA} {F : List (FuncId × (List PV → ab → Option (PV × ab)))} (K : dn C) (S : ∀ x ∈ F, ez C.P x.1 x.2) (u : ∀ x ∈ F, ∃ i, C.P.funcs[x.1]? = some i ∧ i.body.isSome = true ∧ (i.name == "runtime.NumGoroutine") = false) : dn (Nt C F) where
 enters f PQ bD:=by
  rcases lq C.mode F f with⟨g,h,_⟩|h;exact u _ h;exact K.enters f (λX=>PQ (h.trans X)) (λg X=>bD g (h.trans X))
 ri f g hh:=by
  rcases lq C.mode F f with⟨V,_,h⟩|h
  cases h.symm.trans hh
  exact K.ri f g (h.symm.trans hh)
 de f g hh:=by
  rcases lq C.mode F f with⟨V,O,h⟩|h
  ·obtain rfl:=Mode.de.inj (h.symm.trans hh);exact S _ O
  exact K.de f g (h.symm.trans hh)
 ext f g hh:=by
  rcases lq C.mode F f with⟨V,_,h⟩|h
  cases h.symm.trans hh
  exact K.ext f g (h.symm.trans hh)
theorem qI{C:cA}{F:List (FuncId× (List PV->ab->Option (PV×ab)))}(K:ic C):ic (Nt C F) where
 mixed:=K.mixed
 rU f fn c d hf hb:=by
  rcases lq C.mode F f with⟨V,_,h⟩|h;rcases d with d |d <;>cases h.symm.trans d
  exact K.rU f fn c (d.imp (λX=>h.symm.trans X) (λX=>h.symm.trans X)) hf hb
theorem ah.Vd{C:cA}{g:List PV->ab->Option (PV×ab)}{args:List PV}{r:PV}{h':ab}(N:g args h=some (r,h'))(q:Q r h')(d:C.mode f=.de g:=by rfl):ah C 2 f args h Q:=
 ⟨r,h',q,0,λn _=>by unfold dG;rw[d];simp only[eP,agb,if_true,N]⟩
end Go.Pm
namespace Go.Pm
namespace aI
open Go.Proofs
attribute [local irreducible] aE az aO aL Ev ai ah ay bh bH
set_option maxRecDepth 4000
theorem Br(t:Tm):aC t<100000000->aT C 56 [enc t] (enc t):=by
 induction t using Tm.ind with
 |h k s o l P=>
  intro W
  have z:=bF l;have Z:=aj l;have d:=W;simp only[aC]at d
  have u:∀t∈l,aC t<100000000:=λt f=>by
   have:=cc f;omega
  rw[bE];refine aT.x T6 Tryz.func56 rfl ?_
  by_cases B:l=[]
  ·subst B;refine wA ?_;refine .Vd (g:=bW 4) (r:=.aa true []) rfl ?_;refine wA ?_;refine dU.zip T6 ([]:List Tm) (λp q L H=>p=[]/\L=[(1,.ptr 0 0 0 0),(2,.ptr 1 0 0 0),(10,.aa true []),(11,.I 0),(12,.I p.length)]/\H=[⟨.m,0,4,[.agg [.I k,.str s,.I o,.aa true []]]⟩,⟨.m,0,4,[.agg Nm]⟩]) (.nx ⟨rfl,rfl,rfl⟩) ?_ ?_
   ·rintro p x q _ _ Y e ⟨rfl,_⟩
    cases e
   ·rintro _ _ Y ⟨_,rfl,rfl⟩;refine wA ?_;exact⟨_,rfl,rfl⟩
  ·have V:=λH=>kC B yxa H
   refine wA ?_;refine .Vd (V _) ?_;refine wA ?_;refine dU.zip T6 l (λp q L H=>L=[(1,.ptr 0 0 0 0),(2,.ptr 1 0 0 0),(10,.an 2 0 0 l.length),(11,.I l.length),(12,.I p.length)]/\HR H/\H[0]?=some ⟨.m,0,4,[.agg [.I k,.str s,.I o,.an 2 0 0 l.length]]⟩/\H[1]?=some ⟨.m,0,4,[.agg Nm]⟩/\H[2]?=some ⟨.m,0,4,ae l⟩) (.nx ⟨rfl,?_,rfl,rfl,rfl⟩) ?_ ?_
   ·intro x U
    exact za5
   ·rintro p x q _ H Y e ⟨rfl,w,S,K,a⟩;have Q:=bO e;have v:=lenE e;have b:=P x yxf (u x yxf);rw[au]at b;have O:(ae l)[0+p.length]?=some (.agg (Do x)):=by rw[agz];exact Q
    have D:=w.cx (HV.one (ep:=0) (n:=4) (es:=[.agg (Do x)]) yxb);refine wA ?_;refine .p b ?_;refine wA ?_
    have J:(ae l).set (0+p.length) (.agg (Do x))=ae l:=by
     apply agZ
     intro j
     by_cases M:j=0+p.length
     ·subst M;rw[agc ((ahY.1 O).1),O]
     rw[aga (agV M)]
    have F:=ag a;rw[J];refine .nx ⟨rfl,D.set 2 yxb (bg _ _ yxb),?_,?_,agc yxd⟩;rw[aga yxa,af8 yxa];exact S;rw[aga yxa,af8 yxa];exact K
   ·rintro _ H Y ⟨rfl,w,S,K,a⟩;have N:(H.set 1 ⟨.m,0,4,[.agg [.I k,.str s,.I o,.an 2 0 0 l.length]]⟩)[1]?=some ⟨.m,0,4,[.agg [.I k,.str s,.I o,.an 2 0 0 l.length]]⟩:=agc (ag K);have i:(H.set 1 ⟨.m,0,4,[.agg [.I k,.str s,.I o,.an 2 0 0 l.length]]⟩)[2]?=some ⟨.m,0,4,ae l⟩:=(aga yxa).trans a;refine wA ?_;refine .mk ?_ (jJ (T:=T6) rfl N rfl rfl rfl rfl);exact⟨Tn (.inr ⟨2,0,by rw[Z],i⟩) yxb yxb⟩
end aI
set_option maxRecDepth 4000
def kW(x:lW×Bool):PV:=.agg [.int .i64 x.1.r,.aa x.2 (aU x.1.bs),.aa false (aR x.1.ds)]
def bY(l:List (lW×Bool)):List PV:=l.map kW
@[simp] theorem YM(x:lW×Bool):aW (kW x)=true:=by simp[kW,aW,aw]
@[simp] theorem ab7(x:lW×Bool):b9 (kW x)=uU x.1:=by simp[kW,uU,b9,aY]
@[simp] theorem U1(l:List (lW×Bool)):aw (bY l)=true:=by rw[bz];simp[bY]
@[simp] theorem YN(l:List (lW×Bool)):aY (bY l)=gD (l.map Prod.fst):=by rw[cB];simp[bY,gD]
@[simp] theorem oh(l:List (lW×Bool)):(bY l).length=l.length:=by simp[bY]
theorem KH(a b:List (lW×Bool)):bY (a++b)=bY a++bY b:=by simp[bY]
theorem O3{l p q:List (lW×Bool)}{a:lW×Bool}(e:l=p++a::q):(bY l)[p.length]?=some (.agg [.I a.1.r,.aa a.2 (aU a.1.bs),.aa false (aR a.1.ds)]):=by rw[bY,e];simp[kW]
namespace aI
open Go.Proofs
attribute [local irreducible] aE az aO aL Ev ai ah ay bh bH
theorem WU(l:List (lW×Bool))(g:FuncId)(cs:List PV)(p:lW×Bool->Bool)(v:PV)(H:ab)(f:Out 3 H v (bY l))(A:l.length<1000000000)(d:∀x∈l,gi H g cs (kW x) (p x)):
  ay C 95 [v,.fn g cs] H (λr h'=>r=.I (yU p l)/\hC H h'):=by
 have Z:=oh l;refine ay.x T6 Tryz.func95 rfl ?_;rcases f with⟨rfl,O⟩|⟨V,b,rfl,G⟩
 ·have D:l=[]:=agm (by rw[<-Z,O];rfl);subst D;refine wA ?_;refine dU.zip T6 ([]:List (lW×Bool)) (λa q L K=>a=[]/\L=[(0,.aa true []),(1,.fn g cs),(7,.I 0),(8,.I a.length)]/\K=H) (.nx ⟨rfl,rfl,rfl⟩) ?_ ?_
  ·rintro a x q _ _ Y e ⟨rfl,_⟩
   cases e
  ·rintro _ _ Y ⟨_,rfl,rfl⟩;refine wA ?_;exact⟨rfl,hC.refl _⟩
 ·refine wA ?_;refine dU.zip T6 l (λa q L K=>L=[(0,.an V b 0 (bY l).length),(1,.fn g cs),(7,.I (bY l).length),(8,.I a.length)]/\hC H K/\∀y∈a,p y=false) (.nx ⟨rfl,hC.refl _,by simp⟩) ?_ ?_
  ·rintro a x q _ K Y e ⟨rfl,R,j⟩;have Q:(bY l)[0+a.length]?=some (.agg [.I x.1.r,.aa x.2 (aU x.1.bs),.aa false (aR x.1.ds)]):=by rw[agz];exact O3 e
   have n:=R.at G;have i:=lenE e;have t:=d x yxf _ R;rw[kW]at t;refine wA ?_;refine t _ (λh' U=>?_)
   cases W:p x
   ·refine wA ?_;exact .nx ⟨rfl,R.trans U,λy F=>by rcases agh.1 F with h |h;exact j y h;simp at h;rw[h];exact W⟩
   ·refine wA ?_;exact⟨by rw[e,tu j W];rfl,R.trans U⟩
  ·rintro _ K Y ⟨rfl,R,j⟩;have n:=R.at G;refine wA ?_;exact⟨by rw[nh j];rfl,R⟩
theorem MS(l:List (lW×Bool))(g:FuncId)(cs:List PV)(p:lW×Bool->Bool)(v:PV)(H:ab)(f:Out 3 H v (bY l))(A:l.length<1000000000)(K:∀x∈l,gi H g cs (kW x) (p x)):
  ay C 61 [v,.fn g cs] H (λr h'=>r=.bool (l.any p)/\hC H h'):=by
 have B:=WU l g cs p v H f A K;have j:=wc p l;refine ay.x T6 Tryz.func61 rfl ?_;exact za0
theorem WV(r:Int)(f:Bool)(D:List cV)(z:List cg)(x:lW×Bool)(j:∀b∈D,rD b)(W:∀b∈x.1.bs,rD b)(u:D.length<100000000)(R:x.1.bs.length<100000000)(V:Nat)(H:ab)(h0:H[V]?=some ⟨.m,0,3,[.agg [.I r,.aa f (aU D),.aa false (aR z)]]⟩):
  ay C 89 [kW x,.ptr V 0 0 0] H (λv h'=>v=.bool (ml r D x.1)/\hC H h'):=by
 have O:=DL r D z x.1 j W u R;rw[uU]at O;have F:=ag h0;rw[kW];refine ay.x T6 Tryz.func89 rfl ?_;exact za6
end aI
def pH(l:List cg)(R:PV)(e:Int):ax:=⟨.m,0,3,[.agg [.aa false (aR l),R,.int .i64 e]]⟩
structure CK(H:ab)(c:Nat)(l:List cg)(av:PV)(k:fC)(h':ab):Prop where
 hr:HR h'
 len:H.length<=h'.length
 var:∃av' of,h'[c]?=some (pH l av' k.e)/\Out 3 h' av' (bY of)/\of.map Prod.fst=k.out/\∀i∈bJ av',i∈bJ av\/H.length<=i
 fr:∀j,j<H.length->j≠c->j∉bJ av->h'[j]?=H[j]?
theorem CK.take{H h':ab}{c:Nat}{l:List cg}{R:PV}{k:fC}(s:CK H c l R k h')(Q:c<H.length)(z:HR (h'.take H.length)):CK H c l R k (h'.take H.length):=by
 have A:=s.len;have F:(h'.take H.length).length=H.length:=by simp;omega
 obtain⟨W,b,D,N,M,P⟩:=s.var;have K:(h'.take H.length)[c]?=some (pH l W k.e):=by rw[agD yxa];exact D
 have a:=(z _ (agq K)).2;refine⟨z,by omega,⟨W,b,K,N.of_eq λi B=>?_,M,P⟩,λj O X Q=>by rw[agD yxa];exact s.fr j O X Q⟩;rw[agD];rcases N with⟨rfl,_⟩|⟨V,g,rfl,_⟩;simp[bJ]at B
 ·simp[bJ]at B;subst B;simp[pH,bB,bq]at a;omega
namespace aI
open Go.Proofs
attribute [local irreducible] aE az aO aL Ev ai ah ay bh bH
theorem MT(r:Int)(f:Bool)(D:List cV)(z:List cg)(c:Nat)(l:List cg)(R:PV)(a:List (lW×Bool))(e:Int)(H:ab)(hH:HR H)(G:H[c]?=some (pH l R e))(ho:Out 3 H R (bY a))(hol:a.length<10000000)
  (ha:∀b∈D,rD b) (LI:D.length<100000000) (d:∀x∈a,(∀b∈x.1.bs,rD b)/\x.1.bs.length<100000000):
  ay C 54 [.ptr c 0 0 0,.agg [.I r,.aa f (aU D),.aa false (aR z)]] H (λv h'=>v=.b8 []/\CK H c l R (if(a.map Prod.fst).any (ml r D)=true then⟨a.map Prod.fst,e⟩else⟨a.map Prod.fst++[⟨r,D,z⟩],e⟩) h'):=by
 have cK:=ag G;have afV:=d;have eW:c<H.length:=cK;have N:=MS a 89 [.ptr H.length 0 0 0] (λx=>ml r D x.1) R (H++[⟨.m,0,3,[.agg [.I r,.aa f (aU D),.aa false (aR z)]]⟩]) (ho.cz _) yxa (λx U=>gi.opened λH' A=>WV r f D z x ha (d x U).1 LI (d x U).2 H.length H' (A.at yxb));have od:(a.map Prod.fst).any (ml r D)=a.any λx=>ml r D x.1:=by rw[List.any_map];rfl
 rw[od];unfold pH at G;refine ay.x T6 Tryz.func54 rfl ?_;refine wA ?_;refine .ex N (λh' A=>?_);obtain⟨J,hJ,rfl⟩:=A;have g:HR (H++[⟨.m,0,3,[.agg [.I r,.aa f (aU D),.aa false (aR z)]]⟩]++J):=(hH.cx (HV.one yxk)).cx hJ;have q:(H++[(⟨.m,0,3,[.agg [.I r,.aa f (aU D),.aa false (aR z)]]⟩:ax)]++J)[c]?=some ⟨.m,0,3,[.agg [.aa false (aR l),R,.I e]]⟩:=by rw[ags,af8 cK];exact G
 have rT:(H++[(⟨.m,0,3,[.agg [.I r,.aa f (aU D),.aa false (aR z)]]⟩:ax)]++J)[H.length]?=some ⟨.m,0,3,[.agg [.I r,.aa f (aU D),.aa false (aR z)]]⟩:=by simp
 have M:=(ho.cz [(⟨.m,0,3,[.agg [.I r,.aa f (aU D),.aa false (aR z)]]⟩:ax)]).cz J
 cases hb:a.any λx=>ml r D x.1
 ·obtain⟨K,F⟩:∃K:ab,K=H++[⟨.m,0,3,[.agg [.I r,.aa f (aU D),.aa false (aR z)]]⟩]++J:=⟨_,rfl⟩;rw[<-F]at g q rT M ⊢;have Dj:H.length+1<=K.length:=by rw[F];simp
  have P:c∉bJ R:=λB=>by
   rcases M with⟨rfl,_⟩|⟨Y,t,rfl,X⟩;simp[bJ]at B
   ·simp[bJ]at B;subst B;rw[q]at X;have Q:=congrArg ax.es (af7 X)
    cases a with
    |nil=>simp[bY]at Q
    |cons x a=>simp[bY,kW]at Q
  have afW:=oh a;have oT:bY a++[.agg [.I r,.aa f (aU D),.aa false (aR z)]]=bY (a++[(⟨r,D,z⟩,f)]):=by rw[KH];rfl
  refine wA ?_;refine .lr (λv' h' y=>?_) M;have V:=y.hr;have NM:=y.len;have g0:=(y.fr c yxa (λt n S=>P (by rw[S];simp[bJ]))).trans q;have W:=y.bJ;have Z:=y.out;have UO:=y.fr;rw[oT]at Z;have I0:=Z.bq;rcases Z with⟨_,U⟩|⟨Y,t,rfl,w⟩
  ·have:=congrArg List.length U;rw[oh]at this;simp at this
  refine wA ?_;rw[if_neg yxb]
  have u:Y≠c:=by
   rintro rfl;rw[g0]at w;have Q:=congrArg ax.es (af7 w)
   cases a with
   |nil=>simp[bY,kW]at Q
   |cons x a=>simp[bY,kW]at Q
  refine⟨rfl,V.set _ yxb (by simpa[bB,bq]using I0),by simp;omega,⟨_,_,agc (ag g0),.inr ⟨Y,t,rfl,(aga (agV u)).trans w⟩,by simp,λi B=>?_⟩,λj O X Q=>?_⟩
  ·rcases W i B with h |h
   ·exact .inl h
   ·exact .inr yxa
  rw[aga (agV X),UO j yxa (λt n S=>Q (by rw[S];simp[bJ])),F,ags,af8 O]
 ·refine wA ?_;rw[if_pos rfl];refine⟨rfl,g,by simp,⟨R,a,q,M,rfl,λi B=>.inl B⟩,λj O X Q=>?_⟩;rw[ags,af8 O]
end aI
end Go.Pm
