/-
  Pm, a part. Conditions: none.
-/
import Derived.Test.YtiipafafbpaaoaaGreatDoorPsAG
import Derived.Shelf.SlSortCmp.NoneTotal
set_option linter.unusedVariables false
set_option linter.unusedSimpArgs false
set_option linter.unnecessarySimpa false
set_option linter.unusedSectionVars false
namespace Go.Pm
variable{ep i:Nat}{t:Tm}{ts:List Tm}{cs:Array Value}{vs:List Value}
variable[iD:Inhabited Prop]
open Go.Proofs Go.Sort
set_option maxRecDepth 20000
theorem Tx(l:List Tm):ae l=l.map enc:=by
 induction l with
 |nil=>rfl
 |cons t l P=>simp only[ae,agp,P]
theorem Ii{l:List Tm}(h:l[i]?=some t):(ae l)[i]?=some (enc t):=by rw[Tx,agt,h];rfl
mutual
def Ew:PV->Option Tm
 | .agg [.int .i64 k,.str s,.int .i64 o,.aa false l]=>match uh l with
  |some H=>some (.mk k s o H)
  |none=>none
 |_=>none
def uh:List PV->Option (List Tm)
 |[]=>some []
 |x::l=>match Ew x with
  |some t=>match uh l with
   |some n=>some (t::n)
   |none=>none
  |none=>none
end
mutual
theorem Bm:∀t:Tm,Ew (enc t)=some t
 | .mk k s o l=>by simp only[enc,Ew,q9 l]
theorem q9:∀l:List Tm,uh (ae l)=some l
 |[]=>rfl
 |t::l=>by simp only[ae,uh,Bm t,q9 l]
end
mutual
theorem vH:∀(p:PV) {t:Tm},Ew p=some t->enc t=p
 | .agg [.int .i64 k,.str s,.int .i64 o,.aa false l],t,h=>by
  simp only[Ew]at h
  split at h
  ·rename_i H A
   obtain rfl:=af7 h;simp only[enc,lN l A]
  cases h
 |p,t,h=>by
  unfold Ew at h
  split at h
  ·rename_i k s o l
   split at h
   ·rename_i H A
    obtain rfl:=af7 h;simp only[enc,lN l A]
   cases h
  cases h
theorem lN:∀(es:List PV) {ts:List Tm},uh es=some ts->ae ts=es
 |[],ts,h=>by simp only[uh,agx]at h;subst h;rfl
 |x::l,ts,h=>by
  simp only[uh]at h
  split at h
  ·rename_i t Z
   split at h
   ·rename_i a V
    obtain rfl:=af7 h;simp only[ae,vH x Z,lN l V]
   cases h
  cases h
end
theorem lX{a b c:Tm}(h1:aZ a b<=0)(X:aZ b c<=0):aZ a c<=0:=by
 rcases Int.lt_or_eq_of_le h1 with h1 |h1
 ·rcases Int.lt_or_eq_of_le X with X |X
  ·exact Int.le_of_lt (fH h1 X)
  ·rw[<-dD X];exact Int.le_of_lt h1
 rw[dD h1];exact X
def KW(t:Tm):List Tm->List Tm
 |[]=>[t]
 |x::r=>if aZ t x<=0 then t::x::r else x::KW t r
def fj:List Tm->List Tm
 |[]=>[]
 |t::r=>KW t (fj r)
theorem x3(t:Tm):∀l:List Tm,(KW t l).Perm (t::l)
 |[]=>.refl _
 |x::r=>by
  unfold KW
  split
  exact .refl _
  ·exact((x3 t r).cons x).trans (.swap t x r)
theorem ga:∀ts:List Tm,(fj ts).Perm ts
 |[]=>.refl _
 |t::r=>(x3 t (fj r)).trans ((ga r).cons t)
theorem Ij(t:Tm):∀{l:List Tm},(l.Pairwise λx y=>aZ x y<=0)->(KW t l).Pairwise λx y=>aZ x y<=0
 |[],_=>by simp[KW]
 |x::r,h=>by
  unfold KW;have X:=agE.1 h
  split
  ·rename_i G
   refine agE.2 ⟨λy F=>?_,h⟩;rcases agi.1 F with rfl |F;exact G;exact lX G (X.1 y F)
  ·rename_i G
   have n:=di t x;refine agE.2 ⟨λy F=>?_,Ij t X.2⟩;rcases agi.1 ((x3 t r).mem_iff.1 F)with rfl |F;omega;exact X.1 y F
theorem th:∀ts:List Tm,(fj ts).Pairwise λx y=>aZ x y<=0
 |[]=>.nil
 |t::r=>Ij t (th r)
theorem Ik{a b:List Tm}(K:a.Perm b)(j:a.Pairwise λx y=>aZ x y<=0)(W:b.Pairwise λx y=>aZ x y<=0):a=b:=
 K.eq_of_pairwise (λx y _ _ O X=>dD (by have:=di x y;omega)) j W
def sL(args:List PV)(h:ab):Option (PV×ab):=
 match args with
 |[.aa true [],.fn _ []]=>some (.b8 [],h)
 |[.an V a 0 K,.fn g []]=>match getM h V a with
  |some o=>match uh o.es with
   |some n=>if g=59/\o.mu=.m/\o.bQ=4/\K=o.es.length/\K<1000000000/\(n.all λt=>decide (aC t<1000000000))=true then
     some (.b8 [],h.set V {o with es:=ae (fj n)})else none
   |none=>none
  |none=>none
 |_=>none
theorem oX{h:ab}{V:Nat}(e:h[V]?=some ⟨.m,ep,4,ae ts⟩)(hn:ts.length<1000000000)(W:∀t∈ts,aC t<1000000000):
  sL [.an V ep 0 ts.length,.fn 59 []] h=some (.b8 [],h.set V ⟨.m,ep,4,ae (fj ts)⟩):=by
 have N:getM h V ep=some ⟨.m,ep,4,ae ts⟩:=bw e rfl yxb;have A:=aj ts;simp only[sL,N,q9];rw[if_pos ⟨trivial,trivial,trivial,A.symm,hn,by simpa using W⟩]
def TV(w:World)(A:Nat->Prop):Type:={x:Tm×List Value // x.2.length=4/\(∀v∈x.2,v.oneCell'=true)/\aC x.1<1000000000/\cd w A (.agg x.2.toArray) (enc x.1)}
instance(w:World)(A:Nat->Prop):Inhabited (TV w A):=
 ⟨⟨(.mk 0 ByteArray.empty 0 [],[.int .i64 0,.string ByteArray.empty,.int .i64 0,.slice none 0 0]),rfl,by simp[Value.oneCell'],by simp[aC,bm],.agg _ _ rfl (λj M=>by
  match j,M with
  |0,_=>exact .int _ _
  |1,_=>exact .str _
  |2,_=>exact .int _ _
  |3,_=>exact .gJ _ _ _ (λh=>by cases h)
  |j+4,M=>simp at M;omega)⟩⟩
theorem uW{v:Type}[Inhabited v]{R:Nat->v->Prop}:∀n:Nat,(∀i,i<n->∃x,R i x)->∃d:Array v,d.size=n/\∀i,i<n->R i d[i]!
 |0,_=>⟨#[],rfl,λi B=>by omega⟩
 |n+1,h=>by
  obtain⟨d,z,D⟩:=uW n (λi B=>h i yxa);obtain⟨x,U⟩:=h n yxa;refine⟨d.push x,by simp[z],λi B=>?_⟩
  by_cases a:i=n
  ·subst a;have:(d.push x)[i]! =x:=by simp[<-z]
   rw[this];exact U
  ·have:(d.push x)[i]! =d[i]!:=by
    have F:i<d.size:=yxa
    simp[Array.getElem!_eq_getD,Array.getD,Array.getElem_push,F,Nat.lt_succ_of_lt F]
   rw[this];exact D i yxa
theorem adX(w:World)(A:Nat->Prop):SWO (ltOf λx y:TV w A=>aZ x.1.1 y.1.1) where
 irrefl x:=by simp[ltOf,cP]
 trans x y z h1 h2:=by
  simp only[ltOf,decide_eq_true_eq]at *;exact fH h1 h2
 ntrans x y z h1 h2:=by
  simp only[ltOf,decide_eq_false_iff_not,Int.not_lt]at *;have a:=di x.1.1 y.1.1;have b:=di y.1.1 z.1.1;have c:=di x.1.1 z.1.1;have:=lX (a:=z.1.1) (b:=y.1.1) (c:=x.1.1) yxa yxa;omega
theorem gE{v:Type}[Inhabited v](enc:v->List Value)(k:Nat)(w:World)(B off m:Nat)(d:Array v)(G:Array Obj)(b:Nat)(W:b<w.heap.size)(Q:b≠B):(sortWorldK enc k w B off m d G).heap[b]?=w.heap[b]?:=by
 unfold sortWorldK putRowK putRow mapBlock;rw[heap_grow_old _ _ (by simpa[ahead]using W)];show(Array.modify w.heap B _)[b]?=_;rw[aii,if_neg (agV Q)]
theorem ui{v:Type}[Inhabited v](enc:v->List Value)(k:Nat)(w:World)(B off m:Nat)(d:Array v)(G:Array Obj){T:TypeId}{X:Nat×Nat}(W:w.heap[B]?=some (.cells cs T X)):
  (sortWorldK enc k w B off m d G).heap[B]?=some (.cells (putCells id off (flatK enc k d) cs) T X):=by
 have F:B<w.heap.size:=by
  rcases agM B w.heap.size with h |h;exact h;rw[ahE h]at W;cases W
 unfold sortWorldK putRowK putRow mapBlock;rw[heap_grow_old _ _ (by simpa[ahead]using F)];show(Array.modify w.heap B _)[B]?=_;rw[aii,if_pos rfl,W]
 rfl
theorem ry{v:Type}[Inhabited v](enc:v->List Value)(k:Nat)(w:World)(B off m:Nat)(d:Array v)(G:Array Obj):w.heap.size<=(sortWorldK enc k w B off m d G).heap.size:=by
 unfold sortWorldK putRowK putRow mapBlock;rw[size_grow];simp[ahead]
theorem wS{v:Type}[Inhabited v]{enc:v->List Value}{k:Nat}{d:Array v}{j:Nat}(B:i<d.size)(M:j<k)(S:d.size * k<=cs.size)(g:∀x,(enc x).length=k):
  (putCells id 0 (flatK enc k d) cs)[i * k+j]?=(enc d[i]!)[j]?:=by
 have e:i * k+j<d.size * k:=by
  have:=agR k (show i+1<=d.size from B);rw[ag0,Nat.one_mul]at this;omega
 have D:(i * k+j) / k=i:=(blk_iff k i _ yxa).1 ⟨by omega,by omega⟩;have N:(i * k+j) % k=j:=by rw[Nat.mod_eq_sub_div_mul,D];omega
 unfold putCells;rw[Array.getElem?_mapIdx,ahc (show i * k+j<cs.size by omega)];simp only[ago,ag7,true_and,agz,size_flatK,if_pos e,id,Nat.sub_zero];rw[get_flatK _ _ _ _ e,D,N,agd (by rw[g];exact M)];rw[getElem!_pos _ j (by rw[g];exact M)]
variable{w:World}{F:Nat->Prop}{Z:List (Nat×Nat)}{h:ab}
theorem adY(W:aC t<1000000000)(z:∀(j:Nat) (p:PV),(cells (enc t))[j]?=some p->∃v:Value,cs[i * 4+j]?=some v/\aG w (Av F h Z) Z h v p):
  ∃x:TV w (Av F h Z),x.1.1=t/\∀j,j<4->cs[i * 4+j]?=x.1.2[j]?:=by
 obtain⟨k,s,o,l⟩:=t;obtain⟨a,f,S⟩:=z 0 (.I k) rfl;obtain⟨b,g,U⟩:=z 1 (.str s) rfl;obtain⟨c,A,n⟩:=z 2 (.I o) rfl;obtain⟨d,y,D⟩:=z 3 (.aa false (ae l)) rfl;have O:=S.CN rfl;have P:=U.CN rfl;have q:=n.CN rfl;have e:=D.fI;have B:d.oneCell'=true:=by obtain⟨G,u,rfl,_⟩:=e.iC;rfl
 refine⟨⟨(.mk k s o l,[a,b,c,d]),rfl,?_,W,.agg [a,b,c,d] _ rfl (λj M=>?_)⟩,rfl,λj M=>?_⟩
 ·intro v J
  simp only[agi,ahb,or_false]at J;rcases J with rfl |rfl |rfl |rfl
  cases O;rfl
  cases P;rfl
  cases q;rfl
  exact B
 ·match j,M with
  |0,_=>exact O
  |1,_=>exact P
  |2,_=>exact q
  |3,_=>exact e
  |j+4,M=>simp at M;omega
 ·match j,M with
  |0,_=>exact f
  |1,_=>exact g
  |2,_=>exact A
  |3,_=>exact y
  |j+4,M=>omega
theorem L2.two{R:Value->PV->Prop}{a b:PV}(h:L2 R vs [a,b]):∃x y,vs=[x,y]/\R x a/\R y b:=by
 obtain⟨O,X⟩:=h
 match vs,O with
 |[x,y],_=>exact⟨x,y,rfl,X 0 yxb,X 1 yxb⟩
theorem KX(args:Array Value)(w:World):(callFunc 59 args).run C.P w=.ok (.enter 59 args) w:=enters_of Tryz.func59 (by kernel_rfl) rfl args w
theorem _root_.zbd{P:Prop}(h:P:=by
 apply agZ
 intro i
 by_cases B:i<ts.length
 rw[agt,(dh i B).1,agG,ahc yxa,getElem!_pos d i yxa];rfl;rw[agr yxd,agr yxa]):P:=h
theorem Pa{vs:List Value}{id ep:Nat}{o:ax}{ts:List Tm}(H:bp w F Z h)(ha:L2 (aG w (Av F h Z) Z h) vs [.an id ep 0 o.es.length,.fn 59 []])(hg:getM h id ep=some o)(hm:o.mu=.m)(hz:o.bQ=4)
  (hn:o.es.length<1000000000) (mJ:ae ts=o.es) (qH:∀t∈ts,aC t<1000000000):nC C.P 2 w F Z h 98 vs (.b8 []) (h.set id {o with es:=ae (fj ts)}):=by
 obtain⟨g1,g2,g3⟩:=getM_some hg;obtain⟨bc,pC⟩:=fh H.len g1;obtain⟨v0,v1,rfl,h0,h1⟩:=ha.two;obtain⟨_,_,m3⟩:=h0.eC;obtain⟨cap,c1,c2⟩:=m3 o bc g1 pC g3 g2 (by omega);rw[ah3]at c1;obtain⟨us,d1,d2,_⟩:=h1.zH;obtain rfl:us=[]:=agm d2;subst c1 d1;obtain⟨T,cs,k1,k2,k3,k4,k5⟩:=(H.obj id o bc g1 pC g3).c (by omega);have hblk:bc.1<w.heap.size:=Mb.lt H ⟨id,o,bc,g1,pC,hm,rfl⟩;have U8:Av F h Z bc.1:=.inr ⟨id,o,bc,g1,pC,hm,rfl⟩;have hlen:ts.length=o.es.length:=by rw[<-mJ,aj]
 have Vb:ts.length * 4<=cs.size:=by rw[hz]at k3;omega
 obtain⟨d,dl,dh⟩:=uW (v:=TV w (Av F h Z)) (R:=λi x=>ts[i]?=some x.1.1/\∀j,j<4->cs[i * 4+j]?=x.1.2[j]?) ts.length (λi hi=>by
  have ht:ts[i]?=some ts[i]:=agd hi;obtain⟨_,q2⟩:=k5 i (enc ts[i]) (by rw[<-mJ];exact Ii ht);rw[hz]at q2;obtain⟨x,x1,x2⟩:=adY (qH _ (agO hi)) q2;exact⟨x,by rw[ht,x1],x2⟩)
 have hk:∀x:TV w (Av F h Z),x.1.2.length=4:=λx=>x.2.1
 have hH:HoldsK (λx:TV w (Av F h Z)=>x.1.2) 4 w bc.1 0 d:=by
  intro j hj
  rw[size_flatK]at hj;have hj4:j / 4<d.size:=by omega
  obtain⟨_,r2⟩:=dh (j / 4) (by omega);have:=r2 (j % 4) (by omega);rw[show j / 4 * 4+j % 4=j by omega]at this;refine⟨?_,by simp[World.frozen?,k1]⟩;rw[get_flatK _ _ _ _ hj];have hl:j % 4<(d[j / 4]!).1.2.length:=by rw[hk];omega
  rw[agd hl]at this;simp only[World.cell?,k1,agz,this];rw[getElem!_pos (d[j / 4]!).1.2 (j % 4) hl]
  rfl
 have abB:CmpLays C.P 59 #[] (λx:TV w (Av F h Z)=>x.1.2) 4 (λx y=>aZ x.1.1 y.1.1) bc.1 0 d.size w:=by
  intro m os dk hs x y
  obtain⟨n,hn⟩:=(dT x.1.1 y.1.1 x.2.2.2.1 y.2.2.2.1).rk
  have up:∀(x:TV w (Av F h Z)),cd (sortWorldK (λx:TV w (Av F h Z)=>x.1.2) 4 w bc.1 0 m dk os) (λ_=>False) (.agg x.1.2.toArray) (enc x.1.1):=λx=>
   x.2.2.2.2.mono (λb hb NC=>gE _ _ _ _ _ _ _ _ b hb (λe=>NC (e▸U8))) (λ_ _ _ hh=>hh)
  have oW:L2 (cd (sortWorldK (λx:TV w (Av F h Z)=>x.1.2) 4 w bc.1 0 m dk os) (λ_=>False)) [.agg x.1.2.toArray,.agg y.1.2.toArray] [enc x.1.1,enc y.1.1]:=⟨rfl,λj hj=>by
   match j,hj with
   |0,_=>exact up x
   |1,_=>exact up y
   |j+2,hj=>simp at hj;omega⟩
  rw[aiJ];refine(xO (iD:=instInhabitedProp) (xL (iD:=instInhabitedProp)) pS (.inl rfl) hn (λb hb=>hb.elim) oW (hG:=H.fG.mono (λb hb NC=>gE _ _ _ _ _ _ _ _ b hb (λe=>NC (e▸U8))) (λ_ _ _ hh=>hh))).mono ?_;rintro e w' ⟨v,rfl,hv,N3⟩
  cases hv
  exact⟨rfl,N3.grow⟩
 have Fm:=AnyQ.slices_SortFunc adu 4 adw adx (λx:TV w (Av F h Z)=>x.1.2) hk (λx=>x.2.2.1) (λx y=>aZ x.1.1 y.1.1) (adX w _) 59 #[] bc.1 0 cap d w KX abB hH hblk (by omega);rw[dl,hlen]at Fm;refine Fm.mono ?_;rintro e w' ⟨rfl,d',n,os,hp,hs,rfl⟩;rw[<-hlen,<-dl]at hp hs;have abC:d'.size=d.size:=hp.1
 have hdt:d.toList.map (λx=>x.1.1)=ts:=by
  apply agZ
  intro i
  by_cases hi:i<ts.length
  rw[agt,(dh i hi).1,agG,ahc (by omega),getElem!_pos d i (by omega)];rfl;rw[agr (by simp;omega),agr (by omega)]
 have eT:d'.toList.map (λx=>x.1.1)=fj ts:=by
  refine Ik ?_ ?_ (th ts)
  ·have h3:=hp.2.2;rw[show d.extract 0 d.size=d by simp,show d'.extract 0 d.size=d' by rw[<-abC];simp]at h3;refine(h3.map _).trans ?_;rw[hdt];exact(ga ts).symm
  ·rw[aiv,List.pairwise_iff_getElem]
   intro i j hi hj QY
   simp only[ahl]at hi hj;have:=hs i j (ag7 _) QY (by omega);rw[getElem!_pos d' i (by omega),getElem!_pos d' j (by omega)]at this;simp only[ltOf,decide_eq_false_iff_not,Int.not_lt]at this;have ng:=di d'[i].1.1 d'[j].1.1;simp only[Array.getElem_toList];omega
 have eR:(ae (fj ts)).length=o.es.length:=by rw[aj,<-eT];simp;omega
 obtain⟨H',S'⟩:=H.set (w':=sortWorldK (λx:TV w (Av F h Z)=>x.1.2) 4 w bc.1 0 n d' os) g1 pC hm T (putCells _root_.id 0 (flatK (λx:TV w (Av F h Z)=>x.1.2) 4 d') cs) (ae (fj ts)) o.ep bc (ry _ _ _ _ _ _ _ _) (ui _ _ _ _ _ _ _ _ k1)
  (λb hb bD=>gE _ _ _ _ _ _ _ _ b hb bD) (.inl ⟨rfl,λ_=>eR⟩) (agb _) rfl rfl rfl (by rw[eR];exact k2) (by simpa[putCells]using k3) (λi e he=>by
   have hi:i<d'.size:=by have:=ag he;omega
   have P3:(fj ts)[i]?=some d'[i].1.1:=by rw[<-eT,agt,agG,ahc hi];rfl
   rw[Ii P3]at he;obtain rfl:=af7 he;have sr:=d'[i].2.2.2.2;obtain⟨z1,z2⟩:=sr.cells;rw[hz]
   have eW:(cells (enc d'[i].1.1)).length=4:=by
    rw[<-z1];show d'[i].1.2.toArray.size=4;simpa using hk d'[i]
   refine⟨eW,λj p hp=>?_⟩;obtain⟨u,u1,u2⟩:=z2 j p hp;refine⟨u,?_,.val u2⟩;have hj:=ag hp;rw[wS (enc:=λx:TV w (Av F h Z)=>x.1.2) hi (by omega) (by omega) hk,getElem!_pos d' i hi];have u3:d'[i].1.2.toArray[j]?=some u:=u1;simpa using u3) (λ_=>by show w.drawn<=w.drawn+n;omega)
 rw[wO pC]at H' S';exact⟨_,Z,rfl,.val (.b8 [] [] rfl (λj hj=>by simp at hj)),H',S',λhh=>by omega⟩
theorem _root_.zbn{P:Prop}(h:P:=by
 refine f.mono ?_;rintro e X ⟨rfl,rfl⟩;exact⟨_,Z,rfl,.val (.b8 [] [] rfl (λj M=>by simp at M)),H,eN.refl X h Z,λR=>by omega⟩):P:=h
theorem SN:ez C.P 98 sL:=by
 intro V h r n e w F Z W H b
 unfold sL at e
 split at e
 ·rename_i g
  obtain⟨rfl,rfl⟩:=agk (af7 e);obtain⟨D,y,rfl,B,O⟩:=b.two;obtain⟨d,a,rfl,_,_⟩:=B.fI.iC;have f:=AnyF.slices_SortFunc_none adu d a y w;exact zbn
 ·rename_i q i K g
  split at e
  ·rename_i o N
   split at e
   ·rename_i z J
    split at e
    ·rename_i G
     obtain⟨rfl,rfl⟩:=agk (af7 e);obtain⟨rfl,A,t,rfl,v,u⟩:=G;exact Pa H b N A t v (lN _ J) (by simpa using u)
    cases e
   cases e
  cases e
 cases e
end Go.Pm
namespace Go.Pm
variable{i lv m n:Nat}{f:FuncId}{args:List PV}{h h0:ab}{x:PV×ab}{H:Op}{Y:Nat->PV}{ops:Array Oper}{o:Oper}{U s:St}{b:List Nat}
def vC(md md':FuncId->Mode):Prop:=∀f,md f=.no\/md f=md' f
variable{P:Program}{md md':FuncId->Mode}{run run':hZ}
def lP(P:Program)(md md':FuncId->Mode)(run run':hZ):Prop:=∀(W:Nat) (f:FuncId) (V:List PV) (h:ab) (x:PV×ab),dG ⟨P,md⟩ run W f V h=some x->dG ⟨P,md'⟩ run' W f V h=some x
theorem Ub(M:vC md md')(L:iK run run')(e:dG ⟨P,md⟩ run lv f args h=some x):dG ⟨P,md'⟩ run' lv f args h=some x:=by
 unfold dG at e ⊢;rcases M f with a |a
 ·simp only[a]at e
  cases e
 simp only[<-a]
 cases d:md f <;>simp only[d]at e ⊢
 cases e
 exact pE L e;exact pF L e;exact e;exact lU (λ_ _ _ x=>x) e;exact e
theorem Pt(M:vC md md')(L:iK run run'):lP P md md' run run':=λW f V h x e=>Ub M L e
theorem kF(M:lP P md md' run run')(e:ar ⟨P,md⟩ run lv H Y h=some x):ar ⟨P,md'⟩ run' lv H Y h=some x:=by
 unfold ar at e ⊢
 split at e
 ·split at e
  ·unfold gp at e ⊢
   split at e
   exact M _ _ _ _ _ e;exact M _ _ _ _ _ e
   cases e
  ·exact e
  ·cases e
 exact e
theorem Pu(M:lP P md md' run run')(e:gL ⟨P,md⟩ run ops o s=some U):gL ⟨P,md'⟩ run' ops o s=some U:=by
 unfold gL at e ⊢
 split at e
 ·cases z:ar ⟨P,md⟩ run 2 o.op s.Y s.h with
  |none=>rw[z]at e;cases e
  |some y=>rw[z]at e;rw[kF M z];exact e
 exact e
 cases e
theorem BL(M:lP P md md' run run'){ops:Array Oper}:∀{l:List Oper} {s U:St},eB ⟨P,md⟩ run ops l s=some U->eB ⟨P,md'⟩ run' ops l s=some U
 |[],s,U,e=>e
 |o::l,s,U,e=>by
  simp only[eB]at e ⊢
  cases z:gL ⟨P,md⟩ run ops o s with
  |none=>rw[z]at e;cases e
  |some y=>
   rw[z]at e;rw[Pu M z];exact BL M e
theorem Lj(M:lP P md md' run run'){s U:zd}(e:cM ⟨P,md⟩ run ops b i o s=some U):cM ⟨P,md'⟩ run' ops b i o s=some U:=by
 unfold cM at e ⊢
 split at e
 ·split at e
  ·rename_i R
   rw[if_pos R]
   cases z:ar ⟨P,md⟩ run 1 o.op s.s.Y s.s.h with
   |none=>rw[z]at e;cases e
   |some y=>rw[z]at e;rw[kF M z];exact e
  ·rename_i R
   rw[if_neg R]
   split at e
   ·rename_i A
    rw[if_pos A]
    cases z:ar ⟨P,md⟩ run 2 o.op s.s.Y s.s.h with
    |none=>rw[z]at e;cases e
    |some y=>rw[z]at e;rw[kF M z];exact e
   ·rename_i A
    rw[if_neg A];simp only at e ⊢
    split at e
    ·rename_i G
     rw[if_pos G]
     cases z:ar ⟨P,md⟩ run 1 o.op s.s.Y (cO (b.getD i 0).testBit s.L0 s.own s.s.h)with
     |none=>rw[z]at e;cases e
     |some y=>rw[z]at e;rw[kF M z];exact e
    cases e
 exact e
 cases e
theorem yH(M:lP P md md' run run'){ops:Array Oper}{b:List Nat}:∀{l:List Oper} {i:Nat} {s U:zd},dQ ⟨P,md⟩ run ops b i l s=some U->dQ ⟨P,md'⟩ run' ops b i l s=some U
 |[],i,s,U,e=>e
 |o::l,i,s,U,e=>by
  simp only[dQ]at e ⊢
  cases z:cM ⟨P,md⟩ run ops b i o s with
  |none=>rw[z]at e;cases e
  |some y=>
   rw[z]at e;rw[Lj M z];exact yH M e
theorem Lk(M:lP P md md' run run')(e:du ⟨P,md⟩ run ops b h0 i o s=some U):du ⟨P,md'⟩ run' ops b h0 i o s=some U:=by
 unfold du at e ⊢
 split at e
 ·split at e
  ·rename_i R
   rw[if_pos R]
   cases z:ar ⟨P,md⟩ run 1 o.op s.Y s.h with
   |none=>rw[z]at e;cases e
   |some y=>rw[z]at e;rw[kF M z];exact e
  ·rename_i R
   rw[if_neg R]
   split at e
   ·rename_i A
    rw[if_pos A];exact e
   ·rename_i A
    rw[if_neg A]
    cases S:(if k9 o.op then aD P 1 o.op s.Y s.h else none)with
    |some y=>rw[S]at e;exact e
    |none=>
     rw[S]at e;simp only at e ⊢
     split at e
     ·rename_i g
      rw[if_pos g]
      cases z:ar ⟨P,md⟩ run 2 o.op s.Y s.h with
      |none=>rw[z]at e;cases e
      |some y=>rw[z]at e;rw[kF M z];exact e
     cases e
 exact e
 cases e
theorem yI(M:lP P md md' run run'){ops:Array Oper}{b:List Nat}{h0:ab}:∀{l:List Oper} {i:Nat} {s U:St},cF ⟨P,md⟩ run ops b h0 i l s=some U->cF ⟨P,md'⟩ run' ops b h0 i l s=some U
 |[],i,s,U,e=>e
 |o::l,i,s,U,e=>by
  simp only[cF]at e ⊢
  cases z:du ⟨P,md⟩ run ops b h0 i o s with
  |none=>rw[z]at e;cases e
  |some y=>
   rw[z]at e;rw[Lk M z];exact yI M e
theorem Uc(M:lP P md md' run run')(e:ka ⟨P,md⟩ run ops s=some U):ka ⟨P,md'⟩ run' ops s=some U:=by
 unfold ka at e ⊢
 cases z:cF ⟨P,md⟩ run ops (before ops) (cJ (iS ops (before ops) s.Y) s.h) 0 ops.toList ⟨s.Y,cJ (iS ops (before ops) s.Y) s.h⟩with
 |none=>rw[z]at e;cases e
 |some y=>rw[z]at e;rw[yI M z];exact e
def tG(md md':FuncId->Mode):Prop:=∀g,zE (md g)=true->zE (md' g)=true
theorem vC.still(M:vC md md'):tG md md':=λg h=>by
 rcases M g with a |a;rw[a]at h;cases h;rw[<-a];exact h
theorem Pv(M:tG md md')(e:rQ ⟨P,md⟩ H Y=true):rQ ⟨P,md'⟩ H Y=true:=by
 unfold rQ at e ⊢
 split at e
 ·split at e
  ·rename_i g a u
   simp only[age]at e;simp only[u,e.1,M g e.2,ahd]
  ·cases e
 cases e
theorem Ll(d:tG md md')(M:lP P md md' run run'){W:List Nat}(e:fe ⟨P,md⟩ run W h0 o s=some U):fe ⟨P,md'⟩ run' W h0 o s=some U:=by
 unfold fe at e ⊢
 split at e
 ·rename_i R
  rw[if_pos R]
  cases z:ar ⟨P,md⟩ run 1 o.op s.Y s.h with
  |none=>rw[z]at e;cases e
  |some y=>rw[z]at e;rw[kF M z];exact e
 ·rename_i R
  rw[if_neg R]
  split at e
  ·rename_i A
   rw[if_pos A];exact e
  ·rename_i A
   rw[if_neg A]
   split at e
   ·rename_i G
    rw[if_pos G]
    split at e
    ·rename_i S
     rw[if_pos S]
     cases z:ar ⟨P,md⟩ run 1 o.op s.Y s.h with
     |none=>rw[z]at e;cases e
     |some y=>rw[z]at e;rw[kF M z];exact e
    cases e
   ·rename_i G
    rw[if_neg G]
    split at e
    ·rename_i G
     rw[if_pos G]
     split at e
     ·rename_i S
      rw[if_pos (Pv d S)]
      cases z:ar ⟨P,md⟩ run 1 o.op s.Y s.h with
      |none=>rw[z]at e;cases e
      |some y=>rw[z]at e;rw[kF M z];exact e
     cases e
    ·rename_i G
     rw[if_neg G];exact e
theorem yJ(d:tG md md')(M:lP P md md' run run'){W:List Nat}{h0:ab}:∀{l:List Oper} {s U:St},eQ ⟨P,md⟩ run W h0 l s=some U->eQ ⟨P,md'⟩ run' W h0 l s=some U
 |[],s,U,e=>e
 |o::l,s,U,e=>by
  simp only[eQ]at e ⊢
  cases z:fe ⟨P,md⟩ run W h0 o s with
  |none=>rw[z]at e;cases e
  |some y=>
   rw[z]at e;rw[Ll d M z];exact yJ d M e
theorem Ud(j:tG md md')(M:lP P md md' run run')(v:n<=m):∀(c:Code) {s:St} {x:Ex×St},bT ⟨P,md⟩ run n c s=some x->bT ⟨P,md'⟩ run' m c s=some x:=by
 intro c
 induction c with
 |region V O D=>
  intro s x e
  simp only[bT]at e ⊢
  cases D with
  |false=>
   simp only[agn,if_false]at e ⊢
   cases z:eB ⟨P,md⟩ run O O.toList s with
   |none=>rw[z]at e;cases e
   |some y=>rw[z]at e;rw[BL M z];exact e
  |true=>
   simp only[if_true]at e ⊢
   by_cases g:pO O=true
   ·simp only[g,if_true]at e ⊢
    cases z:ka ⟨P,md⟩ run O s with
    |none=>rw[z]at e;cases e
    |some y=>rw[z]at e;rw[Uc M z];exact e
   ·simp only[g]at e ⊢
    by_cases u:kb O=true
    ·simp only[u,if_true]at e ⊢
     cases z:eQ ⟨P,md⟩ run (Eh O s.Y) s.h O.toList s with
     |none=>rw[z]at e;simp at e
     |some y=>rw[z]at e;rw[yJ j M z];exact e
    simp only[u]at e ⊢
    cases z:dQ ⟨P,md⟩ run O (before O) 0 O.toList ⟨s,s.h.length,[]⟩with
    |none=>rw[z]at e;simp at e
    |some y=>rw[z]at e;rw[yH M z];exact e
 |seq a b i f=>
  intro s x e
  simp only[bT]at e ⊢
  cases z:bT ⟨P,md⟩ run n a s with
  |none=>rw[z]at e;cases e
  |some y=>exact zcc
 |cond c a b i f=>
  intro s x e
  simp only[bT]at e ⊢
  split at e
  exact i e;exact f e
  cases e
 |block V c d=>
  intro s x e
  simp only[bT]at e ⊢
  cases z:bT ⟨P,md⟩ run n c s with
  |none=>rw[z]at e;cases e
  |some y=>rw[z]at e;rw[d z];exact e
 |loop c d=>
  intro s x e
  simp only[bT]at e ⊢;exact te (λs x=>d) v e
 |scope c d=>
  intro s x e
  simp only[bT]at e ⊢;exact d e
 |_=>
  intro s x e
  first
   |exact e
   |(simp[bT]at e;done)
   |(simp only[bT]at e ⊢;exact e)
theorem Hz(d:tG md md')(M:lP P md md' run run')(v:n<=m):iK (rj ⟨P,md⟩ run n) (rj ⟨P,md'⟩ run' m):=by
 intro f V h x e
 unfold rj at e ⊢
 cases u:P.funcs[f]? with
 |none=>rw[u]at e;cases e
 |some i=>
  rw[u]at e;simp only at e ⊢
  cases W:i.body with
  |none=>rw[W]at e;cases e
  |some c=>
   rw[W]at e;simp only at e ⊢
   cases z:bT ⟨P,md⟩ run n c ⟨pP V,h⟩with
   |none=>rw[z]at e;cases e
   |some y=>rw[z]at e;rw[Ud d M v c z];exact e
theorem Fu(M:vC md md'):∀n,iK (dC ⟨P,md⟩ n) (dC ⟨P,md'⟩ n)
 |0=>λf V h x e=>by cases e
 |n+1=>Hz M.still (Pt M (Fu M n)) (agb n)
theorem ay.up(M:vC md md'){Q:PV->ab->Prop}(a:ay ⟨P,md⟩ f args h Q):ay ⟨P,md'⟩ f args h Q:=by
 obtain⟨r,d,q,B,z⟩:=a;exact⟨r,d,q,B,λn O=>Fu M n _ _ _ _ (z n O)⟩
theorem aT.up(M:vC md md'){r:PV}(a:aT ⟨P,md⟩ f args r):aT ⟨P,md'⟩ f args r:=by
 obtain⟨B,z⟩:=a;refine⟨B,λn O=>?_⟩;obtain⟨R,G,b,D,N⟩:=z n O;exact⟨R,G,b,Fu M n _ _ _ _ D,N⟩
end Go.Pm
namespace Go.Pm
variable{h:ab}{fl:Bool}{e:PV}
open Go.Proofs
open Go.Pm.Zero (o9 nW)
attribute [local irreducible] aE az aO aL Ev ai ah ay bh
variable{w:World}{F:Nat->Prop}{Z:List (Nat×Nat)}{h:ab}
namespace ub
set_option maxRecDepth 100000
set_option maxHeartbeats 4000000
noncomputable abbrev T6:li C0.P:=Zero.T6
theorem xK(q:uw 4 e=true):ay C0 162 [.aa true [],.I 0,.aa fl [e]] h (λr h'=>r=.an h.length 0 0 1/\h'=h++[⟨.m,0,4,[e]⟩]):=by
 refine ay.gk Tryz.func162 rfl ?_;have y:C0.P.underlying 109=some (.slice 38):=bG (T6.dA 109 _ rfl);have z:([e]:List PV).length=1:=rfl;refine wD ?_;apply R.slice;exact rfl;exact rfl;exact rfl;exact rfl;exact Dm y (T6.eT 38 4 rfl)
 exact zag
theorem Oe{V ep len:Nat}{o:ax}(q:uw 4 e=true)(N:getM h V ep=some o)(d:o.mu=.m)(M:o.bQ=4)(hle:len<=o.es.length)(hn:len<100000000):
  ay C0 162 [.an V ep 0 len,.I (len:Int),.aa fl [e]] h (λr h'=>r=.an V (ep+1) 0 (len+1)/\h'=h.set V {o with ep:=ep+1,es:=o.es.take len++[e]}):=by
 refine ay.gk Tryz.func162 rfl ?_;have y:C0.P.underlying 109=some (.slice 38):=bG (T6.dA 109 _ rfl);have z:([e]:List PV).length=1:=rfl;have D:dF C0.P 38=some o.bQ:=by rw[M];exact T6.eT 38 4 rfl
 refine wD ?_;apply R.slice;exact rfl;exact rfl;exact rfl;exact rfl;exact C2 y D N (agb _) hle;refine wF λG=>?_
 all_goals try(exfalso;revert G;decide)
 all_goals(
  apply R.QA T6 (o:=o);exact rfl;exact rfl;exact N;exact yxa;refine wF λG=>?_;apply R.RQ T6 (o:=o);exact rfl;exact rfl;exact rfl;exact rfl;exact rfl;exact rfl;exact rfl;exact yxe;exact rfl;exact rfl;exact AF q;exact rfl;exact(by show len+1<_;omega);exact N;exact d;exact M;exact hle;refine wD ?_;exact⟨rfl,rfl⟩)
end ub
end Go.Pm
namespace Go.Pm
variable{h:ab}{V ep i len:Nat}{o:ax}{fl:Bool}{e:PV}{vs:List Value}
variable[iD:Inhabited Prop]
open Go.Proofs
open Go.Pm.Zero (o9 nW)
attribute [local irreducible] aE az aO aL Ev ai ah ay bh
variable{w:World}{F:Nat->Prop}{Z:List (Nat×Nat)}{h:ab}
namespace ub
set_option maxRecDepth 100000
set_option maxHeartbeats 4000000
noncomputable def c63:Code:=match Tryz.f162.body with |some c=>c |none=>.skip
theorem RL:Tryz.f162.body=some c63:=rfl
variable{w:World}{F:Nat->Prop}{Z:List (Nat×Nat)}
theorem Mn{N:Nat}{a:Act}{Q:Exit->Act->World->Prop}(b:getM h V ep=some o)(H:o.bQ=4)(hle:len<=o.es.length)(z:i<len)(hn:len<100000000)(y:N=Tryz.f162.ntmps)
  (t:SR N w F Z ⟨pP [.an V ep 0 len,.I (i:Int),.aa fl [e]],h⟩ a)
  (k:∀u w' q Y',SR N w' F q ⟨al [(0,.an V ep 0 len),(1,.I (i:Int)),(2,.aa fl [e]),(7,.I 1),(8,.I (len:Int))] Y',h⟩ u->eN w h Z w' h q->(tlC 6 c63).wp C0.P Q u w'):c63.wp C0.P Q a w:=by
 subst y;have D:C0.P.underlying 109=some (.slice 38):=bG (T6.dA 109 _ rfl);have J:dF C0.P 38=some o.bQ:=by rw[H];exact T6.eT 38 4 rfl
 have O:([e]:List PV).length=1:=rfl;refine wp_seq ?_;refine dV K0 cZ S0 (M:=λA U=>A=.normal/\∃Y',U=⟨al [(0,.an V ep 0 len),(1,.I (i:Int)),(2,.aa fl [e])] Y',h⟩) rfl ?_ t ?_
 ·rw[iE];refine wD ?_;exact⟨rfl,_,St.ba ⟨rfl,rfl,rfl,trivial⟩⟩
 rintro A U a1 w1 Z1 ⟨rfl,Y1,rfl⟩ B g;refine wp_seq ?_;refine dV K0 cZ S0 (M:=λA U=>A=.normal/\∃Y',U=⟨al [(0,.an V ep 0 len),(1,.I (i:Int)),(2,.aa fl [e])] Y',h⟩) rfl ?_ B ?_
 ·refine wD ?_;apply R.slice;exact rfl;exact rfl;exact rfl;exact rfl;exact iI D J b z hle;refine wD ?_;exact⟨rfl,_,St.ba ⟨rfl,rfl,rfl,trivial⟩⟩
 rintro A U a2 w2 Z2 ⟨rfl,Y2,rfl⟩ Y W;refine wp_seq ?_;refine dV K0 cZ S0 (M:=λA U=>A=.normal/\∃Y',U=⟨al [(0,.an V ep 0 len),(1,.I (i:Int)),(2,.aa fl [e]),(7,.I 1)] Y',h⟩) rfl ?_ Y ?_
 ·refine wD ?_;exact⟨rfl,_,St.ba ⟨rfl,rfl,rfl,rfl,trivial⟩⟩
 rintro A U a3 w3 Z3 ⟨rfl,Y3,rfl⟩ X j;refine wp_seq ?_;refine dV K0 cZ S0 (M:=λA U=>A=.normal/\∃Y',U=⟨al [(0,.an V ep 0 len),(1,.I (i:Int)),(2,.aa fl [e]),(7,.I 1)] Y',h⟩) rfl ?_ X ?_
 ·refine wF λG=>?_;exact⟨rfl,_,St.ba ⟨rfl,rfl,rfl,rfl,trivial⟩⟩
 rintro A U a4 w4 Z4 ⟨rfl,Y4,rfl⟩ d n;refine wp_seq ?_;refine dV K0 cZ S0 (M:=λA U=>A=.normal/\∃Y',U=⟨al [(0,.an V ep 0 len),(1,.I (i:Int)),(2,.aa fl [e]),(7,.I 1),(8,.I (len:Int))] Y',h⟩) rfl ?_ d ?_
 ·refine wD ?_;apply R.QA T6 (o:=o);exact rfl;exact rfl;exact b;exact yxa;refine wD ?_;exact⟨rfl,_,St.ba ⟨rfl,rfl,rfl,rfl,rfl,trivial⟩⟩
 rintro A U a5 w5 Z5 ⟨rfl,Y5,rfl⟩ K v;refine wp_seq ?_;refine dV K0 cZ S0 (M:=λA U=>A=.normal/\∃Y',U=⟨al [(0,.an V ep 0 len),(1,.I (i:Int)),(2,.aa fl [e]),(7,.I 1),(8,.I (len:Int))] Y',h⟩) rfl ?_ K ?_
 ·refine wF λG=>?_;exact⟨rfl,_,St.ba ⟨rfl,rfl,rfl,rfl,rfl,trivial⟩⟩
 rintro A U a6 w6 Z6 ⟨rfl,Y6,rfl⟩ f S;exact k _ _ _ _ f (((((g.trans W).trans j).trans n).trans v).trans S)
theorem _root_.zb0{P:Prop}(h:P:=by
 show cS C0.P h 109 (.an V ep 0 (len+1)) (some (.I ((i:Int)+1))) none none=_;rw[rA];exact iI d q N yxa yxa):P:=h
theorem Oc{X:PV}{pre:List PV}(H:bp w F Z h)(ha:L2 (aG w (Av F h Z) Z h) vs [.an V ep 0 len,.I (i:Int),.aa fl [e]])
  (N:getM h V ep=some o) (g:o.mu=.m) (B:o.bQ=4) (mJ:o.es=pre++[X]) (G:pre.length=len) (hi:i<len) (hn:len<100000000) (ig:pre.all (uw 4)=true) (hX:(cells X).length=4) (z:uw 4 e=true) (eW:br h=true):
  nC C0.P 2 w F Z h 162 vs (.an V ep 0 (len+1)) (h.set V {o with es:=pre.take i++[e]++pre.drop i}):=by
 have cL:o.es.length=len+1:=by rw[mJ];simp[G]
 have d:C0.P.underlying 109=some (.slice 38):=bG (T6.dA 109 _ rfl);have JU:dF C0.P 38=some 4:=T6.eT 38 4 rfl;have q:dF C0.P 38=some o.bQ:=by rw[B];exact JU
 obtain⟨K,g2,g3⟩:=getM_some N;have cK:=ag K;obtain⟨n,pC⟩:=fh H.len K;obtain⟨T,cs,k1,k2,k3,k4,k5⟩:=(H.obj V o n K pC g3).c yxa;have Ck:len+1<=n.2:=by omega
 have nR:bj h V=true:=by unfold bj;rw[K];simp[g]
 have hj:((len:Int)+1)=((len+1:Nat):Int):=yxa
 have rA:((i:Int)+1)=((i+1:Nat):Int):=yxa
 have gI:∀{w':World} {Z':List (Nat×Nat)},eN w h Z w' h Z'->Z'[V]?=some n:=by
  intro w' Z' S
  obtain⟨o',dB,f1,f2,f3,f4,f5⟩:=S.refs V o n K pC g3;obtain rfl:=af7 (K.symm.trans f1);rw[f2,(f5 rfl).2.2]
 refine mR (P:=C0.P) (c:=c63) Tryz.func162 RL H ha (λa RR=>Mn N B yxa hi hn rfl RR (λa1 w1 Z1 Y1 R1 S1=>?_));refine wp_seq ?_;refine wp_seq ?_;apply dj K0 S0 (pre:=[_,_,_,_]) (post:=[_]) (R:=R1) (M:=λU=>∃b,U=⟨al ((28,.I ((len:Int)+1))::(29,.an V ep 0 len)::[(0,.an V ep 0 len),(1,.I (i:Int)),(2,.aa fl [e]),(7,.I 1),(8,.I (len:Int))]) b,h⟩) (M2:=λU=>∃b,U=⟨al ((31,.bool false)::[(0,.an V ep 0 len),(1,.I (i:Int)),(2,.aa fl [e]),(7,.I 1),(8,.I (len:Int))]) b,h⟩)
 rfl
 rfl
 ·refine wD ?_;exact⟨_,St.ba ⟨rfl,rfl,rfl,rfl,rfl,rfl,rfl,trivial⟩⟩
 ·rintro s1 a2 w2 Z2 ⟨Y2,rfl⟩ R2 S2;refine⟨.I (n.2:Int),h,GH (t:=109) (x:=.tmp 29) R2.hr R2.er d (fi (t:=29) rfl Y2) N (gI (S1.trans S2)) yxa _ rfl,?_⟩;show ai C0 _ _ ⟨bZ (al _ Y2) (some 30) (.I (n.2:Int)),h⟩ _;rw[cy];refine wF λhc=>?_;exact⟨_,St.ba ⟨rfl,rfl,rfl,rfl,rfl,rfl,trivial⟩⟩
 rintro s3 a3 w3 Z3 ⟨Y3,rfl⟩ R3 S3;refine dV K0 cZ S0 (M:=λA U=>A=.normal/\∃b,U=⟨al [(0,.an V ep 0 len),(1,.I (i:Int)),(2,.aa fl [e]),(7,.I 1),(8,.I (len:Int))] b,h⟩) rfl ?_ R3 ?_
 ·refine wD ?_;exact⟨rfl,_,St.ba ⟨rfl,rfl,rfl,rfl,rfl,trivial⟩⟩
 rintro A U a4 w4 Z4 ⟨rfl,Y4,rfl⟩ R4 S4;refine wp_seq ?_;refine dV K0 cZ S0 (M:=λA U=>A=.normal/\∃b,U=⟨al [(0,.an V ep 0 (len+1)),(1,.I (i:Int)),(2,.aa fl [e]),(7,.I 1)] b,h⟩) rfl ?_ R4 ?_
 ·refine wD ?_;apply R.slice;exact rfl;exact rfl;exact rfl;exact rfl
  ·show cS C0.P h 109 (.an V ep 0 len) none (some (.I ((len:Int)+1))) none=_;rw[hj];exact Af d q N yxa yxa
  refine wD ?_;exact⟨rfl,_,St.ba ⟨rfl,rfl,rfl,rfl,trivial⟩⟩
 rintro A U a5 w5 Z5 ⟨rfl,Y5,rfl⟩ R5 S5;refine wp_seq ?_;refine wp_seq ?_;apply dj K0 S0 (pre:=[_,_,_,_,_,_]) (post:=[_]) (R:=R5) (M:=λU=>∃b,U=⟨al ((61,.aa fl [e])::(66,.an V ep (i+1) (len+1 - (i+1)))::[(0,.an V ep 0 (len+1)),(1,.I (i:Int)),(2,.aa fl [e]),(7,.I 1)]) b,h⟩) (M2:=λU=>∃b,U=⟨al ((68,.bool true)::[(0,.an V ep 0 (len+1)),(1,.I (i:Int)),(2,.aa fl [e]),(7,.I 1)]) b,h⟩)
 rfl
 rfl
 ·refine wD ?_;apply R.slice;exact rfl;exact rfl;exact rfl;exact rfl
  ·exact zb0
  refine wD ?_;exact⟨_,St.ba ⟨rfl,rfl,rfl,rfl,rfl,rfl,trivial⟩⟩
 ·rintro s1 a6 w6 Z6 ⟨Y6,rfl⟩ R6 S6;refine⟨.bool false,h,Cw (t:=36) (tR:=4) (x:=.tmp 61) (y:=.tmp 66) (f:=210) R6.hr R6.er (bG (T6.dA 36 _ rfl)) JU (fi (t:=61) rfl Y6) (fi (t:=66) rfl Y6) N g yxa Tryz.func210 (by kernel_rfl) (by kernel_rfl) (by kernel_rfl) (by kernel_rfl) _ rfl,?_⟩;show ai C0 _ _ ⟨bZ (al _ Y6) (some 67) (.bool false),h⟩ _;rw[cy];refine wD ?_;exact⟨_,St.ba ⟨rfl,rfl,rfl,rfl,rfl,trivial⟩⟩
 rintro s7 a7 w7 Z7 ⟨Y7,rfl⟩ R7 S7;obtain⟨Q,O⟩:∃Q,Q=((pre++[X]).drop i).take (pre.length+1 - i):=⟨_,rfl⟩;obtain⟨W,GG⟩:∃W,W=(pre++[X]).take (i+1)++Q.take (pre.length - i)++(pre++[X]).drop (i+1+(pre.length - i)):=⟨_,rfl⟩;obtain⟨l1,l2,l3⟩:=JV (e:=e) yxa O GG;rw[G]at l1 l2;have hyl:Q.length=len+1 - i:=by rw[O];simp;omega
 have adg:∀v∈Q,(cells v).length=4:=by
  intro v J
  rw[O]at J;have:=ahr (ahi J);rcases agh.1 this with J |J
  ·have:=af9.1 ig v J;unfold uw at this;simp only[age,decide_eq_true_eq]at this;exact this.1.2
  ·obtain rfl:=agu.1 J;exact hX
 have Y:(cells e).length=4/\(cells e).all bP=true:=by
  unfold uw at z;simp only[age,decide_eq_true_eq]at z;exact⟨z.1.2,z.2⟩
 have j:min Q.length (len+1 - (i+1))=len - i:=by omega
 have NB:h.set V {o with es:=o.es.take (i+1)++Q.take (min Q.length (len+1 - (i+1)))++o.es.drop (i+1+min Q.length (len+1 - (i+1)))}=h.set V {o with es:=W}:=by
  rw[j,mJ,GG,G]
 have EV:getM (h.set V {o with es:=W}) V ep=some {o with es:=W}:=bw (agc cK) g2 (by show o.mu≠.x;rw[g];simp);have RM:min ([e]:List PV).length (len+1 - i)=1:=by show min 1 _=1;omega
 have yQ:(h.set V {o with es:=W}).set V {({o with es:=W}:ax)with es:=W.take i++[e].take (min ([e]:List PV).length (len+1 - i))++W.drop (i+min ([e]:List PV).length (len+1 - i))}=h.set V {o with es:=pre.take i++[e]++pre.drop i}:=by
  rw[ahF,RM,<-l3];rfl
 refine dV K0 cZ S0 (M:=λA U=>A=.ret/\∃b,U=⟨al [(6,.an V ep 0 (len+1))] b,h.set V {o with es:=pre.take i++[e]++pre.drop i}⟩) rfl ?_ R7 ?_
 ·refine wD ?_;apply D.slice;exact eW;exact rfl;exact nR;exact rfl;exact rfl;exact rfl;exact rfl;exact rfl;exact rfl
  ·exact zb0
  refine wD ?_;apply D.slice;exact eW;exact rfl;exact nR;exact rfl;exact rfl;exact rfl;exact rfl;exact rfl;exact rfl;exact iI d q N yxa yxa;apply D.copy T6 (ys:=Q) (o:=o) (sz:=4);exact rfl;exact rfl;exact rfl;exact rfl;exact rfl
  ·simp only[cr,N];rw[if_pos yxa,mJ,O,G]
  exact N;exact g;exact B;omega
  ·rw[af9]
   intro v J
   simp[adg v J]
  ·rw[j,l1,af9]
   intro v J
   have:=af9.1 ig v (ahr J);unfold uw at this;simp only[age]at this ⊢;exact⟨this.1.2,this.2⟩
  refine bh.heap NB ?_;refine wD ?_;apply R.slice;exact rfl;exact rfl;exact rfl;exact rfl;exact iI (o:={o with es:=W}) d q EV yxa (by show len+1<=W.length;omega);refine wD ?_;apply R.copy T6 (ys:=[e]) (o:={o with es:=W}) (sz:=4);exact rfl;exact rfl;exact rfl;exact rfl;exact rfl;exact EV;exact g;exact B;show i+(len+1 - i)<=W.length;omega;simp[Y.1];simp only[RM,List.take_succ_cons,List.take_zero,ahh,ahG,Y.1,Y.2];rfl;refine wD ?_;exact⟨rfl,_,(congrArg (λhh=>(⟨_,hh⟩:St)) yQ).trans (St.ba ⟨rfl,trivial⟩)⟩
 rintro A s8 a8 w8 Z8 ⟨rfl,Y8,rfl⟩ R8 S8;refine⟨.inr rfl,_,Z8,R8,(((((S1.trans S3).trans S4).trans S5).trans S7).trans S8),[.an V ep 0 (len+1)],?_,λu hu'=>⟨Z8,hu',R8.hr,(((((S1.trans S3).trans S4).trans S5).trans S7).trans S8)⟩⟩;exact gq (L:=[(6,.an V ep 0 (len+1))]) rfl
 all_goals rfl
theorem RK{h:ab}{id ep len i:Nat}{o:ax}{bc:Nat×Nat}{fl:Bool}{e:PV}{vs:List Value}(H:bp w F Z h)(ha:L2 (aG w (Av F h Z) Z h) vs [.an id ep 0 len,.int .i64 (i:Int),.aa fl [e]])
  (hg:getM h id ep=some o) (hz:o.bQ=4) (hle:len<=o.es.length) (pC:Z[id]?=some bc) (Ck:bc.2<len+1) (hi:i<len) (hn:len<100000000) (ig:(o.es.take len).all (uw 4)=true) (he:uw 4 e=true) (eW:br h=true):
  nC C0.P 2 w F Z h 162 vs (.an h.length 0 0 (len+1)) (h++[⟨.m,0,4,(o.es.take len).take i++[e]++(o.es.take len).drop i⟩]):=by
 have hu:C0.P.underlying 109=some (.slice 38):=bG (T6.dA 109 _ rfl);have JU:dF C0.P 38=some 4:=T6.eT 38 4 rfl;have jz:dF C0.P 38=some o.bQ:=by rw[hz];exact JU
 obtain⟨g1,g2,g3⟩:=getM_some hg;have cK:=ag g1;have hj:((i:Int)+1)=((i+1:Nat):Int):=by omega
 have hj3:((len:Int)+1 - (i:Int))=((len+1 - i:Nat):Int):=by omega
 have oR:i+(len+1 - i)=len+1:=by omega
 have gI:∀{w':World} {Z':List (Nat×Nat)},eN w h Z w' h Z'->Z'[id]?=some bc:=by
  intro w' Z' S
  obtain⟨o',dB,f1,f2,f3,f4,f5⟩:=S.refs id o bc g1 pC g3;obtain rfl:=af7 (g1.symm.trans f1);rw[f2,(f5 rfl).2.2]
 obtain⟨xf,aaQ⟩:∃xf,xf=o.es.take i++List.replicate (len+1 - i) (.agg [.int .i64 0,.str ByteArray.empty,.int .i64 0,.aa true []]:PV):=⟨_,rfl⟩;obtain⟨iO,GG⟩:∃iO,iO=xf.take i++[e]++xf.drop (i+1):=⟨_,rfl⟩;obtain⟨ys,vj⟩:∃ys,ys=(o.es.drop i).take (len - i):=⟨_,rfl⟩;obtain⟨l1,l2,l3,l4,l5⟩:=Ob hi hle aaQ GG vj
 have P3:(cells e).length=4/\(cells e).all bP=true/\aW e=true:=by
  unfold uw at he;simp only[age,decide_eq_true_eq]at he;exact⟨he.1.2,he.2,he.1.1⟩
 have adb:ys.all (uw 4)=true:=by
  rw[l4,af9]
  intro v hv
  exact af9.1 ig v (ahr hv)
 have tZ:aw xf=true:=by
  rw[aaQ,bz,ag9,<-bz]
  have:aw (o.es.take i)=true:=by
   refine AE (sz:=4) ?_;rw[af9]
   intro v hv
   refine af9.1 ig v ?_;have:o.es.take i=(o.es.take len).take i:=by rw[aif];congr 1;omega
   rw[this]at hv;exact ahi hv
  rw[this,ahA,af9]
  intro v hv
  obtain rfl:=ag8 hv
  rfl
 have vf:aw iO=true:=by
  rw[bz,af9]at tZ ⊢
  intro v hv
  rw[GG]at hv;rcases agh.1 hv with hv |hv
  ·rcases agh.1 hv with hv |hv
   ·exact tZ v (ahi hv)
   ·obtain rfl:=agu.1 hv;exact P3.2.2
  exact tZ v (ahr hv)
 have VZ:br (h++[⟨.m,0,4,iO⟩])=true:=GF vf eW;have hgn:∀es,getM (h++[⟨.m,0,4,es⟩]) h.length 0=some ⟨.m,0,4,es⟩:=λes=>VY (o:=⟨.m,0,4,es⟩) (by simp)
 have hgo:∀es,getM (h++[⟨.m,0,4,es⟩]) id ep=some o:=λes=>lC hg
 have nR:∀es,bj (h++[⟨.m,0,4,es⟩]) id=true:=λes=>by unfold bj;rw[af8 cK,g1];simpa using g3
 have ade:∀es,bj (h++[⟨.m,0,4,es⟩]) h.length=true:=λes=>by unfold bj;simp
 refine mR (P:=C0.P) (c:=c63) Tryz.func162 RL H ha (λa RR=>Mn hg hz (by omega) hi hn rfl RR (λa1 w1 Z1 Y1 R1 S1=>?_));refine wp_seq ?_;refine wp_seq ?_;apply dj K0 S0 (pre:=[_,_,_,_]) (post:=[_]) (R:=R1) (M:=λs'=>∃Y',s'=⟨al ((28,.int .i64 ((len:Int)+1))::(29,.an id ep 0 len)::[(0,.an id ep 0 len),(1,.int .i64 (i:Int)),(2,.aa fl [e]),(7,.int .i64 1),(8,.int .i64 (len:Int))]) Y',h⟩) (M2:=λs'=>∃Y',s'=⟨al ((31,.bool true)::[(0,.an id ep 0 len),(1,.int .i64 (i:Int)),(2,.aa fl [e]),(7,.int .i64 1),(8,.int .i64 (len:Int))]) Y',h⟩)
 rfl
 rfl
 ·refine wD ?_;exact⟨_,St.ba ⟨rfl,rfl,rfl,rfl,rfl,rfl,rfl,trivial⟩⟩
 ·rintro s1 a2 w2 Z2 ⟨Y2,rfl⟩ R2 S2;refine⟨.int .i64 (bc.2:Int),h,GH (t:=109) (x:=.tmp 29) R2.hr R2.er hu (fi (t:=29) rfl Y2) hg (gI (S1.trans S2)) (by omega) _ rfl,?_⟩;show ai C0 _ _ ⟨bZ (al _ Y2) (some 30) (.int .i64 (bc.2:Int)),h⟩ _;rw[cy];refine wF λhc=>?_;exact⟨_,St.ba ⟨rfl,rfl,rfl,rfl,rfl,rfl,trivial⟩⟩
 rintro s3 a3 w3 Z3 ⟨Y3,rfl⟩ R3 S3
 have aeT:a3.eval (.tmp 31)=.bool true:=by
  have:=R3.er.ev R3.hr.fG (.tmp 31);rw[show ev (al ((31,PV.bool true)::[(0,.an id ep 0 len),(1,.int .i64 (i:Int)),(2,.aa fl [e]),(7,.int .i64 1),(8,.int .i64 (len:Int))]) Y3) (.tmp 31)=.bool true from fi (t:=31) rfl Y3]at this;exact this.gz
 refine wp_cond_true aeT ?_;refine wp_seq ?_;apply dj K0 S0 (pre:=[_,_,_,_,_,_,_,_]) (post:=[_]) (R:=R3) (M:=λs'=>∃Y',s'=⟨al ((34,.an id ep 0 i)::(39,.int .i64 ((len:Int)+1 - (i:Int)))::[(0,.an id ep 0 len),(1,.int .i64 (i:Int)),(2,.aa fl [e]),(7,.int .i64 1),(8,.int .i64 (len:Int))]) Y',h⟩) (M2:=λs'=>∃Y',s'=⟨al ((9,.an h.length 0 0 (len+1))::[(0,.an id ep 0 len),(1,.int .i64 (i:Int)),(2,.aa fl [e]),(7,.int .i64 1),(8,.int .i64 (len:Int))]) Y',h++[⟨.m,0,4,xf⟩]⟩)
 case f=>rfl
 case V=>rfl
 ·refine wD ?_;apply R.slice;exact rfl;exact rfl;exact rfl;exact rfl;exact NP hu jz hg (by omega) hle;refine wD ?_;exact⟨_,St.ba ⟨rfl,rfl,rfl,rfl,rfl,rfl,rfl,trivial⟩⟩
 ·rintro s1 a4 w4 Z4 ⟨Y4,rfl⟩ R4 S4;have os:=GJ (P:=C0.P) (st:=109) (xt:=3) (el:=38) (x:=.tmp 34) (y:=.tmp 39) (k:=.i64) (n:=len+1 - i) (len:=i) R4.hr R4.er hu (uv (T6.dA 3 _ rfl)) JU (by decide) (T6.vg 38 _ rfl) (by decide) (T6.pJ 38 (.agg [.int .i64 0,.str ByteArray.empty,.int .i64 0,.aa true []]) rfl) rfl rfl (fi (t:=34) rfl Y4) (by rw[<-hj3];exact fi (t:=39) rfl Y4) hg (gI ((S1.trans S3).trans S4)) (by omega) hz (by omega) (by omega);rw[oR,<-aaQ]at os;refine⟨.an h.length 0 0 (len+1),h++[⟨.m,0,4,xf⟩],os _ rfl,?_⟩;show ai C0 _ _ ⟨bZ (al _ Y4) (some 40) (.an h.length 0 0 (len+1)),_⟩ _;rw[cy];refine wD ?_;exact⟨_,St.ba ⟨rfl,rfl,rfl,rfl,rfl,rfl,trivial⟩⟩
 rintro s5 a5 w5 Z5 ⟨Y5,rfl⟩ R5 S5;have hmn:min ([e]:List PV).length (len+1 - i)=1:=by show min 1 _=1;omega
 have RM:min ys.length (len+1 - (i+1))=len - i:=by omega
 have hyt:ys.take (len - i)=ys:=agB (by omega)
 have NB:(h++[⟨.m,0,4,xf⟩]:ab).set h.length {(⟨.m,0,4,xf⟩:ax)with es:=xf.take i++[e].take (min ([e]:List PV).length (len+1 - i))++xf.drop (i+min ([e]:List PV).length (len+1 - i))}=h++[⟨.m,0,4,iO⟩]:=by
  rw[hmn,set_push,GG];rfl
 have hh3:(h++[⟨.m,0,4,iO⟩]:ab).set h.length {(⟨.m,0,4,iO⟩:ax)with es:=iO.take (i+1)++ys.take (min ys.length (len+1 - (i+1)))++iO.drop (i+1+min ys.length (len+1 - (i+1)))}=h++[⟨.m,0,4,(o.es.take len).take i++[e]++(o.es.take len).drop i⟩]:=by
  rw[RM,set_push,hyt,l5]
 refine dV K0 cZ S0 (M:=λex s'=>ex=.ret/\∃Y',s'=⟨al [(6,.an h.length 0 0 (len+1))] Y',h++[⟨.m,0,4,(o.es.take len).take i++[e]++(o.es.take len).drop i⟩]⟩) rfl ?_ R5 ?_
 ·refine wD ?_;apply R.slice;exact rfl;exact rfl;exact rfl;exact rfl;exact iI hu JU (hgn xf) (by omega) (by show len+1<=xf.length;omega);refine wD ?_;apply R.copy T6 (ys:=[e]) (o:=⟨.m,0,4,xf⟩) (sz:=4);exact rfl;exact rfl;exact rfl;exact rfl;exact rfl;exact hgn xf;exact rfl;exact rfl;show i+(len+1 - i)<=xf.length;omega;simp[P3.1];simp only[hmn,List.take_succ_cons,List.take_zero,ahh,ahG,P3.1,P3.2.1];rfl;rw[NB];refine wD ?_;apply D.slice;exact VZ;exact rfl;exact ade iO;exact rfl;exact rfl;exact rfl;exact rfl;exact rfl;exact rfl
  ·show cS C0.P _ 109 (.an h.length 0 0 (len+1)) (some (.int .i64 ((i:Int)+1))) none none=_;rw[hj];exact iI hu JU (hgn iO) (by omega) (by show len+1<=iO.length;omega)
  refine wD ?_;apply D.slice;exact VZ;exact rfl;exact nR iO;exact rfl;exact rfl;exact rfl;exact rfl;exact rfl;exact rfl;exact iI hu jz (hgo iO) hi hle;apply D.copy T6 (ys:=ys) (o:=⟨.m,0,4,iO⟩) (sz:=4);exact rfl;exact rfl;exact rfl;exact rfl;exact rfl
  ·simp only[cr,hgo];rw[if_pos (by omega),vj]
  exact hgn iO;exact rfl;exact rfl;show i+1+(len+1 - (i+1))<=iO.length;omega
  ·rw[af9]
   intro v hv
   have:=af9.1 adb v hv;unfold uw at this;simp only[age]at this;exact this.1.2
  ·rw[RM,hyt,af9]
   intro v hv
   have:=af9.1 adb v hv;unfold uw at this;simp only[age]at this ⊢;exact⟨this.1.2,this.2⟩
  refine bh.heap hh3 ?_;refine wD ?_;exact⟨rfl,_,St.ba ⟨rfl,trivial⟩⟩
 rintro ex s8 a8 w8 Z8 ⟨rfl,Y8,rfl⟩ R8 S8;have SS:=(((S1.trans S3).trans S5).trans S8);refine⟨.inr rfl,_,Z8,R8,SS,[.an h.length 0 0 (len+1)],?_,λu hu'=>⟨Z8,hu',R8.hr,SS⟩⟩;exact gq (L:=[(6,.an h.length 0 0 (len+1))]) rfl
 all_goals rfl
theorem GL:ez C0.P 162 jS:=by
 intro args h r h' e w F Z vs H ha
 unfold jS at e
 split at e
 ·rename_i i fl O
  split at e
  ·rename_i hc
   obtain⟨rfl,q⟩:=hc;obtain⟨rfl,rfl⟩:=agk (af7 e);exact o9 (El rfl) (xK q) H ha
  cases e
 ·rename_i V g K i fl O
  split at e
  ·rename_i o hg
   split at e
   ·rename_i hc
    obtain⟨t,B,A,hi0,hi,hn,q,G,eW⟩:=hc;obtain⟨rfl,rfl⟩:=agk (af7 e);obtain⟨k,rfl⟩:=ah5 hi0;have hk:k<=K:=by omega
    rw[show Int.toNat (k:Int)=k from rfl];obtain⟨D,g2,g3⟩:=getM_some hg;have cK:=ag D;obtain⟨bc,pC⟩:=fh H.len D;have oH:(o.es.take K).length=K:=by simp;omega
    by_cases JO:k=K
    ·subst JO
     have yQ:(o.es.take k).take k++[O]++(o.es.take k).drop k=o.es.take k++[O]:=by
      rw[aif,Nat.min_self,agU yxa,agC]
     rw[yQ];exact o9 (El rfl) (Oe q hg t B A hn) H ha
    ·have im:k<K:=yxa
     by_cases mH:K+1<=bc.2
     ·-- there is room
      have hXc:(cells (PV.agg [.any,.any,.any,.any])).length=4:=rfl
      obtain⟨Hp,Sp⟩:=H.EW D pC t (o.es.take K++[.agg [.any,.any,.any,.any]]) (g+1) yxa yxd (λi e q=>by
       rcases agM i K with ve |ve
       ·left
        rw[af8 yxa,agy,if_pos ve]at q;exact q
       ·right
        rw[agl yxa]at q;obtain rfl:=agu.1 (agq q);refine⟨by rw[hXc,B],λp hp=>?_⟩;simp only[cells]at hp;simpa using hp)
      have RP:(h.set V {o with es:=o.es.take K++[.agg [.any,.any,.any,.any]],ep:=g+1})[V]?=some {o with es:=o.es.take K++[.agg [.any,.any,.any,.any]],ep:=g+1}:=agc cK
      have aeX:br (h.set V {o with es:=o.es.take K++[.agg [.any,.any,.any,.any]],ep:=g+1})=true:=by
       refine sB (h:=h) (λi hi=>?_) (λo' h1=>?_) eW
       ·unfold bj at hi ⊢
        by_cases Y:i=V
        ·subst Y;rw[RP];simp[t]
        rw[aga (agV Y)];exact hi
       ·rcases ah0 h1 with h1 |rfl
        ·exact .inr (.inr ⟨o',h1,rfl,λR=>R⟩)
        ·exact .inr (.inl (Dl (bg _ _ (AE G)) rfl))
      have oT:L2 (aG w (Av F (h.set V {o with es:=o.es.take K++[.agg [.any,.any,.any,.any]],ep:=g+1}) Z) Z (h.set V {o with es:=o.es.take K++[.agg [.any,.any,.any,.any]],ep:=g+1})) vs [.an V (g+1) 0 K,.I (k:Int),.aa fl [O]]:=
       nW ha (λv J=>aG.EW D pC t J g2 A _ _) (λv J=>J.mono Sp) (λv J=>J.mono Sp)
      have cs:=Oc (o:={o with es:=o.es.take K++[.agg [.any,.any,.any,.any]],ep:=g+1}) (X:=.agg [.any,.any,.any,.any]) (pre:=o.es.take K) Hp oT (bw RP rfl (by show o.mu≠.x;rw[t];simp)) t B rfl oH im hn G rfl q aeX;refine cs.mono ?_;rintro en w' ⟨v,Z1,rfl,q1,N,n,_⟩;rw[ahF]at q1 N n;exact⟨v,Z1,rfl,q1,N,Sp.trans n,λR=>by omega⟩
     ·-- all is made anew
      obtain⟨p1,p2,p3,p4,p5,p6⟩:=bU o;have gl:getM (h.map cm) V g=some (cm o):=bw (by rw[agt,D];rfl) (by rw[p1];exact g2) (λR=>g3 (p4.1 R));have V3:∀b,Av (Av F h Z) (h.map cm) Z b->Av F h Z b:=λb W=>W.elim (λR=>R) (λt=>absurd t (pd h Z b))
      have cs:=RK (o:=cm o) (bc:=bc) H.lock (nW ha (λv J=>J.alike (nZ h) V3) (λv J=>J.alike (nZ h) V3) (λv J=>J.alike (nZ h) V3)) gl (by rw[p2];exact B) (by rw[p3];exact A) pC yxa im hn (by rw[p3];exact G) q (GD eW);rw[p3,agY]at cs;refine cs.mono ?_;rintro en w' ⟨v,Z1,rfl,q1,N,n,_⟩;obtain⟨d,z⟩:∃d,d=(o.es.take K).take k++[O]++(o.es.take K).drop k:=⟨_,rfl⟩;rw[<-z]at q1 N n ⊢;have NM:d.length=K+1:=by rw[z];simp;omega
      have aeY:d.all (uw 4)=true:=by
       rw[af9]at G ⊢
       intro x U
       rw[z]at U;rcases agh.1 U with U |U
       ·rcases agh.1 U with U |U
        ·exact G x (ahi U)
        ·obtain rfl:=agu.1 U;exact q
       exact G x (ahr U)
      have a:(h.map cm++[(⟨.m,0,4,d⟩:ax)])[h.length]?=some ⟨.m,0,4,d⟩:=by
       rw[agl yxb];simp
      obtain⟨f,FE⟩:=fh N.len a;have M:Mb (h.map cm++[⟨.m,0,4,d⟩]) Z1 f.1:=⟨h.length,_,f,a,FE,rfl,rfl⟩;obtain⟨T,vy,k1,k2,k3,k4,k5⟩:=(N.obj h.length _ f a FE yxb).c yxb
      have Ej:w.heap.size<=f.1:=by
       rcases agM f.1 w.heap.size with R |R;exact absurd (n.shr f.1 R M) (pd h Z f.1);exact R
      have hA:∀b,Av F (h.set V {o with es:=d,ep:=g+1}) (Z.set V f) b->Av (Av F h Z) (h.map cm++[⟨.m,0,4,d⟩]) Z1 b:=by
       rintro b (W |⟨ee,o',dB,PY,y,e3',Q⟩);exact .inl (.inl W)
       ·by_cases bL:ee=V
        ·subst bL;rw[agc (by rw[H.len];exact cK)]at y;obtain rfl:=af7 y;rw[<-Q];exact .inr M
        ·rw[aga (agV bL)]at PY y;exact .inl (.inr ⟨ee,o',dB,PY,y,e3',Q⟩)
      obtain⟨HH,SS⟩:=H.aaS (w':=w') D pC t T vy d (g+1) f n.size k1 (λb W=>n.ba b W (pd h Z b)) Ej yxa n.os n.tape n.output k2 (by rw[B];exact k3) (λi e S=>by
       obtain⟨m1,m2⟩:=k5 i e S;refine⟨by rw[B];exact m1,λj p hp=>?_⟩;obtain⟨u,n1,n2⟩:=m2 j p hp
       have J:aW e=true:=by
        have:=af9.1 aeY e (agq S);unfold uw at this;simp only[age]at this;exact this.1.1
       exact⟨u,by rw[B];exact n1,n2.V2 (Qw J p (agq hp)) hA⟩) n.drawn
      obtain⟨_,_,m3⟩:=q1.eC;obtain⟨cap,c1,c2⟩:=m3 _ f a FE yxb rfl (by show 0+(K+1)<=d.length;omega);refine⟨v,Z.set V f,rfl,?_,HH,SS,λR=>by omega⟩;refine .an v V (g+1) 0 (K+1) {o with es:=d,ep:=g+1} f ⟨_,_,_,c1⟩ (agc cK) (agc (by rw[H.len];exact cK)) (by show o.mu≠.x;rw[t];simp) ⟨agb _,by show 0<o.bQ;omega⟩ (λ_ _=>⟨cap,?_,c2⟩);rw[c1,ah3,ah3]
   cases e
  cases e
 cases e
end ub
end Go.Pm
namespace Go.Pm
variable{fl:Bool}{es:List PV}{vs:List Value}{r:PV}{h':ab}
variable[iD:Inhabited Prop]
open Go.Proofs
attribute [local irreducible] aE az aO aL Ev ai ah ay bh
variable{w:World}{F:Nat->Prop}{Z:List (Nat×Nat)}{h:ab}
namespace Zero
set_option maxRecDepth 100000
set_option maxHeartbeats 4000000
theorem ZN(H:bp w F Z h)(N:L2 (aG w (Av F h Z) Z h) vs [.aa fl es])(O:eE 4 es)(hn:es.length<1000000000)
  (d:(es=[]/\r=.aa true []/\h'=h)\/(es≠[]/\r=.an h.length 0 0 es.length/\h'=h++[⟨.m,0,4,es⟩])):nC C0.P 2 w F Z h 163 vs r h':=by
 have G:=Tryz.func163;have J:=bG (T6.dA 109 _ rfl);exact zaa
end Zero
set_option maxRecDepth 100000
set_option maxHeartbeats 4000000
theorem Jl:ez C.P 163 (bW 4):=nI λH a b c=>λd=>Zero.ZN H a b c d
namespace Zero
theorem ZO(H:bp w F Z h)(N:L2 (aG w (Av F h Z) Z h) vs [.aa fl es])(O:eE 5 es)(hn:es.length<1000000000)
  (d:(es=[]/\r=.aa true []/\h'=h)\/(es≠[]/\r=.an h.length 0 0 es.length/\h'=h++[⟨.m,0,5,es⟩])):nC C0.P 2 w F Z h 283 vs r h':=by
 have G:=Tryz.func283;have J:=bG (T6.dA 182 _ rfl);exact zaa
end Zero
theorem Jm:ez C.P 283 (bW 5):=nI λH a b c=>λd=>Zero.ZO H a b c d
end Go.Pm
namespace Go.Pm
variable{f:FuncId}{args es:List PV}{l:List Tm}{V ep i len n sz:Nat}{t:Tm}{k:IntKind}{L:Al}{x:Operand}{u w:PV}{K:PV->Prop}
namespace aI
variable[iD:Inhabited Prop]
open Go.Proofs
set_option maxRecDepth 100000
abbrev PrL:=List PV->ab->Option (PV×ab)
def wv:List (FuncId×PrL):=[(98,sL),(162,jS),(163,bW 4),(283,bW 5)]
def zX(f:FuncId):Mode:=match wv.lookup f with |some g=>.de g |none=>lm f
noncomputable def C:cA:=⟨Go.Pm.C.P,zX⟩
noncomputable def T6:li C.P:=Go.Pm.T6
theorem zL{α:Type}{l:List (Nat×α)}{f:Nat}{g:α}(h:l.lookup f=some g):(f,g)∈l:=by
 induction l with
 |nil=>cases h
 |cons x l ih=>
  obtain⟨a,b⟩:=x;simp only[List.lookup]at h
  split at h
  ·rename_i he
   obtain rfl:=af7 h;rw[eq_of_beq he];simp
  exact aiC _ (ih h)
theorem jX(f:FuncId):(∃g,(f,g)∈wv/\zX f=.de g)\/zX f=lm f:=by
 unfold zX
 cases h:wv.lookup f with
 |none=>exact .inr rfl
 |some g=>exact .inl ⟨g,zL h,rfl⟩
theorem SM(x:FuncId×PrL)(h:x∈wv):lm x.1=.no:=by
 simp only[wv,agi,ag3,or_false]at h
 repeat' (first |(rcases h with rfl |h)|subst h |fail)
 all_goals rfl
theorem OJ(x:FuncId×PrL)(h:x∈wv):ez C.P x.1 x.2:=by
 simp only[wv,agi,ag3,or_false]at h
 repeat' (first |(rcases h with rfl |h)|subst h |fail)
 all_goals first |exact SN |exact ub.GL |exact Jl |exact Jm
theorem SO (x : FuncId × PrL) (h : x ∈ wv) : ∃ i, C.P.funcs[x.1]? = some i ∧ i.body.isSome = true ∧ (i.name == "runtime.NumGoroutine") = false := by
 simp only[wv,agi,ag3,or_false]at h
 repeat' (first |(rcases h with rfl |h)|subst h |fail)
 all_goals first
  |exact⟨_,Tryz.func98,by kernel_rfl,by kernel_rfl⟩
  |exact⟨_,Tryz.func162,by kernel_rfl,by kernel_rfl⟩
  |exact⟨_,Tryz.func163,by kernel_rfl,by kernel_rfl⟩
  |exact⟨_,Tryz.func283,by kernel_rfl,by kernel_rfl⟩
theorem YG:vC lm zX:=λf=>by
 rcases jX f with⟨g,h,_⟩|h;exact .inl (SM _ h);exact .inr h.symm
theorem _root_.Go.Pm.aT.nine{r:PV}(a:aT Go.Pm.C f args r):aT C f args r:=aT.up YG a
theorem _root_.Go.Pm.ay.nine{h:ab}{Q:PV->ab->Prop}(a:ay Go.Pm.C f args h Q):ay C f args h Q:=ay.up YG a
theorem jd:dn C where
 enters f hf bD:=by
  rcases jX f with⟨g,h,_⟩|h;exact SO _ h;exact xL.enters f (λX=>hf (h.trans X)) (λg X=>bD g (h.trans X))
 ri f g hh:=by
  rcases jX f with⟨V,_,h⟩|h
  cases h.symm.trans hh
  exact xL.ri f g (h.symm.trans hh)
 de f g hh:=by
  rcases jX f with⟨V,O,h⟩|h
  ·obtain rfl:=Mode.de.inj (h.symm.trans hh);exact OJ _ O
  exact xL.de f g (h.symm.trans hh)
 ext f g hh:=by
  rcases jX f with⟨V,_,h⟩|h
  cases h.symm.trans hh
  exact xL.ext f g (h.symm.trans hh)
theorem ku:ic C where
 mixed:=pS.mixed
 rU f fn c d hf hb:=by
  rcases jX f with⟨V,_,h⟩|h;rcases d with d |d <;>cases h.symm.trans d
  exact pS.rU f fn c (d.imp (λX=>h.symm.trans X) (λX=>h.symm.trans X)) hf hb
end aI
open Go.Proofs
set_option maxRecDepth 4000
def xc(p:Tm):List Tm->List Tm
 |[]=>[]
 |a::r=>if aZ a p=0 then xc a r else a::xc a r
def dd:List Tm->List Tm
 |[]=>[]
 |x::r=>x::xc x r
theorem LM(p:Tm):∀l:List Tm,(xc p l).length<=l.length
 |[]=>by simp[xc]
 |a::r=>by
  have:=LM a r;unfold xc
  split <;>simp <;>omega
theorem Jx:∀l:List Tm,(dd l).length<=l.length
 |[]=>by simp[dd]
 |a::r=>by have:=LM a r;simp[dd];omega
theorem iT(h:l[i]?=some t):(ae l)[i]?=some (.agg (Do t)):=by rw[dw,agt,h,<-au];rfl
theorem Ad:(ae l).set i (enc t)=ae (l.set i t):=by rw[dw,dw,List.map_set]
theorem xu{v:Type}{L A B:List v}{x:v}(e:L=A++x::B)(a:i=A.length):L[i]?=some x:=by subst e a;simp
theorem dI{v:Type}{l:List v}{x:v}(h:l[i]?=some x):l.set i x=l:=by
 obtain⟨O,rfl⟩:=ahY.1 h;exact List.set_getElem_self O
section
variable{C:cA}(T:li C.P){h:ab}
theorem vO{t el:TypeId}(g:T.kd t=some (.sl el))(S:T.ts el=some sz)(e:h[V]?=some ⟨.m,ep,sz,es⟩)(A:len<=es.length)(h0:0<n)(hn:n<len):
  cS C.P h t (.an V ep 0 len) (some (.int k n)) none none=some (.an V ep (0+n) (len - n)):=by
 have N:getM h V ep=some ⟨.m,ep,sz,es⟩:=bw e rfl yxb;simp only[cS,bG (T.dA _ _ g),T.eT _ _ S,N];rw[if_pos ⟨trivial,by show 0+len<=es.length;omega⟩];have W:beyond none none len (es.length - 0)=none:=rfl;simp only[beyond,dq];rw[if_pos yxa];simp only[ahV];rw[if_pos (by rfl),if_neg yxb,if_neg yxa,if_neg yxa]
theorem Gk{t el:TypeId}(g:T.kd t=some (.sl el))(S:T.ts el=some sz)(e:h[V]?=some ⟨.m,ep,sz,es⟩)(A:len<=es.length)(hn:n<=len):
  cS C.P h t (.an V ep 0 len) none (some (.int k n)) none=some (.an V ep 0 n):=by
 have N:getM h V ep=some ⟨.m,ep,sz,es⟩:=bw e rfl yxb;simp only[cS,bG (T.dA _ _ g),T.eT _ _ S,N];rw[if_pos ⟨trivial,by show 0+len<=es.length;omega⟩];simp only[beyond,dq];rw[if_neg yxa,if_pos yxa];simp
theorem Gl{t el:TypeId}{off:Nat}{z:PV}(g:T.kd t=some (.sl el))(S:T.ts el=some sz)(M:T.tz el=some z)(e:h[V]?=some ⟨.m,ep,sz,es⟩)(A:off+len<=es.length)(G:(cells z).length=sz)(f:(cells z).all bP=true):
  qA C.P 2 h t (.an V ep off len)=some (.b8 [],h.set V ⟨.m,ep,sz,es.take off++List.replicate len z++es.drop (off+len)⟩):=by
 have N:getM h V ep=some ⟨.m,ep,sz,es⟩:=bw e rfl yxb;simp only[qA,bG (T.dA _ _ g),T.eT _ _ S,T.pJ _ _ M,N];rw[if_pos ⟨by omega,trivial,trivial,A,G,f⟩]
theorem my.sl{t:TypeId}{z:Operand}{v:PV}(U:cW L x=some v)(A:cW L z=some u)(S:cS C.P h t v (some u) none none=some w)(a:Rn (K w)):my C (.slice t x (some z) none none) L h K:=
 .mk (λX W Y=>by simp only[ar,aD,ak U,ak A,ago,ah8,S]) a
theorem my.sh{t:TypeId}{B:Operand}{v:PV}(U:cW L x=some v)(A:cW L B=some u)(S:cS C.P h t v none (some u) none=some w)(a:Rn (K w)):my C (.slice t x none (some B) none) L h K:=
 .mk (λX W Y=>by simp only[ar,aD,ak U,ak A,ago,ah8,S]) a
theorem yP.clr{t:TypeId}{v:PV}{h':ab}{K:PV->ab->Prop}(U:cW L x=some v)(S:qA C.P 2 h t v=some (.b8 [],h'))(w:Rn (K (.b8 []) h')):yP C (.call ⟨.builtin .clear,#[x],#[t]⟩) L h K:=
 .mk (λX Y=>by simp only[ar,bA,agp,agF,ak U,S]) w
end
attribute [local irreducible] aE az aO aL Ev ai ah ay bh
theorem _root_.zao{P:Prop}(h:P:=by
 refine wA ?_;refine .p O ?_;refine wC (λG=>?_) λG=>?_
 all_goals exact⟨_,rfl,by simp[bo, *]⟩):P:=h
theorem Gm(a b:Tm)(j:aC a<1000000000)(W:aC b<1000000000):aT C 321 [enc a,enc b] (.bool (decide (aZ a b=0))):=by
 have O:=dT a b j W;rw[au,au]at O ⊢;refine aT.x T6 Tryz.func321 rfl ?_;exact zao
theorem Gj(H:ab):ay C 99 [.aa true [],.fn 321 []] H (λr h'=>r=.aa true []/\h'=H):=by
 refine ay.x T6 Tryz.func99 rfl ?_;refine wA ?_;exact⟨rfl,rfl⟩
theorem _root_.zad{P:Prop}(h:P:=by
 have yQ:List.take (0+(dd (x::l)).length) (ae (dd (x::l)++(i++[f]++[])))=ae (dd (x::l)):=by rw[dw,dw,agz,agN,List.take_left' yxb]
 have F9:List.drop (0+(dd (x::l)).length+(l.length+1 - (dd (x::l)).length)) (ae (dd (x::l)++(i++[f]++[])))=[]:=agU yxa;rw[yQ,F9,ahF]
 obtain⟨tl,Jy,cK,VC⟩:∃tl:List PV,tl=List.replicate (l.length+1 - (dd (x::l)).length) (.agg Nm)/\tl.length=l.length+1 - (dd (x::l)).length/\aw tl=true:=
  ⟨_,rfl,by simp,by rw[bz,af9];intro y hy;rw[ag8 hy];rfl⟩
 have e3:(h.set V ⟨.m,ep,4,ae (dd (x::l))++tl⟩)[V]?=some ⟨.m,ep,4,ae (dd (x::l))++tl⟩:=agc (ag D);rw[<-Jy,agC];refine wA ?_;refine .sh rfl rfl (Gk T6 rfl rfl e3 (by rw[agf,aj,cK];have:=Jx (x::l);simp at this;omega) yxa) ?_;refine wA ?_;exact⟨rfl,tl,VC,rfl⟩):P:=h
theorem Jw(x:Tm)(l:List Tm)(H:ab)(Z:HV H)(V ep:Nat)(D:H[V]?=some ⟨.m,ep,4,ae (x::l)⟩)(hn:l.length<100000000)(W:∀t∈x::l,aC t<1000000000):
  ay C 99 [.an V ep 0 (ae (x::l)).length,.fn 321 []] H
   (λr h'=>r=.an V ep 0 (dd (x::l)).length/\∃tl,aw tl=true/\h'=H.set V ⟨.m,ep,4,ae (dd (x::l))++tl⟩):=by
 have cL:(ae (x::l)).length=l.length+1:=by rw[aj];rfl
 refine ay.x T6 Tryz.func99 rfl ?_;refine wC (λG=>?_) λG=>?_
 ·obtain rfl:l=[]:=agm yxa;exact⟨rfl,[],rfl,by rw[agC];exact(dI D).symm⟩
 refine dU.zip T6 l (λp q L h=>h=H/\∃g Q,x::p=g++[Q]/\g++Q::xc Q q=dd (x::l)/\L=[(0,.an V ep 0 (ae (x::l)).length),(1,.fn 321 []),(5,.I ((p.length+1:Nat):Int))]) (.nx ⟨rfl,[],x,rfl,rfl,rfl⟩) ?_ ?_
 ·rintro p a q _ h Y e ⟨rfl,g,Q,K,J,rfl⟩;have eR:=lenE e;have oH:=congrArg List.length K;simp only[agf,agj,agH]at oH;have Jv:(ae (x::l))[0+(p.length+1)]?=some (.agg (Do a)):=iT (by rw[e,agz];simp)
  have nK:(ae (x::l))[0+(((p.length+1:Nat):Int) - 1).toNat]?=some (.agg (Do Q)):=iT (by
   rw[show(((p.length+1:Nat):Int) - 1).toNat=p.length by omega,e,<-agL,K,agz,af8 yxd,agl yxa];simp[show p.length - g.length=0 by omega])
  have F:=Gm a Q (W a yxf) (W Q (by rw[e,<-agL,K];simp));rw[au,au]at F;refine wA ?_;refine .p F ?_
  cases G:decide (aZ a Q=0)
  ·refine wA ?_;refine .nx ⟨rfl,g++[Q],a,by rw[<-agL,K],?_,rfl⟩;rw[<-J,xc,if_neg (by simpa using G)];simp
  ·refine wA ?_;rw[cL]at *;refine .sl rfl rfl (vO T6 rfl rfl D (by rw[aj];simp) yxa yxa) ?_;refine wA ?_
   refine dU.zip T6 q (λj z L h'=>∃R i f,aC f<1000000000/\R.length+i.length=p.length+1+j.length/\R++xc f z=dd (x::l)/\h'=h.set V ⟨.m,ep,4,ae (R++(i++[f]++z))⟩/\
    L=[(0,.an V ep 0 (l.length+1)),(1,.fn 321 []),(5,.I (R.length:Int)),(6,.an V ep (0+(p.length+1)) (l.length+1 - (p.length+1))),(7,.I ((j.length+1:Nat):Int))]) (.nx ⟨g++[Q],[],a,W a yxf,by simp only[agf,agj,agH];omega,?_,?_,rfl⟩) ?_ ?_
   rw[<-J,xc,if_pos (by simpa using G)];simp;rw[dI];rw[D,e,<-agL,K];simp
   ·rintro j b z _ _ Y2 N ⟨R,i,f,S,NM,P,rfl,rfl⟩;have X9:=lenE N;have n:(h.set V ⟨.m,ep,4,ae (R++(i++[f]++b::z))⟩)[V]?=some ⟨.m,ep,4,ae (R++(i++[f]++b::z))⟩:=agc (ag D);have u:HV (h.set V ⟨.m,ep,4,ae (R++(i++[f]++b::z))⟩):=Z.set V yxb yxb;have VA:(ae (R++(i++[f]++b::z))).length=l.length+1:=by rw[aj];simp;omega
    have ZT:(ae (R++(i++[f]++b::z)))[0+(p.length+1)+(j.length+1)]?=some (.agg (Do b)):=iT (xu (A:=R++i++[f]) (B:=z) yxb yxd);have VB:(ae (R++(i++[f]++b::z)))[0+(p.length+1)+(((j.length+1:Nat):Int) - 1).toNat]?=some (.agg (Do f)):=iT (xu (A:=R++i) (B:=b::z) yxb yxd);have d:=Gm b f (W b (by rw[e,N];simp)) S;rw[au,au]at d;obtain⟨m,X,v⟩:∃m X,i++[f]=m::X:=by cases i with |nil=>exact⟨_,_,rfl⟩|cons m M=>exact⟨m,M++[f],rfl⟩
    have w:=congrArg List.length v;simp only[agf,agj,agH]at w;have acC:(ae (R++(i++[f]++b::z)))[0+R.length]?=some (.agg (Do m)):=iT (xu (A:=R) (B:=X++b::z) (by rw[v];simp) yxa)
    have mS:(ae (R++(i++[f]++b::z))).set (0+R.length) (.agg (Do b))=ae ((R++[b])++(X++[b]++z)):=by
     rw[<-au,Ad,v,agz];simp
    clear F Jv nK;refine wA ?_;refine .p d ?_
    cases O:decide (aZ b f=0)
    ·refine wA ?_;rw[mS,ahF];refine .nx ⟨R++[b],X,b,W b (by rw[e,N];simp),by simp;omega,?_,rfl,rfl⟩;rw[<-P,xc,if_neg (by simpa using O)];simp
    ·refine wA ?_;refine .nx ⟨R,i++[f],b,W b (by rw[e,N];simp),by simp;omega,?_,by simp,rfl⟩;rw[<-P,xc,if_pos (by simpa using O)]
   ·rintro _ _ Y2 ⟨R,i,f,S,NM,P,rfl,rfl⟩;have n:(h.set V ⟨.m,ep,4,ae (R++(i++[f]++[]))⟩)[V]?=some ⟨.m,ep,4,ae (R++(i++[f]++[]))⟩:=agc (ag D);have u:HV (h.set V ⟨.m,ep,4,ae (R++(i++[f]++[]))⟩):=Z.set V yxb yxb;have VA:(ae (R++(i++[f]++[]))).length=l.length+1:=by rw[aj];simp;omega
    rw[xc,agC]at P;subst P;refine wA ?_;refine .sl rfl rfl (vO T6 rfl rfl n yxa ?_ yxa) ?_;simp[dd];refine wA ?_;refine .clr rfl (Gl T6 rfl rfl rfl n yxa rfl rfl) ?_;exact zad
 ·rintro _ h Y ⟨rfl,g,Q,K,J,rfl⟩;have U:ae (dd (x::l))=ae (x::l):=by rw[<-J,K,xc]
  refine wA ?_;exact⟨congrArg (PV.an V ep 0) (by rw[<-U,aj]),[],rfl,by rw[U,agC];exact(dI D).symm⟩
end Go.Pm
namespace Go.Pm
open Go.Proofs
set_option maxRecDepth 4000
theorem QQ:∀(l:List Tm) (p y:Tm),y∈p::xc p l↔y∈p::l
 |[],p,y=>by simp[xc]
 |a::r,p,y=>by
  have P:=QQ r a y;unfold xc
  split
  ·rename_i h
   obtain rfl:=dD h;rw[P];simp
  rw[agi,P,agi (b:=p)]
theorem LL:∀(l:List Tm) (p:Tm),((p::l).Pairwise λx y=>aZ x y<=0)->gY (p::xc p l)
 |[],p,_=>by simp[xc,gY]
 |a::r,p,h=>by
  have X:=agE.1 h;have P:=LL r a X.2;unfold xc
  split
  ·rename_i G
   obtain rfl:=dD G;exact P
  ·rename_i G
   have K:=X.1 a yxb;have n:=di p a;refine agE.2 ⟨λy F=>?_,P⟩;rcases agi.1 F with rfl |F;omega;exact fH (show aZ p a<0 by omega) ((agE.1 P).1 y F)
theorem QR(l:List Tm)(y:Tm):y∈dd l↔y∈l:=by
 cases l with
 |nil=>simp[dd]
 |cons x r=>exact QQ r x y
theorem QS{l:List Tm}(h:l.Pairwise λx y=>aZ x y<=0):gY (dd l):=by
 cases l with
 |nil=>simp[dd,gY]
 |cons x r=>exact LL r x h
theorem Vz(l:List (List Pw)):dd (fj (lz l))=NI l:=
 qO (QS (th _)) (QI l) (λy=>by rw[QR,Vr];exact(ga _).mem_iff)
theorem ah.ln{C:cA}{f:FuncId}{args:List PV}{H:ab}{P Q:PV->ab->Prop}(a:ay C f args H P)(A:∀r h',P r h'->h'.length=H.length)(q:∀r h',P r h'->Q r h')(d:C.mode f=.opened:=by rfl):ah C 2 f args H Q:=by
 refine ah.opened d (a.mono λr k z=>?_)
 split
 ·rw[agB (by rw[A r k z];exact agb _)];exact q r k z
 exact q r k z
theorem QT(a b:List (List Pw)):lz (a++b)=lz a++lz b:=by simp[lz]
attribute [local irreducible] aE az aO aL Ev ai ah ay bh
theorem Ju(H:ab)(V ep:Nat)(D:H[V]?=some ⟨.m,ep,4,ae []⟩):ay C 99 [.an V ep 0 0,.fn 321 []] H (λr h'=>r=.an V ep 0 0/\h'=H):=by
 refine ay.x T6 Tryz.func99 rfl ?_;refine wA ?_;exact⟨rfl,rfl⟩
theorem iF{h:ab}{V ep sz n:Nat}{es U tl:List PV}(e:h[V]?=some ⟨.m,ep,sz,es++tl⟩)(A:es.length=n)(J:aw es=true)(hn:aY es=U):∃b,rb h (bo [.an V ep 0 n])=some b/\b9 b=.aa false U:=by
 subst A hn;refine⟨.aa false es,?_,rfl⟩;have N:getM h V ep=some ⟨.m,ep,sz,es++tl⟩:=bw e rfl yxb;show rb h (.an V ep 0 es.length)=_;simp[rb,kZ,rf,N,J]
namespace aI
theorem QU(l:List (List Pw))(a:SmT l):aT C 311 [.aa false (jF l)] (.aa false (ae (NI l))):=by
 have cL:(jF l).length=l.length:=by simp
 have Fy:=a.2;have B:=EA (l:=l) λx U=>(a.1 x U).2
 have F:∀t∈lz l,aC t<1000000000:=λt Z=>by
  obtain⟨x,U,Z⟩:=ag6.1 Z;obtain⟨p,W,rfl⟩:=agv.1 Z;exact Nat.lt_trans ((a.1 x U).1 p W) yxe
 refine aT.x T6 Tryz.func311 rfl ?_;refine wA ?_;refine dU.zip T6 l (λp q L H=>∃v,L=[(3,v),(8,.aa false (jF l)),(9,.I l.length),(10,.I p.length)]/\HV H/\Out 4 H v (ae (lz p))) (.nx ⟨.aa true [],rfl,HV.nil,.inl ⟨rfl,rfl⟩⟩) ?_ ?_
 ·rintro p x q _ H Y e ⟨v,rfl,w,f⟩;have dm:=NH e;have eR:=lenE e;have U:=a.1 x yxf;have P:=jR x;have oT:=EA (l:=p) λy hy=>(a.1 y (by rw[e];simp[hy])).2
  refine wA ?_;refine dU.zip T6 x (λj q2 L H=>∃v,L=[(3,v),(8,.aa false (jF l)),(9,.I l.length),(10,.I p.length),(14,.aa false (cQ x)),(15,.I x.length),(16,.I j.length)]/\HV H/\Out 4 H v (ae (lz p++j.map (·.1)))) (.nx ⟨v,rfl,w,by simpa using f⟩) ?_ ?_
  ·rintro j ⟨u,n⟩ q2 _ A Y N ⟨K,rfl,D,M⟩;have nK:=Gh N;have NM:=lenE N;have i:(ae (lz p++j.map (·.1))).length+1<1000000000:=by rw[aj];simp;omega
   have NN:=M.cz [⟨.m,0,5,[.agg [.I u.k,.str u.s,.I u.o,.aa false (ae u.l),.I n]]⟩];have Ez:HV (A++[⟨.m,0,5,[.agg [.I u.k,.str u.s,.I u.o,.aa false (ae u.l),.I n]]⟩]):=D.cz (HV.one yxb);refine wH λv H J=>?_;refine .nx ⟨_,rfl,J.hv,?_⟩;have:=J.out;rw[Gi,dw]at this;rw[dw,agN,agN,agN];simpa using this
  ·rintro _ A Y ⟨K,rfl,D,M⟩;refine wA ?_;exact .nx ⟨K,rfl,D,by rw[QT];simpa[lz]using M⟩
 ·rintro _ H Y ⟨v,rfl,w,f⟩;rw[<-Vz];rcases f with⟨rfl,Q⟩|⟨V,g,rfl,b⟩
  ·have N:lz l=[]:=agm (by rw[<-aj,Q];rfl);rw[N];refine wA ?_;refine ah.de rfl rfl ?_;refine wA ?_;refine .ln (Gj H).nine (λr d z=>by rw[z.2]) (λr d z=>?_);obtain⟨rfl,rfl⟩:=z;refine wA ?_;exact⟨_,rfl,rfl⟩
  ·have h:=aj (lz l);refine wA ?_;refine ah.de rfl (by rw[h];exact oX b yxa F) ?_;have N:(H.set V ⟨.m,g,4,ae (fj (lz l))⟩)[V]?=some ⟨.m,g,4,ae (fj (lz l))⟩:=agc (ag b);have D:HV (H.set V ⟨.m,g,4,ae (fj (lz l))⟩):=w.set V yxb yxb;have i:=(ga (lz l)).length_eq;have il:∀t∈fj (lz l),aC t<1000000000:=λt Z=>F t ((ga _).mem_iff.1 Z)
   rw[h,<-i];rw[<-i]at h B;generalize fj (lz l)=S at *
   cases S with
   |nil=>
    refine wA ?_;refine .ln (Ju _ V g N).nine (λr d z=>by rw[z.2]) (λr d z=>?_);obtain⟨rfl,rfl⟩:=z;refine wA ?_;exact Ls.NO (.inl (.inr ⟨V,g,rfl,N⟩)) rfl (by simp[dd,ae])
   |cons x r=>
    have G:=(Jw x r _ D V g N (by simp at B;omega) il).nine;rw[aj]at G;refine wA ?_;refine .ln G (λr d z=>by obtain⟨_,_,_,rfl⟩:=z;simp) (λr d z=>?_);obtain⟨rfl,O,X,rfl⟩:=z;rw[ahF];have R:(H.set V ⟨.m,g,4,ae (dd (x::r))++O⟩)[V]?=some ⟨.m,g,4,ae (dd (x::r))++O⟩:=agc (ag b);refine wA ?_;exact iF R (by rw[aj]) yxb yxb
end aI
end Go.Pm
namespace Go.Pm
variable{n s:ByteArray}{a l r u:List Tm}{t x y:Tm}{B i:Nat}{o:Int}{w:World}{cs:List Value}
theorem C4(h:jE s=true):s.size<=24:=by
 rw[<-bsize];unfold jE ED at h
 cases e:s.toList with
 |nil=>simp
 |cons c l=>
  rw[e]at h;simp only[age,decide_eq_true_eq]at h;simp;omega
theorem ti{k n o l}(h:node (.mk k n o l)=0):jE n=true/\l.length<=8:=by
 simp only[node]at h
 split at h
 cases h
 ·split at h
  ·cases h
  ·rename_i z
   split at h
   cases h
   exact⟨by simpa using z,by omega⟩
theorem mg{k n o l}(h:nodes (.mk k n o l)=0):node (.mk k n o l)=0/\mr l=0:=by
 rw[nodes]at h
 split at h
 ·rename_i z;exact absurd h z
 exact⟨by omega,h⟩
theorem Jz(h:t∈l):size t<=eL l:=xk t h
theorem C5{f:Nat}:∀{l:List Tm},(∀t∈l,(aC t:Int)<=f * size t)->(bm l:Int)<=f * eL l
 |[],_=>by simp[bm,eL]
 |t::l,h=>by
  have O:=h t yxb;have X:=C5 (l:=l) λu y=>h u yxj
  simp only[bm,eL,Int.mul_add];omega
theorem Ah(t:Tm):nodes t=0->(aC t:Int)<=25 * size t:=by
 induction t using Tm.ind with
 |h k n o l P=>
  intro h
  obtain⟨O,X⟩:=mg h;have Q:=C4 (ti O).1;have G:=C5 (f:=25) λt Z=>by simpa using P t Z (qE X t Z)
  simp only[aC,size,Int.mul_add];omega
theorem bu(h:valid t=0):aC t<=10000:=by
 obtain⟨O,X,_⟩:=dS.1 h;have:=Ah t O;omega
theorem Ai{k n o l}(h:valid (.mk k n o l)=0):l.length<=8:=(ti (mg (dS.1 h).1).1).2
theorem iV{k n o l}(h:valid (.mk k n o l)=0)(Z:t∈l):valid t=0:=by
 rw[dS]at h ⊢;exact VQ.kids h t Z
theorem vR{B:Nat}{x:Tm}:∀{s:List cV},(∀b∈s,aC b.t<=B)->aC (mz s x)<=max B (aC x)
 |[],_=>by simp[mz];omega
 |b::s,h=>by
  unfold mz
  split
  have:=h b yxb;omega;exact vR λc G=>h c (by simp[G])
theorem EE{s:List cV}{B:Nat}:∀{l:List Tm},(∀t∈l,aC (cw s t)<=aC t * B)->bm (cR s l)<=bm l * B
 |[],_=>by simp[cR,bm]
 |t::l,h=>by
  have O:=h t yxb;have X:=EE (l:=l) λu y=>h u yxj
  simp only[cR,bm,ag0];omega
theorem QW{s:List cV}(H:1<=B)(S:∀b∈s,aC b.t<=B)(t:Tm):aC (cw s t)<=aC t * B:=by
 induction t using Tm.ind with
 |h k n o l P=>
  have K:=vS (.mk k n o l);have O:aC (.mk k n o l)<=aC (.mk k n o l) * B:=Nat.le_mul_of_pos_right _ H;have X:B<=aC (.mk k n o l) * B:=Nat.le_mul_of_pos_left _ K;unfold cw
  split
  ·have:=vR (x:=.mk k n o l) S;omega
  ·have Q:=EE P;simp only[aC,ag0]at O ⊢;have G:n.size<=n.size * B:=Nat.le_mul_of_pos_right _ H;omega
theorem gM(l:List Tm)(y:Tm):y∈nL l↔y∈l:=by rw[nL,EB];simp
theorem iH(l:List Tm):gY (nL l):=z7 (by simp[gY])
theorem EF(l:List Tm):dd (fj l)=nL l:=qO (QS (th _)) (iH l) (λy=>by rw[QR,gM];exact(ga _).mem_iff)
theorem QX(n:Int)(t y:Tm):y∈tY n t↔y∈pre t/\y.k=n:=by rw[tY,gM];simp
theorem jq(t y:Tm):y∈cC t↔y∈pre t/\y.k=1:=QX 1 t y
theorem dN:y∈cX l↔∃t∈l,y∈pre t:=by
 induction l with
 |nil=>simp[cX]
 |cons t l P=>simp[cX,P]
theorem qb(t:Tm):∀y∈pre t,aC y<=aC t:=by
 induction t using Tm.ind with
 |h k n o l P=>
  intro y F
  rw[pre,agi]at F;rcases F with rfl |F;exact agb _
  ·obtain⟨t,Z,F⟩:=dN.1 F;have O:=P t Z y F;have X:=cc Z;simp only[aC];omega
theorem xv:∀{l:List Tm},(∀t∈l,(pre t).length<=aC t)->(cX l).length<=bm l
 |[],_=>by simp[cX,bm]
 |t::l,h=>by
  have O:=h t yxb;have X:=xv (l:=l) λu y=>h u yxj
  simp only[cX,bm,agf];omega
theorem zj(t:Tm):(pre t).length<=aC t:=by
 induction t using Tm.ind with
 |h k n o l P=>
  have:=xv P;simp only[pre,aC,agj];omega
theorem nM(l:List Tm):(cX l).length<=bm l:=xv λt _=>zj t
theorem Aj(l:List Tm):(nL l).length<=l.length:=by have:=zY l [];simpa[nL]using this
theorem NQ(n:Int)(t:Tm):(tY n t).length<=aC t:=by
 have O:=Aj ((pre t).filter λu=>decide (u.k=n));have X:=ahf (λu=>decide (u.k=n)) (pre t);have Q:=zj t;unfold tY;omega
theorem iW(t:Tm):(cC t).length<=aC t:=NQ 1 t
theorem nN(h:y∈cC t):aC y<=aC t:=qb t y ((jq t y).1 h).1
theorem Ak{p:ByteArray->Bool}:∀{l:List Tm},(∀t∈l,every p t=(pre t).all λu=>decide (u.k≠3)||p u.s)->jH p l=(cX l).all λu=>decide (u.k≠3)||p u.s
 |[],_=>rfl
 |t::l,h=>by
  rw[jH,cX,ag9,h t yxb,Ak λu y=>h u yxj]
theorem xw{p:ByteArray->Bool}(t:Tm):every p t=(pre t).all λu=>decide (u.k≠3)||p u.s:=by
 induction t using Tm.ind with
 |h k n o l P=>
  rw[every,pre,ahh,Ak P]
  rfl
theorem lB(h:fJ t=0):valid t=0/\rC t=0/\yi t=true/\(cC t).any VF=false/\size t<=60:=by
 unfold fJ at h
 split at h
 ·rename_i z;exact absurd h z
 ·rename_i O
  split at h
  cases h
  ·rename_i X
   split at h
   cases h
   ·have Q:pA t=0:=by omega
    unfold pA at Q
    split at Q
    ·rename_i z;exact absurd Q z
    ·refine⟨by omega,Q,?_,?_,by omega⟩
     ·cases u:yi t with
      |true=>rfl
      |false=>exact absurd (.inl u) X
     ·cases u:(cC t).any VF with
      |false=>rfl
      |true=>exact absurd (.inr u) X
theorem yk:∀{l:List Tm},jA l=0->∀t∈l,fJ t=0
 |[],_,t,h=>by cases h
 |u::l,e,t,h=>by
  rw[jA]at e
  split at e
  ·rename_i z;exact absurd e z
  ·rcases agi.1 h with rfl |h
   ·omega
   ·exact yk e t h
theorem uG:∀{l:List cg} {p:Option (List Tm)} {b:List Tm},yj p b l=0->∀d∈l,d.kn.length<=40/\jA (d.kn++[d.tm])=0
 |[],_,_,_,d,h=>by cases h
 |u::l,p,b,e,d,h=>by
  rw[yj]at e
  split at e
  cases e
  ·split at e
   ·rename_i z;exact absurd e z
   ·split at e
    ·cases e
    ·split at e
     ·cases e
     ·rcases agi.1 h with rfl |h
      ·exact⟨by omega,by omega⟩
      ·exact uG e d h
theorem mZ{l:List cg}(h:gB l=0):l.length<=40/\∀d∈l,d.kn.length<=40/\∀t∈d.kn++[d.tm],fJ t=0:=by
 unfold gB at h
 split at h
 cases h
 exact⟨by omega,λd J=>⟨(uG h d J).1,yk (uG h d J).2⟩⟩
theorem sg{b:cV}(h:FB b=0):valid b.v=0/\b.v.k=1/\valid b.t=0/\aZ b.v b.t≠0/\rn b.v b.t=true:=by
 unfold FB at h
 split at h
 ·rename_i z;exact absurd h z
 ·split at h
  ·cases h
  ·rename_i X
   split at h
   ·rename_i z;exact absurd h z
   ·split at h
    ·cases h
    ·rename_i G
     exact⟨by omega,by omega,by omega,by omega,by simpa using G⟩
theorem Am:∀{s:List cV} {p:Option Tm},rp p s=0->(∀b∈s,FB b=0)/\(s.Pairwise λa b=>aZ a.v b.v<0)/\(∀q,p=some q->∀b∈s,aZ q b.v<0)
 |[],_,_=>⟨λ_ h=>(by cases h),.nil,λ_ _ _ h=>(by cases h)⟩
 |u::s,p,e=>by
  rw[rp]at e
  split at e
  ·rename_i z;exact absurd e z
  ·rename_i O
   split at e
   cases e
   ·rename_i X
    obtain⟨K,d,D⟩:=Am e;refine⟨λb W=>?_,agE.2 ⟨λb W=>D _ rfl b W,d⟩,?_⟩
    ·rcases agi.1 W with rfl |W
     ·omega
     ·exact K b W
    ·rintro q rfl b W;have Q:aZ q u.v<0:=by simpa[behind]using X
     rcases agi.1 W with rfl |W;exact Q;exact fH Q (D _ rfl b W)
theorem xy{s:List cV}(h:pB s=0):s.length<=200/\(∀b∈s,FB b=0)/\s.Pairwise λa b=>aZ a.v b.v<0:=by
 unfold pB at h
 split at h
 cases h
 ·obtain⟨K,d,_⟩:=Am h;exact⟨by omega,K,d⟩
def fY(t:Tm)(n:ByteArray):Bool:=decide (t.k=3)&&iP t.s n
def jh(t:Tm)(i:Nat):Tm:=t.l.getD i gZ
def mL(t:Tm):Bool:=every FC t
def nG:ByteArray:=⟨#[103]⟩
def Sc(s:List UInt8):Bool:=!s.isEmpty&&s.all λc=>AG c.toNat
def Oj(s:List UInt8):Bool:=(s.take 2==[101,35])&&Sc (s.drop 2)
def ET(t:Tm):Bool:=
 if t.k=3 then(iP t.s kV ||iP t.s xM)&&t.l.isEmpty
 else if t.k≠2 then false
 else if t.o=1\/t.o=5 then true
 else if t.o=4 then iP t.s nG ||Oj t.s.toList
 else if t.o=0\/t.o=2\/t.o=3 then Oj t.s.toList
 else false
def Dt(s:ByteArray):Bool:=iP s kT ||iP s kM ||iP s gK ||iP s LV ||iP s pf ||iP s yp
def AR(t:Tm):Bool:=decide (t.k=3)&&Dt t.s
def AS(t:Tm):Int:=if pA t≠0 then pA t else if fY t kM=true then 0 else if fY t gK=false then 10 else if fY (jh t 1) LV=false then 4 else 0
def we(t:Tm):Tm:=if AS t≠0 then gZ else if fY t kM=true then jh t 1 else jh (jh t 1) 0
def sG(t:Tm):List Tm:=if fY t kT=true then t.l else if fY t pf=true then t.l.take 1 else[]
inductive Cg(u s:List Tm):Tm->Prop
 |base {t:Tm}:t∈s->Cg u s t
 |pub {t:Tm}:t∈u->ET t=true->Cg u s t
 |comp {t:Tm}:t∈u->AR t=true->(∀x∈t.l,Cg u s x)->Cg u s t
 |part {t x:Tm}:Cg u s t->x∈sG t->Cg u s x
 |open {t:Tm}:Cg u s t->AS t=0->Cg u s (we t)->Cg u s (jh t 0)
def AO(s:List Tm)(u:Tm):Bool:=AR u&&u.l.all (cG s)
def yB(s:List Tm)(u t:Tm):Bool:=
 if fY t kT=true then decide (aZ (jh t 0) u=0)||decide (aZ (jh t 1) u=0)
 else if fY t pf=true then decide (aZ (jh t 0) u=0)
 else if fY t kM ||fY t gK then decide (AS t=0)&&decide (aZ (jh t 0) u=0)&&cG s (we t)
 else false
def yz(s:List Tm)(u:Tm):Bool:=s.any (yB s u)
def qm(s:List Tm)(u:Tm):Bool:=cG s u ||ET u ||AO s u ||yz s u
open Classical in
noncomputable def Cx(u s:List Tm):List Tm:=u.filter λt=>decide (Cg u s t)
structure Sk(u:List Tm):Prop where
 Mt:gY u
 kids:∀t∈u,∀x∈t.l,x∈u
 ok:∀t∈u,pA t=0
 fr:∀t∈u,mL t=true
theorem Sq(h:iP s n=true):s=n:=My (by simpa[iP]using h)
theorem Si(h:fY t n=true):t.k=3/\t.s=n:=by
 simp only[fY,age,decide_eq_true_eq]at h;exact⟨h.1,Sq h.2⟩
theorem jW:∀{l:List Tm},wg l=0->∀t∈l,rC t=0
 |[],_,t,h=>by cases h
 |u::l,e,t,h=>by
  rw[wg]at e
  split at e
  ·rename_i z;exact absurd e z
  ·rcases agi.1 h with rfl |h
   ·omega
   ·exact jW e t h
theorem qj:pA t=0↔valid t=0/\rC t=0:=by
 unfold pA
 split
 ·constructor
  ·intro h;exact absurd h yxc
  ·intro h;exact absurd h.1 yxc
 ·constructor
  ·intro h;exact⟨by omega,h⟩
  ·exact λh=>h.2
theorem Mz(h:rC (.mk 3 s o l)=0):(dz s).k≠0/\(dz s).a<=l.length/\l.length<=(dz s).b/\ia s l=true/\wg l=0:=by
 rw[rC,if_neg yxb]at h
 split at h
 omega
 ·split at h
  ·omega
  ·split at h
   ·omega
   ·rename_i O X Q
    exact⟨O,by omega,by omega,by simpa using Q,h⟩
theorem zo(h:pA t=0)(U:x∈t.l):pA x=0:=by
 obtain⟨O,X⟩:=qj.1 h;obtain⟨k,s,o,l⟩:=t;simp only[Tm.l]at U;refine qj.2 ⟨iV O U,?_⟩
 by_cases g:k=3
 ·subst g;exact jW (Mz X).2.2.2.2 x U
 ·exfalso;have Q:=(mg (dS.1 O).1).1;unfold node at Q;have A:l≠[]:=by intro R;rw[R]at U;cases U
  have K:0<l.length:=ahD.2 A
  (repeat' split at Q) <;>simp_all
  all_goals omega
theorem iX(t:Tm):∀x∈pre t,∀y∈pre x,y∈pre t:=by
 induction t using Tm.ind with
 |h k s o l P=>
  intro x U y F
  rw[pre]at U ⊢;rcases agi.1 U with rfl |U;rw[pre]at F;exact F
  ·obtain⟨u,a,U⟩:=dN.1 U;exact aiC _ (dN.2 ⟨u,a,P u a x U y F⟩)
theorem tv(U:x∈t.l):x∈pre t:=by
 obtain⟨k,s,o,l⟩:=t;rw[pre];exact aiC _ (dN.2 ⟨x,U,fK x⟩)
theorem Wh(t:Tm):pA t=0->∀x∈pre t,pA x=0:=by
 induction t using Tm.ind with
 |h k s o l P=>
  intro h x U
  rw[pre]at U;rcases agi.1 U with rfl |U;exact h
  ·obtain⟨u,y,U⟩:=dN.1 U;exact P u y (zo h y) x U
theorem EL(h:mL t=true)(U:x∈pre t):mL x=true:=by
 unfold mL at h ⊢;rw[xw,af9]at h ⊢;exact λy F=>h y (iX t x U y F)
theorem V7(h:mL t=true)(g:t.k=3):FC t.s=true:=by
 unfold mL at h;rw[xw,af9]at h;have:=h t (fK t);simpa[g]using this
def fq(l:List Tm):List Tm:=nL (cX l)
theorem aaY(h:∀t∈l,pA t=0/\mL t=true):Sk (fq l):=by
 have d:∀y∈fq l,∃t∈l,y∈pre t:=λy F=>dN.1 ((gM _ _).1 F)
 refine⟨iH _,λt Z x U=>?_,λt Z=>?_,λt Z=>?_⟩
 ·obtain⟨a,j,W⟩:=d t Z;exact(gM _ _).2 (dN.2 ⟨a,j,iX a t W x (tv U)⟩)
 ·obtain⟨a,j,W⟩:=d t Z;exact Wh a (h a j).1 t W
 ·obtain⟨a,j,W⟩:=d t Z;exact EL (h a j).2 W
theorem Hh(h:pA t=0)(hn:fY t n=true):(dz n).a<=t.l.length/\t.l.length<=(dz n).b:=by
 obtain⟨O,X⟩:=Si hn;obtain⟨k,s,o,l⟩:=t;simp only[Tm.k,Tm.s]at O X;subst O X;obtain⟨_,Q,G,_⟩:=Mz (qj.1 h).2;exact⟨Q,G⟩
theorem qU(h:pA t=0)(hn:fY t n=true)(X:(dz n).a=2/\(dz n).b=2):∃a b,t.l=[a,b]:=by
 have O:=Hh h hn;rw[X.1,X.2]at O
 match A:t.l with
 |[a,b]=>exact⟨a,b,rfl⟩
 |[]=>rw[A]at O;simp at O
 |[_]=>rw[A]at O;simp at O
 |_::_::_::_=>rw[A]at O;simp at O;omega
theorem E4(h:pA t=0)(hn:fY t n=true)(X:(dz n).a=1/\(dz n).b=1):∃a,t.l=[a]:=by
 have O:=Hh h hn;rw[X.1,X.2]at O
 match A:t.l with
 |[a]=>exact⟨a,rfl⟩
 |[]=>rw[A]at O;simp at O
 |_::_::_=>rw[A]at O;simp at O;omega
theorem Ke:((dz kT).a=2/\(dz kT).b=2)/\((dz kM).a=2/\(dz kM).b=2)/\((dz gK).a=2/\(dz gK).b=2)/\((dz pf).a=2/\(dz pf).b=2)/\((dz LV).a=1/\(dz LV).b=1):=by
 refine⟨⟨?_,?_⟩,⟨?_,?_⟩,⟨?_,?_⟩,⟨?_,?_⟩,⟨?_,?_⟩⟩ <;>kernel_rfl
theorem wh:iP pf kT=false/\iP kM kT=false/\iP kM pf=false/\iP gK kT=false/\iP gK pf=false/\iP gK kM=false:=by
 refine⟨?_,?_,?_,?_,?_,?_⟩ <;>kernel_rfl
theorem E5{m:ByteArray}(h:fY t n=true)(hn:iP n m=false):fY t m=false:=by
 obtain⟨O,X⟩:=Si h;simp[fY,O,X,hn]
theorem xN(h:AS t=0):pA t=0/\((fY t kM=true/\we t=jh t 1)\/(fY t gK=true/\fY (jh t 1) LV=true/\we t=jh (jh t 1) 0)):=by
 have J:we t=if fY t kM=true then jh t 1 else jh (jh t 1) 0:=by rw[we,if_neg yxa]
 unfold AS at h
 split at h
 ·rename_i O;exact absurd h O
 ·rename_i O
  refine⟨by omega,?_⟩
  split at h
  ·rename_i X;rw[if_pos X]at J;exact .inl ⟨X,J⟩
  ·rename_i X
   rw[if_neg X]at J
   split at h
   omega
   ·split at h
    ·omega
    ·rename_i Q G;exact .inr ⟨by simpa using Q,by simpa using G,J⟩
theorem Sk.key(U:Sk u)(Z:t∈u)(h:AS t=0):we t∈u/\jh t 0∈u/\jh t 0∈t.l:=by
 obtain⟨O,X⟩:=xN h;rcases X with⟨X,Q⟩|⟨X,G,Q⟩
 ·obtain⟨a,b,e⟩:=qU O X Ke.2.1;rw[Q];simp only[jh,e];exact⟨U.kids t Z _ yxf,U.kids t Z _ yxf,by simp⟩
 ·obtain⟨a,b,e⟩:=qU O X Ke.2.2.1;rw[Q];have W:b∈u:=U.kids t Z _ yxf;have g:jh t 1=b:=by simp[jh,e]
  rw[g]at G ⊢;obtain⟨c,N⟩:=E4 (U.ok b W) G Ke.2.2.2.2;refine⟨?_,?_,?_⟩;simp only[jh,N];exact U.kids b W _ (by rw[N];simp);simp only[jh,e];exact U.kids t Z _ yxf;simp[jh,e]
theorem OA(h:x∈sG t):x∈t.l:=by
 unfold sG at h
 split at h
 exact h
 ·split at h
  ·exact ahi h
  ·cases h
theorem Cg.step{s:List Tm}(U:Sk u)(z:∀x∈r,x∈u/\Cg u s x)(Z:t∈u)(h:qm r t=true):Cg u s t:=by
 simp only[qm,agJ]at h;rcases h with((h |h)|h)|h;exact(z t (eH.1 h)).2;exact .pub Z h
 ·simp only[AO,age,af9]at h;exact .comp Z h.1 λx f=>(z x (eH.1 (h.2 x f))).2
 ·simp only[yz,ahy]at h;obtain⟨y,F,h⟩:=h;obtain⟨d,H⟩:=z y F;have D:=U.ok y d;unfold yB at h
  split at h
  ·rename_i O
   obtain⟨a,b,e⟩:=qU D O Ke.1;have K:sG y=[a,b]:=by rw[sG,if_pos O,e]
   simp only[jh,e,agJ,decide_eq_true_eq]at h;rcases h with h |h;have:=dD h;simp at this;subst this;exact .part H (by rw[K];simp);have:=dD h;simp at this;subst this;exact .part H (by rw[K];simp)
  ·split at h
   ·rename_i B O
    obtain⟨a,b,e⟩:=qU D O Ke.2.2.2.1;have K:sG y=[a]:=by rw[sG,if_neg B,if_pos O,e];rfl
    simp only[jh,e,decide_eq_true_eq]at h;have:=dD h;simp at this;subst this;exact .part H (by rw[K];simp)
   ·split at h
    ·simp only[age,decide_eq_true_eq]at h;obtain⟨⟨O,X⟩,Q⟩:=h;rw[<-dD X];exact .open H O (z _ (eH.1 Q)).2
    ·cases h
theorem Cg.fix{s:List Tm}(U:Sk u)(S:∀x∈s,x∈r)(z:∀x∈r,x∈u)(f:∀t∈u,qm r t=true->t∈r)(h:Cg u s t):t∈r:=by
 induction h with
 |base h=>exact S _ h
 |pub O X=>exact f _ O (by simp[qm,X])
 |comp O X _ P=>exact f _ O (by simp only[qm,AO,X,ahA,agJ,af9];exact .inl (.inr λx d=>eH.2 (P x d)))
 | @part t x _ d P=>
  have j:=z _ P;have D:=U.ok _ j;refine f x (U.kids _ j _ (OA d)) ?_;simp only[qm,agJ];refine .inr ?_;simp only[yz,ahy];refine⟨t,P,?_⟩;unfold sG at d;unfold yB
  split at d
  ·rename_i O
   obtain⟨a,b,e⟩:=qU D O Ke.1;rw[if_pos O];rw[e]at d;simp only[jh,e,agJ,decide_eq_true_eq];simp at d;rcases d with rfl |rfl;exact .inl (by simp[cP]);exact .inr (by simp[cP])
  ·split at d
   ·rename_i B O
    obtain⟨a,b,e⟩:=qU D O Ke.2.2.2.1;rw[if_neg B,if_pos O];rw[e]at d;simp at d;subst d;simp[jh,e,cP]
   ·cases d
 | @«open»t _ g _ F i=>
  have j:=z _ F;obtain⟨q,n,v⟩:=U.key j g;refine f _ n ?_;simp only[qm,agJ];refine .inr ?_;simp only[yz,ahy];refine⟨t,F,?_⟩;unfold yB;have R:=eH.2 i;rcases(xN g).2 with⟨X,_⟩|⟨X,_,_⟩
  ·rw[if_neg (by simp[E5 X wh.2.1]),if_neg (by simp[E5 X wh.2.2.1]),X];simp[g,R,cP]
  ·rw[if_neg (by simp[E5 X wh.2.2.2.1]),if_neg (by simp[E5 X wh.2.2.2.2.1]),X];simp[g,R,cP]
theorem gN{p:Tm->Bool}(h:gY l):gY (l.filter p):=List.Pairwise.filter p h
theorem V'{s:List Tm}(U:Sk u)(z:gY r)(h1:∀t∈r,t∈u/\Cg u s t)(X:∀t∈u,Cg u s t->t∈r):r=Cx u s:=by
 refine qO z (gN U.Mt) λy=>?_;simp only[Cx,aha,decide_eq_true_eq];exact⟨h1 y,λh=>X y h.1 h.2⟩
theorem Wa{s:List Tm}:t∈Cx u s↔t∈u/\Cg u s t:=by simp[Cx]
def yV(t:Tm):Int:=if pA t≠0 then pA t else if cC t≠[]then 13 else 0
def oc:List Tm->Int
 |[]=>0
 |t::l=>if yV t≠0 then yV t else oc l
def uK(k:List Tm)(t:Tm):Int:=if 60<k.length then 3 else if oc (k++[t])≠0 then oc (k++[t])else if 200<(fq (k++[t])).length then 3 else 0
open Classical in
noncomputable def JR(k:List Tm)(t:Tm):Bool:=decide (uK k t=0)&&cG (Cx (fq (k++[t])) (nL k)) t
theorem AP:∀{l:List Tm},oc l=0->∀t∈l,yV t=0
 |[],_,t,h=>by cases h
 |u::l,e,t,h=>by
  rw[oc]at e
  split at e
  ·rename_i z;exact absurd e z
  ·rcases agi.1 h with rfl |h
   ·omega
   ·exact AP e t h
theorem Ov(h:yV t=0):pA t=0/\cC t=[]:=by
 unfold yV at h
 split at h
 ·rename_i O;exact absurd h O
 ·split at h
  ·omega
  ·rename_i O X;exact⟨by omega,by simpa using X⟩
def bN(l:List cg):List Tm:=(fq (l.flatMap λd=>d.kn++[d.tm])).filter λt=>decide (t.k=1)
theorem Gx(l:List cg):nL ((l.flatMap λd=>d.kn++[d.tm]).flatMap cC)=bN l:=by
 refine qO (iH _) (gN (iH _)) λy=>?_;simp only[gM,bN,fq,aha,dN,decide_eq_true_eq,ag6]
 constructor
 ·rintro⟨t,Z,F⟩;obtain⟨O,X⟩:=(jq t y).1 F;exact⟨⟨t,Z,O⟩,X⟩
 ·rintro⟨⟨t,Z,O⟩,X⟩;exact⟨t,Z,(jq t y).2 ⟨O,X⟩⟩
theorem EJ{k s o l}:mL (.mk k s o l)=true↔(k=3->FC s=true)/\∀t∈l,mL t=true:=by
 have h:∀l:List Tm,jH FC l=true↔∀t∈l,every FC t=true:=by
  intro l
  induction l with
  |nil=>simp[jH]
  |cons t l P=>simp[jH,P]
 unfold mL;rw[every,age,h];simp only[agJ,decide_eq_true_eq]
 constructor
 ·rintro⟨O,X⟩;exact⟨λg=>O.resolve_left (by simpa using g),X⟩
 ·rintro⟨O,X⟩;exact⟨by by_cases g:k=3;exact .inr (O g);exact .inl g,X⟩
theorem Hb:∀{S:List cV} {x:Tm},mL x=true->(∀b∈S,mL b.t=true)->mL (mz S x)=true
 |[],x,U,_=>U
 |b::S,x,U,h=>by
  rw[mz]
  split
  exact h b yxb;exact Hb U λc G=>h c (by simp[G])
theorem Mj{S:List cV}(j:∀b∈S,mL b.t=true)(t:Tm):mL t=true->mL (cw S t)=true:=by
 induction t using Tm.ind with
 |h k s o l P=>
  intro h
  rw[cw]
  split
  exact Hb h j
  ·rw[EJ]at h ⊢;refine⟨h.1,λt Z=>?_⟩;rw[eJ]at Z;obtain⟨u,y,rfl⟩:=agv.1 Z;exact P u y (h.2 u y)
def JB:Tm:=.mk 2 ⟨#[97]⟩ 1 []
def Yg:Tm:=.mk 2 ⟨#[98]⟩ 1 []
def lfN:Tm:=.mk 2 ⟨#[110,35,48]⟩ 2 []
def lfM:Tm:=.mk 2 ⟨#[109,35,49]⟩ 2 []
def lfK:Tm:=.mk 2 ⟨#[107,35,48]⟩ 3 []
def lfS:Tm:=.mk 3 Gq 0 [JB,Yg]
def lfP:Tm:=.mk 3 LV 0 [.mk 3 JH 0 [Yg]]
def lfH:Tm:=.mk 2 ⟨#[104,105]⟩ 5 []
def Rh:Tm:=.mk 3 LV 0 [.mk 3 JH 0 [JB]]
def yo:List Tm:=[lfN,lfM,lfK,lfS,lfP,JB,lfH]
def vrX:Tm:=.mk 1 ⟨#[120]⟩ 2 []
def vrY:Tm:=.mk 1 ⟨#[121]⟩ 0 []
def vrZ:Tm:=.mk 1 ⟨#[122]⟩ 3 []
def vrW:Tm:=.mk 1 ⟨#[119]⟩ 2 []
def uI:List Tm:=[vrX,vrY,vrZ,vrW]
def jf(b:List Nat)(i:Nat):Nat:=b.getD i 0
def Ri(b:List Nat)(l:List Tm)(a:Nat):Tm:=l.getD (jf b a / 2 % l.length) gZ
def jg(b:List Nat)(l:List Tm):Nat->Nat->Tm×Nat
 |0,i=>(Ri b l i,i+1)
 |f+1,i=>
  if jf b i % 2=0 then(Ri b l i,i+1)
  else if jf b i / 2 % 6=0 then(.mk 3 yp 0 [(jg b l f (i+1)).1],(jg b l f (i+1)).2)
  else if jf b i / 2 % 6<=2 then(.mk 3 kM 0 [(jg b l f (i+1)).1,(jg b l f (jg b l f (i+1)).2).1],(jg b l f (jg b l f (i+1)).2).2)
  else if jf b i / 2 % 6=3 then(.mk 3 gK 0 [(jg b l f (i+1)).1,Rh],(jg b l f (jg b l f (i+1)).2).2)
  else(.mk 3 kT 0 [(jg b l f (i+1)).1,(jg b l f (jg b l f (i+1)).2).1],(jg b l f (jg b l f (i+1)).2).2)
def okN(y:Tm):Bool:=(decide (y.k≠1)||cG uI y)&&decide (y.s.toList.head?≠some 113)&& (decide (y.k≠2)||decide (y.s.size<=3))
def VK(t:Tm):Bool:=(pre t).all okN
def C'(t:Tm):Bool:=mL t&&VK t
theorem aau{k:Int}(h:okN (.mk k s o l)=true)(A:∀t∈l,VK t=true):VK (.mk k s o l)=true:=by
 unfold VK;rw[pre,ahh,h,ahA,af9]
 intro y F
 obtain⟨t,Z,F⟩:=dN.1 F;exact af9.1 (A t Z) y F
theorem aav(h:VK t=true)(F:y∈pre t):VK y=true:=by
 unfold VK at *;rw[af9]at *;exact λz M=>h z (iX t y F z M)
theorem Yh(h:VK t=true)(F:y∈pre t):(y.k=1->y∈uI)/\y.s.toList.head?≠some 113:=by
 have:=af9.1 h y F;simp only[okN,age,agJ,decide_eq_true_eq]at this;exact⟨λg=>eH.1 (this.1.1.resolve_left (by simpa using g)),this.1.2⟩
theorem oY:C' t=true↔mL t=true/\VK t=true:=by simp[C']
def Yi(s:ByteArray):Bool:=FC s&&decide (s.toList.head?≠some 113)
def Cs(B:Nat)(l:List Tm):Prop:=∀t∈l,C' t=true/\aC t<=B
theorem Cs.cz{b:List Tm}(x:Cs B a)(y:Cs B b):Cs B (a++b):=λt Z=>(agh.1 Z).elim (x t) (y t)
theorem Cs.mono{b:Nat}(x:Cs B a)(h:B<=b):Cs b a:=λt Z=>⟨(x t Z).1,by have:=(x t Z).2;omega⟩
theorem Cs.getD{B i:Nat}{l:List Tm}(x:Cs B l)(h:i<l.length):C' (l.getD i gZ)=true/\aC (l.getD i gZ)<=B:=by
 rw[agA,agd h];exact x _ (agO h)
def aeK(B:Nat)(l:List Tm):Bool:=l.all λt=>C' t&&decide (aC t<=B)
theorem Aq(h:aeK B l=true):Cs B l:=λt Z=>by
 have:=af9.1 h t Z;simpa using this
theorem EI:Cs 20 yo:=Aq (by kernel_rfl)
theorem JI:Cs 20 uI:=Aq (by kernel_rfl)
theorem oZ:yo.length=7:=rfl
theorem vU:uI.length=4:=rfl
theorem aaw:C' Rh=true/\aC Rh<=20:=by
 have:=Aq (B:=20) (l:=[Rh]) (by kernel_rfl) Rh yxb;exact this
theorem acX:Yi yp=true/\Yi kM=true/\Yi gK=true/\Yi kT=true:=by
 refine⟨?_,?_,?_,?_⟩ <;>kernel_rfl
theorem aeL:yp.size=4/\kM.size=3/\gK.size=4/\kT.size=4:=by
 refine⟨?_,?_,?_,?_⟩ <;>kernel_rfl
theorem LW(h:Yi s=true)(A:∀t∈l,C' t=true):C' (.mk 3 s 0 l)=true:=by
 simp only[Yi,age]at h;refine oY.2 ⟨EJ.2 ⟨λ_=>h.1,λt Z=>(oY.1 (A t Z)).1⟩,aau ?_ λt Z=>(oY.1 (A t Z)).2⟩;simp only[okN,Tm.k,Tm.s,age,agJ];exact⟨⟨.inl rfl,h.2⟩,.inl rfl⟩
theorem VL{a:Tm}(h:Yi s=true)(j:C' a=true):C' (.mk 3 s 0 [a])=true:=LW h λt Z=>by simp at Z;rw[Z];exact j
theorem EK{a b:Tm}(h:Yi s=true)(j:C' a=true)(W:C' b=true):C' (.mk 3 s 0 [a,b])=true:=LW h λt Z=>by
 simp at Z;rcases Z with rfl |rfl;exact j;exact W
def Rj(B:Nat):Nat->Nat
 |0=>B
 |f+1=>2 * Rj B f+30
theorem LX(B:Nat):∀f,B<=Rj B f
 |0=>agb _
 |f+1=>by have:=LX B f;simp only[Rj];omega
theorem Ar{b:List Nat}{l:List Tm}{B:Nat}(h0:0<l.length)(h:Cs B l):∀f i,C' (jg b l f i).1=true/\aC (jg b l f i).1<=Rj B f/\i<(jg b l f i).2/\(jg b l f i).2+1<=i+2^ (f+1)
 |0,i=>by
  obtain⟨O,d⟩:=h.getD (aiB (jf b i / 2) h0);exact⟨O,d,by simp[jg],by simp[jg]⟩
 |f+1,i=>by
  obtain⟨O,d⟩:=h.getD (aiB (jf b i / 2) h0);have d:aC (Ri b l i)<=B:=d;obtain⟨a,S,j,N⟩:=Ar h0 h f (i+1);obtain⟨F,U,P,A⟩:=Ar h0 h f (jg b l f (i+1)).2;obtain⟨J,q⟩:=aaw;obtain⟨R,g,e,G⟩:=acX;obtain⟨v,u,w,z⟩:=aeL;have K:2^ (f+1+1)=2^ (f+1)+2^ (f+1):=by rw[Nat.pow_succ];omega
  have y:1<=2^ (f+1):=Nat.one_le_two_pow;have n:=LX B f;unfold jg;generalize jg b l f (jg b l f (i+1)).2=t at *;generalize jg b l f (i+1)=X at *;simp only[Rj]
  split
  exact⟨O,by simp only;omega,by simp,by simp only[K];omega⟩
  ·split
   ·exact⟨VL R a,by simp only[aC,bm];omega,by simp only;omega,by simp only;omega⟩
   ·split
    ·exact⟨EK g a F,by simp only[aC,bm];omega,by simp only;omega,by simp only;omega⟩
    ·split
     ·exact⟨EK e a J,by simp only[aC,bm];omega,by simp only;omega,by simp only;omega⟩
     ·exact⟨EK G a F,by simp only[aC,bm];omega,by simp only;omega,by simp only;omega⟩
def jU(x:List Nat):List Nat:=x++[0,0]
def PZ(b:List Nat)(a:List Tm)(n:Nat):List Tm:=(List.range n).map λk=>(jg b (yo++a) 2 (1+3 * k)).1
def tmX(b:List Nat):Tm:=if jf b 0 / 3 % 3=0 then uI.getD (jf b 1 % 4) gZ else(jg b (yo++uI) 2 7).1
structure UK where
 kn:List Tm
 bd:List Tm
 out:List cg
def xD(s:UK)(x:List Nat):UK:=
 ⟨s.kn++PZ (jU x) s.bd (jf (jU x) 0 % 3),s.bd++cC (tmX (jU x)),s.out++[⟨s.kn++PZ (jU x) s.bd (jf (jU x) 0 % 3),tmX (jU x)⟩]⟩
def dy(l:List (List Nat)):UK:=l.foldl xD ⟨[],[],[]⟩
def nQ(l:List (List Nat)):List cg:=(dy (l.take 5)).out
theorem yq(l:List (List Nat))(x:List Nat):dy (l++[x])=xD (dy l) x:=by simp[dy]
theorem Rk(b:List Nat)(a:List Tm)(n:Nat):PZ b a (n+1)=PZ b a n++[(jg b (yo++a) 2 (1+3 * n)).1]:=by simp[PZ,List.range_succ]
theorem zl(b:List Nat)(a:List Tm)(n:Nat):(PZ b a n).length=n:=by simp[PZ]
theorem Rl(b:List Nat):C' (tmX b)=true/\aC (tmX b)<=170:=by
 unfold tmX
 split
 ·obtain⟨O,X⟩:=JI.getD (i:=jf b 1 % 4) (by rw[vU];omega);exact⟨O,by omega⟩
 ·obtain⟨O,X,_⟩:=Ar (b:=b) (l:=yo++uI) (B:=20) (by simp[oZ];omega) (EI.cz JI) 2 7;exact⟨O,X⟩
theorem Rm(h:C' t=true/\aC t<=B):Cs B (cC t):=λy F=>by
 have K:=((jq t y).1 F).1;obtain⟨O,X⟩:=oY.1 h.1;exact⟨oY.2 ⟨EL O K,aav X K⟩,by have:=nN F;omega⟩
theorem aax{b:List Nat}(h:Cs 170 a)(n:Nat):Cs 770 (PZ b a n):=λt Z=>by
 obtain⟨k,_,rfl⟩:=agv.1 Z;obtain⟨O,X,_⟩:=Ar (b:=b) (l:=yo++a) (B:=170) (by simp[oZ];omega) ((EI.mono yxa).cz h) 2 (1+3 * k);exact⟨O,X⟩
structure aeM(n:Nat)(s:UK):Prop where
 kl:s.kn.length<=2 * n
 bl:s.bd.length<=170 * n
 ol:s.out.length=n
 kf:Cs 770 s.kn
 bf:Cs 170 s.bd
 of:∀d∈s.out,d.kn.length<=2 * n/\Cs 770 d.kn/\C' d.tm=true/\aC d.tm<=170
theorem qe(n:Nat):∀l:List (List Nat),l.length=n->aeM n (dy l):=by
 induction n with
 |zero=>
  intro l h
  obtain rfl:=agm h;exact⟨by simp[dy],by simp[dy],rfl,λ_ h=>(by cases h),λ_ h=>(by cases h),λ_ h=>(by cases h)⟩
 |succ n P=>
  intro l h
  obtain⟨p,x,rfl⟩:∃p x,l=p++[x]:=⟨l.dropLast,l.getLast (by intro R;rw[R]at h;cases h),(List.dropLast_concat_getLast _).symm⟩;have a:=P p (by simpa using h);rw[yq];have Z:=Rl (jU x);have g:=aax (b:=jU x) a.bf (jf (jU x) 0 % 3);have i:=iW (tmX (jU x));have e:jf (jU x) 0 % 3<=2:=by omega
  have f:=a.kl;have S:=a.bl;have O:=a.ol;refine⟨?_,?_,?_,a.kf.cz g,a.bf.cz (Rm Z),λd J=>?_⟩;simp only[xD,agf,zl];omega;simp only[xD,agf];omega;simp only[xD,agf,agj,agH];omega
  ·rcases agh.1 J with J |J
   ·obtain⟨U,z⟩:=a.of d J;exact⟨by omega,z⟩
   ·simp at J;subst J;exact⟨by simp only[agf,zl];omega,a.kf.cz g,Z⟩
theorem As(l:List (List Nat)):(nQ l).length<=5/\∀d∈nQ l,d.kn.length<=10/\Cs 770 d.kn/\C' d.tm=true/\aC d.tm<=170:=by
 have z:(l.take 5).length<=5:=by simp;omega
 have a:=qe _ (l.take 5) rfl;have O:=a.ol;unfold nQ;exact⟨by omega,λd J=>⟨by have:=(a.of d J).1;omega,(a.of d J).2⟩⟩
theorem JJ(l:List (List Nat)):(bN (nQ l)).length<=4/\∀y∈bN (nQ l),y∈uI:=by
 have a:∀y∈bN (nQ l),y∈uI:=λy F=>by
  simp only[bN,aha,decide_eq_true_eq]at F;obtain⟨F,g⟩:=F;obtain⟨t,Z,K⟩:=dN.1 ((gM _ _).1 F);obtain⟨d,J,Z⟩:=ag6.1 Z;obtain⟨_,O,X,_⟩:=(As l).2 d J
  have u:C' t=true:=by
   rcases agh.1 Z with h |h;exact(O t h).1;simp at h;rw[h];exact X
  exact(Yh (oY.1 u).2 K).1 g
 refine⟨?_,a⟩
 have q:bN (nQ l)=(nL uI).filter (λy=>cG (bN (nQ l)) y):=qO (gN (iH _)) (gN (iH _)) λy=>by
  constructor
  exact λh=>aha.2 ⟨(gM _ _).2 (a y h),eH.2 h⟩;exact λh=>eH.1 (aha.1 h).2
 have O:=ahf (λy=>cG (bN (nQ l)) y) (nL uI);have X:=Aj uI;rw[vU]at X;rw[q];omega
def gd(l:List Nat):List PV:=l.map λ(n:Nat)=>PV.int .u8 (n:Int)
def fA(l:List (List Nat)):List PV:=l.map λx=>.aa false (gd x)
def NZ(l:List Nat):Prop:=∀n∈l,n<=255
@[simp] theorem ss(l:List Nat):(gd l).length=l.length:=by simp[gd]
@[simp] theorem Db(l:List (List Nat)):(fA l).length=l.length:=by simp[fA]
@[simp] theorem ab3(l:List Nat):aw (gd l)=true:=by induction l with |nil=>rfl |cons x l P=>simpa[gd]using P
@[simp] theorem ab4(l:List Nat):aY (gd l)=gd l:=by induction l with |nil=>rfl |cons x l P=>simpa[gd]using P
@[simp] theorem aaA(l:List (List Nat)):aw (fA l)=true:=by induction l with |nil=>rfl |cons x l P=>simpa[fA]using P
@[simp] theorem aaB(l:List (List Nat)):aY (fA l)=fA l:=by induction l with |nil=>rfl |cons x l P=>simpa[fA]using P
theorem Rs(a b:List Nat):gd (a++b)=gd a++gd b:=by simp[gd]
theorem Gw{l p q:List (List Nat)}{x:List Nat}(e:l=p++x::q):(fA l)[p.length]?=some (.aa false (gd x)):=by rw[fA,e];simp
theorem su{l:List Nat}(h:i<l.length):(gd l)[i]?=some (.int .u8 (jf l i:Int)):=by
 simp[gd,jf,agA,h]
theorem EN{l:List Nat}(h:NZ l)(i:Nat):jf l i<=255:=by
 unfold jf;rw[agA]
 cases e:l[i]? with
 |none=>simp
 |some n=>exact h n (agq e)
theorem EO{l:List Nat}(h:¬i<l.length):jf l i=0:=by
 simp[jf,agA,agr (Nat.not_lt.1 h)]
theorem Az(h:i<l.length):(ae l)[i]?=some (enc (l.getD i gZ)):=by
 rw[dw];simp[agA,h]
open Go.Proofs Go.ChangeShapes Go.WideShapes
set_option maxRecDepth 100000
set_option maxHeartbeats 2000000
theorem YB{v:Type}:∀(l:List v),(l.map λ_=>1).sum=l.length
 |[]=>rfl
 |_::l=>by rw[agp,ahP,YB l,agj];omega
theorem Hm{v:Type}(f:v->Nat):∀{l:List v} {x:v},x∈l->f x<=(l.map f).sum
 |y::l,x,h=>by
  rw[agp,ahP];rcases agi.1 h with rfl |h;omega;have:=Hm f h;omega
theorem Ho{v:Type}(f:v->Nat)(u:∀x,1<=f x):∀(l:List v),l.length<=(l.map f).sum
 |[]=>by simp
 |y::l=>by have:=Ho f u l;have:=u y;rw[agp,ahP,agj];omega
instance:Inhabited {n:Nat // n<=255}:=⟨⟨0,by decide⟩⟩
instance:Inhabited {l:List Nat // NZ l}:=⟨⟨[],by intro x h;cases h⟩⟩
theorem ae9:C.P.cellsOf 5=1:=by kernel_rfl
theorem adB:C.P.cellsOf 45=1:=by kernel_rfl
open Go.Proofs.YtiipafafbpaaoaaGreatDoor in
theorem SC{H:Type}{i:TypeId×Value->H}{u:Nat->Bool}{a:Bool}{n:Nat}{x:DataW H×List MemPlace}(h:DataW.trod i C.P w 0 u a n 45 cs=some x):
  ∃(c:Value) (l:List Nat),cs=[c]/\cd w P6 c (.aa false (gd l))/\NZ l/\l.length+1<=Rows.uptoBulk x.1:=by
 obtain⟨c,l,G,O,X⟩:=AY (E:={n:Nat // n<=255}) (λe=>.int .u8 (e.1:Int)) (λ_=>1) (bG (T6.dA 45 _ rfl)) ae9 yxe (λ_=>rfl) (λn cs x U=>by
  obtain⟨k,rfl,rfl,b⟩:=DataW.trod_int (uv (T6.dA 5 _ rfl)) U
  have g:0<=k/\k<=255:=by
   simp only[Lit.wf,decide_eq_true_eq,age]at b;have O:IntKind.u8.min=0:=rfl;have X:IntKind.u8.max=255:=rfl;omega
  obtain⟨m,rfl⟩:=ah5 g.1;exact⟨⟨m,by omega⟩,rfl,λj M=>(by obtain rfl:j=0:=yxa;exact .int _ _),by simp[Rows.uptoBulk]⟩) h
 refine⟨c,l.map (·.1),G,by simpa[gd]using O,λx U=>?_,?_⟩;obtain⟨y,_,rfl⟩:=agv.1 U;exact y.2
 ·rw[YB]at X;simp only[agY];exact X
open Go.Proofs.YtiipafafbpaaoaaGreatDoor in
theorem Wt{H:Type}{i:TypeId×Value->H}{u:Nat->Bool}{a:Bool}{n:Nat}{x:DataW H×List MemPlace}(h:DataW.trod i C.P w 0 u a n 22 cs=some x):
  ∃(c:Value) (l:List (List Nat)),cs=[c]/\cd w P6 c (.aa false (fA l))/\(∀y∈l,NZ y/\y.length<Rows.uptoBulk x.1)/\l.length<Rows.uptoBulk x.1:=by
 obtain⟨c,l,G,b,X⟩:=AY (E:={l:List Nat // NZ l}) (λe=>.aa false (gd e.1)) (λe=>e.1.length+1) (bG (T6.dA 22 _ rfl)) adB yxe (λ_=>rfl) (λn cs x U=>by
  obtain⟨c,l,rfl,f,S,O⟩:=SC U;exact⟨⟨l,S⟩,rfl,λj d=>(by obtain rfl:j=0:=yxa;exact f),O⟩) h
 refine⟨c,l.map (·.1),G,by simpa[fA,aie,Function.comp_def]using b,λy F=>?_,?_⟩
 ·obtain⟨z,M,rfl⟩:=agv.1 F;have:=Hm (λe:{l:List Nat // NZ l}=>e.1.length+1) M;exact⟨z.2,by omega⟩
 ·have:=Ho (λe:{l:List Nat // NZ l}=>e.1.length+1) (λx=>by omega) l;simp only[agY];omega
open Go.Proofs.YtiipafafbpaaoaaGreatDoor in
theorem SE{H:Type}{i:TypeId×Value->H}{base:Nat}{u:Nat->Bool}{v:Value}{d:DataW H}{p:List MemPlace}(D:Value.okWide C.P w .any base 22 v)(h:DataW.Trod i C.P w 0 u true 22 v d p):
  ∃l:List (List Nat),cd w P6 v (.aa false (fA l))/\(∀y∈l,NZ y/\y.length<Rows.uptoBulk d)/\l.length<Rows.uptoBulk d:=by
 obtain⟨n,z⟩:=h;obtain⟨a,K,j,rfl⟩:=okWide_slice (bG (T6.dA 22 _ rfl)) D;obtain⟨c,l,G,O,X⟩:=Wt z;obtain rfl:Value.slice a K j=c:=by simpa[Value.cells]using G
 exact⟨l,O,X⟩
end Go.Pm
namespace Go.Pm
theorem Mg:∀{S:List cV} {x:Tm},(∃b∈S,b.v=x/\mz S x=b.t)\/((∀b∈S,b.v≠x)/\mz S x=x)
 |[],x=>.inr ⟨λb h=>(by cases h),rfl⟩
 |b::S,x=>by
  rw[mz]
  by_cases h:aZ b.v x=0
  ·rw[if_pos h];exact .inl ⟨b,by simp,dD h,rfl⟩
  ·rw[if_neg h];rcases Mg (S:=S) (x:=x)with⟨c,O,X,Q⟩|⟨O,X⟩;exact .inl ⟨c,by simp[O],X,Q⟩
   ·refine .inr ⟨λc G=>?_,X⟩;rcases agi.1 G with rfl |G
    ·rintro rfl;exact h (cP _)
    exact O c G
theorem js{l:List cg}{y:Tm}:y∈bN l↔∃d∈l,∃t∈d.kn++[d.tm],y∈cC t:=by
 rw[<-Gx,gM];simp only[ag6]
 constructor
 rintro⟨t,⟨d,J,Z⟩,F⟩;exact⟨d,J,t,Z,F⟩;rintro⟨d,J,t,Z,F⟩;exact⟨t,⟨d,J,Z⟩,F⟩
theorem Ry{t:Tm}(h:t.l=[]):∀z∈pre t,z=t:=by
 obtain⟨k,s,o,l⟩:=t;obtain rfl:l=[]:=h
 intro z M
 simpa[pre,cX]using M
open Go.Proofs
attribute [local irreducible] aE az aO aL Ev ai ah ay bh
set_option maxRecDepth 4000
set_option maxHeartbeats 4000000
theorem ah.lp0{f:FuncId}{sz:Nat}{args:List PV}{h:ab}{es:List PV}{Q:PV->ab->Prop}(d:C.mode f=.opened)(a:ay C f args h (λr k=>LP h (.aa true []) sz es r k))(q:∀r k,LP h (.aa true []) sz es r k->Q r k):ah C 2 f args h Q:=by
 refine ah.zi d rfl rfl rfl a ?_
 intro r k z
 refine⟨z.hv,λW=>q _ _ (z.take (agb _) ?_),λ_=>q _ _ z⟩;rcases z.out with⟨rfl,_⟩|⟨V,g,rfl,_⟩
 rfl
 exact W
theorem Ku(t:Tm)(n:Int)(H:ab)(w:HV H)(Z:aC t<1000000000):
  ay C 230 [.aa true [],Cj (t,n)] H (λr h'=>LP H (.aa true []) 5 (cQ [(t,n)]) r h'):=by
 have a:aT C 260 [.aa false [],enc t,.fn 261 []] (.b8 [.I 0,.bool false]):=U' [] t (by simp[U9]) ⟨by simp,by simp⟩ Z;have V:=p9 t Z;obtain⟨k,s,o,l⟩:=t;refine ay.gk Tryz.func230 rfl ?_;rw[qD];rw[bE]at a V;refine wB ?_;obtain⟨B,X⟩:∃x,x=H++[⟨.m,0,5,[.agg [.I k,.str s,.I o,.aa false (ae l),.I n]]⟩]:=⟨_,rfl⟩;have y:HV B:=by rw[X];exact w.cz (HV.one rfl)
 have F:B[H.length]?=some ⟨.m,0,5,[.agg [.I k,.str s,.I o,.aa false (ae l),.I n]]⟩:=by rw[X];simp
 have K:B.length=H.length+1:=by rw[X];simp
 have J:∀j,j<H.length->B[j]?=H[j]?:=λj M=>by rw[X,af8 M]
 refine ai.heap X.symm ?_;clear X
 skip
 refine R.call rfl rfl (ah.out rfl (Out.nil 5 B) rfl yxk (by simpa[aY,b9,bI]using a) rfl ?_);refine wB ?_;refine D.pR y.closed rfl rfl rfl rfl rfl rfl (by simpa[aY,b9,bI]using V) ?_;refine wB ?_;refine D.buildSlice T6 y.closed rfl rfl rfl rfl rfl yxe rfl rfl rfl rfl rfl ?_;refine D.call rfl rfl rfl (ah.de (rv:=.an B.length 0 0 1) (h':=B++[⟨.m,0,5,[.agg [.I k,.str s,.I o,.aa false (ae l),.I n]]⟩]) rfl rfl ?_);refine wB ?_;refine⟨.inr ⟨_,_,rfl,by simp[cQ,qD]⟩,y.cz (HV.one rfl),by simp only[agf];omega,λj M _=>?_,λj g n b=>?_⟩;rw[af8 yxa,J j M]
 cases b;exact .inr yxa
theorem HI(t:Tm)(S:gQ t=false)(n:Int)(H:ab)(w:HV H)(Z:aC t<1000000000):
  ay C 195 [.aa true [],enc t,.I n] H (λr h'=>∃rv,r=.b8 [rv,.bool true]/\LP H (.aa true []) 5 (cQ [(t,n)]) rv h'):=by
 have a:=λH w=>Ku t n H w Z
 obtain⟨k,s,o,l⟩:=t;have h:=A9 k s o l;rw[S]at h;refine ay.gk Tryz.func195 rfl ?_;rw[bE]at h ⊢;simp only[qD]at a;refine wB ?_;refine R.call rfl rfl (ah.pure rfl yxk (by simpa[aY,b9,bI]using h) ?_);refine wB ?_;refine R.call rfl rfl (ah.lp0 rfl (a _ (w.cz (HV.one rfl))) ?_)
 intro r b z
 have z:=(LP.start (X:=[⟨.m,0,4,[.agg (If k s o l)]⟩]) (Out.nil 5 H) w (HV.one rfl)).trans (X:=[]) (by simpa using z);refine wB ?_;exact⟨_,rfl,z⟩
theorem _root_.zbx{P:Prop}(h:P:=by
 refine wB ?_;refine R.Jj T6 rfl rfl z.out ?_;refine wE (λG=>?_) λG=>?_;exfalso;simp only[agj,agH]at Z;omega;exact J _ z):P:=h
theorem V9(t:Tm)(W:aC t<100000000)(S:gQ t=false)(d:valid t=0):aT C 155 [enc t] (.b8 [.aa false (cQ [(t,1)]),.I 0]):=by
 have O:=dZ t W;rw[d]at O;have h:=HI t S 1;have Z:=jR [(t,(1:Int))];obtain⟨k,s,o,l⟩:=t;refine aT.of (ay.gk Tryz.func155 rfl ?_);rw[bE]at O h ⊢;refine wB ?_;refine R.call rfl rfl (ah.pure rfl yxk (by simpa[aY,b9,bI]using O) ?_);refine wE (λG=>?_) λG=>?_;exact absurd rfl G;have e:=h [⟨.m,0,4,[.agg (If k s o l)]⟩] (HV.one rfl) yxa;refine R.call rfl rfl (ah.zi rfl rfl rfl rfl e ?_);rintro r w ⟨a,rfl,z⟩
 have J:∀K:ab,LP [⟨.m,0,4,[.agg (If k s o l)]⟩] (.aa true []) 5 (cQ [(.mk k s o l,1)]) a K->∃b,rb K (bo [a,.I 0])=some b/\b9 b=PV.b8 [PV.aa false (cQ [(.mk k s o l,1)]),PV.I 0]:=by
  intro K n
  obtain⟨b,D,N⟩:=n.out.kZ (zF _);refine⟨.b8 [b,.I 0],?_,?_⟩;simp only[bo,rb,iR,D];rfl;simp only[b9,aY,N,zG]
 refine⟨z.hv,λW=>?_,λW=>?_⟩
 ·have f:cY [(⟨.m,0,4,[.agg (If k s o l)]⟩:ax)].length a=true:=by
   simp only[eI,ahh,age]at W;exact W.1
  have z:=z.take (agb _) f;exact zbx
 ·exact zbx
end Go.Pm
