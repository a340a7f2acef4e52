/-
  Pm, a part. Conditions: none.
-/
import Derived.Test.YtimogkojklpdnaaGreatDoorPxAG
import Derived.Shelf.SlLaysF0
import Derived.Test.YtimogkojklpdnaaGreatDoorProg
import Derived.KernelRfl
import Derived.Shelf.SlSortCmp.NoneTotal
import Derived.Lib.Join
set_option linter.unusedVariables false
set_option linter.unusedSimpArgs false
set_option linter.unnecessarySimpa false
set_option linter.unusedSectionVars false
namespace Go.Pm
variable[iD:Inhabited Prop]
open Go.Proofs
set_option maxRecDepth 100000
set_option maxHeartbeats 4000000
mutual
theorem BB{f g:Nat->Bool}(Fo:∀i,f i=true->g i=true):∀p,br f p=true->br g p=true
 | .int ..,_ | .bool _,_ | .str _,_ | .c9,_ | .ay,_ | .eK,_ | .ab ..,_ | .cU _,_ | .undef,_ | .any,_=>rfl
 | .agg cs,h=>by simp only[br]at h ⊢;exact gF Fo cs h
 | .cT cs,h=>by simp only[br]at h ⊢;exact gF Fo cs h
 | .fn _ cs,h=>by simp only[br]at h ⊢;exact gF Fo cs h
 | .j4 _ _ cs,h=>by simp only[br]at h ⊢;exact gF Fo cs h
 | .an ..,h=>by simp only[br]at h ⊢;exact Fo _ h
 | .ptr ..,h=>by simp only[br]at h ⊢;exact Fo _ h
 | .fe _,h=>by simp only[br]at h ⊢;exact Fo _ h
theorem gF{f g:Nat->Bool}(Fo:∀i,f i=true->g i=true):∀cs,bM f cs=true->bM g cs=true
 |[],_=>rfl
 |c::r,h=>by
  simp only[bM,TK]at h ⊢;exact⟨BB Fo c h.1,gF Fo r h.2⟩
end
theorem jt{h h':aa}(hv:∀i,aI h i=true->aI h' i=true)(ho:∀o'∈h',o'.mu=.x\/bM (aI h') o'.es=true\/∃o∈h,o.es=o'.es/\(o.mu=.x->o'.mu=.x))(eJ:aL h=true):aL h'=true:=by
 unfold aL at eJ ⊢;rw[TH]at eJ ⊢
 intro o' h1
 rcases ho o' h1 with h2 |h2 |⟨o,h2,h3,h4⟩;simp[h2];rw[h2];simp
 ·have:=eJ o h2;simp only[Uo,decide_eq_true_eq]at this ⊢;rcases this with hh |hh;exact .inl (h4 hh);exact .inr (by rw[<-h3];exact gF hv _ hh)
theorem pN{h:aa}(eJ:aL h=true):aL (h.map bB)=true:=by
 refine jt (h:=h) (λi hi=>?_) (λo' h1=>?_) eJ
 ·unfold aI at hi ⊢;rw[TS]
  split at hi
  ·rename_i o ho
   rw[ho];simp only[TO,decide_eq_true_eq]at hi ⊢;exact λhh=>hi ((aO o).2.2.2.1.1 hh)
  cases hi
 ·obtain⟨o,h2,rfl⟩:=U1.1 h1;exact .inr (.inr ⟨o,h2,(aO o).2.2.1.symm,λhh=>(aO o).2.2.2.1.2 hh⟩)
theorem pO{h:aa}{n sz:Nat}{es:List PV}(hv:au es=true)(eJ:aL h=true):aL (h++[⟨.m,n,sz,es⟩])=true:=by
 refine jt (h:=h) (λi hi=>?_) (λo' h1=>?_) eJ
 ·unfold aI at hi ⊢
  split at hi
  ·rename_i o ho
   rw[TG (ae ho),ho];exact hi
  cases hi
 ·rcases TP.1 h1 with h1 |h1
  ·exact .inr (.inr ⟨o',h1,rfl,λhh=>hh⟩)
  ·obtain rfl:=Ua.1 h1;exact .inr (.inl (cf _ _ hv))
theorem ug{es:List PV}{Z e:PV}{i len:Nat}(hi:i<len)(hl:len<=es.length){kr cS ys:List PV}(h1:kr=es.take i++List.replicate (len+1 - i) Z)(h2:cS=kr.take i++[e]++kr.drop (i+1))(h3:ys=(es.drop i).take (len - i)):
  kr.length=len+1/\cS.length=len+1/\ys.length=len - i/\ys=(es.take len).drop i/\cS.take (i+1)++ys++cS.drop (i+1+(len - i))=(es.take len).take i++[e]++(es.take len).drop i:=by
 have a1:kr.length=len+1:=by rw[h1];simp;omega
 have a2:cS.length=len+1:=by rw[h2];simp;omega
 have a3:ys.length=len - i:=by rw[h3];simp;omega
 have a4:ys=(es.take len).drop i:=by rw[h3,List.drop_take]
 refine⟨a1,a2,a3,a4,?_⟩;rw[Uf (by omega),Uc,a4]
 congr 1
 rw[h2,Ul (by simp;omega),Ub (by simp;exact Nat.min_le_left _ _)]
 congr 1
 rw[h1,Ul (by simp;omega),UI,UI]
 congr 1;omega
theorem AM{h:aa}{o:aC}(hm:o.mu≠.x):getM (h++[o]) h.length o.ep=some o:=bo (by simp) rfl hm
theorem gf{h k:aa}{id ep:Nat}{o:aC}(hg:getM h id ep=some o):getM (h++k) id ep=some o:=by
 obtain⟨g1,g2,g3⟩:=getM_some hg;exact bo (by rw[TG (ae g1)];exact g1) g2 g3
theorem set_push{h:aa}{o o':aC}:(h++[o]).set h.length o'=h++[o']:=by
 rw[List.set_append_right _ _ (TI _)];simp
attribute [local irreducible] aA az aH aF Ev ag ai aD bw
namespace Zero
variable{w:World}{F:Nat->Prop}{Y:List (Nat×Nat)}
theorem rB{h:aa}{id ep len i:Nat}{o:aC}{bc:Nat×Nat}{fl:Bool}{e:PV}{vs:List Value}(H:aG w F Y h)(ha:L2 (ar w (Av F h Y) Y h) vs [.an id ep 0 len,.int .i64 (i:Int),.ab fl [e]])
  (hg:getM h id ep=some o) (hz:o.aP=5) (hle:len<=o.es.length) (j3:Y[id]?=some bc) (oB:bc.2<len+1) (hi:i<len) (hn:len<100000000) (eO:(o.es.take len).all (jB 5)=true) (he:jB 5 e=true) (eJ:aL h=true):
  jC C0.P 2 w F Y h 351 vs (.an h.length 0 0 (len+1)) (h++[⟨.m,0,5,(o.es.take len).take i++[e]++(o.es.take len).drop i⟩]):=by
 have hu:C0.P.underlying 175=some (.slice 187):=aY (T6.cI 175 _ rfl);have na:bI C0.P 187=some 5:=T6.dF 187 5 rfl;have ez:bI C0.P 187=some o.aP:=by rw[hz];exact na
 obtain⟨g1,g2,g3⟩:=getM_some hg;have cx:=ae g1;have hj:((i:Int)+1)=((i+1:Nat):Int):=by omega
 have Ln:((len:Int)+1 - (i:Int))=((len+1 - i:Nat):Int):=by omega
 have mz:i+(len+1 - i)=len+1:=by omega
 have ew:∀{w':World} {Y':List (Nat×Nat)},cP w h Y w' h Y'->Y'[id]?=some bc:=by
  intro w' Y' S
  obtain⟨o',bW,f1,f2,f3,f4,f5⟩:=S.refs id o bc g1 j3 g3;obtain rfl:=TF (g1.symm.trans f1);rw[f2,(f5 rfl).2.2]
 obtain⟨kr,zh⟩:∃kr,kr=o.es.take i++List.replicate (len+1 - i) (.agg [.int .i64 0,.str ByteArray.empty,.int .i64 0,.ab true [],.int .i64 0]:PV):=⟨_,rfl⟩;obtain⟨cS,ko⟩:∃cS,cS=kr.take i++[e]++kr.drop (i+1):=⟨_,rfl⟩;obtain⟨ys,ms⟩:∃ys,ys=(o.es.drop i).take (len - i):=⟨_,rfl⟩;obtain⟨l1,l2,l3,l4,l5⟩:=ug hi hle zh ko ms
 have vt:(cells e).length=5/\(cells e).all aZ=true/\aJ e=true:=by
  unfold jB at he;simp only[TK,decide_eq_true_eq]at he;exact⟨he.1.2,he.2,he.1.1⟩
 have yV:ys.all (jB 5)=true:=by
  rw[l4,TH]
  intro v hv
  exact TH.1 eO v (Ug hv)
 have Ge:au kr=true:=by
  rw[zh,bp,VO,<-bp]
  have:au (o.es.take i)=true:=by
   refine lK (sz:=5) ?_;rw[TH]
   intro v hv
   refine TH.1 eO v ?_;have:o.es.take i=(o.es.take len).take i:=by rw[UI];congr 1;omega
   rw[this]at hv;exact Un hv
  rw[this,VV,TH]
  intro v hv
  obtain rfl:=Va hv
  rfl
 have yy:au cS=true:=by
  rw[bp,TH]at Ge ⊢
  intro v hv
  rw[ko]at hv;rcases TP.1 hv with hv |hv
  ·rcases TP.1 hv with hv |hv
   ·exact Ge v (Un hv)
   ·obtain rfl:=Ua.1 hv;exact vt.2.2
  exact Ge v (Ug hv)
 have DM:aL (h++[⟨.m,0,5,cS⟩])=true:=pO yy eJ;have CG:∀es,getM (h++[⟨.m,0,5,es⟩]) h.length 0=some ⟨.m,0,5,es⟩:=λes=>AM (o:=⟨.m,0,5,es⟩) (by simp)
 have LY:∀es,getM (h++[⟨.m,0,5,es⟩]) id ep=some o:=λes=>gf hg
 have lE:∀es,aI (h++[⟨.m,0,5,es⟩]) id=true:=λes=>by unfold aI;rw[TG cx,g1];simpa using g3
 have DN:∀es,aI (h++[⟨.m,0,5,es⟩]) h.length=true:=λes=>by unfold aI;simp
 refine ga (P:=C0.P) (c:=DO) Tryz.func351 rC H ha (λa RR=>nP hg hz (by omega) hi hn rfl RR (λa1 w1 Y1 V1 R1 S1=>?_));refine wp_seq ?_;refine wp_seq ?_;apply bm K0 S0 (pre:=[_,_,_,_]) (post:=[_]) (R:=R1) (M:=λs'=>∃V',s'=⟨al ((28,.int .i64 ((len:Int)+1))::(29,.an id ep 0 len)::[(0,.an id ep 0 len),(1,.int .i64 (i:Int)),(2,.ab fl [e]),(7,.int .i64 1),(8,.int .i64 (len:Int))]) V',h⟩) (M2:=λs'=>∃V',s'=⟨al ((31,.bool true)::[(0,.an id ep 0 len),(1,.int .i64 (i:Int)),(2,.ab fl [e]),(7,.int .i64 1),(8,.int .i64 (len:Int))]) V',h⟩)
 rfl
 rfl
 ·refine wC ?_;exact⟨_,St.aB ⟨rfl,rfl,rfl,rfl,rfl,rfl,rfl,trivial⟩⟩
 ·rintro s1 a2 w2 Y2 ⟨V2,rfl⟩ R2 S2;refine⟨.int .i64 (bc.2:Int),h,nQ (t:=175) (x:=.tmp 29) R2.hr R2.er hu (cC (t:=29) rfl V2) hg (ew (S1.trans S2)) (by omega) _ rfl,?_⟩;show ag C0 _ _ ⟨bh (al _ V2) (some 30) (.int .i64 (bc.2:Int)),h⟩ _;rw[bd];refine wF λhc=>?_;exact⟨_,St.aB ⟨rfl,rfl,rfl,rfl,rfl,rfl,trivial⟩⟩
 rintro s3 a3 w3 Y3 ⟨V3,rfl⟩ R3 S3
 have Jn:a3.eval (.tmp 31)=.bool true:=by
  have:=R3.er.ev R3.hr.di (.tmp 31);rw[show ev (al ((31,PV.bool true)::[(0,.an id ep 0 len),(1,.int .i64 (i:Int)),(2,.ab fl [e]),(7,.int .i64 1),(8,.int .i64 (len:Int))]) V3) (.tmp 31)=.bool true from cC (t:=31) rfl V3]at this;exact this.dN
 refine wp_cond_true Jn ?_;refine wp_seq ?_;apply bm K0 S0 (pre:=[_,_,_,_,_,_,_,_]) (post:=[_]) (R:=R3) (M:=λs'=>∃V',s'=⟨al ((34,.an id ep 0 i)::(39,.int .i64 ((len:Int)+1 - (i:Int)))::[(0,.an id ep 0 len),(1,.int .i64 (i:Int)),(2,.ab fl [e]),(7,.int .i64 1),(8,.int .i64 (len:Int))]) V',h⟩) (M2:=λs'=>∃V',s'=⟨al ((9,.an h.length 0 0 (len+1))::[(0,.an id ep 0 len),(1,.int .i64 (i:Int)),(2,.ab fl [e]),(7,.int .i64 1),(8,.int .i64 (len:Int))]) V',h++[⟨.m,0,5,kr⟩]⟩)
 case ho=>rfl
 case hg=>rfl
 ·refine wC ?_;apply R.slice;exact rfl;exact rfl;exact rfl;exact rfl;exact oL hu ez hg (by omega) hle;refine wC ?_;exact⟨_,St.aB ⟨rfl,rfl,rfl,rfl,rfl,rfl,rfl,trivial⟩⟩
 ·rintro s1 a4 w4 Y4 ⟨V4,rfl⟩ R4 S4;have os:=pP (P:=C0.P) (st:=175) (xt:=3) (el:=187) (x:=.tmp 34) (y:=.tmp 39) (k:=.i64) (n:=len+1 - i) (len:=i) R4.hr R4.er hu (nb (T6.cI 3 _ rfl)) na (by decide) (T6.tT 187 _ rfl) (by decide) (T6.mC 187 (.agg [.int .i64 0,.str ByteArray.empty,.int .i64 0,.ab true [],.int .i64 0]) rfl) rfl rfl (cC (t:=34) rfl V4) (by rw[<-Ln];exact cC (t:=39) rfl V4) hg (ew ((S1.trans S3).trans S4)) (by omega) hz (by omega) (by omega);rw[mz,<-zh]at os;refine⟨.an h.length 0 0 (len+1),h++[⟨.m,0,5,kr⟩],os _ rfl,?_⟩;show ag C0 _ _ ⟨bh (al _ V4) (some 40) (.an h.length 0 0 (len+1)),_⟩ _;rw[bd];refine wC ?_;exact⟨_,St.aB ⟨rfl,rfl,rfl,rfl,rfl,rfl,trivial⟩⟩
 rintro s5 a5 w5 Y5 ⟨V5,rfl⟩ R5 S5;have DP:min ([e]:List PV).length (len+1 - i)=1:=by show min 1 _=1;omega
 have rD:min ys.length (len+1 - (i+1))=len - i:=by omega
 have LZ:ys.take (len - i)=ys:=Ub (by omega)
 have tF:(h++[⟨.m,0,5,kr⟩]:aa).set h.length {(⟨.m,0,5,kr⟩:aC)with es:=kr.take i++[e].take (min ([e]:List PV).length (len+1 - i))++kr.drop (i+min ([e]:List PV).length (len+1 - i))}=h++[⟨.m,0,5,cS⟩]:=by
  rw[DP,set_push,ko];rfl
 have OF:(h++[⟨.m,0,5,cS⟩]:aa).set h.length {(⟨.m,0,5,cS⟩:aC)with es:=cS.take (i+1)++ys.take (min ys.length (len+1 - (i+1)))++cS.drop (i+1+min ys.length (len+1 - (i+1)))}=h++[⟨.m,0,5,(o.es.take len).take i++[e]++(o.es.take len).drop i⟩]:=by
  rw[rD,set_push,LZ,l5]
 refine bG K0 bj S0 (M:=λex s'=>ex=.ret/\∃V',s'=⟨al [(6,.an h.length 0 0 (len+1))] V',h++[⟨.m,0,5,(o.es.take len).take i++[e]++(o.es.take len).drop i⟩]⟩) rfl ?_ R5 ?_
 ·refine wC ?_;apply R.slice;exact rfl;exact rfl;exact rfl;exact rfl;exact bV hu na (CG kr) (by omega) (by show len+1<=kr.length;omega);refine wC ?_;apply R.copy T6 (ys:=[e]) (o:=⟨.m,0,5,kr⟩) (sz:=5);exact rfl;exact rfl;exact rfl;exact rfl;exact rfl;exact CG kr;exact rfl;exact rfl;show i+(len+1 - i)<=kr.length;omega;simp[vt.1];simp only[DP,UX,Vh,U6,Vw,vt.1,vt.2.1];rfl;rw[tF];refine wC ?_;apply D.slice;exact DM;exact rfl;exact DN cS;exact rfl;exact rfl;exact rfl;exact rfl;exact rfl;exact rfl
  ·show bO C0.P _ 175 (.an h.length 0 0 (len+1)) (some (.int .i64 ((i:Int)+1))) none none=_;rw[hj];exact bV hu na (CG cS) (by omega) (by show len+1<=cS.length;omega)
  refine wC ?_;apply D.slice;exact DM;exact rfl;exact lE cS;exact rfl;exact rfl;exact rfl;exact rfl;exact rfl;exact rfl;exact bV hu ez (LY cS) hi hle;apply D.copy T6 (ys:=ys) (o:=⟨.m,0,5,cS⟩) (sz:=5);exact rfl;exact rfl;exact rfl;exact rfl;exact rfl
  ·simp only[bC,LY];rw[if_pos (by omega),ms]
  exact CG cS;exact rfl;exact rfl;show i+1+(len+1 - (i+1))<=cS.length;omega
  ·rw[TH]
   intro v hv
   have:=TH.1 yV v hv;unfold jB at this;simp only[TK]at this;exact this.1.2
  ·rw[rD,LZ,TH]
   intro v hv
   have:=TH.1 yV v hv;unfold jB at this;simp only[TK]at this ⊢;exact⟨this.1.2,this.2⟩
  refine bw.heap OF ?_;refine wC ?_;exact⟨rfl,_,St.aB ⟨rfl,trivial⟩⟩
 rintro ex s8 a8 w8 Y8 ⟨rfl,V8,rfl⟩ R8 S8;have SS:=(((S1.trans S3).trans S5).trans S8);refine⟨.inr rfl,_,Y8,R8,SS,[.an h.length 0 0 (len+1)],?_,λu Jo=>⟨Y8,Jo,R8.hr,SS⟩⟩;exact cX (L:=[(6,.an h.length 0 0 (len+1))]) rfl
 all_goals rfl
end Zero
end Go.Pm
namespace Go.Pm
variable[iD:Inhabited Prop]
open Go.Proofs
set_option maxRecDepth 100000
set_option maxHeartbeats 4000000
theorem oZ{f:Nat->Bool}:∀{a b:List PV},bM f a=true->bM f b=true->bM f (a++b)=true
 |[],_,_,hb=>hb
 |x::a,b,ha,hb=>by
  simp only[bM,TK,Uh]at ha ⊢;exact⟨ha.1,oZ ha.2 hb⟩
theorem Bb{e:PV}(h:aJ e=true):∀q∈cells e,aJ q=true:=by
 intro q hq
 cases e with
 |agg cs=>
  simp only[aJ]at h;rw[bp]at h;exact TH.1 h q hq
 |_=>simp only[cells,Ua]at hq;subst hq;exact h
theorem ar.AN{w:World}{A A':Nat->Prop}{Y Y':List (Nat×Nat)}{h h':aa}{v:Value}{p:PV}(hv:ar w A Y h v p)(hp:aJ p=true)(hA:∀b,A' b->A b):ar w A' Y' h' v p:=
 .val ((hv.yz hp).ia hA)
attribute [local irreducible] aA az aH aF Ev ag ai aD bw
namespace Zero
variable{w:World}{F:Nat->Prop}{Y:List (Nat×Nat)}
theorem iz{h:aa}{f:FuncId}{args:List PV}{r:PV}{h':aa}(hm:C0.mode f=.opened)(e:aD C0 f args h (λr' h2=>r'=r/\h2=h')){vs:List Value}(H:aG w F Y h)(ha:L2 (ar w (Av F h Y) Y h) vs args):jC C0.P 2 w F Y h f vs r h':=by
 unfold aD at e;obtain⟨r3,h3,⟨rfl,rfl⟩,n0,F0⟩:=e;exact S0 n0 _ (.inr hm) _ h _ _ (F0 n0 (TI _)) w F Y vs H ha
theorem gi{R R':Value->PV->Prop}{vs:List Value}{a b c a' b' c':PV}(h:L2 R vs [a,b,c])(ha:∀v,R v a->R' v a')(hb:∀v,R v b->R' v b')(hc:∀v,R v c->R' v c'):L2 R' vs [a',b',c']:=by
 refine⟨h.1,λj hj=>?_⟩;have h0:=h.2 0 (by simp);have h1:=h.2 1 (by simp);have h2:=h.2 2 (by simp)
 match j,hj with
 |0,_=>exact ha _ h0
 |1,_=>exact hb _ h1
 |2,_=>exact hc _ h2
 |j+3,hj=>simp at hj;omega
theorem zj:cW C0.P 351 mP:=by
 intro args h r h' e w F Y vs H ha
 unfold mP at e
 split at e
 ·rename_i i fl e1
  split at e
  ·rename_i hc
   obtain⟨rfl,he⟩:=hc;obtain⟨rfl,rfl⟩:=TL (TF e);exact iz (nB rfl) (o8 he) H ha
  cases e
 ·rename_i id ep len i fl e1
  split at e
  ·rename_i o hg
   split at e
   ·rename_i hc
    obtain⟨hm,hz,hle,Lt,hi,hn,he,eO,eJ⟩:=hc;obtain⟨rfl,rfl⟩:=TL (TF e);obtain⟨k,rfl⟩:=UU Lt;have hk:k<=len:=by omega
    rw[show Int.toNat (k:Int)=k from rfl];obtain⟨g1,g2,g3⟩:=getM_some hg;have cx:=ae g1;obtain⟨bc,j3⟩:=cm H.len g1;have qA:(o.es.take len).length=len:=by simp;omega
    by_cases Bk:k=len
    ·subst Bk
     have rF:(o.es.take k).take k++[e1]++(o.es.take k).drop k=o.es.take k++[e1]:=by
      rw[UI,Nat.min_self,Uf (by omega),Uc]
     rw[rF];exact iz (nB rfl) (o9 he hg hm hz hle hn) H ha
    ·have fv:k<len:=by omega
     by_cases gS:len+1<=bc.2
     ·-- there is room
      have OO:(cells (PV.agg [.any,.any,.any,.any,.any])).length=5:=rfl
      obtain⟨Hp,Sp⟩:=H.kq g1 j3 hm (o.es.take len++[.agg [.any,.any,.any,.any,.any]]) (ep+1) (by omega) (by simp;omega) (λi e he=>by
       rcases T8 i len with mV |mV
       ·left
        rw[TG (by omega),TX,if_pos mV]at he;exact he
       ·right
        rw[TQ (by omega)]at he;obtain rfl:=Ua.1 (TU he);refine⟨by rw[OO,hz],λp hp=>?_⟩;simp only[cells]at hp;simpa using hp)
      have rG:(h.set id {o with es:=o.es.take len++[.agg [.any,.any,.any,.any,.any]],ep:=ep+1})[id]?=some {o with es:=o.es.take len++[.agg [.any,.any,.any,.any,.any]],ep:=ep+1}:=TM cx
      have Js:aL (h.set id {o with es:=o.es.take len++[.agg [.any,.any,.any,.any,.any]],ep:=ep+1})=true:=by
       refine jt (h:=h) (λi hi=>?_) (λo' h1=>?_) eJ
       ·unfold aI at hi ⊢
        by_cases Gh:i=id
        ·subst Gh;rw[rG];simp[hm]
        rw[TN (Um Gh)];exact hi
       ·rcases U9 h1 with h1 |rfl
        ·exact .inr (.inr ⟨o',h1,rfl,λhh=>hh⟩)
        ·exact .inr (.inl (oZ (cf _ _ (lK eO)) rfl))
      have sS:L2 (ar w (Av F (h.set id {o with es:=o.es.take len++[.agg [.any,.any,.any,.any,.any]],ep:=ep+1}) Y) Y (h.set id {o with es:=o.es.take len++[.agg [.any,.any,.any,.any,.any]],ep:=ep+1})) vs [.an id (ep+1) 0 len,.int .i64 (k:Int),.ab fl [e1]]:=
       gi ha (λv hv=>ar.kq g1 j3 hm hv g2 hle _ _) (λv hv=>hv.mono Sp) (λv hv=>hv.mono Sp)
      have cs:=oY (o:={o with es:=o.es.take len++[.agg [.any,.any,.any,.any,.any]],ep:=ep+1}) (X:=.agg [.any,.any,.any,.any,.any]) (pre:=o.es.take len) Hp sS (bo rG rfl (by show o.mu≠.x;rw[hm];simp)) hm hz rfl qA fv hn eO rfl he Js;refine cs.mono ?_;rintro en w' ⟨v,Y1,rfl,q1,q2,q3,_⟩;rw[UM]at q1 q2 q3;exact⟨v,Y1,rfl,q1,q2,Sp.trans q3,λhh=>by omega⟩
     ·-- all is made anew
      obtain⟨p1,p2,p3,p4,p5,p6⟩:=aO o;have gl:getM (h.map bB) id ep=some (bB o):=bo (by rw[TS,g1];rfl) (by rw[p1];exact g2) (λhh=>g3 (p4.1 hh));have Gi:∀b,Av (Av F h Y) (h.map bB) Y b->Av F h Y b:=λb hb=>hb.elim (λhh=>hh) (λhm=>absurd hm (gj h Y b))
      have cs:=rB (o:=bB o) (bc:=bc) H.lock (gi ha (λv hv=>hv.alike (eH h) Gi) (λv hv=>hv.alike (eH h) Gi) (λv hv=>hv.alike (eH h) Gi)) gl (by rw[p2];exact hz) (by rw[p3];exact hle) j3 (by omega) fv hn (by rw[p3];exact eO) he (pN eJ);rw[p3,U2]at cs;refine cs.mono ?_;rintro en w' ⟨v,Y1,rfl,q1,q2,q3,_⟩;obtain⟨kO,zk⟩:∃kO,kO=(o.es.take len).take k++[e1]++(o.es.take len).drop k:=⟨_,rfl⟩;rw[<-zk]at q1 q2 q3 ⊢;have Ff:kO.length=len+1:=by rw[zk];simp;omega
      have Jt:kO.all (jB 5)=true:=by
       rw[TH]at eO ⊢
       intro x hx
       rw[zk]at hx;rcases TP.1 hx with hx |hx
       ·rcases TP.1 hx with hx |hx
        ·exact eO x (Un hx)
        ·obtain rfl:=Ua.1 hx;exact he
       exact eO x (Ug hx)
      have enew:(h.map bB++[(⟨.m,0,5,kO⟩:aC)])[h.length]?=some ⟨.m,0,5,kO⟩:=by
       rw[TQ (by simp)];simp
      obtain⟨bn,oq⟩:=cm q2.len enew;have mnew:Mb (h.map bB++[⟨.m,0,5,kO⟩]) Y1 bn.1:=⟨h.length,_,bn,enew,oq,rfl,rfl⟩;obtain⟨T,oC,k1,k2,k3,k4,k5⟩:=(q2.obj h.length _ bn enew oq (by simp)).c (by simp)
      have uU:w.heap.size<=bn.1:=by
       rcases T8 bn.1 w.heap.size with hh |hh;exact absurd (q3.shr bn.1 hh mnew) (gj h Y bn.1);exact hh
      have hA:∀b,Av F (h.set id {o with es:=kO,ep:=ep+1}) (Y.set id bn) b->Av (Av F h Y) (h.map bB++[⟨.m,0,5,kO⟩]) Y1 b:=by
       rintro b (hb |⟨cz,o',bW,By,Bz,Kx,L4⟩);exact .inl (.inl hb)
       ·by_cases bE:cz=id
        ·subst bE;rw[TM (by rw[H.len];exact cx)]at Bz;obtain rfl:=TF Bz;rw[<-L4];exact .inr mnew
        ·rw[TN (Um bE)]at By Bz;exact .inl (.inr ⟨cz,o',bW,By,Bz,Kx,L4⟩)
      obtain⟨HH,SS⟩:=H.DS (w':=w') g1 j3 hm T oC kO (ep+1) bn q3.size k1 (λb hb=>q3.aB b hb (gj h Y b)) uU (by omega) q3.os q3.tape q3.output k2 (by rw[hz];exact k3) (λi e L8=>by
       obtain⟨m1,m2⟩:=k5 i e L8;refine⟨by rw[hz];exact m1,λj p hp=>?_⟩;obtain⟨u,n1,n2⟩:=m2 j p hp
       have hv:aJ e=true:=by
        have:=TH.1 Jt e (TU L8);unfold jB at this;simp only[TK]at this;exact this.1.1
       exact⟨u,by rw[hz];exact n1,n2.AN (Bb hv p (TU hp)) hA⟩) q3.drawn
      obtain⟨_,_,m3⟩:=q1.cO;obtain⟨cap,c1,c2⟩:=m3 _ bn enew oq (by simp) rfl (by show 0+(len+1)<=kO.length;omega);refine⟨v,Y.set id bn,rfl,?_,HH,SS,λhh=>by omega⟩;refine .an v id (ep+1) 0 (len+1) {o with es:=kO,ep:=ep+1} bn ⟨_,_,_,c1⟩ (TM cx) (TM (by rw[H.len];exact cx)) (by show o.mu≠.x;rw[hm];simp) ⟨TI _,by show 0<o.aP;omega⟩ (λ_ _=>⟨cap,?_,c2⟩);rw[c1,UQ,UQ]
   cases e
  cases e
 cases e
end Zero
theorem zl:cW C.P 45 (bz 4):=by
 intro args h r h' e w F Y vs H ha
 unfold bz at e
 split at e
 ·rename_i fl es
  split at e
  ·rename_i rm
   obtain⟨rfl,rfl⟩:=TL (TF e);obtain rfl:es=[]:=by simpa using rm
   exact Zero.Az H ha rfl (by simp) (.inl ⟨rfl,rfl,rfl⟩)
  ·rename_i rm
   split at e
   ·rename_i hc
    obtain⟨rfl,rfl⟩:=TL (TF e);exact Zero.Az H ha hc.1 hc.2 (.inr ⟨by simpa using rm,rfl,rfl⟩)
   cases e
 cases e
theorem zm:cW C.P 397 (bz 1):=by
 intro args h r h' e w F Y vs H ha
 unfold bz at e
 split at e
 ·rename_i fl es
  split at e
  ·rename_i rm
   obtain⟨rfl,rfl⟩:=TL (TF e);obtain rfl:es=[]:=by simpa using rm
   exact Zero.AA H ha rfl (by simp) (.inl ⟨rfl,rfl,rfl⟩)
  ·rename_i rm
   split at e
   ·rename_i hc
    obtain⟨rfl,rfl⟩:=TL (TF e);exact Zero.AA H ha hc.1 hc.2 (.inr ⟨by simpa using rm,rfl,rfl⟩)
   cases e
 cases e
theorem rH:cj C where
 enters f hf aU:=BC f (λh=>hf h) aU
 kX f g hh:=by
  have hm:gA f=.kX g:=hh;unfold gA at hm
  repeat' split at hm
  all_goals cases hm
 cH f g hh:=by
  have hm:gA f=.cH g:=hh;unfold gA at hm
  split at hm
  cases hm
  split at hm
  cases hm
  split at hm
  ·rename_i hf
   subst hf;obtain rfl:=Mode.cH.inj hm;exact Zero.zj
  split at hm
  ·rename_i hf
   subst hf;obtain rfl:=Mode.cH.inj hm;exact Zero.yX
  split at hm
  ·rename_i hf
   subst hf;obtain rfl:=Mode.cH.inj hm;exact zl
  split at hm
  ·rename_i hf
   subst hf;obtain rfl:=Mode.cH.inj hm;exact zm
  repeat' split at hm
  all_goals cases hm
 ext:=Ju
end Go.Pm
namespace Go.Pm
open Go.Proofs Go.Shelf
def rL:Go.Shelf.Ren:=⟨λ|6=>161 |15=>208 |14=>207 |28=>266 |29=>267 |20=>258 |21=>259 |22=>260 |23=>261 |24=>262 |25=>263 |26=>264 |27=>265 |46=>313 |47=>314 |48=>315 |49=>316 |50=>317 |57=>355 |n=>n,λ|22=>31 |24=>33 |25=>75 |3=>3 |39=>190 |0=>0 |53=>223 |55=>202 |4=>4 |46=>217 |45=>216 |50=>164 |5=>5 |9=>9 |66=>246 |70=>154 |76=>285 |77=>286 |n=>n,λ|n=>n⟩
theorem Ma:Go.Proofs.SlLaysF0.n6 Tryz.prog rL:={
 mixed:=by kernel_rfl
 f6:=⟨Tryz.f161.name,by decide,Tryz.func161.trans (congrArg some (by kernel_rfl))⟩
 f14:=⟨Tryz.f207.name,by decide,Tryz.func207.trans (congrArg some (by kernel_rfl))⟩
 f15:=Tryz.func208.trans (congrArg some (by kernel_rfl))
 f20:=⟨Tryz.f258.name,by decide,Tryz.func258.trans (congrArg some (by kernel_rfl))⟩
 f21:=⟨Tryz.f259.name,by decide,Tryz.func259.trans (congrArg some (by kernel_rfl))⟩
 f22:=⟨Tryz.f260.name,by decide,Tryz.func260.trans (congrArg some (by kernel_rfl))⟩
 f23:=⟨Tryz.f261.name,by decide,Tryz.func261.trans (congrArg some (by kernel_rfl))⟩
 f24:=⟨Tryz.f262.name,by decide,Tryz.func262.trans (congrArg some (by kernel_rfl))⟩
 f25:=⟨Tryz.f263.name,by decide,Tryz.func263.trans (congrArg some (by kernel_rfl))⟩
 f26:=⟨Tryz.f264.name,by decide,Tryz.func264.trans (congrArg some (by kernel_rfl))⟩
 f27:=⟨Tryz.f265.name,by decide,Tryz.func265.trans (congrArg some (by kernel_rfl))⟩
 f28:=Tryz.func266.trans (congrArg some (by kernel_rfl))
 f29:=Tryz.func267.trans (congrArg some (by kernel_rfl))
 f46:=⟨Tryz.f313.name,by decide,Tryz.func313.trans (congrArg some (by kernel_rfl))⟩
 f47:=Tryz.func314.trans (congrArg some (by kernel_rfl))
 f48:=Tryz.func315.trans (congrArg some (by kernel_rfl))
 f49:=⟨Tryz.f316.name,by decide,Tryz.func316.trans (congrArg some (by kernel_rfl))⟩
 f50:=⟨Tryz.f317.name,by decide,Tryz.func317.trans (congrArg some (by kernel_rfl))⟩
 f57:=⟨Tryz.f355.name,by decide,Tryz.func355.trans (congrArg some (by kernel_rfl))⟩
 t0:=Tryz.underlying0
 a0:=Tryz.isAgg0
 z0:=Tryz.sizeOf0
 v0:=Tryz.zeroValue0
 t3:=Tryz.underlying3
 a3:=Tryz.isAgg3
 z3:=Tryz.sizeOf3
 v3:=Tryz.zeroValue3
 t4:=Tryz.underlying4
 a4:=Tryz.isAgg4
 z4:=Tryz.sizeOf4
 v4:=Tryz.zeroValue4
 t5:=Tryz.underlying5
 a5:=Tryz.isAgg5
 z5:=Tryz.sizeOf5
 v5:=Tryz.zeroValue5
 t9:=Tryz.underlying9
 a9:=Tryz.isAgg9
 z9:=Tryz.sizeOf9
 v9:=Tryz.zeroValue9
 t22:=Tryz.underlying31
 a22:=Tryz.isAgg31
 z22:=Tryz.sizeOf31
 v22:=Tryz.zeroValue31
 t25:=Tryz.underlying75
 a25:=Tryz.isAgg75
 z25:=Tryz.sizeOf75
 v25:=Tryz.zeroValue75
 t39:=Tryz.underlying190
 a39:=Tryz.isAgg190
 z39:=Tryz.sizeOf190
 v39:=Tryz.zeroValue190
 t45:=Tryz.underlying216
 a45:=Tryz.isAgg216
 z45:=Tryz.sizeOf216
 v45:=Tryz.zeroValue216
 t46:=Tryz.underlying217
 a46:=Tryz.isAgg217
 z46:=Tryz.sizeOf217
 v46:=Tryz.zeroValue217
 t50:=Tryz.underlying164
 a50:=Tryz.isAgg164
 z50:=Tryz.sizeOf164
 v50:=Tryz.zeroValue164
 t53:=Tryz.underlying223
 a53:=Tryz.isAgg223
 z53:=Tryz.sizeOf223
 v53:=Tryz.zeroValue223
 t55:=Tryz.underlying202
 a55:=Tryz.isAgg202
 z55:=Tryz.sizeOf202
 v55:=Tryz.zeroValue202
 t66:=Tryz.underlying246
 a66:=Tryz.isAgg246
 z66:=Tryz.sizeOf246
 v66:=Tryz.zeroValue246
 t70:=Tryz.underlying154
 a70:=Tryz.isAgg154
 z70:=Tryz.sizeOf154
 v70:=Tryz.zeroValue154
 t76:=Tryz.underlying285
 a76:=Tryz.isAgg285
 z76:=Tryz.sizeOf285
 v76:=Tryz.zeroValue285
 t77:=Tryz.underlying286
 a77:=Tryz.isAgg286
 z77:=Tryz.sizeOf286
 v77:=Tryz.zeroValue286}
theorem Mc:∀w,(isAgg (rL.t 24)).run Tryz.prog w=.ok true w:=Tryz.isAgg33
theorem Md:∀w,(Go.sizeOf (rL.t 24)).run Tryz.prog w=.ok 4 w:=Tryz.sizeOf33
end Go.Pm
namespace Go.Pm
variable[iD:Inhabited Prop]
open Go.Proofs Go.Sort
set_option maxRecDepth 20000
theorem Ew(l:List Tm):aj l=l.map enc:=by
 induction l with
 |nil=>rfl
 |cons t l ih=>simp only[aj,TT,ih]
theorem xO{l:List Tm}{i:Nat}{t:Tm}(h:l[i]?=some t):(aj l)[i]?=some (enc t):=by rw[Ew,TS,h];rfl
mutual
def wJ:PV->Option Tm
 | .agg [.int .i64 k,.str s,.int .i64 o,.ab false l]=>match nG l with
  |some l'=>some (.mk k s o l')
  |none=>none
 |_=>none
def nG:List PV->Option (List Tm)
 |[]=>some []
 |x::l=>match wJ x with
  |some t=>match nG l with
   |some ts=>some (t::ts)
   |none=>none
  |none=>none
end
mutual
theorem q9:∀t:Tm,wJ (enc t)=some t
 | .mk k s o l=>by simp only[enc,wJ,ki l]
theorem ki:∀l:List Tm,nG (aj l)=some l
 |[]=>rfl
 |t::l=>by simp only[aj,nG,q9 t,ki l]
end
mutual
theorem q':∀(p:PV) {t:Tm},wJ p=some t->enc t=p
 | .agg [.int .i64 k,.str s,.int .i64 o,.ab false l],t,h=>by
  simp only[wJ]at h
  split at h
  ·rename_i l' hl
   obtain rfl:=TF h;simp only[enc,iS l hl]
  cases h
 |p,t,h=>by
  unfold wJ at h
  split at h
  ·rename_i k s o l
   split at h
   ·rename_i l' hl
    obtain rfl:=TF h;simp only[enc,iS l hl]
   cases h
  cases h
theorem iS:∀(es:List PV) {ts:List Tm},nG es=some ts->aj ts=es
 |[],ts,h=>by simp only[nG,Ue]at h;subst h;rfl
 |x::l,ts,h=>by
  simp only[nG]at h
  split at h
  ·rename_i t ht
   split at h
   ·rename_i Tv dF
    obtain rfl:=TF h;simp only[aj,q' x ht,iS l dF]
   cases h
  cases h
end
theorem mJ{a b c:Tm}(h1:bR a b<=0)(h2:bR b c<=0):bR a c<=0:=by
 rcases Int.lt_or_eq_of_le h1 with h1 |h1
 ·rcases Int.lt_or_eq_of_le h2 with h2 |h2
  ·exact Int.le_of_lt (iT h1 h2)
  ·rw[<-fG h2];exact Int.le_of_lt h1
 rw[fG h1];exact h2
def zJ(t:Tm):List Tm->List Tm
 |[]=>[t]
 |x::r=>if bR t x<=0 then t::x::r else x::zJ t r
def fI:List Tm->List Tm
 |[]=>[]
 |t::r=>zJ t (fI r)
theorem pu(t:Tm):∀l:List Tm,(zJ t l).Perm (t::l)
 |[]=>.refl _
 |x::r=>by
  unfold zJ
  split
  exact .refl _
  ·exact((pu t r).cons x).trans (.swap t x r)
theorem iV:∀ts:List Tm,(fI ts).Perm ts
 |[]=>.refl _
 |t::r=>(pu t (fI r)).trans ((iV r).cons t)
theorem xP(t:Tm):∀{l:List Tm},(l.Pairwise λx y=>bR x y<=0)->(zJ t l).Pairwise λx y=>bR x y<=0
 |[],_=>by simp[zJ]
 |x::r,h=>by
  unfold zJ;have h2:=Us.1 h
  split
  ·rename_i hc
   refine Us.2 ⟨λy hy=>?_,h⟩;rcases TW.1 hy with rfl |hy;exact hc;exact mJ hc (h2.1 y hy)
  ·rename_i hc
   have ng:=fY t x;refine Us.2 ⟨λy hy=>?_,xP t h2.2⟩;rcases TW.1 ((pu t r).mem_iff.1 hy)with rfl |hy;omega;exact h2.1 y hy
theorem oN:∀ts:List Tm,(fI ts).Pairwise λx y=>bR x y<=0
 |[]=>.nil
 |t::r=>xP t (oN r)
theorem xQ{a b:List Tm}(hp:a.Perm b)(ha:a.Pairwise λx y=>bR x y<=0)(hb:b.Pairwise λx y=>bR x y<=0):a=b:=
 hp.eq_of_pairwise (λx y _ _ h1 h2=>fG (by have:=fY x y;omega)) ha hb
def lO(args:List PV)(h:aa):Option (PV×aa):=
 match args with
 |[.ab true [],.fn _ []]=>some (.cT [],h)
 |[.an id ep 0 len,.fn g []]=>match getM h id ep with
  |some o=>match nG o.es with
   |some ts=>if g=52/\o.mu=.m/\o.aP=4/\len=o.es.length/\len<1000000000/\(ts.all λt=>decide (aE t<1000000000))=true then
     some (.cT [],h.set id {o with es:=aj (fI ts)})else none
   |none=>none
  |none=>none
 |_=>none
theorem xR{h:aa}{id ep:Nat}{ts:List Tm}(e:h[id]?=some ⟨.m,ep,4,aj ts⟩)(hn:ts.length<1000000000)(hb:∀t∈ts,aE t<1000000000):
  lO [.an id ep 0 ts.length,.fn 52 []] h=some (.cT [],h.set id ⟨.m,ep,4,aj (fI ts)⟩):=by
 have hg:getM h id ep=some ⟨.m,ep,4,aj ts⟩:=bo e rfl (by simp);have hl:=ax ts;simp only[lO,hg,ki];rw[if_pos ⟨trivial,trivial,trivial,hl.symm,hn,by simpa using hb⟩]
def TV(w:World)(A:Nat->Prop):Type:={x:Tm×List Value // x.2.length=4/\(∀v∈x.2,v.oneCell'=true)/\aE x.1<1000000000/\aS w A (.agg x.2.toArray) (enc x.1)}
instance(w:World)(A:Nat->Prop):Inhabited (TV w A):=
 ⟨⟨(.mk 0 ByteArray.empty 0 [],[.int .i64 0,.string ByteArray.empty,.int .i64 0,.slice none 0 0]),rfl,by simp[Value.oneCell'],by simp[aE,bg],.agg _ _ rfl (λj hj=>by
  match j,hj with
  |0,_=>exact .int _ _
  |1,_=>exact .str _
  |2,_=>exact .int _ _
  |3,_=>exact .dP _ _ _ (λh=>by cases h)
  |j+4,hj=>simp at hj;omega)⟩⟩
theorem si{α:Type}[Inhabited α]{R:Nat->α->Prop}:∀n:Nat,(∀i,i<n->∃x,R i x)->∃d:Array α,d.size=n/\∀i,i<n->R i d[i]!
 |0,_=>⟨#[],rfl,λi hi=>by omega⟩
 |n+1,h=>by
  obtain⟨d,d1,d2⟩:=si n (λi hi=>h i (by omega));obtain⟨x,hx⟩:=h n (by omega);refine⟨d.push x,by simp[d1],λi hi=>?_⟩
  by_cases mz:i=n
  ·subst mz;have:(d.push x)[i]! =x:=by simp[<-d1]
   rw[this];exact hx
  ·have:(d.push x)[i]! =d[i]!:=by
    have cx:i<d.size:=by omega
    simp[Array.getElem!_eq_getD,Array.getD,Array.getElem_push,cx,Nat.lt_succ_of_lt cx]
   rw[this];exact d2 i (by omega)
theorem MG(w:World)(A:Nat->Prop):SWO (ltOf λx y:TV w A=>bR x.1.1 y.1.1) where
 irrefl x:=by simp[ltOf,ma]
 trans x y z h1 h2:=by
  simp only[ltOf,decide_eq_true_eq]at *;exact iT h1 h2
 ntrans x y z h1 h2:=by
  simp only[ltOf,decide_eq_false_iff_not,Int.not_lt]at *;have a:=fY x.1.1 y.1.1;have b:=fY y.1.1 z.1.1;have c:=fY x.1.1 z.1.1;have:=mJ (a:=z.1.1) (b:=y.1.1) (c:=x.1.1) (by omega) (by omega);omega
theorem jd{α:Type}[Inhabited α](enc:α->List Value)(k:Nat)(w:World)(blk off m:Nat)(dk:Array α)(os:Array Obj)(b:Nat)(hb:b<w.heap.size)(aU:b≠blk):(sortWorldK enc k w blk off m dk os).heap[b]?=w.heap[b]?:=by
 unfold sortWorldK putRowK putRow mapBlock;rw[heap_grow_old _ _ (by simpa[ahead]using hb)];show(Array.modify w.heap blk _)[b]?=_;rw[Vj,if_neg (Um aU)]
theorem td{α:Type}[Inhabited α](enc:α->List Value)(k:Nat)(w:World)(blk off m:Nat)(dk:Array α)(os:Array Obj){cs:Array Value}{T:TypeId}{fr:Nat×Nat}(hb:w.heap[blk]?=some (.cells cs T fr)):
  (sortWorldK enc k w blk off m dk os).heap[blk]?=some (.cells (putCells id off (flatK enc k dk) cs) T fr):=by
 have cx:blk<w.heap.size:=by
  rcases T8 blk w.heap.size with h |h;exact h;rw[UJ h]at hb;cases hb
 unfold sortWorldK putRowK putRow mapBlock;rw[heap_grow_old _ _ (by simpa[ahead]using cx)];show(Array.modify w.heap blk _)[blk]?=_;rw[Vj,if_pos rfl,hb]
 rfl
theorem qi{α:Type}[Inhabited α](enc:α->List Value)(k:Nat)(w:World)(blk off m:Nat)(dk:Array α)(os:Array Obj):w.heap.size<=(sortWorldK enc k w blk off m dk os).heap.size:=by
 unfold sortWorldK putRowK putRow mapBlock;rw[size_grow];simp[ahead]
theorem vO{α:Type}[Inhabited α]{enc:α->List Value}{k:Nat}{dk:Array α}{cs:Array Value}{i j:Nat}(hi:i<dk.size)(hj:j<k)(hs:dk.size * k<=cs.size)(hk:∀x,(enc x).length=k):
  (putCells id 0 (flatK enc k dk) cs)[i * k+j]?=(enc dk[i]!)[j]?:=by
 have lt:i * k+j<dk.size * k:=by
  have:=Uq k (show i+1<=dk.size from hi);rw[Ur,Nat.one_mul]at this;omega
 have e1:(i * k+j) / k=i:=(blk_iff k i _ (by omega)).1 ⟨by omega,by omega⟩;have e2:(i * k+j) % k=j:=by rw[Nat.mod_eq_sub_div_mul,e1];omega
 unfold putCells;rw[Array.getElem?_mapIdx,UC (show i * k+j<cs.size by omega)];simp only[TO,UG,true_and,Uu,size_flatK,if_pos lt,id,Nat.sub_zero];rw[get_flatK _ _ _ _ lt,e1,e2,TJ (by rw[hk];exact hj)];rw[getElem!_pos _ j (by rw[hk];exact hj)]
variable{w:World}{F:Nat->Prop}{Y:List (Nat×Nat)}{h:aa}
theorem MH{cs:Array Value}{t:Tm}{i:Nat}(hb:aE t<1000000000)(q2:∀(j:Nat) (p:PV),(cells (enc t))[j]?=some p->∃v:Value,cs[i * 4+j]?=some v/\ar w (Av F h Y) Y h v p):
  ∃x:TV w (Av F h Y),x.1.1=t/\∀j,j<4->cs[i * 4+j]?=x.1.2[j]?:=by
 obtain⟨k,s,o,l⟩:=t;obtain⟨a,a1,a2⟩:=q2 0 (.int .i64 k) rfl;obtain⟨b,b1,b2⟩:=q2 1 (.str s) rfl;obtain⟨c,c1,c2⟩:=q2 2 (.int .i64 o) rfl;obtain⟨d,d1,d2⟩:=q2 3 (.ab false (aj l)) rfl;have a3:=a2.yz rfl;have b3:=b2.yz rfl;have c3:=c2.yz rfl;have d3:=d2.dM;have o4:d.oneCell'=true:=by obtain⟨ad,cap,rfl,_⟩:=d3.fZ;rfl
 refine⟨⟨(.mk k s o l,[a,b,c,d]),rfl,?_,hb,.agg [a,b,c,d] _ rfl (λj hj=>?_)⟩,rfl,λj hj=>?_⟩
 ·intro v hv
  simp only[TW,VE,or_false]at hv;rcases hv with rfl |rfl |rfl |rfl
  cases a3;rfl
  cases b3;rfl
  cases c3;rfl
  exact o4
 ·match j,hj with
  |0,_=>exact a3
  |1,_=>exact b3
  |2,_=>exact c3
  |3,_=>exact d3
  |j+4,hj=>simp at hj;omega
 ·match j,hj with
  |0,_=>exact a1
  |1,_=>exact b1
  |2,_=>exact c1
  |3,_=>exact d1
  |j+4,hj=>omega
theorem L2.two{R:Value->PV->Prop}{vs:List Value}{a b:PV}(h:L2 R vs [a,b]):∃x y,vs=[x,y]/\R x a/\R y b:=by
 obtain⟨h1,h2⟩:=h
 match vs,h1 with
 |[x,y],_=>exact⟨x,y,rfl,h2 0 (by simp),h2 1 (by simp)⟩
theorem zL(args:Array Value)(w:World):(callFunc 52 args).run C.P w=.ok (.enter 52 args) w:=enters_of Tryz.func52 (by kernel_rfl) rfl args w
theorem B8{vs:List Value}{id ep:Nat}{o:aC}{ts:List Tm}(H:aG w F Y h)(ha:L2 (ar w (Av F h Y) Y h) vs [.an id ep 0 o.es.length,.fn 52 []])(hg:getM h id ep=some o)(hm:o.mu=.m)(hz:o.aP=4)
  (hn:o.es.length<1000000000) (h9:aj ts=o.es) (tv:∀t∈ts,aE t<1000000000):jC C.P 2 w F Y h 161 vs (.cT []) (h.set id {o with es:=aj (fI ts)}):=by
 obtain⟨g1,g2,g3⟩:=getM_some hg;obtain⟨bc,j3⟩:=cm H.len g1;obtain⟨v0,v1,rfl,h0,h1⟩:=ha.two;obtain⟨_,_,m3⟩:=h0.cO;obtain⟨cap,c1,c2⟩:=m3 o bc g1 j3 g3 g2 (by omega);rw[UQ]at c1;obtain⟨us,d1,d2,_⟩:=h1.yR;obtain rfl:us=[]:=T3 d2;subst c1 d1;obtain⟨T,cs,k1,k2,k3,k4,k5⟩:=(H.obj id o bc g1 j3 g3).c (by omega);have hblk:bc.1<w.heap.size:=Mb.lt H ⟨id,o,bc,g1,j3,hm,rfl⟩;have Qm:Av F h Y bc.1:=.inr ⟨id,o,bc,g1,j3,hm,rfl⟩;have hlen:ts.length=o.es.length:=by rw[<-h9,ax]
 have G8:ts.length * 4<=cs.size:=by rw[hz]at k3;omega
 obtain⟨d,dl,dh⟩:=si (α:=TV w (Av F h Y)) (R:=λi x=>ts[i]?=some x.1.1/\∀j,j<4->cs[i * 4+j]?=x.1.2[j]?) ts.length (λi hi=>by
  have ht:ts[i]?=some ts[i]:=TJ hi;obtain⟨_,q2⟩:=k5 i (enc ts[i]) (by rw[<-h9];exact xO ht);rw[hz]at q2;obtain⟨x,x1,x2⟩:=MH (tv _ (Up hi)) q2;exact⟨x,by rw[ht,x1],x2⟩)
 have hk:∀x:TV w (Av F h Y),x.1.2.length=4:=λx=>x.2.1
 have hH:HoldsK (λx:TV w (Av F h Y)=>x.1.2) 4 w bc.1 0 d:=by
  intro j hj
  rw[size_flatK]at hj;have Tw:j / 4<d.size:=by omega
  obtain⟨_,r2⟩:=dh (j / 4) (by omega);have:=r2 (j % 4) (by omega);rw[show j / 4 * 4+j % 4=j by omega]at this;refine⟨?_,by simp[World.frozen?,k1]⟩;rw[get_flatK _ _ _ _ hj];have hl:j % 4<(d[j / 4]!).1.2.length:=by rw[hk];omega
  rw[TJ hl]at this;simp only[World.cell?,k1,Uu,this];rw[getElem!_pos (d[j / 4]!).1.2 (j % 4) hl]
  rfl
 have O9:CmpLays C.P 52 #[] (λx:TV w (Av F h Y)=>x.1.2) 4 (λx y=>bR x.1.1 y.1.1) bc.1 0 d.size w:=by
  intro m os dk hs x y
  obtain⟨n,hn⟩:=(sj x.1.1 y.1.1 x.2.2.2.1 y.2.2.2.1).k9
  have up:∀(x:TV w (Av F h Y)),aS (sortWorldK (λx:TV w (Av F h Y)=>x.1.2) 4 w bc.1 0 m dk os) (λ_=>False) (.agg x.1.2.toArray) (enc x.1.1):=λx=>
   x.2.2.2.2.mono (λb hb FO=>jd _ _ _ _ _ _ _ _ b hb (λe=>FO (e▸Qm))) (λ_ _ _ hh=>hh)
  have kG:L2 (aS (sortWorldK (λx:TV w (Av F h Y)=>x.1.2) 4 w bc.1 0 m dk os) (λ_=>False)) [.agg x.1.2.toArray,.agg y.1.2.toArray] [enc x.1.1,enc y.1.1]:=⟨rfl,λj hj=>by
   match j,hj with
   |0,_=>exact up x
   |1,_=>exact up y
   |j+2,hj=>simp at hj;omega⟩
  rw[Array.append_empty];refine(uk (iD:=instInhabitedProp) (rH (iD:=instInhabitedProp)) li (.inl rfl) hn (λb hb=>hb.elim) kG (hG:=H.di.mono (λb hb FO=>jd _ _ _ _ _ _ _ _ b hb (λe=>FO (e▸Qm))) (λ_ _ _ hh=>hh))).mono ?_;rintro e w' ⟨v,rfl,hv,Su⟩
  cases hv
  exact⟨rfl,Su.grow⟩
 have GA:=AnyQ.slices_SortFunc Ma 4 Mc Md (λx:TV w (Av F h Y)=>x.1.2) hk (λx=>x.2.2.1) (λx y=>bR x.1.1 y.1.1) (MG w _) 52 #[] bc.1 0 cap d w zL O9 hH hblk (by omega);rw[dl,hlen]at GA;refine GA.mono ?_;rintro e w' ⟨rfl,d',n,os,hp,hs,rfl⟩;rw[<-hlen,<-dl]at hp hs;have O':d'.size=d.size:=hp.1
 have Sv:d.toList.map (λx=>x.1.1)=ts:=by
  apply Uw
  intro i
  by_cases hi:i<ts.length
  rw[TS,(dh i hi).1,T1,UC (by omega),getElem!_pos d i (by omega)];rfl;rw[TZ (by simp;omega),TZ (by omega)]
 have dF:d'.toList.map (λx=>x.1.1)=fI ts:=by
  refine xQ ?_ ?_ (oN ts)
  ·have h3:=hp.2.2;rw[show d.extract 0 d.size=d by simp,show d'.extract 0 d.size=d' by rw[<-O'];simp]at h3;refine(h3.map _).trans ?_;rw[Sv];exact(iV ts).symm
  ·rw[List.pairwise_map,List.pairwise_iff_getElem]
   intro i j hi hj Kp
   simp only[Uv]at hi hj;have:=hs i j (UG _) Kp (by omega);rw[getElem!_pos d' i (by omega),getElem!_pos d' j (by omega)]at this;simp only[ltOf,decide_eq_false_iff_not,Int.not_lt]at this;have ng:=fY d'[i].1.1 d'[j].1.1;simp only[Array.getElem_toList];omega
 have gp:(aj (fI ts)).length=o.es.length:=by rw[ax,<-dF];simp;omega
 obtain⟨H',S'⟩:=H.set (w':=sortWorldK (λx:TV w (Av F h Y)=>x.1.2) 4 w bc.1 0 n d' os) g1 j3 hm T (putCells _root_.id 0 (flatK (λx:TV w (Av F h Y)=>x.1.2) 4 d') cs) (aj (fI ts)) o.ep bc (qi _ _ _ _ _ _ _ _) (td _ _ _ _ _ _ _ _ k1)
  (λb hb aU=>jd _ _ _ _ _ _ _ _ b hb aU) (.inl ⟨rfl,λ_=>gp⟩) (TI _) rfl rfl rfl (by rw[gp];exact k2) (by simpa[putCells]using k3) (λi e he=>by
   have hi:i<d'.size:=by have:=ae he;omega
   have vt:(fI ts)[i]?=some d'[i].1.1:=by rw[<-dF,TS,T1,UC hi];rfl
   rw[xO vt]at he;obtain rfl:=TF he;have sr:=d'[i].2.2.2.2;obtain⟨z1,z2⟩:=sr.cells;rw[hz]
   have eJ:(cells (enc d'[i].1.1)).length=4:=by
    rw[<-z1];show d'[i].1.2.toArray.size=4;simpa using hk d'[i]
   refine⟨eJ,λj p hp=>?_⟩;obtain⟨u,u1,u2⟩:=z2 j p hp;refine⟨u,?_,.val u2⟩;have hj:=ae hp;rw[vO (enc:=λx:TV w (Av F h Y)=>x.1.2) hi (by omega) (by omega) hk,getElem!_pos d' i hi];have u3:d'[i].1.2.toArray[j]?=some u:=u1;simpa using u3) (λ_=>by show w.drawn<=w.drawn+n;omega)
 rw[rX j3]at H' S';exact⟨_,Y,rfl,.val (.cT [] [] rfl (λj hj=>by simp at hj)),H',S',λhh=>by omega⟩
theorem D8:cW C.P 161 lO:=by
 intro args h r h' e w F Y vs H ha
 unfold lO at e
 split at e
 ·rename_i g
  obtain⟨rfl,rfl⟩:=TL (TF e);obtain⟨v0,v1,rfl,h0,h1⟩:=ha.two;obtain⟨ad,cap,rfl,_,_⟩:=h0.dM.fZ;have GA:=AnyF.slices_SortFunc_none Ma ad cap v1 w;refine GA.mono ?_;rintro e w' ⟨rfl,rfl⟩;exact⟨_,Y,rfl,.val (.cT [] [] rfl (λj hj=>by simp at hj)),H,cP.refl w' h Y,λhh=>by omega⟩
 ·rename_i id ep len g
  split at e
  ·rename_i o hg
   split at e
   ·rename_i ts hd
    split at e
    ·rename_i hc
     obtain⟨rfl,rfl⟩:=TL (TF e);obtain⟨rfl,c1,c2,rfl,c4,c5⟩:=hc;exact B8 H ha hg c1 c2 c4 (iS _ hd) (by simpa using c5)
    cases e
   cases e
  cases e
 cases e
end Go.Pm
namespace Go.Pm
def tw(md md':FuncId->Mode):Prop:=∀f,md f=.no\/md f=md' f
variable{P:Program}{md md':FuncId->Mode}{run run':gw}
def ji(P:Program)(md md':FuncId->Mode)(run run':gw):Prop:=∀(lv:Nat) (f:FuncId) (args:List PV) (h:aa) (x:PV×aa),cM ⟨P,md⟩ run lv f args h=some x->cM ⟨P,md'⟩ run' lv f args h=some x
theorem EO(M:tw md md')(L:fm run run'){lv:Nat}{f:FuncId}{args:List PV}{h:aa}{x:PV×aa}(e:cM ⟨P,md⟩ run lv f args h=some x):cM ⟨P,md'⟩ run' lv f args h=some x:=by
 unfold cM at e ⊢;rcases M f with hz |hz
 ·simp only[hz]at e
  cases e
 simp only[<-hz]
 cases hm:md f <;>simp only[hm]at e ⊢
 cases e
 exact jF L e;exact jG L e;exact e;exact gN (λ_ _ _ x=>x) e;exact e
theorem Cj(M:tw md md')(L:fm run run'):ji P md md' run run':=λlv f args h x e=>EO M L e
theorem jX(M:ji P md md' run run'){lv:Nat}{op:Op}{V:Nat->PV}{h:aa}{x:PV×aa}(e:ak ⟨P,md⟩ run lv op V h=some x):ak ⟨P,md'⟩ run' lv op V h=some x:=by
 unfold ak at e ⊢
 split at e
 ·split at e
  ·unfold fQ at e ⊢
   split at e
   exact M _ _ _ _ _ e;exact M _ _ _ _ _ e
   cases e
  ·exact e
  ·cases e
 exact e
theorem Ck(M:ji P md md' run run'){ops:Array Oper}{o:Oper}{s s':St}(e:dS ⟨P,md⟩ run ops o s=some s'):dS ⟨P,md'⟩ run' ops o s=some s':=by
 unfold dS at e ⊢
 split at e
 ·cases hr:ak ⟨P,md⟩ run 2 o.op s.V s.h with
  |none=>rw[hr]at e;cases e
  |some y=>rw[hr]at e;rw[jX M hr];exact e
 exact e
 cases e
theorem sy(M:ji P md md' run run'){ops:Array Oper}:∀{l:List Oper} {s s':St},cy ⟨P,md⟩ run ops l s=some s'->cy ⟨P,md'⟩ run' ops l s=some s'
 |[],s,s',e=>e
 |o::l,s,s',e=>by
  simp only[cy]at e ⊢
  cases hr:dS ⟨P,md⟩ run ops o s with
  |none=>rw[hr]at e;cases e
  |some y=>
   rw[hr]at e;rw[Ck M hr];exact sy M e
theorem zW(M:ji P md md' run run'){ops:Array Oper}{b:List Nat}{i:Nat}{o:Oper}{s s':qN}(e:bS ⟨P,md⟩ run ops b i o s=some s'):bS ⟨P,md'⟩ run' ops b i o s=some s':=by
 unfold bS at e ⊢
 split at e
 ·split at e
  ·rename_i hh
   rw[if_pos hh]
   cases hr:ak ⟨P,md⟩ run 1 o.op s.s.V s.s.h with
   |none=>rw[hr]at e;cases e
   |some y=>rw[hr]at e;rw[jX M hr];exact e
  ·rename_i hh
   rw[if_neg hh]
   split at e
   ·rename_i hl
    rw[if_pos hl]
    cases hr:ak ⟨P,md⟩ run 2 o.op s.s.V s.s.h with
    |none=>rw[hr]at e;cases e
    |some y=>rw[hr]at e;rw[jX M hr];exact e
   ·rename_i hl
    rw[if_neg hl];simp only at e ⊢
    split at e
    ·rename_i hc
     rw[if_pos hc]
     cases hr:ak ⟨P,md⟩ run 1 o.op s.s.V (bX (b.getD i 0).testBit s.L0 s.own s.s.h)with
     |none=>rw[hr]at e;cases e
     |some y=>rw[hr]at e;rw[jX M hr];exact e
    cases e
 exact e
 cases e
theorem pX(M:ji P md md' run run'){ops:Array Oper}{b:List Nat}:∀{l:List Oper} {i:Nat} {s s':qN},cB ⟨P,md⟩ run ops b i l s=some s'->cB ⟨P,md'⟩ run' ops b i l s=some s'
 |[],i,s,s',e=>e
 |o::l,i,s,s',e=>by
  simp only[cB]at e ⊢
  cases hr:bS ⟨P,md⟩ run ops b i o s with
  |none=>rw[hr]at e;cases e
  |some y=>
   rw[hr]at e;rw[zW M hr];exact pX M e
theorem zX(M:ji P md md' run run'){ops:Array Oper}{b:List Nat}{h0:aa}{i:Nat}{o:Oper}{s s':St}(e:b8 ⟨P,md⟩ run ops b h0 i o s=some s'):b8 ⟨P,md'⟩ run' ops b h0 i o s=some s':=by
 unfold b8 at e ⊢
 split at e
 ·split at e
  ·rename_i hh
   rw[if_pos hh]
   cases hr:ak ⟨P,md⟩ run 1 o.op s.V s.h with
   |none=>rw[hr]at e;cases e
   |some y=>rw[hr]at e;rw[jX M hr];exact e
  ·rename_i hh
   rw[if_neg hh]
   split at e
   ·rename_i hl
    rw[if_pos hl];exact e
   ·rename_i hl
    rw[if_neg hl]
    cases hs:(if gz o.op then aw P 1 o.op s.V s.h else none)with
    |some y=>rw[hs]at e;exact e
    |none=>
     rw[hs]at e;simp only at e ⊢
     split at e
     ·rename_i hk
      rw[if_pos hk]
      cases hr:ak ⟨P,md⟩ run 2 o.op s.V s.h with
      |none=>rw[hr]at e;cases e
      |some y=>rw[hr]at e;rw[jX M hr];exact e
     cases e
 exact e
 cases e
theorem pY(M:ji P md md' run run'){ops:Array Oper}{b:List Nat}{h0:aa}:∀{l:List Oper} {i:Nat} {s s':St},bD ⟨P,md⟩ run ops b h0 i l s=some s'->bD ⟨P,md'⟩ run' ops b h0 i l s=some s'
 |[],i,s,s',e=>e
 |o::l,i,s,s',e=>by
  simp only[bD]at e ⊢
  cases hr:b8 ⟨P,md⟩ run ops b h0 i o s with
  |none=>rw[hr]at e;cases e
  |some y=>
   rw[hr]at e;rw[zX M hr];exact pY M e
theorem EP(M:ji P md md' run run'){ops:Array Oper}{s s':St}(e:gR ⟨P,md⟩ run ops s=some s'):gR ⟨P,md'⟩ run' ops s=some s':=by
 unfold gR at e ⊢
 cases hr:bD ⟨P,md⟩ run ops (before ops) (dj (fo ops (before ops) s.V) s.h) 0 ops.toList ⟨s.V,dj (fo ops (before ops) s.V) s.h⟩with
 |none=>rw[hr]at e;cases e
 |some y=>rw[hr]at e;rw[pY M hr];exact e
theorem EQ(M:ji P md md' run run'){n m:Nat}(Jy:n<=m):∀(c:Code) {s:St} {x:Ex×St},aV ⟨P,md⟩ run n c s=some x->aV ⟨P,md'⟩ run' m c s=some x:=by
 intro c
 induction c with
 |region id ops draw=>
  intro s x e
  simp only[aV]at e ⊢
  cases draw with
  |false=>
   simp only[TR,if_false]at e ⊢
   cases hr:cy ⟨P,md⟩ run ops ops.toList s with
   |none=>rw[hr]at e;cases e
   |some y=>rw[hr]at e;rw[sy M hr];exact e
  |true=>
   simp only[if_true]at e ⊢
   by_cases hk:kY ops=true
   ·simp only[hk,if_true]at e ⊢
    cases hr:gR ⟨P,md⟩ run ops s with
    |none=>rw[hr]at e;cases e
    |some y=>rw[hr]at e;rw[EP M hr];exact e
   ·simp only[hk]at e ⊢
    cases hr:cB ⟨P,md⟩ run ops (before ops) 0 ops.toList ⟨s,s.h.length,[]⟩with
    |none=>rw[hr]at e;simp at e
    |some y=>rw[hr]at e;rw[pX M hr];exact e
 |seq a b iha ihb=>
  intro s x e
  simp only[aV]at e ⊢
  cases hr:aV ⟨P,md⟩ run n a s with
  |none=>rw[hr]at e;cases e
  |some y=>
   rw[hr]at e;rw[iha hr];obtain⟨ex,s'⟩:=y
   cases ex with
   |normal=>exact ihb e
   |exit id=>exact e
   |ret=>exact e
 |cond c a b iha ihb=>
  intro s x e
  simp only[aV]at e ⊢
  split at e
  exact iha e;exact ihb e
  cases e
 |block id c ih=>
  intro s x e
  simp only[aV]at e ⊢
  cases hr:aV ⟨P,md⟩ run n c s with
  |none=>rw[hr]at e;cases e
  |some y=>rw[hr]at e;rw[ih hr];exact e
 |loop c ih=>
  intro s x e
  simp only[aV]at e ⊢;exact pg (λs x=>ih) Jy e
 |scope c ih=>
  intro s x e
  simp only[aV]at e ⊢;exact ih e
 |_=>
  intro s x e
  first
   |exact e
   |(simp[aV]at e;done)
   |(simp only[aV]at e ⊢;exact e)
theorem xy(M:ji P md md' run run'){n m:Nat}(Jy:n<=m):fm (kZ ⟨P,md⟩ run n) (kZ ⟨P,md'⟩ run' m):=by
 intro f args h x e
 unfold kZ at e ⊢
 cases hf:P.funcs[f]? with
 |none=>rw[hf]at e;cases e
 |some fn=>
  rw[hf]at e;simp only at e ⊢
  cases hb:fn.body with
  |none=>rw[hb]at e;cases e
  |some c=>
   rw[hb]at e;simp only at e ⊢
   cases hr:aV ⟨P,md⟩ run n c ⟨jm args,h⟩with
   |none=>rw[hr]at e;cases e
   |some y=>rw[hr]at e;rw[EQ M Jy c hr];exact e
theorem AZ(M:tw md md'):∀n,fm (cN ⟨P,md⟩ n) (cN ⟨P,md'⟩ n)
 |0=>λf args h x e=>by cases e
 |n+1=>xy (Cj M (AZ M n)) (TI n)
theorem aW.up(M:tw md md'){f:FuncId}{args:List PV}{r:PV}(a:aW ⟨P,md⟩ f args r):aW ⟨P,md'⟩ f args r:=by
 obtain⟨n0,hn⟩:=a;refine⟨n0,λn h1=>?_⟩;obtain⟨r0,hc,r1,e1,e2⟩:=hn n h1;exact⟨r0,hc,r1,AZ M n _ _ _ _ e1,e2⟩
end Go.Pm
namespace Go.Pm
open Go.Proofs
open Go.Pm.Zero (iz gi)
attribute [local irreducible] aA az aH aF Ev ag ai aD bw
variable{w:World}{F:Nat->Prop}{Y:List (Nat×Nat)}{h:aa}
namespace mF
set_option maxRecDepth 100000
set_option maxHeartbeats 4000000
noncomputable abbrev T6:kM C0.P:=Zero.T6
theorem o8{h:aa}{fl:Bool}{e:PV}(he:jB 4 e=true):aD C0 215 [.ab true [],.int .i64 0,.ab fl [e]] h (λr h'=>r=.an h.length 0 0 1/\h'=h++[⟨.m,0,4,[e]⟩]):=by
 refine aD.dD Tryz.func215 rfl ?_;have hu:C0.P.underlying 132=some (.slice 33):=aY (T6.cI 132 _ rfl);have wX:([e]:List PV).length=1:=rfl;refine wC ?_;apply R.slice;exact rfl;exact rfl;exact rfl;exact rfl;exact uh hu (T6.dF 33 4 rfl)
 (repeat' (first |refine ag.nil ?_ |(apply R.move;exact rfl)|(apply R.assign;exact rfl)|(apply R.cmp;exact rfl;exact rfl;exact rfl;all_goals intro hc;all_goals(try(exfalso;omega)))|(apply R.qc T6;exact rfl;exact rfl)|refine Ev.seq ?_ |refine Ev.region ?_ |(apply Ev.ef;exact rfl)|refine Ev.skip ?_ |refine aA.normal ?_ |fail))
 all_goals try(exfalso;revert hc;decide)
 all_goals(
  apply R.gY T6;exact rfl;exact rfl;exact rfl;exact rfl;exact rfl;exact rfl;exact rfl;exact(by decide);exact rfl;exact rfl;exact nS he;exact(by simp);exact(by show 1<_;decide);refine wC ?_;exact⟨rfl,rfl⟩)
theorem o9{h:aa}{fl:Bool}{e:PV}{id ep len:Nat}{o:aC}(he:jB 4 e=true)(hg:getM h id ep=some o)(hm:o.mu=.m)(hz:o.aP=4)(hle:len<=o.es.length)(hn:len<100000000):
  aD C0 215 [.an id ep 0 len,.int .i64 (len:Int),.ab fl [e]] h (λr h'=>r=.an id (ep+1) 0 (len+1)/\h'=h.set id {o with ep:=ep+1,es:=o.es.take len++[e]}):=by
 refine aD.dD Tryz.func215 rfl ?_;have hu:C0.P.underlying 132=some (.slice 33):=aY (T6.cI 132 _ rfl);have wX:([e]:List PV).length=1:=rfl;have ez:bI C0.P 33=some o.aP:=by rw[hz];exact T6.dF 33 4 rfl
 refine wC ?_;apply R.slice;exact rfl;exact rfl;exact rfl;exact rfl;exact mg hu ez hg (TI _) hle;refine wF λhc=>?_
 all_goals try(exfalso;revert hc;decide)
 all_goals(
  apply R.yW T6 (o:=o);exact rfl;exact rfl;exact hg;exact(by omega);refine wF λhc=>?_;apply R.xl T6 (o:=o);exact rfl;exact rfl;exact rfl;exact rfl;exact rfl;exact rfl;exact rfl;exact(by decide);exact rfl;exact rfl;exact nS he;exact rfl;exact(by show len+1<_;omega);exact hg;exact hm;exact hz;exact hle;refine wC ?_;exact⟨rfl,rfl⟩)
end mF
end Go.Pm
namespace Go.Pm
variable[iD:Inhabited Prop]
open Go.Proofs
open Go.Pm.Zero (iz gi)
attribute [local irreducible] aA az aH aF Ev ag ai aD bw
variable{w:World}{F:Nat->Prop}{Y:List (Nat×Nat)}{h:aa}
namespace mF
set_option maxRecDepth 100000
set_option maxHeartbeats 4000000
noncomputable def DO:Code:=match Tryz.f215.body with |some c=>c |none=>.skip
theorem rC:Tryz.f215.body=some DO:=rfl
variable{w:World}{F:Nat->Prop}{Y:List (Nat×Nat)}
theorem nP{h:aa}{id ep len i N:Nat}{o:aC}{fl:Bool}{e:PV}{a:Act}{Q:Exit->Act->World->Prop}(hg:getM h id ep=some o)(hz:o.aP=4)(hle:len<=o.es.length)(hi:i<len)(hn:len<100000000)(hN:N=Tryz.f215.ntmps)
  (RR:SR N w F Y ⟨jm [.an id ep 0 len,.int .i64 (i:Int),.ab fl [e]],h⟩ a)
  (k:∀a' w' Y' V',SR N w' F Y' ⟨al [(0,.an id ep 0 len),(1,.int .i64 (i:Int)),(2,.ab fl [e]),(7,.int .i64 1),(8,.int .i64 (len:Int))] V',h⟩ a'->cP w h Y w' h Y'->(ON 6 DO).wp C0.P Q a' w'):DO.wp C0.P Q a w:=by
 subst hN;have hu:C0.P.underlying 132=some (.slice 33):=aY (T6.cI 132 _ rfl);have ez:bI C0.P 33=some o.aP:=by rw[hz];exact T6.dF 33 4 rfl
 have wX:([e]:List PV).length=1:=rfl;refine wp_seq ?_;refine bG K0 bj S0 (M:=λex s'=>ex=.normal/\∃V',s'=⟨al [(0,.an id ep 0 len),(1,.int .i64 (i:Int)),(2,.ab fl [e])] V',h⟩) rfl ?_ RR ?_
 ·rw[ek];refine wC ?_;exact⟨rfl,_,St.aB ⟨rfl,rfl,rfl,trivial⟩⟩
 rintro ex s' a1 w1 Y1 ⟨rfl,V1,rfl⟩ R1 S1;refine wp_seq ?_;refine bG K0 bj S0 (M:=λex s'=>ex=.normal/\∃V',s'=⟨al [(0,.an id ep 0 len),(1,.int .i64 (i:Int)),(2,.ab fl [e])] V',h⟩) rfl ?_ R1 ?_
 ·refine wC ?_;apply R.slice;exact rfl;exact rfl;exact rfl;exact rfl;exact bV hu ez hg hi hle;refine wC ?_;exact⟨rfl,_,St.aB ⟨rfl,rfl,rfl,trivial⟩⟩
 rintro ex s' a2 w2 Y2 ⟨rfl,V2,rfl⟩ R2 S2;refine wp_seq ?_;refine bG K0 bj S0 (M:=λex s'=>ex=.normal/\∃V',s'=⟨al [(0,.an id ep 0 len),(1,.int .i64 (i:Int)),(2,.ab fl [e]),(7,.int .i64 1)] V',h⟩) rfl ?_ R2 ?_
 ·refine wC ?_;exact⟨rfl,_,St.aB ⟨rfl,rfl,rfl,rfl,trivial⟩⟩
 rintro ex s' a3 w3 Y3 ⟨rfl,V3,rfl⟩ R3 S3;refine wp_seq ?_;refine bG K0 bj S0 (M:=λex s'=>ex=.normal/\∃V',s'=⟨al [(0,.an id ep 0 len),(1,.int .i64 (i:Int)),(2,.ab fl [e]),(7,.int .i64 1)] V',h⟩) rfl ?_ R3 ?_
 ·refine wF λhc=>?_;exact⟨rfl,_,St.aB ⟨rfl,rfl,rfl,rfl,trivial⟩⟩
 rintro ex s' a4 w4 Y4 ⟨rfl,V4,rfl⟩ R4 S4;refine wp_seq ?_;refine bG K0 bj S0 (M:=λex s'=>ex=.normal/\∃V',s'=⟨al [(0,.an id ep 0 len),(1,.int .i64 (i:Int)),(2,.ab fl [e]),(7,.int .i64 1),(8,.int .i64 (len:Int))] V',h⟩) rfl ?_ R4 ?_
 ·refine wC ?_;apply R.yW T6 (o:=o);exact rfl;exact rfl;exact hg;exact(by omega);refine wC ?_;exact⟨rfl,_,St.aB ⟨rfl,rfl,rfl,rfl,rfl,trivial⟩⟩
 rintro ex s' a5 w5 Y5 ⟨rfl,V5,rfl⟩ R5 S5;refine wp_seq ?_;refine bG K0 bj S0 (M:=λex s'=>ex=.normal/\∃V',s'=⟨al [(0,.an id ep 0 len),(1,.int .i64 (i:Int)),(2,.ab fl [e]),(7,.int .i64 1),(8,.int .i64 (len:Int))] V',h⟩) rfl ?_ R5 ?_
 ·refine wF λhc=>?_;exact⟨rfl,_,St.aB ⟨rfl,rfl,rfl,rfl,rfl,trivial⟩⟩
 rintro ex s' a6 w6 Y6 ⟨rfl,V6,rfl⟩ R6 S6;exact k _ _ _ _ R6 (((((S1.trans S2).trans S3).trans S4).trans S5).trans S6)
theorem oY{h:aa}{id ep len i:Nat}{o:aC}{fl:Bool}{e X:PV}{pre:List PV}{vs:List Value}(H:aG w F Y h)(ha:L2 (ar w (Av F h Y) Y h) vs [.an id ep 0 len,.int .i64 (i:Int),.ab fl [e]])
  (hg:getM h id ep=some o) (hm:o.mu=.m) (hz:o.aP=4) (h9:o.es=pre++[X]) (qA:pre.length=len) (hi:i<len) (hn:len<100000000) (eO:pre.all (jB 4)=true) (hX:(cells X).length=4) (he:jB 4 e=true) (eJ:aL h=true):
  jC C0.P 2 w F Y h 215 vs (.an id ep 0 (len+1)) (h.set id {o with es:=pre.take i++[e]++pre.drop i}):=by
 have eE:o.es.length=len+1:=by rw[h9];simp[qA]
 have hu:C0.P.underlying 132=some (.slice 33):=aY (T6.cI 132 _ rfl);have na:bI C0.P 33=some 4:=T6.dF 33 4 rfl;have ez:bI C0.P 33=some o.aP:=by rw[hz];exact na
 obtain⟨g1,g2,g3⟩:=getM_some hg;have cx:=ae g1;obtain⟨bc,j3⟩:=cm H.len g1;obtain⟨T,cs,k1,k2,k3,k4,k5⟩:=(H.obj id o bc g1 j3 g3).c (by omega);have oB:len+1<=bc.2:=by omega
 have lE:aI h id=true:=by unfold aI;rw[g1];simp[hm]
 have hj:((len:Int)+1)=((len+1:Nat):Int):=by omega
 have qd:((i:Int)+1)=((i+1:Nat):Int):=by omega
 have ew:∀{w':World} {Y':List (Nat×Nat)},cP w h Y w' h Y'->Y'[id]?=some bc:=by
  intro w' Y' S
  obtain⟨o',bW,f1,f2,f3,f4,f5⟩:=S.refs id o bc g1 j3 g3;obtain rfl:=TF (g1.symm.trans f1);rw[f2,(f5 rfl).2.2]
 refine ga (P:=C0.P) (c:=DO) Tryz.func215 rC H ha (λa RR=>nP hg hz (by omega) hi hn rfl RR (λa1 w1 Y1 V1 R1 S1=>?_));refine wp_seq ?_;refine wp_seq ?_;apply bm K0 S0 (pre:=[_,_,_,_]) (post:=[_]) (R:=R1) (M:=λs'=>∃V',s'=⟨al ((28,.int .i64 ((len:Int)+1))::(29,.an id ep 0 len)::[(0,.an id ep 0 len),(1,.int .i64 (i:Int)),(2,.ab fl [e]),(7,.int .i64 1),(8,.int .i64 (len:Int))]) V',h⟩) (M2:=λs'=>∃V',s'=⟨al ((31,.bool false)::[(0,.an id ep 0 len),(1,.int .i64 (i:Int)),(2,.ab fl [e]),(7,.int .i64 1),(8,.int .i64 (len:Int))]) V',h⟩)
 rfl
 rfl
 ·refine wC ?_;exact⟨_,St.aB ⟨rfl,rfl,rfl,rfl,rfl,rfl,rfl,trivial⟩⟩
 ·rintro s1 a2 w2 Y2 ⟨V2,rfl⟩ R2 S2;refine⟨.int .i64 (bc.2:Int),h,nQ (t:=132) (x:=.tmp 29) R2.hr R2.er hu (cC (t:=29) rfl V2) hg (ew (S1.trans S2)) (by omega) _ rfl,?_⟩;show ag C0 _ _ ⟨bh (al _ V2) (some 30) (.int .i64 (bc.2:Int)),h⟩ _;rw[bd];refine wF λhc=>?_;exact⟨_,St.aB ⟨rfl,rfl,rfl,rfl,rfl,rfl,trivial⟩⟩
 rintro s3 a3 w3 Y3 ⟨V3,rfl⟩ R3 S3;refine bG K0 bj S0 (M:=λex s'=>ex=.normal/\∃V',s'=⟨al [(0,.an id ep 0 len),(1,.int .i64 (i:Int)),(2,.ab fl [e]),(7,.int .i64 1),(8,.int .i64 (len:Int))] V',h⟩) rfl ?_ R3 ?_
 ·refine wC ?_;exact⟨rfl,_,St.aB ⟨rfl,rfl,rfl,rfl,rfl,trivial⟩⟩
 rintro ex s' a4 w4 Y4 ⟨rfl,V4,rfl⟩ R4 S4;refine wp_seq ?_;refine bG K0 bj S0 (M:=λex s'=>ex=.normal/\∃V',s'=⟨al [(0,.an id ep 0 (len+1)),(1,.int .i64 (i:Int)),(2,.ab fl [e]),(7,.int .i64 1)] V',h⟩) rfl ?_ R4 ?_
 ·refine wC ?_;apply R.slice;exact rfl;exact rfl;exact rfl;exact rfl
  ·show bO C0.P h 132 (.an id ep 0 len) none (some (.int .i64 ((len:Int)+1))) none=_;rw[hj];exact lD hu ez hg (by omega) (by omega)
  refine wC ?_;exact⟨rfl,_,St.aB ⟨rfl,rfl,rfl,rfl,trivial⟩⟩
 rintro ex s' a5 w5 Y5 ⟨rfl,V5,rfl⟩ R5 S5;refine wp_seq ?_;refine wp_seq ?_;apply bm K0 S0 (pre:=[_,_,_,_,_,_]) (post:=[_]) (R:=R5) (M:=λs'=>∃V',s'=⟨al ((61,.ab fl [e])::(66,.an id ep (i+1) (len+1 - (i+1)))::[(0,.an id ep 0 (len+1)),(1,.int .i64 (i:Int)),(2,.ab fl [e]),(7,.int .i64 1)]) V',h⟩) (M2:=λs'=>∃V',s'=⟨al ((68,.bool true)::[(0,.an id ep 0 (len+1)),(1,.int .i64 (i:Int)),(2,.ab fl [e]),(7,.int .i64 1)]) V',h⟩)
 rfl
 rfl
 ·refine wC ?_;apply R.slice;exact rfl;exact rfl;exact rfl;exact rfl
  ·show bO C0.P h 132 (.an id ep 0 (len+1)) (some (.int .i64 ((i:Int)+1))) none none=_;rw[qd];exact bV hu ez hg (by omega) (by omega)
  refine wC ?_;exact⟨_,St.aB ⟨rfl,rfl,rfl,rfl,rfl,rfl,trivial⟩⟩
 ·rintro s1 a6 w6 Y6 ⟨V6,rfl⟩ R6 S6;refine⟨.bool false,h,mG (t:=31) (tR:=4) (x:=.tmp 61) (y:=.tmp 66) (f:=281) R6.hr R6.er (aY (T6.cI 31 _ rfl)) na (cC (t:=61) rfl V6) (cC (t:=66) rfl V6) hg hm (by omega) Tryz.func281 (by kernel_rfl) (by kernel_rfl) (by kernel_rfl) (by kernel_rfl) _ rfl,?_⟩;show ag C0 _ _ ⟨bh (al _ V6) (some 67) (.bool false),h⟩ _;rw[bd];refine wC ?_;exact⟨_,St.aB ⟨rfl,rfl,rfl,rfl,rfl,trivial⟩⟩
 rintro s7 a7 w7 Y7 ⟨V7,rfl⟩ R7 S7;obtain⟨ys,ms⟩:∃ys,ys=((pre++[X]).drop i).take (pre.length+1 - i):=⟨_,rfl⟩;obtain⟨cS,ko⟩:∃cS,cS=(pre++[X]).take (i+1)++ys.take (pre.length - i)++(pre++[X]).drop (i+1+(pre.length - i)):=⟨_,rfl⟩;obtain⟨l1,l2,l3⟩:=rE (e:=e) (by omega) ms ko;rw[qA]at l1 l2;have Lq:ys.length=len+1 - i:=by rw[ms];simp;omega
 have DT:∀v∈ys,(cells v).length=4:=by
  intro v hv
  rw[ms]at hv;have:=Ug (Un hv);rcases TP.1 this with hv |hv
  ·have:=TH.1 eO v hv;unfold jB at this;simp only[TK,decide_eq_true_eq]at this;exact this.1.2
  ·obtain rfl:=Ua.1 hv;exact hX
 have vt:(cells e).length=4/\(cells e).all aZ=true:=by
  unfold jB at he;simp only[TK,decide_eq_true_eq]at he;exact⟨he.1.2,he.2⟩
 have DP:min ys.length (len+1 - (i+1))=len - i:=by omega
 have tF:h.set id {o with es:=o.es.take (i+1)++ys.take (min ys.length (len+1 - (i+1)))++o.es.drop (i+1+min ys.length (len+1 - (i+1)))}=h.set id {o with es:=cS}:=by
  rw[DP,h9,ko,qA]
 have Fl:getM (h.set id {o with es:=cS}) id ep=some {o with es:=cS}:=bo (TM cx) g2 (by show o.mu≠.x;rw[hm];simp);have rD:min ([e]:List PV).length (len+1 - i)=1:=by show min 1 _=1;omega
 have rF:(h.set id {o with es:=cS}).set id {({o with es:=cS}:aC)with es:=cS.take i++[e].take (min ([e]:List PV).length (len+1 - i))++cS.drop (i+min ([e]:List PV).length (len+1 - i))}=h.set id {o with es:=pre.take i++[e]++pre.drop i}:=by
  rw[UM,rD,<-l3];rfl
 refine bG K0 bj S0 (M:=λex s'=>ex=.ret/\∃V',s'=⟨al [(6,.an id ep 0 (len+1))] V',h.set id {o with es:=pre.take i++[e]++pre.drop i}⟩) rfl ?_ R7 ?_
 ·refine wC ?_;apply D.slice;exact eJ;exact rfl;exact lE;exact rfl;exact rfl;exact rfl;exact rfl;exact rfl;exact rfl
  ·show bO C0.P h 132 (.an id ep 0 (len+1)) (some (.int .i64 ((i:Int)+1))) none none=_;rw[qd];exact bV hu ez hg (by omega) (by omega)
  refine wC ?_;apply D.slice;exact eJ;exact rfl;exact lE;exact rfl;exact rfl;exact rfl;exact rfl;exact rfl;exact rfl;exact bV hu ez hg (by omega) (by omega);apply D.copy T6 (ys:=ys) (o:=o) (sz:=4);exact rfl;exact rfl;exact rfl;exact rfl;exact rfl
  ·simp only[bC,hg];rw[if_pos (by omega),h9,ms,qA]
  exact hg;exact hm;exact hz;omega
  ·rw[TH]
   intro v hv
   simp[DT v hv]
  ·rw[DP,l1,TH]
   intro v hv
   have:=TH.1 eO v (Ug hv);unfold jB at this;simp only[TK]at this ⊢;exact⟨this.1.2,this.2⟩
  refine bw.heap tF ?_;refine wC ?_;apply R.slice;exact rfl;exact rfl;exact rfl;exact rfl;exact bV (o:={o with es:=cS}) hu ez Fl (by omega) (by show len+1<=cS.length;omega);refine wC ?_;apply R.copy T6 (ys:=[e]) (o:={o with es:=cS}) (sz:=4);exact rfl;exact rfl;exact rfl;exact rfl;exact rfl;exact Fl;exact hm;exact hz;show i+(len+1 - i)<=cS.length;omega;simp[vt.1];simp only[rD,UX,Vh,U6,Vw,vt.1,vt.2];rfl;refine wC ?_;exact⟨rfl,_,(congrArg (λhh=>(⟨_,hh⟩:St)) rF).trans (St.aB ⟨rfl,trivial⟩)⟩
 rintro ex s8 a8 w8 Y8 ⟨rfl,V8,rfl⟩ R8 S8;refine⟨.inr rfl,_,Y8,R8,(((((S1.trans S3).trans S4).trans S5).trans S7).trans S8),[.an id ep 0 (len+1)],?_,λu Jo=>⟨Y8,Jo,R8.hr,(((((S1.trans S3).trans S4).trans S5).trans S7).trans S8)⟩⟩;exact cX (L:=[(6,.an id ep 0 (len+1))]) rfl
 all_goals rfl
theorem rB{h:aa}{id ep len i:Nat}{o:aC}{bc:Nat×Nat}{fl:Bool}{e:PV}{vs:List Value}(H:aG w F Y h)(ha:L2 (ar w (Av F h Y) Y h) vs [.an id ep 0 len,.int .i64 (i:Int),.ab fl [e]])
  (hg:getM h id ep=some o) (hz:o.aP=4) (hle:len<=o.es.length) (j3:Y[id]?=some bc) (oB:bc.2<len+1) (hi:i<len) (hn:len<100000000) (eO:(o.es.take len).all (jB 4)=true) (he:jB 4 e=true) (eJ:aL h=true):
  jC C0.P 2 w F Y h 215 vs (.an h.length 0 0 (len+1)) (h++[⟨.m,0,4,(o.es.take len).take i++[e]++(o.es.take len).drop i⟩]):=by
 have hu:C0.P.underlying 132=some (.slice 33):=aY (T6.cI 132 _ rfl);have na:bI C0.P 33=some 4:=T6.dF 33 4 rfl;have ez:bI C0.P 33=some o.aP:=by rw[hz];exact na
 obtain⟨g1,g2,g3⟩:=getM_some hg;have cx:=ae g1;have hj:((i:Int)+1)=((i+1:Nat):Int):=by omega
 have Ln:((len:Int)+1 - (i:Int))=((len+1 - i:Nat):Int):=by omega
 have mz:i+(len+1 - i)=len+1:=by omega
 have ew:∀{w':World} {Y':List (Nat×Nat)},cP w h Y w' h Y'->Y'[id]?=some bc:=by
  intro w' Y' S
  obtain⟨o',bW,f1,f2,f3,f4,f5⟩:=S.refs id o bc g1 j3 g3;obtain rfl:=TF (g1.symm.trans f1);rw[f2,(f5 rfl).2.2]
 obtain⟨kr,zh⟩:∃kr,kr=o.es.take i++List.replicate (len+1 - i) (.agg [.int .i64 0,.str ByteArray.empty,.int .i64 0,.ab true []]:PV):=⟨_,rfl⟩;obtain⟨cS,ko⟩:∃cS,cS=kr.take i++[e]++kr.drop (i+1):=⟨_,rfl⟩;obtain⟨ys,ms⟩:∃ys,ys=(o.es.drop i).take (len - i):=⟨_,rfl⟩;obtain⟨l1,l2,l3,l4,l5⟩:=ug hi hle zh ko ms
 have vt:(cells e).length=4/\(cells e).all aZ=true/\aJ e=true:=by
  unfold jB at he;simp only[TK,decide_eq_true_eq]at he;exact⟨he.1.2,he.2,he.1.1⟩
 have yV:ys.all (jB 4)=true:=by
  rw[l4,TH]
  intro v hv
  exact TH.1 eO v (Ug hv)
 have Ge:au kr=true:=by
  rw[zh,bp,VO,<-bp]
  have:au (o.es.take i)=true:=by
   refine lK (sz:=4) ?_;rw[TH]
   intro v hv
   refine TH.1 eO v ?_;have:o.es.take i=(o.es.take len).take i:=by rw[UI];congr 1;omega
   rw[this]at hv;exact Un hv
  rw[this,VV,TH]
  intro v hv
  obtain rfl:=Va hv
  rfl
 have yy:au cS=true:=by
  rw[bp,TH]at Ge ⊢
  intro v hv
  rw[ko]at hv;rcases TP.1 hv with hv |hv
  ·rcases TP.1 hv with hv |hv
   ·exact Ge v (Un hv)
   ·obtain rfl:=Ua.1 hv;exact vt.2.2
  exact Ge v (Ug hv)
 have DM:aL (h++[⟨.m,0,4,cS⟩])=true:=pO yy eJ;have CG:∀es,getM (h++[⟨.m,0,4,es⟩]) h.length 0=some ⟨.m,0,4,es⟩:=λes=>AM (o:=⟨.m,0,4,es⟩) (by simp)
 have LY:∀es,getM (h++[⟨.m,0,4,es⟩]) id ep=some o:=λes=>gf hg
 have lE:∀es,aI (h++[⟨.m,0,4,es⟩]) id=true:=λes=>by unfold aI;rw[TG cx,g1];simpa using g3
 have DN:∀es,aI (h++[⟨.m,0,4,es⟩]) h.length=true:=λes=>by unfold aI;simp
 refine ga (P:=C0.P) (c:=DO) Tryz.func215 rC H ha (λa RR=>nP hg hz (by omega) hi hn rfl RR (λa1 w1 Y1 V1 R1 S1=>?_));refine wp_seq ?_;refine wp_seq ?_;apply bm K0 S0 (pre:=[_,_,_,_]) (post:=[_]) (R:=R1) (M:=λs'=>∃V',s'=⟨al ((28,.int .i64 ((len:Int)+1))::(29,.an id ep 0 len)::[(0,.an id ep 0 len),(1,.int .i64 (i:Int)),(2,.ab fl [e]),(7,.int .i64 1),(8,.int .i64 (len:Int))]) V',h⟩) (M2:=λs'=>∃V',s'=⟨al ((31,.bool true)::[(0,.an id ep 0 len),(1,.int .i64 (i:Int)),(2,.ab fl [e]),(7,.int .i64 1),(8,.int .i64 (len:Int))]) V',h⟩)
 rfl
 rfl
 ·refine wC ?_;exact⟨_,St.aB ⟨rfl,rfl,rfl,rfl,rfl,rfl,rfl,trivial⟩⟩
 ·rintro s1 a2 w2 Y2 ⟨V2,rfl⟩ R2 S2;refine⟨.int .i64 (bc.2:Int),h,nQ (t:=132) (x:=.tmp 29) R2.hr R2.er hu (cC (t:=29) rfl V2) hg (ew (S1.trans S2)) (by omega) _ rfl,?_⟩;show ag C0 _ _ ⟨bh (al _ V2) (some 30) (.int .i64 (bc.2:Int)),h⟩ _;rw[bd];refine wF λhc=>?_;exact⟨_,St.aB ⟨rfl,rfl,rfl,rfl,rfl,rfl,trivial⟩⟩
 rintro s3 a3 w3 Y3 ⟨V3,rfl⟩ R3 S3
 have Jn:a3.eval (.tmp 31)=.bool true:=by
  have:=R3.er.ev R3.hr.di (.tmp 31);rw[show ev (al ((31,PV.bool true)::[(0,.an id ep 0 len),(1,.int .i64 (i:Int)),(2,.ab fl [e]),(7,.int .i64 1),(8,.int .i64 (len:Int))]) V3) (.tmp 31)=.bool true from cC (t:=31) rfl V3]at this;exact this.dN
 refine wp_cond_true Jn ?_;refine wp_seq ?_;apply bm K0 S0 (pre:=[_,_,_,_,_,_,_,_]) (post:=[_]) (R:=R3) (M:=λs'=>∃V',s'=⟨al ((34,.an id ep 0 i)::(39,.int .i64 ((len:Int)+1 - (i:Int)))::[(0,.an id ep 0 len),(1,.int .i64 (i:Int)),(2,.ab fl [e]),(7,.int .i64 1),(8,.int .i64 (len:Int))]) V',h⟩) (M2:=λs'=>∃V',s'=⟨al ((9,.an h.length 0 0 (len+1))::[(0,.an id ep 0 len),(1,.int .i64 (i:Int)),(2,.ab fl [e]),(7,.int .i64 1),(8,.int .i64 (len:Int))]) V',h++[⟨.m,0,4,kr⟩]⟩)
 case ho=>rfl
 case hg=>rfl
 ·refine wC ?_;apply R.slice;exact rfl;exact rfl;exact rfl;exact rfl;exact oL hu ez hg (by omega) hle;refine wC ?_;exact⟨_,St.aB ⟨rfl,rfl,rfl,rfl,rfl,rfl,rfl,trivial⟩⟩
 ·rintro s1 a4 w4 Y4 ⟨V4,rfl⟩ R4 S4;have os:=pP (P:=C0.P) (st:=132) (xt:=3) (el:=33) (x:=.tmp 34) (y:=.tmp 39) (k:=.i64) (n:=len+1 - i) (len:=i) R4.hr R4.er hu (nb (T6.cI 3 _ rfl)) na (by decide) (T6.tT 33 _ rfl) (by decide) (T6.mC 33 (.agg [.int .i64 0,.str ByteArray.empty,.int .i64 0,.ab true []]) rfl) rfl rfl (cC (t:=34) rfl V4) (by rw[<-Ln];exact cC (t:=39) rfl V4) hg (ew ((S1.trans S3).trans S4)) (by omega) hz (by omega) (by omega);rw[mz,<-zh]at os;refine⟨.an h.length 0 0 (len+1),h++[⟨.m,0,4,kr⟩],os _ rfl,?_⟩;show ag C0 _ _ ⟨bh (al _ V4) (some 40) (.an h.length 0 0 (len+1)),_⟩ _;rw[bd];refine wC ?_;exact⟨_,St.aB ⟨rfl,rfl,rfl,rfl,rfl,rfl,trivial⟩⟩
 rintro s5 a5 w5 Y5 ⟨V5,rfl⟩ R5 S5;have DP:min ([e]:List PV).length (len+1 - i)=1:=by show min 1 _=1;omega
 have rD:min ys.length (len+1 - (i+1))=len - i:=by omega
 have LZ:ys.take (len - i)=ys:=Ub (by omega)
 have tF:(h++[⟨.m,0,4,kr⟩]:aa).set h.length {(⟨.m,0,4,kr⟩:aC)with es:=kr.take i++[e].take (min ([e]:List PV).length (len+1 - i))++kr.drop (i+min ([e]:List PV).length (len+1 - i))}=h++[⟨.m,0,4,cS⟩]:=by
  rw[DP,set_push,ko];rfl
 have OF:(h++[⟨.m,0,4,cS⟩]:aa).set h.length {(⟨.m,0,4,cS⟩:aC)with es:=cS.take (i+1)++ys.take (min ys.length (len+1 - (i+1)))++cS.drop (i+1+min ys.length (len+1 - (i+1)))}=h++[⟨.m,0,4,(o.es.take len).take i++[e]++(o.es.take len).drop i⟩]:=by
  rw[rD,set_push,LZ,l5]
 refine bG K0 bj S0 (M:=λex s'=>ex=.ret/\∃V',s'=⟨al [(6,.an h.length 0 0 (len+1))] V',h++[⟨.m,0,4,(o.es.take len).take i++[e]++(o.es.take len).drop i⟩]⟩) rfl ?_ R5 ?_
 ·refine wC ?_;apply R.slice;exact rfl;exact rfl;exact rfl;exact rfl;exact bV hu na (CG kr) (by omega) (by show len+1<=kr.length;omega);refine wC ?_;apply R.copy T6 (ys:=[e]) (o:=⟨.m,0,4,kr⟩) (sz:=4);exact rfl;exact rfl;exact rfl;exact rfl;exact rfl;exact CG kr;exact rfl;exact rfl;show i+(len+1 - i)<=kr.length;omega;simp[vt.1];simp only[DP,UX,Vh,U6,Vw,vt.1,vt.2.1];rfl;rw[tF];refine wC ?_;apply D.slice;exact DM;exact rfl;exact DN cS;exact rfl;exact rfl;exact rfl;exact rfl;exact rfl;exact rfl
  ·show bO C0.P _ 132 (.an h.length 0 0 (len+1)) (some (.int .i64 ((i:Int)+1))) none none=_;rw[hj];exact bV hu na (CG cS) (by omega) (by show len+1<=cS.length;omega)
  refine wC ?_;apply D.slice;exact DM;exact rfl;exact lE cS;exact rfl;exact rfl;exact rfl;exact rfl;exact rfl;exact rfl;exact bV hu ez (LY cS) hi hle;apply D.copy T6 (ys:=ys) (o:=⟨.m,0,4,cS⟩) (sz:=4);exact rfl;exact rfl;exact rfl;exact rfl;exact rfl
  ·simp only[bC,LY];rw[if_pos (by omega),ms]
  exact CG cS;exact rfl;exact rfl;show i+1+(len+1 - (i+1))<=cS.length;omega
  ·rw[TH]
   intro v hv
   have:=TH.1 yV v hv;unfold jB at this;simp only[TK]at this;exact this.1.2
  ·rw[rD,LZ,TH]
   intro v hv
   have:=TH.1 yV v hv;unfold jB at this;simp only[TK]at this ⊢;exact⟨this.1.2,this.2⟩
  refine bw.heap OF ?_;refine wC ?_;exact⟨rfl,_,St.aB ⟨rfl,trivial⟩⟩
 rintro ex s8 a8 w8 Y8 ⟨rfl,V8,rfl⟩ R8 S8;have SS:=(((S1.trans S3).trans S5).trans S8);refine⟨.inr rfl,_,Y8,R8,SS,[.an h.length 0 0 (len+1)],?_,λu Jo=>⟨Y8,Jo,R8.hr,SS⟩⟩;exact cX (L:=[(6,.an h.length 0 0 (len+1))]) rfl
 all_goals rfl
theorem xk:cW C0.P 215 ll:=by
 intro args h r h' e w F Y vs H ha
 unfold ll at e
 split at e
 ·rename_i i fl e1
  split at e
  ·rename_i hc
   obtain⟨rfl,he⟩:=hc;obtain⟨rfl,rfl⟩:=TL (TF e);exact iz (nB rfl) (o8 he) H ha
  cases e
 ·rename_i id ep len i fl e1
  split at e
  ·rename_i o hg
   split at e
   ·rename_i hc
    obtain⟨hm,hz,hle,Lt,hi,hn,he,eO,eJ⟩:=hc;obtain⟨rfl,rfl⟩:=TL (TF e);obtain⟨k,rfl⟩:=UU Lt;have hk:k<=len:=by omega
    rw[show Int.toNat (k:Int)=k from rfl];obtain⟨g1,g2,g3⟩:=getM_some hg;have cx:=ae g1;obtain⟨bc,j3⟩:=cm H.len g1;have qA:(o.es.take len).length=len:=by simp;omega
    by_cases Bk:k=len
    ·subst Bk
     have rF:(o.es.take k).take k++[e1]++(o.es.take k).drop k=o.es.take k++[e1]:=by
      rw[UI,Nat.min_self,Uf (by omega),Uc]
     rw[rF];exact iz (nB rfl) (o9 he hg hm hz hle hn) H ha
    ·have fv:k<len:=by omega
     by_cases gS:len+1<=bc.2
     ·-- there is room
      have OO:(cells (PV.agg [.any,.any,.any,.any])).length=4:=rfl
      obtain⟨Hp,Sp⟩:=H.kq g1 j3 hm (o.es.take len++[.agg [.any,.any,.any,.any]]) (ep+1) (by omega) (by simp;omega) (λi e he=>by
       rcases T8 i len with mV |mV
       ·left
        rw[TG (by omega),TX,if_pos mV]at he;exact he
       ·right
        rw[TQ (by omega)]at he;obtain rfl:=Ua.1 (TU he);refine⟨by rw[OO,hz],λp hp=>?_⟩;simp only[cells]at hp;simpa using hp)
      have rG:(h.set id {o with es:=o.es.take len++[.agg [.any,.any,.any,.any]],ep:=ep+1})[id]?=some {o with es:=o.es.take len++[.agg [.any,.any,.any,.any]],ep:=ep+1}:=TM cx
      have Js:aL (h.set id {o with es:=o.es.take len++[.agg [.any,.any,.any,.any]],ep:=ep+1})=true:=by
       refine jt (h:=h) (λi hi=>?_) (λo' h1=>?_) eJ
       ·unfold aI at hi ⊢
        by_cases Gh:i=id
        ·subst Gh;rw[rG];simp[hm]
        rw[TN (Um Gh)];exact hi
       ·rcases U9 h1 with h1 |rfl
        ·exact .inr (.inr ⟨o',h1,rfl,λhh=>hh⟩)
        ·exact .inr (.inl (oZ (cf _ _ (lK eO)) rfl))
      have sS:L2 (ar w (Av F (h.set id {o with es:=o.es.take len++[.agg [.any,.any,.any,.any]],ep:=ep+1}) Y) Y (h.set id {o with es:=o.es.take len++[.agg [.any,.any,.any,.any]],ep:=ep+1})) vs [.an id (ep+1) 0 len,.int .i64 (k:Int),.ab fl [e1]]:=
       gi ha (λv hv=>ar.kq g1 j3 hm hv g2 hle _ _) (λv hv=>hv.mono Sp) (λv hv=>hv.mono Sp)
      have cs:=oY (o:={o with es:=o.es.take len++[.agg [.any,.any,.any,.any]],ep:=ep+1}) (X:=.agg [.any,.any,.any,.any]) (pre:=o.es.take len) Hp sS (bo rG rfl (by show o.mu≠.x;rw[hm];simp)) hm hz rfl qA fv hn eO rfl he Js;refine cs.mono ?_;rintro en w' ⟨v,Y1,rfl,q1,q2,q3,_⟩;rw[UM]at q1 q2 q3;exact⟨v,Y1,rfl,q1,q2,Sp.trans q3,λhh=>by omega⟩
     ·-- all is made anew
      obtain⟨p1,p2,p3,p4,p5,p6⟩:=aO o;have gl:getM (h.map bB) id ep=some (bB o):=bo (by rw[TS,g1];rfl) (by rw[p1];exact g2) (λhh=>g3 (p4.1 hh));have Gi:∀b,Av (Av F h Y) (h.map bB) Y b->Av F h Y b:=λb hb=>hb.elim (λhh=>hh) (λhm=>absurd hm (gj h Y b))
      have cs:=rB (o:=bB o) (bc:=bc) H.lock (gi ha (λv hv=>hv.alike (eH h) Gi) (λv hv=>hv.alike (eH h) Gi) (λv hv=>hv.alike (eH h) Gi)) gl (by rw[p2];exact hz) (by rw[p3];exact hle) j3 (by omega) fv hn (by rw[p3];exact eO) he (pN eJ);rw[p3,U2]at cs;refine cs.mono ?_;rintro en w' ⟨v,Y1,rfl,q1,q2,q3,_⟩;obtain⟨kO,zk⟩:∃kO,kO=(o.es.take len).take k++[e1]++(o.es.take len).drop k:=⟨_,rfl⟩;rw[<-zk]at q1 q2 q3 ⊢;have Ff:kO.length=len+1:=by rw[zk];simp;omega
      have Jt:kO.all (jB 4)=true:=by
       rw[TH]at eO ⊢
       intro x hx
       rw[zk]at hx;rcases TP.1 hx with hx |hx
       ·rcases TP.1 hx with hx |hx
        ·exact eO x (Un hx)
        ·obtain rfl:=Ua.1 hx;exact he
       exact eO x (Ug hx)
      have enew:(h.map bB++[(⟨.m,0,4,kO⟩:aC)])[h.length]?=some ⟨.m,0,4,kO⟩:=by
       rw[TQ (by simp)];simp
      obtain⟨bn,oq⟩:=cm q2.len enew;have mnew:Mb (h.map bB++[⟨.m,0,4,kO⟩]) Y1 bn.1:=⟨h.length,_,bn,enew,oq,rfl,rfl⟩;obtain⟨T,oC,k1,k2,k3,k4,k5⟩:=(q2.obj h.length _ bn enew oq (by simp)).c (by simp)
      have uU:w.heap.size<=bn.1:=by
       rcases T8 bn.1 w.heap.size with hh |hh;exact absurd (q3.shr bn.1 hh mnew) (gj h Y bn.1);exact hh
      have hA:∀b,Av F (h.set id {o with es:=kO,ep:=ep+1}) (Y.set id bn) b->Av (Av F h Y) (h.map bB++[⟨.m,0,4,kO⟩]) Y1 b:=by
       rintro b (hb |⟨cz,o',bW,By,Bz,Kx,L4⟩);exact .inl (.inl hb)
       ·by_cases bE:cz=id
        ·subst bE;rw[TM (by rw[H.len];exact cx)]at Bz;obtain rfl:=TF Bz;rw[<-L4];exact .inr mnew
        ·rw[TN (Um bE)]at By Bz;exact .inl (.inr ⟨cz,o',bW,By,Bz,Kx,L4⟩)
      obtain⟨HH,SS⟩:=H.DS (w':=w') g1 j3 hm T oC kO (ep+1) bn q3.size k1 (λb hb=>q3.aB b hb (gj h Y b)) uU (by omega) q3.os q3.tape q3.output k2 (by rw[hz];exact k3) (λi e L8=>by
       obtain⟨m1,m2⟩:=k5 i e L8;refine⟨by rw[hz];exact m1,λj p hp=>?_⟩;obtain⟨u,n1,n2⟩:=m2 j p hp
       have hv:aJ e=true:=by
        have:=TH.1 Jt e (TU L8);unfold jB at this;simp only[TK]at this;exact this.1.1
       exact⟨u,by rw[hz];exact n1,n2.AN (Bb hv p (TU hp)) hA⟩) q3.drawn
      obtain⟨_,_,m3⟩:=q1.cO;obtain⟨cap,c1,c2⟩:=m3 _ bn enew oq (by simp) rfl (by show 0+(len+1)<=kO.length;omega);refine⟨v,Y.set id bn,rfl,?_,HH,SS,λhh=>by omega⟩;refine .an v id (ep+1) 0 (len+1) {o with es:=kO,ep:=ep+1} bn ⟨_,_,_,c1⟩ (TM cx) (TM (by rw[H.len];exact cx)) (by show o.mu≠.x;rw[hm];simp) ⟨TI _,by show 0<o.aP;omega⟩ (λ_ _=>⟨cap,?_,c2⟩);rw[c1,UQ,UQ]
   cases e
  cases e
 cases e
end mF
end Go.Pm
namespace Go.Pm
variable[iD:Inhabited Prop]
open Go.Proofs
attribute [local irreducible] aA az aH aF Ev ag ai aD bw
variable{w:World}{F:Nat->Prop}{Y:List (Nat×Nat)}{h:aa}
namespace Zero
set_option maxRecDepth 100000
set_option maxHeartbeats 4000000
theorem Di{fl:Bool}{es:List PV}{vs:List Value}(H:aG w F Y h)(ha:L2 (ar w (Av F h Y) Y h) vs [.ab fl es])(h9:dw 4 es)(hn:es.length<1000000000){r:PV}{h':aa}
  (hr:(es=[]/\r=.ab true []/\h'=h)\/(es≠[]/\r=.an h.length 0 0 es.length/\h'=h++[⟨.m,0,4,es⟩])):jC C0.P 2 w F Y h 216 vs r h':=by
 refine ga (P:=C0.P) Tryz.func216 rfl H ha (λa RR=>?_);refine wp_seq ?_;refine bG K0 bj S0 (M:=λex s'=>ex=.normal/\∃V',s'=⟨al [(0,.ab fl es)] V',h⟩) rfl ?_ RR ?_
 ·rw[ek];refine wB ?_;exact⟨rfl,_,St.aB ⟨rfl,trivial⟩⟩
 rintro ex s' a1 w1 Y1 ⟨rfl,V1,rfl⟩ R1 S1;refine wp_seq ?_;refine wp_seq ?_;apply bm K0 S0 (pre:=[_]) (post:=[]) (R:=R1) (M:=λs'=>∃V',s'=⟨al [(0,.ab fl es),(3,.ab fl es)] V',h⟩) (M2:=λs'=>∃bb V',s'=⟨al [(0,.ab fl es),(4,.bool bb)] V',h⟩/\(bb=true->es=[]))
 rfl
 rfl
 ·refine wB ?_;exact⟨_,St.aB ⟨rfl,rfl,trivial⟩⟩
 ·rintro s1 a2 w2 Y2 ⟨V2,rfl⟩ R2 S2;obtain⟨bb,hb,os⟩:=gE (t:=132) (yt:=132) (el:=33) (x:=.tmp 3) (fl:=fl) (es:=es) R2.hr R2.er (aY (T6.cI 132 _ rfl)) (cC (L:=[(0,.ab fl es),(3,.ab fl es)]) (t:=3) rfl V2);refine⟨.bool bb,h,os _ rfl,ag.nil ⟨bb,al ((4,.bool bb)::[(0,.ab fl es),(3,.ab fl es)]) V2,?_,hb⟩⟩;show(⟨bh (al [(0,.ab fl es),(3,.ab fl es)] V2) (some 4) (.bool bb),h⟩:St)=_;rw[bd];exact St.aB ⟨rfl,rfl,trivial⟩
 rintro s3 a3 w3 Y3 ⟨bb,V3,rfl,hb⟩ R3 S3
 cases bb
 ·refine bG K0 bj S0 (M:=λex s'=>ex=.normal/\∃V',s'=⟨al [(0,.ab fl es)] V',h⟩) rfl ?_ R3 ?_
  ·refine wB ?_;exact⟨rfl,_,St.aB ⟨rfl,trivial⟩⟩
  rintro ex s' a4 w4 Y4 ⟨rfl,V4,rfl⟩ R4 S4;refine bG K0 bj S0 (M:=λex s'=>ex=.ret/\∃V',s'=⟨al [(2,r)] V',h'⟩) rfl ?_ R4 ?_
  ·refine wB ?_;rcases hr with⟨rfl,rfl,rfl⟩|⟨aU,rfl,rfl⟩
   ·apply R.jS T6;exact rfl;exact rfl;exact rfl;exact rfl;exact rfl;exact rfl;exact rfl;exact(by decide);exact rfl;exact rfl;refine wB ?_;exact⟨rfl,_,St.aB ⟨rfl,trivial⟩⟩
   ·apply R.gY T6;exact rfl;exact rfl;exact rfl;exact rfl;exact rfl;exact rfl;exact rfl;exact(by decide);exact rfl;exact rfl;exact h9;exact aU;exact hn;refine wB ?_;exact⟨rfl,_,St.aB ⟨rfl,trivial⟩⟩
  rintro ex s5 a5 w5 Y5 ⟨rfl,V5,rfl⟩ R5 S5;refine⟨.inr rfl,_,Y5,R5,((S1.trans S3).trans S4).trans S5,[r],?_,λu hu=>⟨Y5,hu,R5.hr,((S1.trans S3).trans S4).trans S5⟩⟩;exact cX (L:=[(2,r)]) rfl
 ·obtain rfl:=hb rfl;rcases hr with⟨_,rfl,rfl⟩|⟨aU,_⟩
  ·refine bG K0 bj S0 (M:=λex s'=>ex=.ret/\∃V',s'=⟨al [(2,.ab true [])] V',h'⟩) rfl ?_ R3 ?_
   ·refine wB ?_;exact⟨rfl,_,St.aB ⟨rfl,trivial⟩⟩
   rintro ex s5 a5 w5 Y5 ⟨rfl,V5,rfl⟩ R5 S5;refine⟨.inr rfl,_,Y5,R5,(S1.trans S3).trans S5,[.ab true []],?_,λu hu=>⟨Y5,hu,R5.hr,(S1.trans S3).trans S5⟩⟩;exact cX (L:=[(2,.ab true [])]) rfl
  exact absurd rfl aU
 rfl
end Zero
set_option maxRecDepth 100000
set_option maxHeartbeats 4000000
theorem yL:cW C.P 216 (bz 4):=by
 intro args h r h' e w F Y vs H ha
 unfold bz at e
 split at e
 ·rename_i fl es
  split at e
  ·rename_i rm
   obtain⟨rfl,rfl⟩:=TL (TF e);obtain rfl:es=[]:=by simpa using rm
   exact Zero.Di H ha rfl (by simp) (.inl ⟨rfl,rfl,rfl⟩)
  ·rename_i rm
   split at e
   ·rename_i hc
    obtain⟨rfl,rfl⟩:=TL (TF e);exact Zero.Di H ha hc.1 hc.2 (.inr ⟨by simpa using rm,rfl,rfl⟩)
   cases e
 cases e
namespace Zero
theorem Dj{fl:Bool}{es:List PV}{vs:List Value}(H:aG w F Y h)(ha:L2 (ar w (Av F h Y) Y h) vs [.ab fl es])(h9:dw 5 es)(hn:es.length<1000000000){r:PV}{h':aa}
  (hr:(es=[]/\r=.ab true []/\h'=h)\/(es≠[]/\r=.an h.length 0 0 es.length/\h'=h++[⟨.m,0,5,es⟩])):jC C0.P 2 w F Y h 370 vs r h':=by
 refine ga (P:=C0.P) Tryz.func370 rfl H ha (λa RR=>?_);refine wp_seq ?_;refine bG K0 bj S0 (M:=λex s'=>ex=.normal/\∃V',s'=⟨al [(0,.ab fl es)] V',h⟩) rfl ?_ RR ?_
 ·rw[ek];refine wB ?_;exact⟨rfl,_,St.aB ⟨rfl,trivial⟩⟩
 rintro ex s' a1 w1 Y1 ⟨rfl,V1,rfl⟩ R1 S1;refine wp_seq ?_;refine wp_seq ?_;apply bm K0 S0 (pre:=[_]) (post:=[]) (R:=R1) (M:=λs'=>∃V',s'=⟨al [(0,.ab fl es),(3,.ab fl es)] V',h⟩) (M2:=λs'=>∃bb V',s'=⟨al [(0,.ab fl es),(4,.bool bb)] V',h⟩/\(bb=true->es=[]))
 rfl
 rfl
 ·refine wB ?_;exact⟨_,St.aB ⟨rfl,rfl,trivial⟩⟩
 ·rintro s1 a2 w2 Y2 ⟨V2,rfl⟩ R2 S2;obtain⟨bb,hb,os⟩:=gE (t:=175) (yt:=175) (el:=187) (x:=.tmp 3) (fl:=fl) (es:=es) R2.hr R2.er (aY (T6.cI 175 _ rfl)) (cC (L:=[(0,.ab fl es),(3,.ab fl es)]) (t:=3) rfl V2);refine⟨.bool bb,h,os _ rfl,ag.nil ⟨bb,al ((4,.bool bb)::[(0,.ab fl es),(3,.ab fl es)]) V2,?_,hb⟩⟩;show(⟨bh (al [(0,.ab fl es),(3,.ab fl es)] V2) (some 4) (.bool bb),h⟩:St)=_;rw[bd];exact St.aB ⟨rfl,rfl,trivial⟩
 rintro s3 a3 w3 Y3 ⟨bb,V3,rfl,hb⟩ R3 S3
 cases bb
 ·refine bG K0 bj S0 (M:=λex s'=>ex=.normal/\∃V',s'=⟨al [(0,.ab fl es)] V',h⟩) rfl ?_ R3 ?_
  ·refine wB ?_;exact⟨rfl,_,St.aB ⟨rfl,trivial⟩⟩
  rintro ex s' a4 w4 Y4 ⟨rfl,V4,rfl⟩ R4 S4;refine bG K0 bj S0 (M:=λex s'=>ex=.ret/\∃V',s'=⟨al [(2,r)] V',h'⟩) rfl ?_ R4 ?_
  ·refine wB ?_;rcases hr with⟨rfl,rfl,rfl⟩|⟨aU,rfl,rfl⟩
   ·apply R.jS T6;exact rfl;exact rfl;exact rfl;exact rfl;exact rfl;exact rfl;exact rfl;exact(by decide);exact rfl;exact rfl;refine wB ?_;exact⟨rfl,_,St.aB ⟨rfl,trivial⟩⟩
   ·apply R.gY T6;exact rfl;exact rfl;exact rfl;exact rfl;exact rfl;exact rfl;exact rfl;exact(by decide);exact rfl;exact rfl;exact h9;exact aU;exact hn;refine wB ?_;exact⟨rfl,_,St.aB ⟨rfl,trivial⟩⟩
  rintro ex s5 a5 w5 Y5 ⟨rfl,V5,rfl⟩ R5 S5;refine⟨.inr rfl,_,Y5,R5,((S1.trans S3).trans S4).trans S5,[r],?_,λu hu=>⟨Y5,hu,R5.hr,((S1.trans S3).trans S4).trans S5⟩⟩;exact cX (L:=[(2,r)]) rfl
 ·obtain rfl:=hb rfl;rcases hr with⟨_,rfl,rfl⟩|⟨aU,_⟩
  ·refine bG K0 bj S0 (M:=λex s'=>ex=.ret/\∃V',s'=⟨al [(2,.ab true [])] V',h'⟩) rfl ?_ R3 ?_
   ·refine wB ?_;exact⟨rfl,_,St.aB ⟨rfl,trivial⟩⟩
   rintro ex s5 a5 w5 Y5 ⟨rfl,V5,rfl⟩ R5 S5;refine⟨.inr rfl,_,Y5,R5,(S1.trans S3).trans S5,[.ab true []],?_,λu hu=>⟨Y5,hu,R5.hr,(S1.trans S3).trans S5⟩⟩;exact cX (L:=[(2,.ab true [])]) rfl
  exact absurd rfl aU
 rfl
end Zero
theorem yM:cW C.P 370 (bz 5):=by
 intro args h r h' e w F Y vs H ha
 unfold bz at e
 split at e
 ·rename_i fl es
  split at e
  ·rename_i rm
   obtain⟨rfl,rfl⟩:=TL (TF e);obtain rfl:es=[]:=by simpa using rm
   exact Zero.Dj H ha rfl (by simp) (.inl ⟨rfl,rfl,rfl⟩)
  ·rename_i rm
   split at e
   ·rename_i hc
    obtain⟨rfl,rfl⟩:=TL (TF e);exact Zero.Dj H ha hc.1 hc.2 (.inr ⟨by simpa using rm,rfl,rfl⟩)
   cases e
 cases e
namespace Zero
theorem Dh{fl:Bool}{es:List PV}{vs:List Value}(H:aG w F Y h)(ha:L2 (ar w (Av F h Y) Y h) vs [.ab fl es])(h9:dw 5 es)(hn:es.length<1000000000){r:PV}{h':aa}
  (hr:(es=[]/\r=.ab true []/\h'=h)\/(es≠[]/\r=.an h.length 0 0 es.length/\h'=h++[⟨.m,0,5,es⟩])):jC C0.P 2 w F Y h 15 vs r h':=by
 refine ga (P:=C0.P) Tryz.func15 rfl H ha (λa RR=>?_);refine wp_seq ?_;refine bG K0 bj S0 (M:=λex s'=>ex=.normal/\∃V',s'=⟨al [(0,.ab fl es)] V',h⟩) rfl ?_ RR ?_
 ·rw[ek];refine wB ?_;exact⟨rfl,_,St.aB ⟨rfl,trivial⟩⟩
 rintro ex s' a1 w1 Y1 ⟨rfl,V1,rfl⟩ R1 S1;refine wp_seq ?_;refine wp_seq ?_;apply bm K0 S0 (pre:=[_]) (post:=[]) (R:=R1) (M:=λs'=>∃V',s'=⟨al [(0,.ab fl es),(3,.ab fl es)] V',h⟩) (M2:=λs'=>∃bb V',s'=⟨al [(0,.ab fl es),(4,.bool bb)] V',h⟩/\(bb=true->es=[]))
 rfl
 rfl
 ·refine wB ?_;exact⟨_,St.aB ⟨rfl,rfl,trivial⟩⟩
 ·rintro s1 a2 w2 Y2 ⟨V2,rfl⟩ R2 S2;obtain⟨bb,hb,os⟩:=gE (t:=22) (yt:=22) (el:=35) (x:=.tmp 3) (fl:=fl) (es:=es) R2.hr R2.er (aY (T6.cI 22 _ rfl)) (cC (L:=[(0,.ab fl es),(3,.ab fl es)]) (t:=3) rfl V2);refine⟨.bool bb,h,os _ rfl,ag.nil ⟨bb,al ((4,.bool bb)::[(0,.ab fl es),(3,.ab fl es)]) V2,?_,hb⟩⟩;show(⟨bh (al [(0,.ab fl es),(3,.ab fl es)] V2) (some 4) (.bool bb),h⟩:St)=_;rw[bd];exact St.aB ⟨rfl,rfl,trivial⟩
 rintro s3 a3 w3 Y3 ⟨bb,V3,rfl,hb⟩ R3 S3
 cases bb
 ·refine bG K0 bj S0 (M:=λex s'=>ex=.normal/\∃V',s'=⟨al [(0,.ab fl es)] V',h⟩) rfl ?_ R3 ?_
  ·refine wB ?_;exact⟨rfl,_,St.aB ⟨rfl,trivial⟩⟩
  rintro ex s' a4 w4 Y4 ⟨rfl,V4,rfl⟩ R4 S4;refine bG K0 bj S0 (M:=λex s'=>ex=.ret/\∃V',s'=⟨al [(2,r)] V',h'⟩) rfl ?_ R4 ?_
  ·refine wB ?_;rcases hr with⟨rfl,rfl,rfl⟩|⟨aU,rfl,rfl⟩
   ·apply R.jS T6;exact rfl;exact rfl;exact rfl;exact rfl;exact rfl;exact rfl;exact rfl;exact(by decide);exact rfl;exact rfl;refine wB ?_;exact⟨rfl,_,St.aB ⟨rfl,trivial⟩⟩
   ·apply R.gY T6;exact rfl;exact rfl;exact rfl;exact rfl;exact rfl;exact rfl;exact rfl;exact(by decide);exact rfl;exact rfl;exact h9;exact aU;exact hn;refine wB ?_;exact⟨rfl,_,St.aB ⟨rfl,trivial⟩⟩
  rintro ex s5 a5 w5 Y5 ⟨rfl,V5,rfl⟩ R5 S5;refine⟨.inr rfl,_,Y5,R5,((S1.trans S3).trans S4).trans S5,[r],?_,λu hu=>⟨Y5,hu,R5.hr,((S1.trans S3).trans S4).trans S5⟩⟩;exact cX (L:=[(2,r)]) rfl
 ·obtain rfl:=hb rfl;rcases hr with⟨_,rfl,rfl⟩|⟨aU,_⟩
  ·refine bG K0 bj S0 (M:=λex s'=>ex=.ret/\∃V',s'=⟨al [(2,.ab true [])] V',h'⟩) rfl ?_ R3 ?_
   ·refine wB ?_;exact⟨rfl,_,St.aB ⟨rfl,trivial⟩⟩
   rintro ex s5 a5 w5 Y5 ⟨rfl,V5,rfl⟩ R5 S5;refine⟨.inr rfl,_,Y5,R5,(S1.trans S3).trans S5,[.ab true []],?_,λu hu=>⟨Y5,hu,R5.hr,(S1.trans S3).trans S5⟩⟩;exact cX (L:=[(2,.ab true [])]) rfl
  exact absurd rfl aU
 rfl
end Zero
theorem yK:cW C.P 15 (bz 5):=by
 intro args h r h' e w F Y vs H ha
 unfold bz at e
 split at e
 ·rename_i fl es
  split at e
  ·rename_i rm
   obtain⟨rfl,rfl⟩:=TL (TF e);obtain rfl:es=[]:=by simpa using rm
   exact Zero.Dh H ha rfl (by simp) (.inl ⟨rfl,rfl,rfl⟩)
  ·rename_i rm
   split at e
   ·rename_i hc
    obtain⟨rfl,rfl⟩:=TL (TF e);exact Zero.Dh H ha hc.1 hc.2 (.inr ⟨by simpa using rm,rfl,rfl⟩)
   cases e
 cases e
namespace Zero
theorem Dg{fl:Bool}{es:List PV}{vs:List Value}(H:aG w F Y h)(ha:L2 (ar w (Av F h Y) Y h) vs [.ab fl es])(h9:dw 8 es)(hn:es.length<1000000000){r:PV}{h':aa}
  (hr:(es=[]/\r=.ab true []/\h'=h)\/(es≠[]/\r=.an h.length 0 0 es.length/\h'=h++[⟨.m,0,8,es⟩])):jC C0.P 2 w F Y h 16 vs r h':=by
 refine ga (P:=C0.P) Tryz.func16 rfl H ha (λa RR=>?_);refine wp_seq ?_;refine bG K0 bj S0 (M:=λex s'=>ex=.normal/\∃V',s'=⟨al [(0,.ab fl es)] V',h⟩) rfl ?_ RR ?_
 ·rw[ek];refine wB ?_;exact⟨rfl,_,St.aB ⟨rfl,trivial⟩⟩
 rintro ex s' a1 w1 Y1 ⟨rfl,V1,rfl⟩ R1 S1;refine wp_seq ?_;refine wp_seq ?_;apply bm K0 S0 (pre:=[_]) (post:=[]) (R:=R1) (M:=λs'=>∃V',s'=⟨al [(0,.ab fl es),(3,.ab fl es)] V',h⟩) (M2:=λs'=>∃bb V',s'=⟨al [(0,.ab fl es),(4,.bool bb)] V',h⟩/\(bb=true->es=[]))
 rfl
 rfl
 ·refine wB ?_;exact⟨_,St.aB ⟨rfl,rfl,trivial⟩⟩
 ·rintro s1 a2 w2 Y2 ⟨V2,rfl⟩ R2 S2;obtain⟨bb,hb,os⟩:=gE (t:=23) (yt:=23) (el:=38) (x:=.tmp 3) (fl:=fl) (es:=es) R2.hr R2.er (aY (T6.cI 23 _ rfl)) (cC (L:=[(0,.ab fl es),(3,.ab fl es)]) (t:=3) rfl V2);refine⟨.bool bb,h,os _ rfl,ag.nil ⟨bb,al ((4,.bool bb)::[(0,.ab fl es),(3,.ab fl es)]) V2,?_,hb⟩⟩;show(⟨bh (al [(0,.ab fl es),(3,.ab fl es)] V2) (some 4) (.bool bb),h⟩:St)=_;rw[bd];exact St.aB ⟨rfl,rfl,trivial⟩
 rintro s3 a3 w3 Y3 ⟨bb,V3,rfl,hb⟩ R3 S3
 cases bb
 ·refine bG K0 bj S0 (M:=λex s'=>ex=.normal/\∃V',s'=⟨al [(0,.ab fl es)] V',h⟩) rfl ?_ R3 ?_
  ·refine wB ?_;exact⟨rfl,_,St.aB ⟨rfl,trivial⟩⟩
  rintro ex s' a4 w4 Y4 ⟨rfl,V4,rfl⟩ R4 S4;refine bG K0 bj S0 (M:=λex s'=>ex=.ret/\∃V',s'=⟨al [(2,r)] V',h'⟩) rfl ?_ R4 ?_
  ·refine wB ?_;rcases hr with⟨rfl,rfl,rfl⟩|⟨aU,rfl,rfl⟩
   ·apply R.jS T6;exact rfl;exact rfl;exact rfl;exact rfl;exact rfl;exact rfl;exact rfl;exact(by decide);exact rfl;exact rfl;refine wB ?_;exact⟨rfl,_,St.aB ⟨rfl,trivial⟩⟩
   ·apply R.gY T6;exact rfl;exact rfl;exact rfl;exact rfl;exact rfl;exact rfl;exact rfl;exact(by decide);exact rfl;exact rfl;exact h9;exact aU;exact hn;refine wB ?_;exact⟨rfl,_,St.aB ⟨rfl,trivial⟩⟩
  rintro ex s5 a5 w5 Y5 ⟨rfl,V5,rfl⟩ R5 S5;refine⟨.inr rfl,_,Y5,R5,((S1.trans S3).trans S4).trans S5,[r],?_,λu hu=>⟨Y5,hu,R5.hr,((S1.trans S3).trans S4).trans S5⟩⟩;exact cX (L:=[(2,r)]) rfl
 ·obtain rfl:=hb rfl;rcases hr with⟨_,rfl,rfl⟩|⟨aU,_⟩
  ·refine bG K0 bj S0 (M:=λex s'=>ex=.ret/\∃V',s'=⟨al [(2,.ab true [])] V',h'⟩) rfl ?_ R3 ?_
   ·refine wB ?_;exact⟨rfl,_,St.aB ⟨rfl,trivial⟩⟩
   rintro ex s5 a5 w5 Y5 ⟨rfl,V5,rfl⟩ R5 S5;refine⟨.inr rfl,_,Y5,R5,(S1.trans S3).trans S5,[.ab true []],?_,λu hu=>⟨Y5,hu,R5.hr,(S1.trans S3).trans S5⟩⟩;exact cX (L:=[(2,.ab true [])]) rfl
  exact absurd rfl aU
 rfl
end Zero
theorem yJ:cW C.P 16 (bz 8):=by
 intro args h r h' e w F Y vs H ha
 unfold bz at e
 split at e
 ·rename_i fl es
  split at e
  ·rename_i rm
   obtain⟨rfl,rfl⟩:=TL (TF e);obtain rfl:es=[]:=by simpa using rm
   exact Zero.Dg H ha rfl (by simp) (.inl ⟨rfl,rfl,rfl⟩)
  ·rename_i rm
   split at e
   ·rename_i hc
    obtain⟨rfl,rfl⟩:=TL (TF e);exact Zero.Dg H ha hc.1 hc.2 (.inr ⟨by simpa using rm,rfl,rfl⟩)
   cases e
 cases e
theorem w9{a:Act}{V:Nat->PV}(H:aG w F Y h)(R:fc w (Av F h Y) Y h a V){t yt el:TypeId}{x:Operand}{id ep:Nat}{mu:Mu}{sz:Nat}{es:List PV}(hu:C0.P.underlying t=some (.slice el))(hx:ev V x=.an id ep 0 es.length)(he:h[id]?=some ⟨mu,ep,sz,es⟩):
  ∀o:Oper,o.op=.binOp .eql t x (.const (.slice none 0 0)) yt->qe C0.P 2 w F Y h (execOp a.eval o) (.bool false) h:=by
 have hv:=R.ev H.di x;rw[hx]at hv
 obtain⟨ad,cap,e1⟩:∃ad cap,a.eval x=.slice (some ad) es.length cap:=by
  generalize a.eval x=v at hv
  cases hv with
  |an v id ep off len o bc h1 h2 h3 h4 h5 h6=>
   rw[he]at h2;obtain rfl:=TF h2;obtain⟨cap,e,_⟩:=h6 rfl (by simp);exact⟨_,cap,e⟩
  |val hs=>cases hs
 intro o ho
 refine⟨.bool false,w,Y,.inl ?_,.val (.bool _),H,cP.refl w h Y,λ_=>cc.refl w⟩;obtain⟨d,op,ty,pos,af,g⟩:=o;simp only at ho;subst ho;have h2:a.eval (.const (.slice none 0 0))=.slice none 0 0:=rfl;have g1:(eqGuard .eql t x (.const (.slice none 0 0)) (.slice (some ad) es.length cap) (.slice none 0 0)).run C0.P w=.ok () w:=by simp[eqGuard]
 have g2:(binOp .eql t (.slice (some ad) es.length cap) (.slice none 0 0)).run C0.P w=.ok (.bool false) w:=by
  simp only[binOp];simp[run_equal_slice_nil w t el (some ad) es.length cap hu]
 simp only[execOp,e1,h2,Sem.run_bind,g1,g2,Result.andThen_ok,Sem.run_pure]
theorem R.Dk{C:bZ}(T:kM C.P){ops:Array Oper}{d:Nat}{ty:TypeId}{pos:String}{af:Array Edge}{r:List Oper}{V:Nat->PV}{L:List (Nat×PV)}{Q:St->Prop}{st xt el qf:TypeId}{sz iU id ep:Nat}{mu:Mu}{z:PV}{ys:List PV}{x y:Operand}(hx:dn L x=some (.ab true []))(hy:dn L y=some (.an id ep 0 ys.length))(he:h[id]?=some ⟨mu,ep,sz+1,ys⟩)(xa:mu≠.x)(hk:T.kd st=some (.sl el))(fv:T.kd xt=some (.sl qf))(hs:T.ts el=some (sz+1))(hb:T.tb el=some iU)(hz:T.tz el=some z)
  (fS:iU<=1000) (hl:(cells z).length=sz+1) (ho:(cells z).all aZ=true) (yi:dw (sz+1) ys) (aU:ys≠[]) (hn:ys.length<1000000000) (kk:ag C ops r ⟨al ((d,.an h.length 0 0 ys.length)::L) V,h++[⟨.m,0,sz+1,ys⟩]⟩ Q):
  ag C ops (⟨some d,.call ⟨.builtin .append,#[x,y],#[st,xt]⟩,ty,pos,af,none⟩::r) ⟨al L V,h⟩ Q:=by
 refine ag.fj (λrun=>?_) kk;have eE:bC h (.an id ep 0 ys.length)=some ys:=by simp[bC,getM,he,xa]
 have FV:ys.isEmpty=false:=by cases ys with |nil=>exact absurd rfl aU |cons=>rfl
 have sS:cg C.P 2 h st xt (.ab true []) (.an id ep 0 ys.length)=some (.an h.length 0 0 ys.length,h++[⟨.m,0,sz+1,ys⟩]):=by
  unfold cg;rw[aY (T.cI _ _ hk)];simp only[T.dF _ _ hs,T.tT _ _ hb,T.mC _ _ hz,cL,aY (T.cI _ _ fv),eE];unfold dw at yi;rw[if_pos ⟨by omega,by omega,⟨hl,ho⟩,yi⟩];simp[FV,nI hn fS,newObj]
 simp only[ak,aT,TT,T5,ah hx,ah hy,sS]
namespace Zero
theorem FW{id ep:Nat}{mu:Mu}{es:List PV}{vs:List Value}(H:aG w F Y h)(ha:L2 (ar w (Av F h Y) Y h) vs [.an id ep 0 es.length])(he:h[id]?=some ⟨mu,ep,8,es⟩)(xa:mu≠.x)(h9:dw 8 es)(hn:es.length<1000000000)(aU:es≠[]):
  jC C0.P 2 w F Y h 16 vs (.an h.length 0 0 es.length) (h++[⟨.m,0,8,es⟩]):=by
 refine ga (P:=C0.P) Tryz.func16 rfl H ha (λa RR=>?_);refine wp_seq ?_;refine bG K0 bj S0 (M:=λex s'=>ex=.normal/\∃V',s'=⟨al [(0,.an id ep 0 es.length)] V',h⟩) rfl ?_ RR ?_
 ·rw[ek];refine wB ?_;exact⟨rfl,_,St.aB ⟨rfl,trivial⟩⟩
 rintro ex s' a1 w1 Y1 ⟨rfl,V1,rfl⟩ R1 S1;refine wp_seq ?_;refine wp_seq ?_;apply bm K0 S0 (pre:=[_]) (post:=[]) (R:=R1) (M:=λs'=>∃V',s'=⟨al [(0,.an id ep 0 es.length),(3,.an id ep 0 es.length)] V',h⟩) (M2:=λs'=>∃V',s'=⟨al [(0,.an id ep 0 es.length),(4,.bool false)] V',h⟩)
 rfl
 rfl
 ·refine wB ?_;exact⟨_,St.aB ⟨rfl,rfl,trivial⟩⟩
 ·rintro s1 a2 w2 Y2 ⟨V2,rfl⟩ R2 S2;have os:=w9 (t:=23) (yt:=23) (el:=38) (x:=.tmp 3) R2.hr R2.er (aY (T6.cI 23 _ rfl)) (cC (L:=[(0,.an id ep 0 es.length),(3,.an id ep 0 es.length)]) (t:=3) rfl V2) he;refine⟨.bool false,h,os _ rfl,ag.nil ⟨al ((4,.bool false)::[(0,.an id ep 0 es.length),(3,.an id ep 0 es.length)]) V2,?_⟩⟩;show(⟨bh (al [(0,.an id ep 0 es.length),(3,.an id ep 0 es.length)] V2) (some 4) (.bool false),h⟩:St)=_;rw[bd];exact St.aB ⟨rfl,rfl,trivial⟩
 rintro s3 a3 w3 Y3 ⟨V3,rfl⟩ R3 S3;refine bG K0 bj S0 (M:=λex s'=>ex=.normal/\∃V',s'=⟨al [(0,.an id ep 0 es.length)] V',h⟩) rfl ?_ R3 ?_
 ·refine wB ?_;exact⟨rfl,_,St.aB ⟨rfl,trivial⟩⟩
 rintro ex s' a4 w4 Y4 ⟨rfl,V4,rfl⟩ R4 S4;refine bG K0 bj S0 (M:=λex s'=>ex=.ret/\∃V',s'=⟨al [(2,.an h.length 0 0 es.length)] V',h++[⟨.m,0,8,es⟩]⟩) rfl ?_ R4 ?_
 ·refine wB ?_;apply R.Dk T6;exact rfl;exact rfl;exact he;exact xa;exact rfl;exact rfl;exact rfl;exact rfl;exact rfl;exact(by decide);exact rfl;exact rfl;exact h9;exact aU;exact hn;refine wB ?_;exact⟨rfl,_,St.aB ⟨rfl,trivial⟩⟩
 rintro ex s5 a5 w5 Y5 ⟨rfl,V5,rfl⟩ R5 S5;refine⟨.inr rfl,_,Y5,R5,((S1.trans S3).trans S4).trans S5,[.an h.length 0 0 es.length],?_,λu hu=>⟨Y5,hu,R5.hr,((S1.trans S3).trans S4).trans S5⟩⟩;exact cX (L:=[(2,.an h.length 0 0 es.length)]) rfl
 rfl
end Zero
def mX(aP:Nat)(args:List PV)(h:aa):Option (PV×aa):=
 match args with
 |[.an id ep off len]=>match h[id]? with
  |some o=>if o.mu≠.x/\o.ep=ep/\o.aP=aP/\off=0/\len=o.es.length/\o.es≠[]/\o.es.all (λv=>decide ((cells v).length=aP)&& (cells v).all aZ)=true/\o.es.length<1000000000 then some (.an h.length 0 0 o.es.length,newObj h aP o.es)else none
  |none=>none
 |args=>bz aP args h
theorem yN:cW C.P 16 (mX 8):=by
 intro args h r h' e w F Y vs H ha
 unfold mX at e
 split at e
 ·rename_i id ep off len
  split at e
  ·rename_i o ho
   split at e
   ·rename_i hc
    obtain⟨rfl,rfl⟩:=TL (TF e);obtain⟨h1,rfl,h3,rfl,rfl,h6,h7,h8⟩:=hc;obtain⟨mu,ep,aP,es⟩:=o;simp only at *;subst h3;exact Zero.FW H ha ho h1 h7 h8 h6
   cases e
  cases e
 exact yJ _ _ _ _ e _ _ _ _ H ha
end Go.Pm
namespace Go.Pm
namespace bu
variable[iD:Inhabited Prop]
open Go.Proofs
set_option maxRecDepth 100000
abbrev Nw:=List PV->aa->Option (PV×aa)
def nW:List (FuncId×Nw):=[(161,lO),(215,ll),(216,bz 4),(370,bz 5),(15,bz 5),(16,mX 8)]
def ra(f:FuncId):Mode:=match nW.lookup f with |some g=>.cH g |none=>gA f
noncomputable def C:bZ:=⟨Go.Pm.C.P,ra⟩
noncomputable def T6:kM C.P:=Go.Pm.T6
theorem qS{α:Type}{l:List (Nat×α)}{f:Nat}{g:α}(h:l.lookup f=some g):(f,g)∈l:=by
 induction l with
 |nil=>cases h
 |cons x l ih=>
  obtain⟨a,b⟩:=x;simp only[List.lookup]at h
  split at h
  ·rename_i he
   obtain rfl:=TF h;rw[eq_of_beq he];simp
  exact List.mem_cons_of_mem _ (ih h)
theorem fJ(f:FuncId):(∃g,(f,g)∈nW/\ra f=.cH g)\/ra f=gA f:=by
 unfold ra
 cases h:nW.lookup f with
 |none=>exact .inr rfl
 |some g=>exact .inl ⟨g,qS h,rfl⟩
theorem D7(x:FuncId×Nw)(h:x∈nW):gA x.1=.no:=by
 simp only[nW,TW,UE,or_false]at h
 repeat' (first |(rcases h with rfl |h)|subst h |fail)
 all_goals rfl
theorem BN(x:FuncId×Nw)(h:x∈nW):cW C.P x.1 x.2:=by
 simp only[nW,TW,UE,or_false]at h
 repeat' (first |(rcases h with rfl |h)|subst h |fail)
 all_goals first |exact D8 |exact mF.xk |exact yL |exact yM |exact yK |exact yN
theorem D9 (x : FuncId × Nw) (h : x ∈ nW) : ∃ fn, C.P.funcs[x.1]? = some fn ∧ fn.body.isSome = true ∧ (fn.name == "runtime.NumGoroutine") = false := by
 simp only[nW,TW,UE,or_false]at h
 repeat' (first |(rcases h with rfl |h)|subst h |fail)
 all_goals first
  |exact⟨_,Tryz.func161,by kernel_rfl,by kernel_rfl⟩
  |exact⟨_,Tryz.func215,by kernel_rfl,by kernel_rfl⟩
  |exact⟨_,Tryz.func216,by kernel_rfl,by kernel_rfl⟩
  |exact⟨_,Tryz.func370,by kernel_rfl,by kernel_rfl⟩
  |exact⟨_,Tryz.func15,by kernel_rfl,by kernel_rfl⟩
  |exact⟨_,Tryz.func16,by kernel_rfl,by kernel_rfl⟩
theorem Ml:tw gA ra:=λf=>by
 rcases fJ f with⟨g,h,_⟩|h;exact .inl (D7 _ h);exact .inr h.symm
theorem _root_.Go.Pm.aW.nine{f:FuncId}{args:List PV}{r:PV}(a:aW Go.Pm.C f args r):aW C f args r:=aW.up Ml a
theorem fw:cj C where
 enters f hf aU:=by
  rcases fJ f with⟨g,h,_⟩|h;exact D9 _ h;exact rH.enters f (λh2=>hf (h.trans h2)) (λg h2=>aU g (h.trans h2))
 kX f g hh:=by
  rcases fJ f with⟨g',_,h⟩|h
  cases h.symm.trans hh
  exact rH.kX f g (h.symm.trans hh)
 cH f g hh:=by
  rcases fJ f with⟨g',h1,h⟩|h
  ·obtain rfl:=Mode.cH.inj (h.symm.trans hh);exact BN _ h1
  exact rH.cH f g (h.symm.trans hh)
 ext f g hh:=by
  rcases fJ f with⟨g',_,h⟩|h
  cases h.symm.trans hh
  exact rH.ext f g (h.symm.trans hh)
theorem gW:gL C where
 mixed:=li.mixed
 gT f fn c hm hf hb:=by
  rcases fJ f with⟨g',_,h⟩|h;rcases hm with hm |hm <;>cases h.symm.trans hm
  exact li.gT f fn c (hm.imp (λh2=>h.symm.trans h2) (λh2=>h.symm.trans h2)) hf hb
end bu
open Go.Proofs
set_option maxRecDepth 4000
def tY(p:Tm):List Tm->List Tm
 |[]=>[]
 |a::r=>if bR a p=0 then tY a r else a::tY a r
def dd:List Tm->List Tm
 |[]=>[]
 |x::r=>x::tY x r
theorem AD(p:Tm):∀l:List Tm,(tY p l).length<=l.length
 |[]=>by simp[tY]
 |a::r=>by
  have:=AD a r;unfold tY
  split <;>simp <;>omega
theorem Dq:∀l:List Tm,(dd l).length<=l.length
 |[]=>by simp[dd]
 |a::r=>by have:=AD a r;simp[dd];omega
theorem nM{l:List Tm}{i:Nat}{t:Tm}(h:l[i]?=some t):(aj l)[i]?=some (.agg [.int .i64 t.k,.str t.s,.int .i64 t.o,.ab false (aj t.l)]):=by rw[cQ,TS,h,<-aN];rfl
theorem Dr{l:List Tm}{i:Nat}{t:Tm}:(aj l).set i (enc t)=aj (l.set i t):=by rw[cQ,cQ,List.map_set]
theorem yU{α:Type}{L A B:List α}{x:α}{i:Nat}(e:L=A++x::B)(hi:i=A.length):L[i]?=some x:=by subst e hi;simp
theorem fk{α:Type}{l:List α}{i:Nat}{x:α}(h:l[i]?=some x):l.set i x=l:=by
 obtain⟨h1,rfl⟩:=List.getElem?_eq_some_iff.1 h;exact List.set_getElem_self h1
section
variable{C:bZ}(T:kM C.P){h:aa}
theorem xc{t el:TypeId}{sz id ep len n:Nat}{k:IntKind}{es:List PV}(hk:T.kd t=some (.sl el))(hs:T.ts el=some sz)(e:h[id]?=some ⟨.m,ep,sz,es⟩)(hl:len<=es.length)(h0:0<n)(hn:n<len):
  bO C.P h t (.an id ep 0 len) (some (.int k n)) none none=some (.an id ep (0+n) (len - n)):=by
 have hg:getM h id ep=some ⟨.m,ep,sz,es⟩:=bo e rfl (by simp);simp only[bO,aY (T.cI _ _ hk),T.dF _ _ hs,hg];rw[if_pos ⟨trivial,by show 0+len<=es.length;omega⟩];have hb:beyond none none len (es.length - 0)=none:=rfl;simp only[beyond,ck];rw[if_pos (by omega)];simp only[Vf];rw[if_pos (by rfl),if_neg (by simp),if_neg (by omega),if_neg (by omega)]
theorem Ds{t el:TypeId}{sz id ep len n:Nat}{k:IntKind}{es:List PV}(hk:T.kd t=some (.sl el))(hs:T.ts el=some sz)(e:h[id]?=some ⟨.m,ep,sz,es⟩)(hl:len<=es.length)(hn:n<=len):
  bO C.P h t (.an id ep 0 len) none (some (.int k n)) none=some (.an id ep 0 n):=by
 have hg:getM h id ep=some ⟨.m,ep,sz,es⟩:=bo e rfl (by simp);simp only[bO,aY (T.cI _ _ hk),T.dF _ _ hs,hg];rw[if_pos ⟨trivial,by show 0+len<=es.length;omega⟩];simp only[beyond,ck];rw[if_neg (by omega),if_pos (by omega)];simp
theorem Dt{t el:TypeId}{sz id ep off len:Nat}{z:PV}{es:List PV}(hk:T.kd t=some (.sl el))(hs:T.ts el=some sz)(hz:T.tz el=some z)(e:h[id]?=some ⟨.m,ep,sz,es⟩)(hl:off+len<=es.length)(hc:(cells z).length=sz)(ho:(cells z).all aZ=true):
  kW C.P 2 h t (.an id ep off len)=some (.cT [],h.set id ⟨.m,ep,sz,es.take off++List.replicate len z++es.drop (off+len)⟩):=by
 have hg:getM h id ep=some ⟨.m,ep,sz,es⟩:=bo e rfl (by simp);simp only[kW,aY (T.cI _ _ hk),T.dF _ _ hs,T.mC _ _ hz,hg];rw[if_pos ⟨by omega,trivial,trivial,hl,hc,ho⟩]
theorem lC.sl{L:Al}{t:TypeId}{x lo:Operand}{v u w:PV}{K:PV->Prop}(hx:dn L x=some v)(hl:dn L lo=some u)(hs:bO C.P h t v (some u) none none=some w)(kk:Rn (K w)):lC C (.slice t x (some lo) none none) L h K:=
 .mk (λrun lv V=>by simp only[ak,aw,ah hx,ah hl,TO,Vr,hs]) kk
theorem lC.sh{L:Al}{t:TypeId}{x hi:Operand}{v u w:PV}{K:PV->Prop}(hx:dn L x=some v)(hl:dn L hi=some u)(hs:bO C.P h t v none (some u) none=some w)(kk:Rn (K w)):lC C (.slice t x none (some hi) none) L h K:=
 .mk (λrun lv V=>by simp only[ak,aw,ah hx,ah hl,TO,Vr,hs]) kk
theorem xd.Rv{L:Al}{t:TypeId}{x:Operand}{v:PV}{h':aa}{K:PV->aa->Prop}(hx:dn L x=some v)(hs:kW C.P 2 h t v=some (.cT [],h'))(kk:Rn (K (.cT []) h')):xd C (.call ⟨.builtin .clear,#[x],#[t]⟩) L h K:=
 .mk (λrun V=>by simp only[ak,aT,TT,T5,ah hx,hs]) kk
end
theorem Dp:∀(l:List Tm) (p y:Tm),y∈p::tY p l↔y∈p::l
 |[],p,y=>by simp[tY]
 |a::r,p,y=>by
  have ih:=Dp r a y;unfold tY
  split
  ·rename_i h
   obtain rfl:=fG h;rw[ih];simp
  rw[TW,ih,TW (b:=p)]
theorem AB:∀(l:List Tm) (p:Tm),((p::l).Pairwise λx y=>bR x y<=0)->oI (p::tY p l)
 |[],p,_=>by simp[tY,oI]
 |a::r,p,h=>by
  have h2:=Us.1 h;have ih:=AB r a h2.2;unfold tY
  split
  ·rename_i hc
   obtain rfl:=fG hc;exact ih
  ·rename_i hc
   have hp:=h2.1 a (by simp);have ng:=fY p a;refine Us.2 ⟨λy hy=>?_,ih⟩;rcases TW.1 hy with rfl |hy;omega;exact iT (show bR p a<0 by omega) ((Us.1 ih).1 y hy)
theorem Hr(l:List Tm)(y:Tm):y∈dd l↔y∈l:=by
 cases l with
 |nil=>simp[dd]
 |cons x r=>exact Dp r x y
theorem Iv{l:List Tm}(h:l.Pairwise λx y=>bR x y<=0):oI (dd l):=by
 cases l with
 |nil=>simp[dd,oI]
 |cons x r=>exact AB r x h
theorem ai.ln{C:bZ}{f:FuncId}{args:List PV}{H:aa}{P Q:PV->aa->Prop}(a:aD C f args H P)(hl:∀r h',P r h'->h'.length=H.length)(q:∀r h',P r h'->Q r h')(hm:C.mode f=.opened:=by rfl):ai C 2 f args H Q:=by
 refine ai.opened hm (a.mono λr k hr=>?_)
 split
 ·rw[Ub (by rw[hl r k hr];exact TI _)];exact q r k hr
 exact q r k hr
attribute [local irreducible] aA az aH aF Ev ag ai aD bw
theorem rn{h:aa}{id ep sz n:Nat}{es eD tl:List PV}(e:h[id]?=some ⟨.m,ep,sz,es++tl⟩)(hl:es.length=n)(hv:au es=true)(hn:ba es=eD):∃r1,rb h (aQ [.an id ep 0 n])=some r1/\cJ r1=.ab false eD:=by
 subst hl hn;refine⟨.ab false es,?_,rfl⟩;have hg:getM h id ep=some ⟨.m,ep,sz,es++tl⟩:=bo e rfl (by simp);show rb h (.an id ep 0 es.length)=_;simp[rb,ot,sP,hg,hv]
end Go.Pm
namespace Go.Pm
theorem Br{s:ByteArray}(h:dx s=true):s.size<=24:=by
 rw[<-bsize];unfold dx AE at h
 cases e:s.toList with
 |nil=>simp
 |cons c l=>
  rw[e]at h;simp only[TK,decide_eq_true_eq]at h;simp;omega
theorem Bs{k n o l}(h:node (.mk k n o l)=0):dx n=true/\l.length<=8:=by
 simp only[node]at h
 split at h
 cases h
 ·split at h
  ·cases h
  ·rename_i hn
   split at h
   cases h
   exact⟨by simpa using hn,by omega⟩
theorem Dy{k n o l}(h:nodes (.mk k n o l)=0):node (.mk k n o l)=0/\eX l=0:=by
 rw[nodes]at h
 split at h
 ·rename_i hn;exact absurd h hn
 exact⟨by omega,h⟩
theorem tZ{f:Nat}:∀{l:List Tm},(∀t∈l,(aE t:Int)<=f * size t)->(bg l:Int)<=f * eC l
 |[],_=>by simp[bg,eC]
 |t::l,h=>by
  have h1:=h t (by simp);have h2:=tZ (l:=l) λu hu=>h u (by simp[hu])
  simp only[bg,eC,Int.mul_add];omega
theorem yY(t:Tm):nodes t=0->(aE t:Int)<=25 * size t:=by
 induction t using Tm.ind with
 |h k n o l ih=>
  intro h
  obtain⟨h1,h2⟩:=Dy h;have h3:=Br (Bs h1).1;have h4:=tZ (f:=25) λt ht=>by simpa using ih t ht (qP h2 t ht)
  simp only[aE,size,Int.mul_add];omega
theorem rq{t:Tm}(h:valid t=0):aE t<=10000:=by
 obtain⟨h1,h2,_⟩:=yv.1 h;have:=yY t h1;omega
theorem qx(l:List Tm)(y:Tm):y∈lF l↔y∈l:=by rw[lF,Aw];simp
theorem Dz(l:List Tm):oI (lF l):=wV (by simp[oI])
theorem ID(l:List Tm):dd (fI l)=lF l:=Ax (Iv (oN _)) (Dz l) (λy=>by rw[Hr,qx];exact(iV _).mem_iff)
theorem DA(n:Int)(t y:Tm):y∈mD n t↔y∈pre t/\y.k=n:=by rw[mD,qx];simp
theorem DB(t y:Tm):y∈bx t↔y∈pre t/\y.k=1:=DA 1 t y
theorem F8{l:List Tm}{y:Tm}:y∈dG l↔∃t∈l,y∈pre t:=by
 induction l with
 |nil=>simp[dG]
 |cons t l ih=>simp[dG,ih]
theorem rr(t:Tm):∀y∈pre t,aE y<=aE t:=by
 induction t using Tm.ind with
 |h k n o l ih=>
  intro y hy
  rw[pre,TW]at hy;rcases hy with rfl |hy;exact TI _
  ·obtain⟨t,ht,hy⟩:=F8.1 hy;have h1:=ih t ht y hy;have h2:=bF ht;simp only[aE];omega
theorem oO:∀{l:List Tm},(∀t∈l,(pre t).length<=aE t)->(dG l).length<=bg l
 |[],_=>by simp[dG,bg]
 |t::l,h=>by
  have h1:=h t (by simp);have h2:=oO (l:=l) λu hu=>h u (by simp[hu])
  simp only[dG,bg,T0];omega
theorem qy(t:Tm):(pre t).length<=aE t:=by
 induction t using Tm.ind with
 |h k n o l ih=>
  have:=oO ih;simp only[pre,aE,T2];omega
theorem DC(l:List Tm):(dG l).length<=bg l:=oO λt _=>qy t
theorem xg(l:List Tm):(lF l).length<=l.length:=by have:=rj l [];simpa[lF]using this
theorem Bt(n:Int)(t:Tm):(mD n t).length<=aE t:=by
 have h1:=xg ((pre t).filter λu=>decide (u.k=n));have h2:=List.length_filter_le (λu=>decide (u.k=n)) (pre t);have h3:=qy t;unfold mD;omega
theorem eR(t:Tm):(bx t).length<=aE t:=Bt 1 t
theorem iW{t y:Tm}(h:y∈bx t):aE y<=aE t:=rr t y ((DB t y).1 h).1
theorem ke{t:Tm}(h:bH t=0):valid t=0/\jr t=0/\iv t=true/\(bx t).any wc=false/\size t<=60:=by
 unfold bH at h
 split at h
 ·rename_i hn;exact absurd h hn
 ·rename_i h1
  split at h
  cases h
  ·rename_i h2
   split at h
   cases h
   ·have h3:xf t=0:=by omega
    unfold xf at h3
    split at h3
    ·rename_i hn;exact absurd h3 hn
    ·refine⟨by omega,h3,?_,?_,by omega⟩
     ·cases hf:iv t with
      |true=>rfl
      |false=>exact absurd (.inl hf) h2
     ·cases hf:(bx t).any wc with
      |false=>rfl
      |true=>exact absurd (.inr hf) h2
theorem lG:∀{l:List Tm},dU l=0->∀t∈l,bH t=0
 |[],_,t,h=>by cases h
 |u::l,e,t,h=>by
  rw[dU]at e
  split at e
  ·rename_i hn;exact absurd e hn
  ·rcases TW.1 h with rfl |h
   ·omega
   ·exact lG e t h
theorem mY:∀{l:List ee} {p:Option (List Tm)} {b:List Tm},jq p b l=0->∀d∈l,d.kn.length<=40/\dU (d.kn++[d.tm])=0
 |[],_,_,_,d,h=>by cases h
 |u::l,p,b,e,d,h=>by
  rw[jq]at e
  split at e
  cases e
  ·split at e
   ·rename_i hn;exact absurd e hn
   ·split at e
    ·cases e
    ·split at e
     ·cases e
     ·rcases TW.1 h with rfl |h
      ·exact⟨by omega,by omega⟩
      ·exact mY e d h
theorem oG{l:List ee}(h:gD l=0):l.length<=40/\∀d∈l,d.kn.length<=40/\∀t∈d.kn++[d.tm],bH t=0:=by
 unfold gD at h
 split at h
 cases h
 exact⟨by omega,λd hd=>⟨(mY h d hd).1,lG (mY h d hd).2⟩⟩
def JR:List ByteArray:=[⟨#[97,110,121]⟩,⟨#[97,103,101,110,116]⟩,⟨#[110,111,110,99,101]⟩,⟨#[107,101,121]⟩,⟨#[100,97,116,97]⟩,⟨#[116,97,103]⟩]
def JK(o:Int):ByteArray:=JR.getD o.toNat ⟨#[]⟩
mutual
def kE:Tm->ByteArray
 | .mk k s o l=>if k=1 then(if o=0 then⟨#[63]⟩++s else⟨#[63]⟩++s++(⟨#[58]⟩++JK o))else if k=2 then s++⟨#[58]⟩++JK o else s++⟨#[40]⟩++kT false l++⟨#[41]⟩
def kT:Bool->List Tm->ByteArray
 |_,[]=>⟨#[]⟩
 |f,t::l=>(if f=true then⟨#[44,32]⟩else⟨#[]⟩)++(kE t++kT true l)
end
mutual
def B1:Tm->Bool
 | .mk k s o l=>decide (0<=o/\o<=5)&&mw l
def mw:List Tm->Bool
 |[]=>true
 |t::l=>B1 t&&mw l
end
mutual
theorem uK:∀t,nodes t=0->B1 t=true
 | .mk k s o l,h=>by
  simp only[nodes]at h
  split at h
  ·rename_i h0;exact absurd h h0
  ·rename_i h0
   simp only[node,Decidable.not_not]at h0
   split at h0
   cases h0
   ·rename_i h1
    simp only[B1,sw l h,VW,decide_eq_true_eq];omega
theorem sw:∀l,eX l=0->mw l=true
 |[],_=>rfl
 |t::l,h=>by
  simp only[eX]at h
  split at h
  ·rename_i h0;exact absurd h h0
  ·rename_i h0
   simp only[mw,uK t (by simpa using h0),sw l h,UT]
end
theorem jQ{t:Tm}(h:valid t=0):B1 t=true:=by
 unfold valid at h
 split at h
 ·rename_i h0;exact absurd h h0
 ·rename_i h0;exact uK t (by simpa using h0)
theorem zD{o:Int}(h:0<=o/\o<=5):JR[o.toNat]?=some (JK o)/\(JK o).size<=5:=by
 have:o=0\/o=1\/o=2\/o=3\/o=4\/o=5:=by omega
 rcases this with rfl |rfl |rfl |rfl |rfl |rfl <;>exact⟨rfl,by decide⟩
theorem b9(a b:ByteArray):(a++b).size=a.size+b.size:=by simp
theorem db(a b c:ByteArray):a++b++c=a++(b++c):=by
 apply VC;simp[Array.append_assoc]
theorem pn(a:ByteArray):a++⟨#[]⟩=a:=by
 apply VC;simp
theorem kf(a:ByteArray):(⟨#[]⟩:ByteArray)++a=a:=by
 apply VC;simp
mutual
theorem ja:∀t,B1 t=true->(kE t).size+2<=10 * aE t
 | .mk k s o l,h=>by
  simp only[B1,TK,decide_eq_true_eq]at h;have hw:=(zD h.1).2;have hl:=jc false l h.2;have e1:(⟨#[63]⟩:ByteArray).size=1:=rfl;have e2:(⟨#[58]⟩:ByteArray).size=1:=rfl;have e3:(⟨#[40]⟩:ByteArray).size=1:=rfl;have e4:(⟨#[41]⟩:ByteArray).size=1:=rfl;simp only[kE,aE]
  split
  split <;>simp only[b9,e1,e2] <;>omega
  split <;>simp only[b9,e2,e3,e4] <;>omega
theorem jc:∀f l,mw l=true->(kT f l).size<=10 * bg l
 |_,[],_=>by simp[kT,bg];rfl
 |f,t::l,h=>by
  simp only[mw,TK]at h;have h1:=ja t h.1;have h2:=jc true l h.2;have e1:(⟨#[44,32]⟩:ByteArray).size=2:=rfl;have e2:(⟨#[]⟩:ByteArray).size=0:=rfl;simp only[kT,bg]
  split <;>simp only[b9,e1,e2] <;>omega
end
def CF(d:ee):ByteArray:=(if d.kn=[]then⟨#[]⟩else kT false d.kn++⟨#[32]⟩)++(⟨#[124,45,32]⟩++kE d.tm++⟨#[10]⟩)
def oF:List ee->ByteArray
 |[]=>⟨#[]⟩
 |d::l=>CF d++oF l
theorem wN(l:List Tm):(⟨(Lib.join ((l.map kE).map (·.data.toList)) (⟨#[44,32]⟩:ByteArray).data.toList).toArray⟩:ByteArray)=kT false l:=by
 have tail:∀l:List Tm,(⟨((l.map λt=>[44,32]++(kE t).data.toList).flatten).toArray⟩:ByteArray)=kT true l:=by
  intro l
  induction l with
  |nil=>rfl
  |cons t l ih=>
   simp only[kT,if_true,<-ih];apply VC;apply UH;simp
 cases l with
 |nil=>rfl
 |cons t l=>
  simp only[TT,Lib.join_cons,kT,TR,if_false,<-tail];apply VC;apply UH;simp[Lib.joinTail,VN,Function.comp_def]
theorem n9:∀{l:List Tm} {a:Tm},mw l=true->a∈l->B1 a=true
 |y::l,a,h,hm=>by
  simp only[mw,TK]at h;rcases TW.1 hm with rfl |hm;exact h.1;exact n9 h.2 hm
theorem x4:∀{p q:List Tm},mw (p++q)=true->mw p=true
 |[],_,_=>rfl
 |y::p,q,h=>by
  simp only[Uh,mw,TK]at h;simp only[mw,h.1,x4 h.2,UT]
theorem sx:∀(p q:List Tm),bg (p++q)=bg p+bg q
 |[],q=>by simp[bg]
 |y::p,q=>by simp only[Uh,bg,sx p q];omega
theorem se{l p q:List Tm}{a:Tm}(h:mw l=true)(e:l=p++a::q):(kT false p).size+10 * aE a<=10 * bg l:=by
 subst e;have h1:=jc false p (x4 h);rw[sx];simp only[bg];omega
theorem jb(x:Tm):∀(f:Bool) (p:List Tm),kT f (p++[x])=kT f p++((if f=true\/p≠[]then⟨#[44,32]⟩else⟨#[]⟩)++kE x)
 |f,[]=>by simp[kT,pn,kf]
 |f,y::p=>by
  simp only[Uh,kT,jb x true p,true_or,if_true,ne_eq,reduceCtorEq,not_false_eq_true,or_true,db]
theorem ly(d:ee):∀p:List ee,oF (p++[d])=oF p++CF d
 |[]=>by simp[oF,pn,kf]
 |x::p=>by simp only[Uh,oF,ly d p,db]
theorem va:∀p q:List ee,oF (p++q)=oF p++oF q
 |[],q=>by simp[oF,kf]
 |x::p,q=>by simp only[Uh,oF,va p q,db]
theorem re:∀{l:List Tm},(∀t∈l,B1 t=true)->mw l=true
 |[],_=>rfl
 |t::l,h=>by simp only[mw,h t (by simp),re (l:=l) (λx hx=>h x (by simp[hx])),UT]
def Lb(d:ee):Prop:=mw d.kn=true/\B1 d.tm=true
theorem El{d:ee}(h:Lb d):(CF d).size<=10 * (bg d.kn+aE d.tm+2):=by
 have h1:=jc false d.kn h.1;have h2:=ja d.tm h.2;have e1:(⟨#[]⟩:ByteArray).size=0:=rfl;have e2:(⟨#[32]⟩:ByteArray).size=1:=rfl;have e3:(⟨#[124,45,32]⟩:ByteArray).size=3:=rfl;have e4:(⟨#[10]⟩:ByteArray).size=1:=rfl;unfold CF
 split <;>simp only[b9,e1,e2,e3,e4] <;>omega
end Go.Pm
