/-
  Pm, a part. Conditions: none.
-/
import Derived.Test.YtiipafafbpaaoaaGreatDoorPsAI
set_option linter.unusedVariables false
set_option linter.unusedSimpArgs false
set_option linter.unnecessarySimpa false
set_option linter.unusedSectionVars false
namespace Go.Pm
variable{h:ab}{k n o:Int}{l p q:List Tm}{t u x:Tm}{s:ByteArray}{S:List cV}
namespace aI
open Go.Proofs
attribute [local irreducible] aE az aO aL Ev ai ah ay bh bH
set_option maxRecDepth 4000
theorem YA{n:ByteArray}:∃b,rb h (bo [.agg (List.take (3+1) (List.drop 0 (cells (.agg (If k n o l)))))])=some b/\b9 b=.agg (If k n o l):=by
 refine⟨.agg (If k n o l),?_,by simp[b9,aY]⟩;simp[bo,rb,kZ,oE,rf,cells]
theorem Xq{A B:List Tm}{y:Tm}{n:Nat}(h:n=A.length):(A++x::B).set n y=A++y::B:=by
 subst h
 induction A with
 |nil=>rfl
 |cons a A P=>simpa using P
theorem kC(h0:l≠[])(A:l.length<1000000000)(H:ab):bW 4 [.aa false (ae l)] H=some (.an H.length 0 0 l.length,H++[⟨.m,0,4,ae l⟩]):=by
 have Z:=aj l;have O:(ae l).isEmpty=false:=by cases l with |nil=>exact absurd rfl h0 |cons=>rfl
 simp only[bW,O,agn,if_false];rw[if_pos ⟨qK _,by omega⟩,Z]
 rfl
theorem _root_.za5{P:Prop}(h:P:=by
 simp at U;rcases U with rfl |rfl |rfl;simp[bB,bq];simp[bB,bq];exact⟨by simp,bg _ _ yxb⟩):P:=h
theorem PB(k s o l)(A:l.length<100000000)(P:∀t∈l,aT C 150 [enc t] (enc t)):aT C 150 [enc (.mk k s o l)] (enc (.mk k s o l)):=by
 have Z:=aj l;rw[bE];refine aT.x T6 Tryz.func150 rfl ?_
 by_cases B:l=[]
 ·subst B;refine wA ?_;refine ah.de rfl rfl ?_;refine wA ?_
  have n:HR [⟨.m,0,4,[.agg [.I k,.str s,.I o,.aa true []]]⟩,⟨.m,0,4,[.agg Nm]⟩]:=by
   intro x U
   simp at U;rcases U with rfl |rfl <;>simp[bB,bq]
  refine dU.zip T6 ([]:List Tm) (λp q L K=>L=[(1,.ptr 0 0 0 0),(2,.ptr 1 0 0 0),(10,.aa true []),(11,.I 0),(12,.I p.length)]/\K=[⟨.m,0,4,[.agg [.I k,.str s,.I o,.aa true []]]⟩,⟨.m,0,4,[.agg Nm]⟩]) (.nx ⟨rfl,rfl⟩) ?_ ?_
  ·rintro p u q _ K Y e _
   cases p <;>cases e
  ·rintro _ K Y ⟨rfl,rfl⟩;refine wA ?_;exact⟨_,rfl,rfl⟩
 ·refine wA ?_;refine ah.de rfl (kC B yxa _) ?_;refine wA ?_
  have n:HR [⟨.m,0,4,[.agg [.I k,.str s,.I o,.an 2 0 0 l.length]]⟩,⟨.m,0,4,[.agg Nm]⟩,⟨.m,0,4,ae l⟩]:=by
   intro x U
   exact za5
  refine dU.zip T6 l (λp q L H=>L=[(1,.ptr 0 0 0 0),(2,.ptr 1 0 0 0),(10,.an 2 0 0 l.length),(11,.I l.length),(12,.I p.length)]/\HR H/\H[0]?=some ⟨.m,0,4,[.agg [.I k,.str s,.I o,.an 2 0 0 l.length]]⟩/\H[1]?=some ⟨.m,0,4,[.agg Nm]⟩/\H[2]?=some ⟨.m,0,4,ae l⟩) (.nx ⟨rfl,n,rfl,rfl,rfl⟩) ?_ ?_
  ·rintro p u q _ H Y e ⟨rfl,w,S,b,d⟩;have z:=bO e;have Q:(ae l)[0+p.length]?=some (.agg (Do u)):=by rw[agz];exact z
   have v:=dI Q;have h:=lenE e;have f:=P u yxf;rw[au]at f;have D:HR (H++[Pi u]):=w.cx (HV.one yxb);refine wA ?_;refine .p f ?_;refine wA ?_;rw[v];have i:=ag d;exact .nx ⟨rfl,D.set 2 yxb (bg _ _ yxb),by rw[aga yxa,af8 yxa];exact S,by rw[aga yxa,af8 yxa];exact b,agc yxd⟩
  ·rintro _ H Y ⟨rfl,w,S,b,d⟩;have g:=ag b;have N:=agc (a:=(⟨.m,0,4,[.agg [.I k,.str s,.I o,.an 2 0 0 l.length]]⟩:ax)) g;refine wA ?_;refine .mk ?_ (jJ (T:=T6) rfl N rfl rfl rfl rfl);exact⟨Tn (.inr ⟨2,0,by rw[Z],(aga yxa).trans d⟩) yxb yxb⟩
theorem Lq(t:Tm)(W:aC t<100000000):aT C 150 [enc t] (enc t):=by
 induction t using Tm.ind with
 |h k s o l P=>
  have:=bF l;simp only[aC]at W;exact PB k s o l yxa λt Z=>P t Z yxo
structure BP(s:List cV):Prop where
 Mt:Uh s
 len:s.length<100000000
 v:∀b∈s,aC b.v<10000000
 t:∀b∈s,aC b.t<10000000
theorem BP.get{s:List cV}(h:BP s)(U:aC x<10000000):aC (mz s x)<10000000:=by
 have:=vR (B:=9999999) (x:=x) (s:=s) λb W=>by have:=h.t b W;omega
 omega
theorem Xr(S:List cV)(j:BP S)(k s o l)(W:aC (.mk k s o l)<10000000)(P:∀t∈l,aT C 120 [.aa false (aU S),enc t] (enc (cw S t))):aT C 120 [.aa false (aU S),enc (.mk k s o l)] (enc (cw S (.mk k s o l))):=by
 have Z:=aj l;have uE:=bF l;have hl:l.length<10000000:=by simp only[aC]at W;omega
 have d:=PA S (.mk k s o l) j.Mt j.len (λb W=>by have:=j.v b W;omega) yxa;have V:=Lq (mz S (.mk k s o l)) (by have:=j.get W;omega);obtain⟨g,N⟩:∃g,g=mz S (.mk k s o l):=⟨_,rfl⟩;have y:k=1->cw S (.mk k s o l)=g:=λh=>by rw[cw,if_pos h,N]
 have w:k≠1->cw S (.mk k s o l)=.mk k s o (cR S l):=λh=>by rw[cw,if_neg h]
 rw[<-N]at d V;rw[au g]at d V;rw[bE]at d ⊢;refine aT.x T6 Tryz.func120 rfl ?_
 by_cases F:k=1
 ·rw[y F,au];refine wA ?_;refine .p d ?_;refine wA ?_;refine .p V ?_;refine wA ?_;exact YA
 ·rw[w F,bE]
  by_cases B:l=[]
  ·subst B;refine wA ?_;refine ah.de rfl rfl ?_;refine wA ?_;refine dU.zip T6 ([]:List Tm) (λp q L K=>L=[(0,.aa false (aU S)),(3,.ptr 0 0 0 0),(4,.ptr 1 0 0 0),(25,.aa true []),(26,.I 0),(27,.I p.length)]/\K=[⟨.m,0,4,[.agg [.I k,.str s,.I o,.aa true []]]⟩,⟨.m,0,4,[.agg Nm]⟩]) (.nx ⟨rfl,rfl⟩) ?_ ?_
   ·rintro p u q _ K Y e _
    cases p <;>cases e
   ·rintro _ K Y ⟨rfl,rfl⟩;refine wA ?_;exact⟨_,rfl,rfl⟩
  ·refine wA ?_;refine ah.de rfl (kC B yxa _) ?_;refine wA ?_
   have J:HR [⟨.m,0,4,[.agg [.I k,.str s,.I o,.an 2 0 0 l.length]]⟩,⟨.m,0,4,[.agg Nm]⟩,⟨.m,0,4,ae l⟩]:=by
    intro x U
    exact za5
   refine dU.zip T6 l (λp q L H=>L=[(0,.aa false (aU S)),(3,.ptr 0 0 0 0),(4,.ptr 1 0 0 0),(25,.an 2 0 0 l.length),(26,.I l.length),(27,.I p.length)]/\HR H/\H[0]?=some ⟨.m,0,4,[.agg [.I k,.str s,.I o,.an 2 0 0 l.length]]⟩/\H[1]?=some ⟨.m,0,4,[.agg Nm]⟩/\H[2]?=some ⟨.m,0,4,ae (cR S p++q)⟩) (.nx ⟨rfl,J,rfl,rfl,rfl⟩) ?_ ?_
   ·rintro p u q _ H Y e ⟨rfl,A,z,n,f⟩;have i:=iU S p;have R:(ae (cR S p++u::q))[0+p.length]?=some (.agg (Do u)):=by rw[agz,<-i];exact bO rfl
    have G:(ae (cR S p++u::q)).set (0+p.length) (enc (cw S u))=ae (cR S (p++[u])++q):=by
     rw[Ad,agz,Xq i.symm,eJ,eJ,agN];simp
    have X:=lenE e;have vN:(ae (cR S p++u::q)).length=l.length:=by rw[aj];simp;omega
    have D:=P u yxf;rw[au u,au (cw S u)]at D;rw[au (cw S u)]at G;have Q:HR (H++[Pi u]):=A.cx (HV.one yxb);refine wA ?_;refine .p D ?_;refine wA ?_;rw[G];have k2:=ag f;exact .nx ⟨rfl,Q.set 2 yxb (bg _ _ yxb),by rw[aga yxa,af8 yxa];exact z,by rw[aga yxa,af8 yxa];exact n,agc yxd⟩
   ·rintro _ H Y ⟨rfl,A,z,n,f⟩;rw[agC]at f;have i:=iU S l;have O:=ag n;have M:=agc (a:=(⟨.m,0,4,[.agg [.I k,.str s,.I o,.an 2 0 0 l.length]]⟩:ax)) O;refine wA ?_;refine .mk ?_ (jJ (T:=T6) rfl M rfl rfl rfl rfl);exact⟨Tn (.inr ⟨2,0,by rw[aj,i],(aga yxa).trans f⟩) yxb yxb⟩
theorem Uk(S:List cV)(j:BP S)(t:Tm)(W:aC t<10000000):aT C 120 [.aa false (aU S),enc t] (enc (cw S t)):=by
 induction t using Tm.ind with
 |h k s o l P=>
  refine Xr S j k s o l W λt Z=>P t Z ?_;have:=cc Z;simp only[aC]at W;omega
end aI
set_option maxRecDepth 4000
theorem Ul(h:jE s=true):1<=s.size:=by
 rw[<-bsize];unfold jE ED at h
 cases e:s.toList with
 |nil=>rw[e]at h;simp at h
 |cons c l=>simp
theorem IA{s:List cV}{B:Nat}:∀{l:List Tm},(∀t∈l,2 * aC (cw s t)<=aC t * B)->2 * bm (cR s l)<=bm l * B
 |[],_=>by simp[cR,bm]
 |t::l,h=>by
  have O:=h t yxb;have X:=IA (l:=l) λu y=>h u yxj
  simp only[cR,bm,ag0];omega
theorem PC{s:List cV}{B:Nat}(H:2<=B)(S:∀b∈s,aC b.t<=B)(t:Tm):nodes t=0->2 * aC (cw s t)<=aC t * B:=by
 induction t using Tm.ind with
 |h k n o l P=>
  intro a
  obtain⟨U,z⟩:=mg a;have e:=Ul (ti U).1;have d:2<=aC (.mk k n o l):=by simp only[aC];omega
  have O:aC (.mk k n o l) * 2<=aC (.mk k n o l) * B:=Nat.mul_le_mul_left _ H;have X:2 * B<=aC (.mk k n o l) * B:=agR _ d;unfold cw
  split
  ·have:=vR (x:=.mk k n o l) S;omega
  ·have Q:=IA (s:=s) (B:=B) (l:=l) λt Z=>P t Z (qE z t Z)
   simp only[aC,ag0]at O ⊢;have G:n.size * 2<=n.size * B:=Nat.mul_le_mul_left _ H;omega
theorem BP.of{s:List cV}(h:pB s=0):aI.BP s:=by
 obtain⟨O,X,Q⟩:=xy h;refine⟨Q,by omega,λb W=>?_,λb W=>?_⟩;have:=bu (sg (X b W)).1;omega;have:=bu (sg (X b W)).2.2.1;omega
theorem Xs{s:List cV}(h:pB s=0)(Z:valid t=0):aC (cw s t)<=50000000:=by
 obtain⟨O,X,Q⟩:=xy h;have G:=PC (s:=s) (B:=10000) yxa (λb W=>bu (sg (X b W)).2.2.1) t (dS.1 Z).1;have d:=bu Z;have N:aC t * 10000<=10000 * 10000:=agR _ d;omega
namespace aI
open Go.Proofs
attribute [local irreducible] aE az aO aL Ev ai ah ay bh bH
theorem wa:enc gZ=.agg [.I 0,.str ByteArray.empty,.I 0,.aa false (ae [])]:=rfl
theorem BQ(S:List cV)(j:pB S=0)(t:Tm)(W:aC t<10000000):aT C 84 [.aa false (aU S),enc t] (.b8 [enc (cj S t).1,.I (cj S t).2]):=by
 have D:=BP.of j;have O:=(dZ t yxa).nine;have X:=Uk S D t W;have Q:valid t=0->aT C 108 [enc (cw S t)] (.I (valid (cw S t))):=λh=>(dZ (cw S t) (by have:=Xs j h;omega)).nine
 have f:valid t≠0->cj S t=(gZ,valid t):=λh=>by rw[cj,if_pos h]
 have a:valid t=0->valid (cw S t)≠0->cj S t=(gZ,valid (cw S t)):=λh d=>by rw[cj,if_neg yxa,if_pos d]
 have b:valid t=0->valid (cw S t)=0->cj S t=(cw S t,0):=λh d=>by rw[cj,if_neg yxa,if_neg yxa]
 generalize cj S t=A at *;generalize cw S t=u at *;rw[au t]at O X ⊢;rw[au u]at X Q;refine aT.x T6 Tryz.func84 rfl ?_;refine wA ?_;refine .p O ?_;refine wC (λG=>?_) λG=>?_
 ·have J:valid t=0:=by omega
  refine .p X ?_;refine wA ?_;refine .p (Q J) ?_;refine wC (λG=>?_) λG=>?_
  ·rw[b J yxa,au];exact o8
  ·rw[a J yxa,wa];exact⟨_,rfl,rfl⟩
 ·rw[f yxa,wa];exact⟨_,rfl,rfl⟩
theorem nV(h:(cj S t).2=0):cj S t=(cw S t,0)/\valid t=0/\valid (cw S t)=0:=by
 unfold cj at h ⊢
 split at h
 ·rename_i O;exact absurd h O
 ·rename_i O
  split at h
  ·rename_i X;exact absurd h X
  ·rename_i X
   rw[if_neg O,if_neg X];exact⟨rfl,by omega,by omega⟩
theorem Xt(e:l=p++u::q)(K:∀v∈p,(cj S v).2=0)(y:(cj S u).2≠0):kK S l=(cj S u).2:=by
 subst e
 induction p with
 |nil=>simp only[agS,kK];rw[if_pos y]
 |cons v p P=>
  simp only[agL,kK];rw[if_neg (by rw[K v yxb];simp),P (λw H=>K w (by simp[H]))]
theorem D9{S:List cV}:∀{l:List Tm},(∀v∈l,(cj S v).2=0)->kK S l=0
 |[],_=>rfl
 |v::l,h=>by
  rw[kK,if_neg (by rw[h v yxb];simp)];exact D9 λu y=>h u yxj
theorem Nd(j:pB S=0):aT C 72 [.aa false (aU S)] (.I 0):=by
 obtain⟨O,X,Q⟩:=xy j
 have:=BO S yxa λb W=>by
  have G:=bu (sg (X b W)).1;have d:=bu (sg (X b W)).2.2.1;exact⟨by omega,by omega⟩
 rwa[j]at this
theorem AD(S:List cV)(j:pB S=0)(t:Tm)(W:aC t<10000000):aT C 52 [.aa false (aU S),enc t] (.b8 [enc (cj S t).1,.I (cj S t).2]):=by
 have O:=Nd j;have X:=BQ S j t W;generalize cj S t=A at *;obtain⟨u,n⟩:=A;dsimp only at X ⊢;rw[au t,au u]at X;rw[au t,au u];refine aT.x T6 Tryz.func52 rfl ?_;refine wA ?_;refine .p O ?_;refine wA ?_;refine .p X ?_;refine wA ?_;exact o8
theorem GB(S:List cV)(j:pB S=0)(l:List Tm)(J:l.length<=200)(W:∀t∈l,aC t<10000000):aT C 51 [.aa false (aU S),.aa false (ae l)] (.b8 [.aa false (ae (if kK S l≠0 then[]else cR S l)),.I (kK S l)]):=by
 have O:=Nd j;have Z:=aj l;refine aT.x T6 Tryz.func51 rfl ?_;refine wA ?_;refine .p O ?_;refine wA ?_;refine dU.zip T6 l (λp q L H=>∃v,L=[(0,.aa false (aU S)),(7,v),(20,.aa false (ae l)),(21,.I (ae l).length),(22,.I p.length)]/\HV H/\Out 4 H v (ae (cR S p))/\∀u∈p,(cj S u).2=0) (.nx ⟨_,rfl,HV.nil,.inl ⟨rfl,rfl⟩,by simp⟩) ?_ ?_
 ·rintro p u q _ H Y e ⟨v,rfl,b,f,K⟩;have Q:=bO e;have D:=lenE e;have y:=BQ S j u (W u yxf);have M:=iU S p;have A:=aj (cR S p);have B:(cj S u).2=0->(cj S u).1=cw S u:=λh=>by rw[(nV h).1]
  have U:(cj S u).2≠0->kK S l=(cj S u).2:=Xt e K;have F:cR S (p++[u])=cR S p++[cw S u]:=by rw[eJ,eJ];simp
  have d:(cj S u).2=0->∀w∈p++[u],(cj S w).2=0:=λh w a=>by
   rcases agh.1 a with O |O;exact K w O;simp at O;rw[O];exact h
  generalize(cj S u).1=w at *;generalize(cj S u).2=n at *;rw[au u,au w]at y;have R:=(f.cz [Pi u]).cz [Pi w];refine wA ?_;have N:HV (H++[Pi u]++[Pi w]):=(b.cz (HV.one yxb)).cz (HV.one yxb);refine .p y ?_;refine wK (λG v H i=>?_) λG=>?_
  ·have a:=B yxa;refine .nx ⟨_,rfl,i.hv,?_,d yxa⟩;have:=i.out;have P:ae (cR S p)++[.agg (Do w)]=ae (cR S p++[w]):=by rw[ch,<-au];rfl
   rw[F,<-a,<-P];exact this
  ·have g:=U yxa;exact⟨_,rfl,by rw[g,if_pos yxa];rfl⟩
 ·rintro _ H Y ⟨v,rfl,b,f,K⟩;have z:=D9 K;rw[z,if_neg yxb];refine wA ?_;exact Ls.Cy (.inl f)
end aI
theorem syk:(dz adj).k=3/\(dz adk).k=3/\(dz adl).k=3/\(dz Ys).k=3/\(dz Yt).k=3/\(dz Yu).k=3:=by refine⟨?_,?_,?_,?_,?_,?_⟩ <;>kernel_rfl
theorem Mr(h:FC s=true):yT s=false/\(dz s).k≠3:=by
 simpa[FC]using h
theorem aaV(h:FC s=true):¬s.toList=(⟨#[102,115,116]⟩:ByteArray).toList/\¬s.toList=(⟨#[115,110,100]⟩:ByteArray).toList/\¬s.toList=(⟨#[100,101,99]⟩:ByteArray).toList/\¬s.toList=(⟨#[97,100,101,99]⟩:ByteArray).toList/\¬s.toList=(⟨#[111,112,101,110]⟩:ByteArray).toList/\¬s.toList=(⟨#[114,101,97,100]⟩:ByteArray).toList/\
  ¬s.toList=(⟨#[120,111,114]⟩:ByteArray).toList/\¬s.toList=(⟨#[109,117,108]⟩:ByteArray).toList/\¬s.toList=(⟨#[105,110,118]⟩:ByteArray).toList/\¬s.toList=(⟨#[111,110,101]⟩:ByteArray).toList/\¬s.toList=(⟨#[101,120,112]⟩:ByteArray).toList/\¬s.toList=(⟨#[122,101,114,111]⟩:ByteArray).toList:=by
 obtain⟨O,X⟩:=Mr h;have d:∀n:ByteArray,(dz n).k=3->¬s.toList=n.toList:=λn z e=>X (by rw[aI.GX e];exact z)
 simp only[yT,ahZ]at O;obtain⟨⟨⟨⟨⟨f,S⟩,b⟩,N⟩,Z⟩,A⟩:=O;have a:∀n:ByteArray,iP s n=false->¬s.toList=n.toList:=λn z e=>by rw[aI.uc e]at z;cases z
 exact⟨d adj syk.1,d adk syk.2.1,d adl syk.2.2.1,d Ys syk.2.2.2.1,d Yt syk.2.2.2.2.1,d Yu syk.2.2.2.2.2,a AJ f,a EX N,a EY Z,a xM A,a Sf b,a kV S⟩
theorem Sg(h:valid (.mk k s o l)=0)(g:k=3):o=0:=by
 have O:=(mg (dS.1 h).1).1;simp only[node]at O
 split at O
 cases O
 omega
namespace aI
open Go.Proofs
attribute [local irreducible] aE az aO aL Ev ai ah ay bh bH
theorem Yv{v:PV}{es:List PV}(f:Out 4 h v es)(J:aw es=true)(hn:aY es=es):∃b,rb h (bo [.agg [.I k,.str s,.I o,v],.I n])=some b/\b9 b=.b8 [.agg [.I k,.str s,.I o,.aa false es],.I n]:=by
 obtain⟨r,O,X⟩:∃r,rf h v=some r/\b9 r=.aa false es:=by
  exact zbu
 refine⟨.b8 [.agg [.I k,.str s,.I o,r],.I n],?_,by simp[b9,aY,X]⟩;simp only[bo,rb,iR,kZ,oE,O]
 rfl
theorem _root_.zcg{P:Prop}(h:P:=by
 refine wA ?_;refine .mk ?_ (jJ (T:=T6) rfl N rfl rfl rfl rfl);exact⟨Yv F yxb yxb⟩):P:=h
theorem Ol(s:ByteArray)(l:List Tm)(hf:FC s=true)(hl:l.length<100000000)(ih:∀t∈l,aT C 259 [enc t] (.b8 [enc t,.I 0])):aT C 259 [enc (.mk 3 s 0 l)] (.b8 [enc (.mk 3 s 0 l),.I 0]):=by
 have cL:=aj l;obtain⟨n1,n2,n3,n4,n5,n6,n7,n8,n9,n10,n11,n12⟩:=aaV hf;rw[bE];refine aT.x T6 Tryz.func259 rfl ?_;refine wA ?_
 have P:HR [⟨.m,0,4,[.agg [.I 3,.str s,.I 0,.aa false (ae l)]]⟩,⟨.m,0,4,[.agg Nm]⟩,⟨.m,0,4,[.agg [.I 3,.str s,.I 0,.aa true []]]⟩]:=by
  intro x U
  simp at U;rcases U with rfl |rfl |rfl <;>simp[bB,bq,bg]
 refine dU.zip T6 l (λp q L H=>∃v,L=[(1,.ptr 0 0 0 0),(2,.ptr 1 0 0 0),(4,.ptr 2 0 0 0),(19,.aa false (ae l)),(20,.I (ae l).length),(21,.I p.length)]/\HR H/\H[0]?=some ⟨.m,0,4,[.agg [.I 3,.str s,.I 0,.aa false (ae l)]]⟩/\H[1]?=some ⟨.m,0,4,[.agg Nm]⟩/\H[2]?=some ⟨.m,0,4,[.agg [.I 3,.str s,.I 0,v]]⟩/\Out 4 H v (ae p)/\∀i∈bJ v,3<=i) (.nx ⟨.aa true [],rfl,P,rfl,rfl,rfl,.inl ⟨rfl,rfl⟩,by simp[bJ]⟩) ?_ ?_
 ·rintro p u q _ H Y e ⟨v,rfl,D,A,O,X,f,J⟩;have dm:=bO e;have eR:=lenE e;have B:=ih u yxf;have hle:=aj p;have mo:HR (H++[Pi u]):=D.cx (HV.one yxb);have tX:HR (H++[Pi u]++[Pi u]):=mo.cx (HV.one yxb);have yh:=(f.cz [Pi u]).cz [Pi u];have NM:=ag X;have vD:ae p++[.agg (Do u)]=ae (p++[u]):=by rw[ch,<-au];rfl
  rw[au]at B;refine wA ?_;refine .p B ?_;refine wA ?_;refine .lr (λv' Z y=>?_) yh;have Q:∀j,j<3->∀g n,v≠.an j g 0 n:=λj M g n hh=>by have:=J j (by rw[hh];simp[bJ]);omega
  have b:∀j,j<3->Z[j]?=H[j]?:=λj M=>by
   rw[y.fr j yxd (Q j M),af8 yxd,af8 yxa]
  have S:=(b 0 yxa).trans A;have R:=(b 1 yxa).trans O;have W:=(b 2 yxa).trans X;have d:=y.hr
  have G:∀i∈bJ v',3<=i:=λi B=>by
   rcases y.bJ i B with h |h;exact J i h;simp at h;omega
  have z:=y.out;rw[vD]at z;have K:=z.bq;rcases z with⟨_,U⟩|⟨V,g,rfl,w⟩
  ·have:=congrArg List.length U;rw[aj]at this;simp at this
  have k2:=ag W;refine wA ?_;have PS:=G V yxi;exact .nx ⟨_,rfl,d.set _ yxb (by simpa[bB,bq]using K),(aga yxa).trans S,(aga yxa).trans R,agc k2,.inr ⟨V,g,rfl,(aga yxa).trans w⟩,G⟩
 ·rintro _ H Y ⟨v,rfl,D,A,O,X,f,J⟩;have k1:=ag O;have N:=agc (a:=(⟨.m,0,4,[.agg [.I 3,.str s,.I 0,v]]⟩:ax)) k1;have F:Out 4 (H.set 1 ⟨.m,0,4,[.agg [.I 3,.str s,.I 0,v]]⟩) v (ae l):=f.of_eq λi B=>aga (by have:=J i B;omega)
  rcases f with⟨rfl,he⟩|⟨V,g,rfl,w⟩
  ·exact zcg
  ·exact zcg
theorem J6(t:Tm):pA t=0->mL t=true->aC t<100000000->aT C 259 [enc t] (.b8 [enc t,.I 0]):=by
 induction t using Tm.ind with
 |h k s o l P=>
  intro J u W
  by_cases g:k=3
  ·subst g;obtain rfl:=Sg (qj.1 J).1 rfl;have:=bF l;simp only[aC]at W;refine Ol s l ((EJ.1 u).1 rfl) yxa λt Z=>P t Z (zo J Z) ((EJ.1 u).2 t Z) yxo
  ·rw[bE];refine aT.x T6 Tryz.func259 rfl ?_;refine wA ?_;exact o8
theorem GY(t:Tm)(u:mL t=true)(W:aC t<100000000):aT C 226 [enc t] (.b8 [enc (if pA t=0 then t else gZ),.I (pA t)]):=by
 have O:=v8 t W;have X:=λh=>J6 t h u W
 have Q:=λh:pA t=0=>(dZ t yxa).nine
 have M:=wa;rw[au t]at O X Q ⊢
 by_cases J:pA t=0
 ·have X:=X J;have Q:=Q J;rw[(qj.1 J).1]at Q;rw[if_pos J,J,au];rw[J]at O;refine aT.x T6 Tryz.func226 rfl ?_;refine wA ?_;refine .p O ?_;refine wA ?_;refine .p X ?_;refine wA ?_;refine .p Q ?_;refine wA ?_;exact o8
 ·rw[if_neg J,M];refine aT.x T6 Tryz.func226 rfl ?_;refine wA ?_;refine .p O ?_;refine wA ?_;exact⟨_,rfl,rfl⟩
theorem J7(s:ByteArray):aT C 228 [.str s] (.bool (decide ((dz s).k≠3))):=by
 have S:=sD s;rw[EZ]at S;refine aT.x T6 Tryz.func228 rfl ?_;refine wA ?_;refine .p S ?_;refine wC (λG=>?_) λG=>?_
 all_goals exact⟨_,rfl,by simp[bo, *]⟩
theorem Om(h:mL t=true):every (λs=>decide ((dz s).k≠3)) t=true:=by
 unfold mL at h;rw[xw,af9]at h ⊢
 intro u y
 have:=h u y;simp only[agJ]at this ⊢;exact this.imp id λx=>decide_eq_true (Mr x).2
theorem On(t:Tm)(u:mL t=true)(W:aC t<100000000):aT C 194 [enc t] (.bool (decide (pA t=0))):=by
 have O:=GY t u W;have X:=AK 228 _ rfl J7 t yxa;rw[Om u]at X
 by_cases J:pA t=0
 ·have Q:aT C 227 [enc t,enc t] (.bool true):=by
   have G:=(dT t t yxa yxa).nine;rw[cP]at G;rw[au]at G ⊢;refine aT.x T6 Tryz.func227 rfl ?_;refine wA ?_;refine .p G ?_;refine wA ?_;exact⟨_,rfl,rfl⟩
  rw[if_pos J,J]at O;rw[J];rw[au]at *;refine aT.x T6 Tryz.func194 rfl ?_;refine wA ?_;refine .p O ?_;refine wA ?_;refine .p Q ?_;refine wA ?_;refine .p X ?_;refine wA ?_;exact⟨_,rfl,rfl⟩
 ·rw[if_neg J,wa]at O;rw[au]at O ⊢;refine aT.x T6 Tryz.func194 rfl ?_;refine wA ?_;refine .p O ?_;refine wA ?_;exact⟨_,rfl,by simp[bo,J]⟩
end aI
def oa(l:List ByteArray):List PV:=l.map PV.str
@[simp] theorem Oo(l:List ByteArray):(oa l).length=l.length:=by simp[oa]
@[simp] theorem V6(l:List ByteArray):aw (oa l)=true:=by rw[bz];simp[oa,aW]
@[simp] theorem aaW(l:List ByteArray):aY (oa l)=oa l:=by rw[cB];simp[oa,b9]
theorem Sh{l p q:List ByteArray}{d:ByteArray}(e:l=p++d::q):(oa l)[p.length]?=some (.str d):=by rw[oa,e];simp
def GZ(t:Tm):Bool:=fY t EX ||fY t EY
theorem pe(h:mL t=true):fY t EX=false/\fY t EY=false/\fY t Sf=false/\fY t AJ=false/\fY t kV=false/\fY t xM=false:=by
 have H:∀n:ByteArray,FC n=false->fY t n=false:=λn z=>by
  cases R:fY t n
  rfl
  ·obtain⟨O,X⟩:=Si R;have:=V7 h O;rw[X,z]at this
   cases this
 refine⟨H _ ?_,H _ ?_,H _ ?_,H _ ?_,H _ ?_,H _ ?_⟩ <;>kernel_rfl
namespace aI
open Go.Proofs
attribute [local irreducible] aE az aO aL Ev ai ah ay bh bH
theorem J8(N:List ByteArray)(s:ByteArray)(A:N.length<1000000):aT C 97 [.aa false (oa N),.str s] (.I (yU (λn=>iP s n) N)):=by
 have Z:=Oo N;refine aT.x T6 Tryz.func97 rfl ?_;refine wA ?_;refine dU.zip T6 N (λp q L H=>L=[(0,.aa false (oa N)),(1,.str s),(7,.I (oa N).length),(8,.I p.length)]/\H=[]/\∀y∈p,iP s y=false) (.nx ⟨rfl,rfl,by simp⟩) ?_ ?_
 ·rintro p n q _ _ Y e ⟨rfl,rfl,K⟩;have Q:=Sh e;have b:=lenE e;refine wC (λG=>?_) λG=>?_;exact⟨_,rfl,by rw[e,tu K (uc yxc)];rfl⟩;exact .nx ⟨rfl,rfl,λy F=>by rcases agh.1 F with h |h;exact K y h;simp at h;rw[h];exact qi yxc⟩
 ·rintro _ _ Y ⟨rfl,rfl,K⟩;refine wA ?_;exact⟨_,rfl,by rw[nh K];rfl⟩
theorem Dq(N:List ByteArray)(s:ByteArray)(A:N.length<1000000):aT C 65 [.aa false (oa N),.str s] (.bool (N.any λn=>iP s n)):=by
 have O:=J8 N s A;have j:=wc (λn=>iP s n) N;refine aT.x T6 Tryz.func65 rfl ?_;refine wA ?_;refine .p O ?_;refine wC (λG=>?_) λG=>?_
 all_goals exact⟨_,rfl,by rw[<-j];simp[bo, *]⟩
theorem v7(t:Tm)(N:List ByteArray)(A:N.length<1000000):aT C 154 [enc t,.aa false (oa N)] (.bool (decide (t.k=3)&&N.any λn=>iP t.s n)):=by
 have O:=Dq N t.s A;rw[au];refine aT.x T6 Tryz.func154 rfl ?_;refine wC (λG=>?_) λG=>?_
 ·refine .p O ?_;refine wA ?_;exact⟨_,rfl,by simp[bo, *]⟩
 exact⟨_,rfl,by simp[bo, *]⟩
theorem qk(t:Tm)(n:ByteArray):aT C 154 [enc t,.aa false [.str n]] (.bool (fY t n)):=by
 have:=v7 t [n] yxb;simpa[oa,fY]using this
theorem Dr(t:Tm):aT C 153 [enc t] (.bool (GZ t)):=by
 have O:aT C 154 [enc t,.aa false [.str ⟨#[109,117,108]⟩,.str ⟨#[105,110,118]⟩]] (.bool (GZ t)):=by
  have:=v7 t [EX,EY] yxb;have e:GZ t=(decide (t.k=3)&& [EX,EY].any λn=>iP t.s n):=by cases h:decide (t.k=3) <;>simp[GZ,fY,h]
  rw[e];exact this
 rw[au]at O ⊢;refine aT.x T6 Tryz.func153 rfl ?_;refine wA ?_;refine .p O ?_;refine wA ?_;exact⟨_,rfl,rfl⟩
theorem J9(t:Tm)(u:mL t=true)(W:aC t<10000000):aT C 152 [enc t] (.I (yV t)):=by
 have O:=v8 t yxa;have X:=ql t W;have Q:=On t u yxa;have Z:=aj (cC t);have z:yV t=if pA t≠0 then pA t else if cC t≠[]then 13 else 0:=rfl;rw[au]at O X Q ⊢;refine aT.x T6 Tryz.func152 rfl ?_;refine wA ?_;refine .p O ?_;refine wC (λG=>?_) λG=>?_
 ·have M:pA t=0:=by omega
  rw[M]at Q;rw[if_neg yxa]at z;refine .p X ?_;refine wC (λG=>?_) λG=>?_
  ·have a:cC t≠[]:=by
    intro R
    have B:(ae (cC t)).length=0:=by rw[Z,R];rfl
    omega
   rw[if_pos a]at z;exact⟨_,rfl,by rw[z];rfl⟩
  ·have a:cC t=[]:=agm yxa;rw[if_neg (by simp[a])]at z;refine .p Q ?_;refine wA ?_;exact⟨_,rfl,by rw[z];rfl⟩
 exact⟨_,rfl,by rw[z,if_pos yxc];rfl⟩
theorem Sj(e:l=p++u::q)(K:∀v∈p,yV v=0)(y:yV u≠0):oc l=yV u:=by
 subst e
 induction p with
 |nil=>simp only[agS,oc];rw[if_pos y]
 |cons v p P=>
  simp only[agL,oc];rw[if_neg (by rw[K v yxb];simp),P (λw H=>K w (by simp[H]))]
theorem AL:∀{l:List Tm},(∀v∈l,yV v=0)->oc l=0
 |[],_=>rfl
 |v::l,h=>by
  rw[oc,if_neg (by rw[h v yxb];simp)];exact AL λu y=>h u yxj
theorem G6(l:List Tm)(a:∀t∈l,mL t=true)(A:l.length<10000000)(W:∀t∈l,aC t<10000000):aT C 122 [.aa false (ae l)] (.I (oc l)):=by
 have Z:=aj l;refine aT.x T6 Tryz.func122 rfl ?_;refine wA ?_;refine dU.zip T6 l (λp q L H=>L=[(6,.aa false (ae l)),(7,.I (ae l).length),(8,.I p.length)]/\HV H/\∀v∈p,yV v=0) (.nx ⟨rfl,HV.nil,by simp⟩) ?_ ?_
 ·rintro p u q _ H Y e ⟨rfl,w,K⟩;have Q:=bO e;have b:=lenE e;have O:=J9 u (a u yxf) (W u yxf);rw[au]at O;refine wA ?_;refine .p O ?_;refine wC (λG=>?_) λG=>?_;exact .nx ⟨rfl,w.cz (HV.one yxb),λv J=>by rcases agh.1 J with h |h;exact K v h;simp at h;rw[h];omega⟩;exact⟨_,rfl,by rw[Sj e K yxc];rfl⟩
 ·rintro _ H Y ⟨rfl,w,K⟩;refine wA ?_;exact⟨_,rfl,by rw[AL K];rfl⟩
theorem Oq(u:List Tm)(a:∀t∈u,mL t=true)(A:u.length<10000000):aT C 123 [.aa false (ae u)] (.I (if 200<u.length then 3 else 0)):=by
 have Z:=aj u;refine aT.x T6 Tryz.func123 rfl ?_;refine wA ?_;refine dU.zip T6 u (λp q L H=>L=[(0,.aa false (ae u)),(3,.I 0),(4,.aa true []),(11,.aa false (ae u)),(12,.I (ae u).length),(13,.I p.length)]/\HV H) (.nx ⟨rfl,HV.nil⟩) ?_ ?_
 ·rintro p t q _ H Y e ⟨rfl,w⟩;have Q:=bO e;have b:=lenE e;obtain⟨R,g,d,_⟩:=pe (a t yxf);have O:=Dr t;have X:=qk t ⟨#[101,120,112]⟩;have N:fY t ⟨#[101,120,112]⟩=false:=d;have D:GZ t=false:=by simp[GZ,R,g]
  rw[D]at O;rw[N]at X;rw[au]at O X;refine wA ?_;refine .p O ?_;refine wA ?_;refine .p X ?_;refine wA ?_;exact .nx ⟨rfl,w.cz (HV.one yxb)⟩
 ·rintro _ H Y ⟨rfl,w⟩;refine wC (λG=>?_) λG=>?_;exact⟨_,rfl,by rw[if_pos yxa];rfl⟩;exact⟨_,rfl,by rw[if_neg yxa];rfl⟩
end aI
open Go.Proofs
theorem Yd(h1:0<=n)(X:n<256):IntKind.u8.wrap n=n:=by
 have:IntKind.u8.wrap n=n % 256:=by simp[IntKind.wrap,IntKind.bits,IntKind.signed]
 rw[this];omega
attribute [local irreducible] aE az aO aL Ev ai ah ay bh
theorem lT(a b:Nat):Int.tdiv (a:Int) (b:Int)=((a / b:Nat):Int):=by rw[Int.tdiv_eq_ediv_of_nonneg yxa];exact(Int.natCast_ediv a b).symm
theorem Ra(a b:Nat):Int.tmod (a:Int) (b:Int)=((a % b:Nat):Int):=by rw[Int.tmod_eq_emod_of_nonneg yxa];exact(Int.natCast_emod a b).symm
end Go.Pm
namespace Go.Pm
def ps:List Nat:=[2,3,5,7,11,13,17,19,23,29,31,37,41,43,47,53,59,61,67,71,73,79,83,89,97,101,103,107,109,113,127,131,137,139,149,151,157,163,167,173,179,181,191,193,197,199,211,223,227,229,233,239,241,251,257,263,269,271,277,281,283,293,307,311,313,317,331,337,347,349,353,359,367,373,379,383,389]
open Go.Proofs
set_option maxRecDepth 4000
theorem ah.same{C:cA}{f:FuncId}{args:List PV}{H:ab}{P:PV->Prop}{Q:PV->ab->Prop}(a:ay C f args H (λr h'=>P r/\h'=H))(q:∀r,P r->Q r H)(d:C.mode f=.opened:=by rfl):ah C 2 f args H Q:=by
 refine ah.opened d (a.mono λr k z=>?_);obtain⟨K,rfl⟩:=z
 split
 rw[ahe];exact q r K;exact q r K
end Go.Pm
namespace Go.Pm
variable{n:Int}{f:FuncId}{args:List PV}{H h h':ab}{r:PV}{Q:PV->ab->Prop}{t u:Tm}{b i:Nat}{A B a c cs l:List Tm}{p:List Pw}
set_option maxRecDepth 4000
theorem GU(u:ByteArray)(a b:Nat):(u.extract a b).toList=(u.toList.take b).drop a:=by
 rw[ByteArray.toList_eq,ByteArray.toList_eq,ByteArray.data_extract,Array.toList_extract];simp[List.extract_eq_take_drop,List.drop_take]
def RV:ByteArray:=⟨#[48,49,50,51,52,53,54,55,56,57]⟩
def kz:List PV:=(List.range 256).map λi=>.bool (decide (48<=i)&&decide (i<=57))
theorem Oh{n:Nat}(h:n<256):kz[n]?=some (.bool (decide (48<=n)&&decide (n<=57))):=by
 unfold kz;rw[agt,aiF h]
 rfl
theorem ay.pw{C:cA}{n:Nat}(e:dC C n f args h=some (r,h'))(q:Q r h'):ay C f args h Q:=⟨r,h',q,n,λm d=>Dp C d f args h _ e⟩
theorem GV:∀{n:Nat} {l:List PV} {k:List PV->Prop},n<=l.length->k (l.drop n)->rr n l k
 |0,l,k,_,h=>h
 |n+1,_::l,k,O,h=>GV (n:=n) (by simpa using O) h
 |_+1,[],_,O,_=>by simp at O
theorem RW{u:ByteArray}(h:0<u.size):∃c,u[u.size - 1]?=some c/\u.toList=(u.extract 0 (u.size - 1)).toList++[c]:=by
 have A:=bsize u;have O:u.toList≠[]:=by intro R;rw[R]at A;simp at A;omega
 refine⟨u.toList.getLast O,V5 ?_,?_⟩;rw[<-A,List.getLast_eq_getElem,agd];rw[GU,ahs,<-A,<-List.dropLast_eq_take,List.dropLast_concat_getLast]
theorem RX{u:ByteArray}(h:0<u.size):∃c,u[0]?=some c/\u.toList=c::(u.extract 1 u.size).toList:=by
 have A:=bsize u
 cases e:u.toList with
 |nil=>rw[e]at A;simp at A;omega
 |cons c r=>
  refine⟨c,V5 (by rw[e];rfl),?_⟩;rw[GU,<-A,ahe,e]
  rfl
def oI(c:UInt8):Bool:=AG c.toNat
namespace aI
open Go.Proofs
attribute [local irreducible] aE az aO aL Ev ai ah ay bh bH
theorem Oi:(dC C 400 268 [.str RV] []).map (·.1)=some (.b8 [.agg kz,.bool true]):=by kernel_rfl
theorem RY:ay C 268 [.str RV] [] (λr h'=>r=.b8 [.agg kz,.bool true]):=by
 have h:=Oi
 cases e:dC C 400 268 [.str RV] []with
 |none=>rw[e]at h;cases h
 |some x=>
  obtain⟨r,h'⟩:=x;rw[e]at h;exact ay.pw e (af7 h)
section
attribute [local irreducible] rr
theorem yx(c:UInt8):ay C 296 [.ptr 0 0 0 0,.int .u8 c.toNat] [(⟨.m,0,256,[.agg kz]⟩:ax)] (λr h'=>r=.bool (oI c)/\h'=[(⟨.m,0,256,[.agg kz]⟩:ax)]):=by
 have G:c.toNat<256:=c.toNat_lt
 have W:oI c=(decide (48<=c.toNat)&&decide (c.toNat<=57)):=by
  unfold oI AG
  by_cases O:48<=c.toNat <;>by_cases X:c.toNat<=57 <;>simp[O,X] <;>omega
 have Q:=Oh G;rw[<-W]at Q;generalize t:kz=A at Q ⊢
 have U:A.drop (0+c.toNat * 1)=.bool (oI c)::A.drop (c.toNat+1):=by
  have F:=ag Q;rw[agz,Nat.mul_one,ahW F];rw[agd F]at Q;rw[af7 Q]
 refine ay.x T6 Tryz.func296 rfl ?_;refine wA ?_;refine GV (by show _<=A.length;have:=ag Q;omega) ?_;show AH T6 _ (A.drop (0+c.toNat * 1)) _;rw[U];refine Rn.out ?_;refine wA ?_;exact⟨rfl,rfl⟩
end
theorem GW(u:ByteArray)(a b:Nat):(u.extract a b).size=min b u.size - a:=by
 rw[<-bsize,GU,ail,ag4,bsize]
theorem RZ(s:ByteArray)(S:s.size<1000000000):ay C 270 [.str s,.ptr 0 0 0 0] [(⟨.m,0,256,[.agg kz]⟩:ax)] (λr h'=>h'=[(⟨.m,0,256,[.agg kz]⟩:ax)]/\∃u d,r=.str u/\s.toList=u.toList++d/\d.all oI=true/\u.size<=s.size/\(∀c,u.toList.getLast?=some c->oI c=false)):=by
 refine ay.x T6 Tryz.func270 rfl ?_;refine wA ?_;refine dU.nat T6 (λk L H=>∃u d,L=[(0,.str u),(1,.ptr 0 0 0 0)]/\H=[(⟨.m,0,256,[.agg kz]⟩:ax)]/\k=u.size/\s.toList=u.toList++d/\d.all oI=true/\u.size<=s.size) s.size (.nx ⟨s,[],rfl,rfl,rfl,by simp,rfl,agb _⟩) ?_;rintro k _ _ Y ⟨u,d,rfl,rfl,rfl,D,N,P⟩
 by_cases y:0<u.size
 ·obtain⟨c,O,X⟩:=RW y;have U:=GW u 0 (u.size - 1);have G:=yx c;refine wA ?_;refine .mk (n:=u.size - 1) ?_ yxa O;refine wA ?_;refine .same (G.mono λr h' h=>⟨h.1,h.2⟩) (λr z=>?_);subst z
  cases J:oI c
  ·refine wA ?_;refine⟨rfl,u,d,rfl,D,N,P,λa f=>?_⟩;rw[X,List.getLast?_append]at f;simp at f;rw[<-f];exact J
  ·refine wA ?_;rw[show((u.size:Int) - 1).toNat=u.size - 1 by omega];refine .nx ⟨_,?_,u.extract 0 (u.size - 1),c::d,rfl,rfl,rfl,by rw[D,X];simp,by simp[J,N],by omega⟩;omega
 ·refine wA ?_;refine⟨rfl,u,d,rfl,D,N,P,λc G=>?_⟩;have:=bsize u;have B:u.toList=[]:=agm yxa;rw[B]at G;simp at G
theorem R9(s:ByteArray)(S:s.size<1000000000):ay C 269 [.str s,.ptr 0 0 0 0] [(⟨.m,0,256,[.agg kz]⟩:ax)] (λr h'=>h'=[(⟨.m,0,256,[.agg kz]⟩:ax)]/\∃u d,r=.str u/\s.toList=d++u.toList/\d.all oI=true/\(∀c,u.toList.head?=some c->oI c=false)):=by
 refine ay.x T6 Tryz.func269 rfl ?_;refine wA ?_;refine dU.nat T6 (λk L H=>∃u d,L=[(0,.str u),(1,.ptr 0 0 0 0)]/\H=[(⟨.m,0,256,[.agg kz]⟩:ax)]/\k=u.size/\s.toList=d++u.toList/\d.all oI=true/\u.size<=s.size) s.size (.nx ⟨s,[],rfl,rfl,rfl,by simp,rfl,agb _⟩) ?_;rintro k _ _ Y ⟨u,d,rfl,rfl,rfl,D,N,P⟩
 by_cases y:0<u.size
 ·obtain⟨c,O,X⟩:=RX y;have U:=GW u 1 u.size;have G:=yx c;refine wA ?_;refine .same (G.mono λr h' h=>⟨h.1,h.2⟩) (λr z=>?_);subst z
  cases J:oI c
  ·refine wA ?_;refine⟨rfl,u,d,rfl,D,N,λa f=>?_⟩;rw[X]at f;simp at f;rw[<-f];exact J
  ·refine wA ?_;refine .nx ⟨_,?_,u.extract 1 u.size,d++[c],rfl,rfl,rfl,by rw[D,X];simp,by simp[J,N],by omega⟩;omega
 ·refine wA ?_;refine⟨rfl,u,d,rfl,D,N,λc G=>?_⟩;have:=bsize u;have B:u.toList=[]:=agm yxa;rw[B]at G;simp at G
theorem Sa{s u U:List UInt8}{d V:List UInt8}(D:s=u++d)(h1:d.all oI=true)(a:∀c,u.getLast?=some c->oI c=false)(N:u=V++U)(X:V.all oI=true)(B:∀c,U.head?=some c->oI c=false):U=[]↔s.all oI=true:=by
 constructor
 ·rintro rfl;rw[D,N];simp[h1,X]
 ·intro h
  rw[D,ag9,age]at h
  have y:u=[]:=by
   cases A:u.getLast? with
   |none=>exact List.getLast?_eq_none_iff.1 A
   |some c=>
    have Q:=a c A;have G:=af9.1 h.1 c (List.mem_of_getLast? A);rw[Q]at G;cases G
  rw[y]at N;exact(List.append_eq_nil_iff.1 N.symm).2
theorem adh:jN C.P 277=some (.agg (List.replicate 256 (.bool false))):=by kernel_rfl
theorem Sb(s:ByteArray)(S:s.size<1000000000):∃r:ByteArray,(r.toList=[]↔s.toList.all oI=true)/\aT C 232 [.str s,.str RV] (.str r):=by
 have H:∃x,(∃r:ByteArray,x=.str r/\(r.toList=[]↔s.toList.all oI=true))/\aT C 232 [.str s,.str RV] x:=by
  refine aT.ex (F:=id) ?_;refine ay.x T6 Tryz.func232 rfl ?_;refine wI (λG=>?_) (λG G=>?_) λG G=>?_
  ·refine⟨.str s,⟨s,rfl,?_⟩,_,rfl,rfl⟩;have B:s.toList=[]:=by rw[G,ByteArray.toList_eq]
   rw[B];simp
  exact absurd G (by rw[ByteArray.toList_eq,ByteArray.toList_eq];decide)
  ·refine .opened rfl (RY.mono λr a z=>?_);subst z;rw[if_pos (by simp[eI,cY,eu,kz,aW])];rw[show List.take ([]:ab).length a=[]from rfl];refine wA ?_;refine .mk (v:=.ptr 0 0 0 0) (h':=[⟨.m,0,256,[.agg (List.replicate 256 (.bool false))]⟩]) (λe Y=>?_) ?_
   ·simp only[ar,aD,adh];rw[if_pos ⟨by decide,by decide,by decide⟩]
    rfl
   refine wA ?_;refine .same ((RZ s S).mono λr a h=>⟨h.2,h.1⟩) (λr z=>?_);obtain⟨u,d,rfl,D,N,P,y⟩:=z;refine wA ?_;refine .same ((R9 u yxa).mono λr a h=>⟨h.2,h.1⟩) (λr z=>?_);obtain⟨U,V,rfl,R,g,b⟩:=z;refine wA ?_;exact⟨.str U,⟨U,rfl,Sa D N y R g b⟩,_,rfl,rfl⟩
 obtain⟨x,⟨r,rfl,O⟩,X⟩:=H;exact⟨r,O,X⟩
theorem J3(s:ByteArray)(S:s.size<1000000000):aT C 197 [.str s] (.bool (Sc s.toList)):=by
 obtain⟨r,O,X⟩:=Sb s S;have X:aT C 232 [.str s,.str ⟨#[48,49,50,51,52,53,54,55,56,57]⟩] (.str r):=X;have J:Sc s.toList=(!s.toList.isEmpty&&s.toList.all oI):=rfl;refine aT.x T6 Tryz.func197 rfl ?_;refine wC (λG=>?_) λG=>?_
 ·have B:s.toList=[]:=by rw[G,ByteArray.toList_eq]
  exact⟨_,rfl,by rw[J,B];rfl⟩
 ·have B:s.toList≠[]:=λR=>by exact G (by rw[R,ByteArray.toList_eq])
  have Q:s.toList.isEmpty=false:=by cases h:s.toList with |nil=>exact absurd h B |cons=>rfl
  rw[Q]at J;refine .p X ?_;refine wC (λG=>?_) λG=>?_
  ·have a:r.toList=[]:=by rw[G,ByteArray.toList_eq]
   exact⟨_,rfl,by rw[J,O.1 a];rfl⟩
  ·have a:r.toList≠[]:=λR=>by exact G (by rw[R,ByteArray.toList_eq])
   have d:s.toList.all oI=false:=by
    cases h:s.toList.all oI
    rfl
    exact absurd (O.2 h) a
   exact⟨_,rfl,by rw[J,d];rfl⟩
end aI
theorem ah.rbS{C:cA}{args' e:List PV}(W:iR h args=some args')(hn:aY args'=e)(a:aT C f e r)(q:Q r h)(S:fm r=true:=by rfl)(d:C.mode f=.pure:=by rfl):ah C 2 f args h Q:=by
 subst hn;obtain⟨B,hn⟩:=a;refine⟨r,h,q,B,λn O=>?_⟩;obtain⟨R,G,b,D,N,P⟩:=hn n O;unfold dG;rw[d]
 cases J:aw args
 ·have g:fm b=true:=by
   have:=lE b;rw[P,S]at this;exact this.symm
  simp only[dL,J,agn,if_false,W,D,N,g,aiq,if_true,P]
 ·rw[qg J]at W;obtain rfl:=af7 W;simp only[dL,J,if_true,D,N,P]
namespace aI
open Go.Proofs
attribute [local irreducible] aE az aO aL Ev ai ah ay bh bH
structure KV(b:Nat)(H:ab)(v:PV)(a:List Tm)(h':ab):Prop where
 hr:HR h'
 len:H.length<=h'.length
 var:∃v',h'[b]?=some ⟨.m,0,1,[v']⟩/\Out 4 h' v' (ae a)/\∀i∈bJ v',i∈bJ v\/H.length<=i
 fr:∀j,j<H.length->j≠b->j∉bJ v->h'[j]?=H[j]?
theorem KV.take{b:Nat}{H h':ab}{v:PV}{a:List Tm}(s:KV b H v a h')(Q:b<H.length)(z:HR (h'.take H.length)):KV b H v a (h'.take H.length):=by
 have A:=s.len;have F:(h'.take H.length).length=H.length:=by simp;omega
 obtain⟨W,D,N,P⟩:=s.var;have K:(h'.take H.length)[b]?=some ⟨.m,0,1,[W]⟩:=by rw[agD yxa];exact D
 exact zax
theorem KV.trans{h1 X:ab}{v y:PV}(s:KV b H v a h1)(e:h1[b]?=some ⟨.m,0,1,[y]⟩)(t:KV b h1 y c X):KV b H v c X:=by
 exact zas
theorem ah.kv{v:PV}(a:ay C f args H (λr h'=>r=.b8 []/\KV b H v c h'))(d:b<H.length)(q:∀h',KV b H v c h'->Q (.b8 []) h')(e:C.mode f=.opened:=by rfl):ah C 2 f args H Q:=
 ah.sm a (λr h' p=>⟨p.2.hr,p.2.len⟩) (λr h' p=>by rw[p.1];exact q h' p.2) (λr h' p z=>by rw[p.1];exact q _ (p.2.take d z)) e
theorem KV.jk{J:ab}{v:PV}(s:KV b (H++J) v a h'):KV b H v a h':=by
 exact zaz
theorem Wk(b:Nat)(u:Tm)(H:ab)(v:PV)(a:List Tm)(w:HR H)(X:H[b]?=some ⟨.m,0,1,[v]⟩)(f:Out 4 H v (ae a))(J:b∉bJ v)(hn:a.length<100000000):
  ay C 67 [enc u,.ptr b 0 0 0] H (λr h'=>r=.b8 []/\KV b H v (a++[u]) h'):=by
 have z:=aj a;have F:=ag X;have y:ae a++[.agg (Do u)]=ae (a++[u]):=by rw[ch,<-au];rfl
 rw[au];refine ay.x T6 Tryz.func67 rfl ?_;refine wA ?_;refine UI.apd X f (λi B R=>J (R▸B)) yxa (λV g h' d=>?_);refine wA ?_;refine⟨rfl,?_⟩;have G:=d.len;have A:=ag d.at';have N:∀j,j<H.length->j≠V->j≠b->h'[j]?=H[j]?:=λj K e D=>by rw[d.fr j e D,af8 K]
 refine⟨λo f=>?_,by omega,⟨_,d.var,.inr ⟨V,g,by rw[aj];simp,by rw[<-y];exact d.at'⟩,λi B=>?_⟩,λj K e D=>N j K (λR=>?_) e⟩
 ·obtain⟨j,M⟩:=ahB f
  by_cases q:j=V
  subst q;rw[d.at']at M;cases M;exact⟨by simp,bg _ _ (by rw[y];simp)⟩
  by_cases t:j=b
  subst t;rw[d.var]at M;cases M;exact⟨by simp,by simp[bB,bq];omega⟩;rw[d.fr j q t]at M;exact za4
 ·simp[bJ]at B;subst B;rcases d.idv with h |h;exact .inl h;exact .inr yxa
 ·subst R;rcases d.idv with h |h;exact D h;omega
theorem Su (b:Nat) (k s o l) (P:∀t∈l,∀(H:ab) (v:PV) (a:List Tm),HR H->H[b]?=some ⟨.m,0,1,[v]⟩->Out 4 H v (ae a)->b∉bJ v->a.length+aC t<100000000->
   ay C 66 [enc t,.fn 67 [.ptr b 0 0 0]] H (λr h'=>r=.b8 []/\KV b H v (a++pre t) h'))
  (H:ab) (v:PV) (a:List Tm) (w:HR H) (X:H[b]?=some ⟨.m,0,1,[v]⟩) (g:Out 4 H v (ae a)) (J:b∉bJ v) (hn:a.length+aC (.mk k s o l)<100000000):
  ay C 66 [enc (.mk k s o l),.fn 67 [.ptr b 0 0 0]] H (λr h'=>r=.b8 []/\KV b H v (a++pre (.mk k s o l)) h'):=by
 have Z:=aj l;have uE:=bF l;simp only[aC]at hn;have n:=ag X;have W:HR (H++[⟨.m,0,4,[enc (.mk k s o l)]⟩]):=w.cx (HV.one yxb);have j:(H++[⟨.m,0,4,[enc (.mk k s o l)]⟩])[b]?=some ⟨.m,0,1,[v]⟩:=by rw[af8 n];exact X
 have V:=Wk b (.mk k s o l) (H++[⟨.m,0,4,[enc (.mk k s o l)]⟩]) v a W j (g.cz _) J yxa;rw[bE]at V ⊢;refine ay.x T6 Tryz.func66 rfl ?_;refine wA ?_;refine ah.kv V yxd (λh' f=>?_);refine wA ?_;have O:=f.jk
 have fP:h'[H.length]?=some ⟨.m,0,4,[.agg (If k s o l)]⟩:=by
  rw[f.fr H.length yxb yxa (λR=>by have:=g.nP _ R;omega)];simp
 refine wA ?_;have i:a++[Tm.mk k s o l]=a++(.mk k s o l::cX []):=rfl;rw[i]at O;refine dU.zip T6 l (λp q L K=>L=[(1,.fn 67 [.ptr b 0 0 0]),(10,.aa false (ae l)),(11,.I (ae l).length),(12,.I p.length)]/\KV b H v (a++(.mk k s o l::cX p)) K) (.nx ⟨rfl,O⟩) ?_ ?_
 ·rintro p u q _ K Y e ⟨rfl,d⟩;have Q:=bO e;have S:=lenE e;obtain⟨y,U,z,A⟩:=d.var;have D:=d.len;have N:=d.hr
  have G:b∉bJ y:=λB=>by
   rcases A b B with h |h;exact J h;omega
  have M:bm l=bm p+(aC u+bm q):=by rw[e,ni];simp[bm]
  have oH:(cX p).length<=bm p:=nM p;have F:=P u yxf (K++[⟨.m,0,4,[enc u]⟩]) y (a++(Tm.mk k s o l::cX p)) (N.cx (HV.one yxb)) (by rw[af8 (ag U)];exact U) (z.cz _) G (by simp only[agf,agj];omega);rw[au]at F;refine wA ?_;refine ah.kv F yxd (λh' f=>?_);refine wA ?_;refine .nx ⟨rfl,?_⟩;have:=d.trans U f.jk;rwa[ags,show Tm.mk k s o l::cX p++pre u=Tm.mk k s o l::cX (p++[u]) by rw[nj];simp[cX]]at this
 ·rintro _ K Y ⟨rfl,d⟩;refine wA ?_;exact⟨rfl,by rw[pre];exact d⟩
theorem Hi(b:Nat)(t:Tm):∀(H:ab) (v:PV) (a:List Tm),HR H->H[b]?=some ⟨.m,0,1,[v]⟩->Out 4 H v (ae a)->b∉bJ v->a.length+aC t<100000000->
   ay C 66 [enc t,.fn 67 [.ptr b 0 0 0]] H (λr h'=>r=.b8 []/\KV b H v (a++pre t) h'):=by
 induction t using Tm.ind with
 |h k s o l P=>exact Su b k s o l P
def AQ(h:ab)(r:PV)(l:List Tm):Prop:=∃V g O,r=.an V g 0 l.length/\h[V]?=some ⟨.m,g,4,ae l++O⟩/\aw O=true
theorem MA(h:l≠[]):cX l≠[]:=by
 cases l with
 |nil=>exact absurd rfl h
 |cons t l=>intro R;have:=fK t;rw[cX]at R;rw[(List.append_eq_nil_iff.1 R).1]at this;cases this
theorem mT(l:List Tm)(h0:l≠[])(H:ab)(hH:HR H)(b d:Nat)(G:H[b]?=some ⟨.m,d,4,ae l⟩)(hl:bm l<10000000):ay C 28 [.an b d 0 l.length] H (λr h'=>HR h'/\H.length<=h'.length/\(∀j,j<H.length->h'[j]?=H[j]?)/\AQ h' r (fq l)/\∃V ep n,r=.an V ep 0 n/\H.length<=V):=by
 have cL:=aj l;have uE:=bF l;have v:=ag G;obtain⟨B,X⟩:∃B:ab,B=H++[⟨.m,0,1,[.aa true []]⟩]:=⟨_,rfl⟩;have S:B.length=H.length+1:=by rw[X];simp
 have Q:HR B:=by rw[X];exact hH.cx (HV.one rfl)
 have g:B[H.length]?=some ⟨.m,0,1,[.aa true []]⟩:=by rw[X];simp
 have w:B[b]?=some ⟨.m,d,4,ae l⟩:=by rw[X,af8 v];exact G
 refine ay.x T6 Tryz.func28 rfl ?_;refine wA ?_;rw[<-X];refine dU.zip T6 l (λp q L K=>L=[(3,.ptr H.length 0 0 0),(6,.an b d 0 l.length),(7,.I l.length),(8,.I p.length)]/\KV H.length B (.aa true []) (cX p) K) (.nx ⟨rfl,Q,agb _,⟨_,g,.inl ⟨rfl,rfl⟩,λi A=>.inl A⟩,λ_ _ _ _=>rfl⟩) ?_ ?_
 ·rintro p u q _ K Y e ⟨rfl,f⟩;have dm:(ae l)[0+p.length]?=some (.agg (Do u)):=by rw[agz];exact bO e
  have eR:=lenE e;obtain⟨M,U,q2,q3⟩:=f.var;have P:=f.len;have y:=f.hr;have hK0:K[b]?=some ⟨.m,d,4,ae l⟩:=by rw[f.fr b yxa yxa yxi];exact w
  have tZ:H.length∉bJ M:=λA=>by
   rcases q3 _ A with h |h;simp[bJ]at h;omega
  have Yx:bm l=bm p+(aC u+bm q):=by rw[e,ni];simp[bm]
  have oH:(cX p).length<=bm p:=nM p;have F:=Hi H.length u (K++[⟨.m,0,4,[enc u]⟩]) M (cX p) (y.cx (HV.one yxb)) (by rw[af8 (ag U)];exact U) (q2.cz _) tZ yxa;rw[au]at F;refine wA ?_;refine ah.kv F yxd (λh' ks=>?_);refine wA ?_;refine .nx ⟨rfl,?_⟩;have:=f.trans U ks.jk;rwa[show cX p++pre u=cX (p++[u]) by rw[nj];simp[cX]]at this
 ·rintro _ K Y ⟨rfl,f⟩;obtain⟨v',Z,N,e3⟩:=f.var;have R:=f.hr;have P:=f.len;have oH:=nM l;have W:dd (fj (cX l))=fq l:=EF _;rcases N with⟨rfl,e9⟩|⟨V,ep,rfl,N⟩;exact absurd (agm (by rw[<-aj,e9];rfl)) (MA h0)
  ·have ho:=uN K R V ep (cX l) N yxa (λu D=>by obtain⟨t,ht,D⟩:=dN.1 D;have:=qb t u D;have:=cc ht;omega);rw[aj]at Z
   have bL:H.length+1<=V:=by
    rcases e3 V yxi with h |h;simp[bJ]at h;omega
   refine wA ?_;refine .ln ho (λr h' z=>by obtain⟨_,_,_,rfl⟩:=z;simp) (λr h' z=>?_);obtain⟨rfl,O,J,rfl⟩:=z;rw[W];have e5:=agc (a:=(⟨.m,ep,4,ae (fq l)++O⟩:ax)) (ag N);refine wA ?_;refine⟨R.set _ yxb (bg _ _ (by rw[cU,J];simp)),by simp;omega,λj hj=>?_,⟨V,ep,O,rfl,e5,J⟩,V,ep,_,rfl,by omega⟩;rw[aga yxa,f.fr j yxa yxa yxi,X,af8 hj]
theorem _root_.Go.Pm.ah.op{rest j:List PV}{v rv:PV}(o:AQ h v l)(a:aT C f (.aa false (ae l)::j) rv)(q:Q rv h)(S:fm rv=true:=by rfl)(z:aw rest=true:=by simp)(hn:aY rest=j:=by simp)(d:C.mode f=.pure:=by rfl):ah C 2 f (v::rest) h Q:=by
 obtain⟨V,g,O,rfl,e,Z⟩:=o;have X:(ae l++O).take l.length=ae l:=by rw[agX (by rw[aj];omega),agB (by rw[aj];omega)]
 refine ah.rbS (args':=.aa false (ae l)::rest) ?_ (by subst hn;simp[aY,b9]) a q S d;simp only[iR,kZ,rf,getM,e];simp only[and_self,if_true,agz,agf,aj];rw[if_pos ⟨by simp,by simp⟩];simp only[ahs,X];rw[if_pos ⟨by first |omega |(rw[agf,aj];omega),by simp,by simp⟩,qg z]
theorem AQ.Cy{k:IntKind}(o:AQ h r l):∃b,rb h (bo [r,.int k n])=some b/\b9 b=.b8 [.aa false (ae l),.int k n]:=by
 obtain⟨V,g,O,rfl,e,Z⟩:=o;have X:(ae l++O).take l.length=ae l:=by rw[agX (by rw[aj];omega),agB (by rw[aj];omega)]
 refine⟨.b8 [.aa false (ae l),.int k n],?_,by simp[b9,aY,bI]⟩;simp[bo,rb,iR,kZ,rf,getM,e,X,aW]
theorem Ds(l:List Tm)(A:l.length<10000000)(W:∀t∈l,aC t<100000000):aT C 86 [.aa false (ae l)] (.aa false (ae (nL l))):=by
 have a:=aj l;have Y:dd (fj l)=nL l:=EF _;refine aT.x T6 Tryz.func86 rfl ?_;refine wA ?_
 cases l with
 |nil=>
  refine ah.de rfl (h':=[]) (rv:=.aa true []) rfl ?_;refine wA ?_;refine ah.de rfl rfl ?_;refine wA ?_;refine .ln (wi _ _) (λr d z=>by rw[z.2]) (λr d z=>?_);obtain⟨rfl,rfl⟩:=z;refine wA ?_;exact⟨_,rfl,rfl⟩
 |cons y U=>
  refine ah.de rfl (kC (l:=y::U) yxb (by simp at A ⊢;omega) []) ?_;generalize b:y::U=l at *;refine wA ?_;have D:([]++[⟨.m,0,4,ae l⟩]:ab)[0]?=some ⟨.m,0,4,ae l⟩:=rfl;refine ah.de rfl (oX D yxa (λt Z=>by have:=W t Z;omega)) ?_;have N:(([]++[⟨.m,0,4,ae l⟩]:ab).set 0 ⟨.m,0,4,ae (fj l)⟩)[0]?=some ⟨.m,0,4,ae (fj l)⟩:=rfl;have g:=(ga l).length_eq;have X:∀t∈fj l,aC t<100000000:=λt Z=>W t ((ga _).mem_iff.1 Z)
  rw[<-g]at a A ⊢;generalize fj l=S at *
  cases S with
  |nil=>rw[<-b]at g;simp at g
  |cons x r=>
   have G:=sI _ rfl J0 x r _ (HV.one yxb).hr 0 0 N (by simp at A;omega) (λt Z=>by have:=X t Z;omega);rw[aj]at G;refine wA ?_;refine .ln G (λr d z=>by obtain⟨_,_,_,rfl⟩:=z;simp) (λr d z=>?_);obtain⟨rfl,O,J,rfl⟩:=z;rw[Y];refine wA ?_;exact iF (tl:=O) rfl (by rw[aj]) yxb yxb
theorem nT(l:List Tm):(fq l).length<=bm l:=by
 have O:=Aj (cX l);have X:=nM l;unfold fq;omega
theorem Di{B:Nat}(h:∀t∈l,aC t<B):∀y∈fq l,aC y<B:=λy F=>by
 obtain⟨t,Z,F⟩:=dN.1 ((gM _ _).1 F);have:=qb t y F;have:=h t Z;omega
theorem E2(k:List Tm)(t:Tm)(e:∀u∈k++[t],mL u=true)(A:bm (k++[t])<10000000):
  aT C 85 [.aa false (ae k),.aa false (ae [t])] (.b8 [.aa false (ae (if uK k t≠0 then[]else fq (k++[t]))),.I (uK k t)]):=by
 have Z:=aj k;have J:=bF (k++[t]);simp only[agf,agj,agH]at J;have v:∀u∈k++[t],aC u<10000000:=λu q=>by have:=cc q;omega
 have O:=G6 (k++[t]) e yxd v
 have Q:=Oq (fq (k++[t])) (λy F=>by
  obtain⟨a,j,W⟩:=dN.1 ((gM _ _).1 F);exact EL (e a j) W) (by have:=nT (k++[t]);omega)
 have b:uK k t=if 60<k.length then 3 else if oc (k++[t])≠0 then oc (k++[t])else if 200<(fq (k++[t])).length then 3 else 0:=rfl;have P:X2 [] (.aa true [.aa false (ae k),.aa false (ae [t])]) (.aa false (ae k)) (.aa false (ae [t])):=.inl rfl;have D:=(CT k [t] [] _ _ _ P (.inr ⟨_,rfl⟩) (.inr ⟨_,rfl⟩) yxd).nine;generalize H:fq (k++[t])=U at *;have Y:uK k t=0->(if uK k t≠0 then[]else U)=U:=λh=>if_neg yxa
 have K:uK k t≠0->(if uK k t≠0 then[]else U)=[]:=λh=>if_pos h
 generalize(if uK k t≠0 then[]else U)=R at *;refine aT.x T6 Tryz.func85 rfl ?_;refine wC (λG=>?_) λG=>?_
 ·rw[if_pos yxa]at b;exact⟨_,rfl,by rw[K yxa,b];rfl⟩
 ·rw[if_neg yxa]at b;refine .opened rfl (D.mono λr d z=>?_)
  obtain⟨g,rfl,rfl⟩:∃g,r=.an 0 g 0 (ae (k++[t])).length/\d=[⟨.m,g,4,ae (k++[t])⟩]:=by
   rcases z with⟨h,_⟩|⟨g,O,X⟩;simp at h;exact⟨g,O,X⟩
  rw[if_neg (by simp[eI,cY,eu])];have i:Out 4 [⟨.m,g,4,ae (k++[t])⟩] (.an 0 g 0 (ae (k++[t])).length) (ae (k++[t])):=.inr ⟨0,g,rfl,rfl⟩;refine wA ?_;refine .plS (.inl i) O ?_;refine wC (λG=>?_) λG=>?_
  ·have M:oc (k++[t])=0:=by omega
   rw[if_neg yxa]at b;have w:=mT (k++[t]) yxb [⟨.m,g,4,ae (k++[t])⟩] (HV.one yxb).hr 0 g rfl A;rw[aj]at *;refine .fr (w.mono λr d z=>⟨z.1,z.2.1,z.2.2.1,z.2.2.2⟩) (λr d z W=>?_) (λr d N r2 r3 B=>?_)
   ·obtain⟨_,V,g,n,rfl,f⟩:=z;simp[eI,cY,eu]at W;simp at f;omega
   obtain⟨S,_⟩:=B;rw[H]at S;refine wA ?_;refine ah.op S Q ?_ (by split <;>rfl);refine wC (λG=>?_) λG=>?_
   ·rw[Y yxa,show uK k t=0 by omega];exact S.Cy
   exact⟨_,rfl,by rw[K yxa,b];rfl⟩
  ·rw[if_pos yxc]at b;exact⟨_,rfl,by rw[K yxa,b];rfl⟩
end aI
def AI(s:ByteArray):Bool:=s.toList.take 2==[101,35]
def sE:ByteArray:=⟨#[101,35]⟩
theorem adi:sE.toList=[101,35]:=by rw[ByteArray.toList_eq];rfl
namespace aI
open Go.Proofs
attribute [local irreducible] aE az aO aL Ev ai ah ay bh bH
theorem J4(s:ByteArray)(S:s.size<1000000000):aT C 265 [.str s,.str sE] (.bool (AI s)):=by
 have A:=bsize s;have K:AI s=(s.toList.take 2==[101,35]):=rfl;have U:(s.extract 0 2).toList=s.toList.take 2:=by rw[GU,ahs]
 refine aT.x T6 Tryz.func265 rfl ?_;refine wJ (λG G=>?_) (λG G=>?_) λG=>?_
 ·have R:(s.extract 0 2).toList=sE.toList:=by assumption
  exact⟨_,rfl,by rw[K,<-U,R,adi];rfl⟩
 ·have R:¬(s.extract 0 2).toList=sE.toList:=by assumption
  rw[U,adi]at R;exact⟨_,rfl,by rw[K];simp[bo,R]⟩
 ·have Q:sE.size=2:=rfl
  have R:s.toList.take 2≠[101,35]:=λh=>by
   have:=congrArg List.length h;simp at this;omega
  exact⟨_,rfl,by rw[K];simp[bo,R]⟩
theorem _root_.zch{P:Prop}(h:P:=by
 refine aT.x T6 Tryz.func231 rfl ?_;refine wA ?_;refine .p O ?_;refine wA ?_;exact⟨_,rfl,rfl⟩):P:=h
theorem Se(s:ByteArray)(S:s.size<1000000000):∃r:ByteArray,(AI s=true->r.toList=s.toList.drop 2)/\r.size<=s.size/\aT C 196 [.str s,.str ⟨#[101,35]⟩] (.b8 [.str r,.bool (AI s)]):=by
 have O:=J4 s S
 have H:∃r:ByteArray,(AI s=true->r.toList=s.toList.drop 2)/\r.size<=s.size/\aT C 231 [.str s,.str sE] (.b8 [.str r,.bool (AI s)]):=by
  cases K:AI s
  ·refine⟨s,λh=>(by cases h),agb _,?_⟩;rw[K]at O;exact zch
  ·have X:2<=s.size:=by
    have:=congrArg List.length (eq_of_beq (show(s.toList.take 2==[101,35])=true from K));have:=bsize s;simp at *;omega
   have U:(s.extract 2 s.size).toList=s.toList.drop 2:=by rw[GU,<-bsize,ahe]
   refine⟨s.extract 2 s.size,λ_=>U,by rw[<-bsize,U,ail,bsize];omega,?_⟩;rw[K]at O;have Q:sE.size=2:=rfl;exact zch
 obtain⟨r,a,z,g⟩:=H;refine⟨r,a,z,?_⟩;have g:aT C 231 [.str s,.str ⟨#[101,35]⟩] (.b8 [.str r,.bool (AI s)]):=g;refine aT.x T6 Tryz.func196 rfl ?_;refine wA ?_;refine .p g ?_;refine wA ?_;exact⟨_,rfl,rfl⟩
theorem J5(t:Tm)(W:aC t<100000000)(A:t.l.length<100000000):aT C 156 [enc t] (.bool (ET t)):=by
 have i:t.s.size<100000000:=by obtain⟨k,s,o,l⟩:=t;simp only[aC]at W;simp only[Tm.s];omega
 obtain⟨r,O,X,Q⟩:=Se t.s yxa;have b:=J3 r yxa
 have d:aT C 154 [enc t,.aa false [.str ⟨#[122,101,114,111]⟩,.str ⟨#[111,110,101]⟩]] (.bool (decide (t.k=3)&& (iP t.s kV ||iP t.s xM))):=by
  have:=v7 t [kV,xM] yxb;have e:(decide (t.k=3)&& (iP t.s kV ||iP t.s xM))=(decide (t.k=3)&& [kV,xM].any λn=>iP t.s n):=by simp
  rw[e];exact this
 have Z:=aj t.l
 have f:Oj t.s.toList=(AI t.s&&Sc r.toList):=by
  unfold Oj
  cases K:AI t.s
  ·have:(t.s.toList.take 2==[101,35])=false:=K;rw[this];rfl
  ·have:(t.s.toList.take 2==[101,35])=true:=K;rw[this,O K]
 have H:ET t=if t.k=3 then(iP t.s kV ||iP t.s xM)&&t.l.isEmpty else if t.k≠2 then false else if t.o=1\/t.o=5 then true else if t.o=4 then iP t.s nG ||Oj t.s.toList else if t.o=0\/t.o=2\/t.o=3 then Oj t.s.toList else false:=rfl;rw[f]at H;generalize AI t.s=P at *;generalize Sc r.toList=D at *;have a:t.l.isEmpty=decide ((ae t.l).length=0):=by rw[Z];cases t.l <;>simp
 rw[au]at d ⊢;refine aT.x T6 Tryz.func156 rfl ?_;refine wI (λG=>?_) (λG G=>?_) λG G=>?_
 ·have g:t.k=3:=by omega
  rw[if_pos g]at H;rw[decide_eq_true g,ahA]at d;refine .p d ?_
  cases M:iP t.s kV ||iP t.s xM
  ·refine wA ?_;exact⟨_,rfl,by rw[H,M];rfl⟩
  ·refine wC (λG=>?_) λG=>?_
   ·rw[decide_eq_true yxa]at a;exact⟨_,rfl,by rw[H,M,a];rfl⟩
   ·rw[decide_eq_false yxa]at a;exact⟨_,rfl,by rw[H,M,a];rfl⟩
 ·rw[if_neg yxa]at H;refine .p Q ?_
  (repeat' (first |(refine Rn.go ?_;conv=>whnf)|refine .mk ?_ |refine .mk (λG=>?_) λG=>?_ |fail))
  ·rw[if_neg yxa,if_pos yxa]at H;exact⟨_,rfl,by rw[H];rfl⟩
  ·rw[if_neg yxa,if_pos yxa]at H;exact⟨_,rfl,by rw[H];rfl⟩
  ·have N:iP t.s nG=true:=uc yxc;rw[if_neg yxa,if_neg yxa,if_pos yxa,N]at H;exact⟨_,rfl,by rw[H];rfl⟩
  ·have N:iP t.s nG=false:=qi yxc;rw[if_neg yxa,if_neg yxa,if_pos yxa,N]at H
   cases h:P
   ·rw[h]at H
    skip
    exact⟨_,rfl,by rw[H];rfl⟩
   ·rw[h]at H
    skip
    refine .p b ?_;refine wA ?_;exact⟨_,rfl,by rw[H];rfl⟩
  all_goals first
   |have y:ET t=(P&&D):=by rw[H,if_neg yxa,if_neg yxa,if_neg yxa,if_pos yxa]
    cases h:P
    ·rw[h]at y
     skip
     exact⟨_,rfl,by rw[y];rfl⟩
    ·rw[h]at y
     skip
     refine .p b ?_;refine wA ?_;exact⟨_,rfl,by rw[y];rfl⟩
   |exact⟨_,rfl,by rw[H,if_neg yxa,if_neg yxa,if_neg yxa,if_neg yxa];rfl⟩
   |exact⟨_,rfl,by rw[H,if_pos yxa];rfl⟩
 exact⟨_,rfl,by rw[H,if_neg yxa,if_pos yxa];rfl⟩
theorem Wi(l:List Tm)(g:FuncId)(cs:List PV)(p:Tm->Bool)(H:ab)(A:l.length<1000000000)(b:∀x∈l,gi H g cs (enc x) (p x)):
  ay C 233 [.aa false (ae l),.fn g cs] H (λr h'=>r=.I (yU p l)/\hC H h'):=by
 have Z:=aj l;refine ay.x T6 Tryz.func233 rfl ?_;exact zaf
theorem Ms(l:List Tm)(g:FuncId)(cs:List PV)(p:Tm->Bool)(H:ab)(A:l.length<1000000000)(K:∀x∈l,gi H g cs (enc x) (p x)):
  ay C 199 [.aa false (ae l),.fn g cs] H (λr h'=>r=.bool (l.any p)/\hC H h'):=by
 have B:=Wi l g cs p H A K;have j:=wc p l;refine ay.x T6 Tryz.func199 rfl ?_;exact za0
structure mi(s:List Tm):Prop where
 Mt:gY s
 len:s.length<10000000
 bk:∀b∈s,aC b<10000000
theorem mi.has{s:List Tm}(h:mi s)(Z:aC t<10000000):aT C 88 [.aa false (ae s),enc t] (.bool (cG s t)):=RS s t h.Mt (by have:=h.len;omega) (λb W=>by have:=h.bk b W;omega) yxa
theorem Sr(s:List Tm)(S:mi s)(x:Tm)(U:aC x<10000000)(V:Nat)(H:ab)(h0:H[V]?=some ⟨.m,0,1,[.aa false (ae s)]⟩):ay C 198 [enc x,.ptr V 0 0 0] H (λr h'=>r=.bool (!cG s x)/\hC H h'):=by
 have O:=S.has U;have F:=ag h0;rw[au]at O ⊢;refine ay.x T6 Tryz.func198 rfl ?_;refine wA ?_;refine .p O ?_
 cases cG s x
 all_goals(
  refine wA ?_;exact⟨rfl,(hC.refl _).cz (HV.one yxb)⟩)
theorem E1(s:List Tm)(S:mi s)(u:Tm)(y:aC u<10000000):aT C 157 [.aa false (ae s),enc u] (.bool (AO s u)):=by
 obtain⟨B,H⟩:∃B:ab,B=[⟨.m,0,1,[.aa false (ae s)]⟩,Pi u]:=⟨_,rfl⟩;have b:B[0]?=some ⟨.m,0,1,[.aa false (ae s)]⟩:=by rw[H];rfl
 have V:u.l.length<10000000:=by obtain⟨k,n,o,l⟩:=u;have:=bF l;simp only[aC]at y;simp only[Tm.l];omega
 have h:∀x∈u.l,aC x<10000000:=λx U=>by obtain⟨k,n,o,l⟩:=u;have:=cc U;simp only[aC]at y;simp only[Tm.l]at this;omega
 have G:=qV u.l 198 [.ptr 0 0 0 0] (λx=>!cG s x) B yxa (λx U=>gi.opened λY R=>Sr s S x (h x U) 0 Y (R.at b));have z:(u.l.any λx=>!cG s x)= !(u.l.all (cG s)):=by rw[List.all_eq_not_any_not];simp
 rw[z]at G
 have d:aT C 154 [enc u,.aa false [.str ⟨#[112,97,105,114]⟩,.str ⟨#[101,110,99]⟩,.str ⟨#[97,101,110,99]⟩,.str ⟨#[112,107]⟩,.str ⟨#[115,105,103,110]⟩,.str ⟨#[104,97,115,104]⟩]] (.bool (AR u)):=by
  have:=v7 u [kT,kM,gK,LV,pf,yp] yxb;have e:AR u=(decide (u.k=3)&& [kT,kM,gK,LV,pf,yp].any λn=>iP u.s n):=by simp[AR,Dt,Bool.or_assoc]
  rw[e];exact this
 have w:AO s u=(AR u&&u.l.all (cG s)):=rfl;rw[w];rw[au]at d ⊢;refine aT.x T6 Tryz.func157 rfl ?_;refine wA ?_;refine .p d ?_
 cases AR u
 ·refine wA ?_;exact⟨_,rfl,rfl⟩
 ·refine wA ?_;rw[<-H];refine .ex G (λa R=>?_)
  cases u.l.all (cG s)
  all_goals(
   refine wA ?_;exact⟨_,rfl,rfl⟩)
theorem AT(t:Tm)(n:ByteArray):aT C 234 [enc t,.str n] (.bool (fY t n)):=by
 rw[au];refine aT.x T6 Tryz.func234 rfl ?_;refine wJ (λG G=>?_) (λG G=>?_) λG=>?_;exact⟨_,rfl,by simp[bo,fY,iP, *]⟩;exact⟨_,rfl,by simp[bo,fY,iP, *]⟩;exact⟨_,rfl,by simp[bo,fY,iP, *]⟩
theorem aa0(t:Tm)(W:aC t<10000000):aT C 273 [enc t,.aa false []] (.b8 [enc t,.I 0]):=by
 have O:=p9 t yxa;rw[au]at O ⊢;refine aT.x T6 Tryz.func273 rfl ?_;refine wA ?_;obtain⟨B,H⟩:∃B:ab,B=[Pi t,⟨.m,0,4,[.agg Nm]⟩]:=⟨_,rfl⟩;refine dU.zip T6 ([]:List Tm) (λp q L K=>L=[(2,.ptr 0 0 0 0),(4,.ptr 1 0 0 0),(8,.aa false []),(9,.I 0),(10,.I p.length)]/\K=[Pi t,⟨.m,0,4,[.agg Nm]⟩]) (.nx ⟨rfl,rfl⟩) ?_ ?_
 ·rintro p u q _ K Y e _
  cases p <;>cases e
 ·rintro _ _ Y ⟨rfl,rfl⟩;refine wA ?_;refine .p O ?_;refine wA ?_;exact o8
theorem AU(t:Tm)(W:aC t<10000000):aT C 235 [enc t] (enc t):=by
 have O:=aa0 t W;rw[au]at O ⊢;refine aT.x T6 Tryz.func235 rfl ?_;refine wA ?_;refine .p O ?_;refine wA ?_;exact YA
theorem uM(h:i<t.l.length):(ae t.l)[i]?=some (.agg [.I (jh t i).k,.str (jh t i).s,.I (jh t i).o,.aa false (ae (jh t i).l)]):=by
 refine iT ?_;rw[jh,agA,agd h]
 rfl
theorem pD(h:i<t.l.length):jh t i∈t.l:=by
 rw[jh,agA,agd h];exact agO h
theorem ju{x:Tm}(h:x∈t.l):aC x<aC t:=by
 obtain⟨k,n,o,l⟩:=t;have:=cc h;simp only[aC,Tm.l]at *;omega
theorem OB{n:ByteArray}(h:pA t=0)(hn:fY t n=true)(X:(dz n).a=2/\(dz n).b=2):t.l.length=2:=by
 obtain⟨a,b,e⟩:=qU h hn X;rw[e];rfl
theorem _root_.zbh{P:Prop}(h:P:=by
 refine wA ?_;refine .p O ?_;refine wA ?_;refine .p X ?_;refine wA ?_;refine .p Q ?_;refine wA ?_;refine .p G ?_;refine wA ?_;exact⟨_,rfl,rfl⟩):P:=h
theorem Wj(t:Tm)(W:aC t<10000000):aT C 202 [enc t] (.b8 [enc (we t),.I (AS t)]):=by
 have O:=v8 t yxa;have X:=AT t ⟨#[101,110,99]⟩;have Q:=AT t ⟨#[97,101,110,99]⟩;have R:AS t=if pA t≠0 then pA t else if fY t kM=true then 0 else if fY t gK=false then 10 else if fY (jh t 1) LV=false then 4 else 0:=rfl;have w:we t=if AS t≠0 then gZ else if fY t kM=true then jh t 1 else jh (jh t 1) 0:=rfl;have S:fY t ⟨#[101,110,99]⟩=fY t kM:=rfl;have v:fY t ⟨#[97,101,110,99]⟩=fY t gK:=rfl;rw[S]at X;rw[v]at Q;have b:=wa;rw[au t]at O X Q ⊢
 by_cases J:pA t=0
 ·rw[if_neg yxa]at R
  cases z:fY t kM
  ·rw[z]at X R w;rw[if_neg yxb]at R
   cases j:fY t gK
   ·rw[j,if_pos rfl]at R;rw[j]at Q;rw[if_pos yxa]at w;rw[w,R,b];refine aT.x T6 Tryz.func202 rfl ?_;refine wA ?_;refine .p O ?_;refine wA ?_;refine .p X ?_;refine wA ?_;refine .p Q ?_;refine wA ?_;exact⟨_,rfl,rfl⟩
   ·rw[j,if_neg yxb]at R;rw[j]at Q;have g:=OB J j Ke.2.2.1;have f:=uM (t:=t) (i:=1) yxa;have G:=AT (jh t 1) ⟨#[112,107]⟩;have N:fY (jh t 1) ⟨#[112,107]⟩=fY (jh t 1) LV:=rfl;rw[N,au]at G
    cases a:fY (jh t 1) LV
    ·rw[a,if_pos rfl]at R;rw[a]at G;rw[if_pos yxa]at w;rw[w,R,b];refine aT.x T6 Tryz.func202 rfl ?_;exact zbh
    ·rw[a,if_neg yxb]at R;rw[a]at G;rw[if_neg yxa,if_neg yxb]at w;have e:=pD (t:=t) (i:=1) yxa;obtain⟨c,A⟩:=E4 (zo J e) a Ke.2.2.2.2;have h:(jh t 1).l.length=1:=by rw[A];rfl
     have q:=uM (t:=jh t 1) (i:=0) yxa;have F:=ju e;have U:=ju (pD (t:=jh t 1) (i:=0) yxa);have d:=AU (jh (jh t 1) 0) yxa;rw[w,R];generalize n:jh (jh t 1) 0=K at *;generalize u:jh t 1=M at *;rw[au]at d ⊢;refine aT.x T6 Tryz.func202 rfl ?_;refine wA ?_;refine .p O ?_;refine wA ?_;refine .p X ?_;refine wA ?_;refine .p Q ?_;refine wA ?_;refine .p G ?_;refine wA ?_;refine .p d ?_;refine wA ?_;exact o8
  ·rw[z,if_pos rfl]at R;rw[z]at X w;rw[if_neg yxa,if_pos rfl]at w;have g:=OB J z Ke.2.1;have f:=uM (t:=t) (i:=1) yxa;have F:=ju (pD (t:=t) (i:=1) yxa);have d:=AU (jh t 1) yxa;rw[w,R];generalize u:jh t 1=M at *;rw[au]at d ⊢;refine aT.x T6 Tryz.func202 rfl ?_;refine wA ?_;refine .p O ?_;refine wA ?_;refine .p X ?_;refine wA ?_;refine .p d ?_;refine wA ?_;exact o8
 ·rw[if_pos J]at R;rw[if_pos yxa]at w;rw[w,R,b];refine aT.x T6 Tryz.func202 rfl ?_;refine wA ?_;refine .p O ?_;refine wA ?_;exact⟨_,rfl,rfl⟩
theorem _root_.zba{P:Prop}(h:P:=by
 refine wA ?_;exact⟨rfl,((hC.refl _).cz (HV.one yxb)).cz (HV.one yxb)⟩):P:=h
theorem Kf(s:List Tm)(hs:mi s)(u t:Tm)(hu:aC u<10000000)(ht:aC t<10000000)(J:pA t=0)(F A:Nat)(H:ab)(w:HV H)(h1:H[F]?=some (Pi u))(X:H[A]?=some ⟨.m,0,1,[.aa false (ae s)]⟩):
  ay C 200 [enc t,.ptr F 0 0 0,.ptr A 0 0 0] H (λr h'=>r=.bool (yB s u t)/\hC H h'):=by
 have a:=qk t ⟨#[112,97,105,114]⟩;have b:=qk t ⟨#[115,105,103,110]⟩
 have D:aT C 154 [enc t,.aa false [.str ⟨#[101,110,99]⟩,.str ⟨#[97,101,110,99]⟩]] (.bool (fY t kM ||fY t gK)):=by
  have:=v7 t [kM,gK] yxb;have e:(fY t kM ||fY t gK)=(decide (t.k=3)&& [kM,gK].any λn=>iP t.s n):=by cases h:decide (t.k=3) <;>simp[fY,h]
  rw[e];exact this
 have n1:fY t ⟨#[112,97,105,114]⟩=fY t kT:=rfl;have n2:fY t ⟨#[115,105,103,110]⟩=fY t pf:=rfl;rw[n1]at a;rw[n2]at b;have W:=ag h1;have Y:=ag X;have f:yB s u t=if fY t kT=true then decide (aZ (jh t 0) u=0)||decide (aZ (jh t 1) u=0)else if fY t pf=true then decide (aZ (jh t 0) u=0)else if fY t kM ||fY t gK then decide (AS t=0)&&decide (aZ (jh t 0) u=0)&&cG s (we t)else false:=rfl;have g:=Wj t ht;have eW:br (H++[Pi t])=true:=(w.cz (HV.one yxb)).closed;have f1:(H++[Pi t])[F]?=some (Pi u):=by rw[af8 W];exact h1
 rw[au t]at a b D g ⊢
 cases j:fY t kT
 ·rw[j,if_neg yxb]at f;rw[j]at a
  cases N:fY t pf
  ·rw[N,if_neg yxb]at f;rw[N]at b
   cases q:fY t kM ||fY t gK
   ·rw[q,if_neg yxb]at f;rw[q]at D;rw[f];refine ay.x T6 Tryz.func200 rfl ?_;refine wA ?_;refine .p a ?_;refine wA ?_;refine .p b ?_;refine wA ?_;refine .p D ?_;refine wA ?_;exact⟨rfl,(hC.refl _).cz (HV.one yxb)⟩
   ·rw[q,if_pos rfl]at f;rw[q]at D
    have G:t.l.length=2:=by
     rw[agJ]at q;rcases q with q |q;exact OB J q Ke.2.1;exact OB J q Ke.2.2.1
    have Q:=uM (t:=t) (i:=0) yxa;have B:=ju (pD (t:=t) (i:=0) yxa);have U:=qh (jh t 0) u yxa yxa;generalize O:jh t 0=M at *;rw[f]
    by_cases d:AS t=0
    ·have v:aC (we t)<10000000:=by
      obtain⟨_,hk⟩:=xN d;rcases hk with⟨_,e⟩|⟨_,e1,e⟩;rw[e];have:=ju (pD (t:=t) (i:=1) yxa);omega
      ·have P:=pD (t:=t) (i:=1) yxa;obtain⟨c,S⟩:=E4 (zo J P) e1 Ke.2.2.2.2;rw[e];have Z:=ju P;have b3:=ju (pD (t:=jh t 1) (i:=0) (by rw[S];simp));omega
     have z:=hs.has v;generalize we t=K at *;have V:br (H++[Pi t]++[Pi K])=true:=((w.cz (HV.one yxb)).cz (HV.one yxb)).closed;have f3:(H++[Pi t]++[Pi K])[F]?=some (Pi u):=by rw[af8 yxd];exact f1
     have f4:(H++[Pi t]++[Pi K])[A]?=some ⟨.m,0,1,[.aa false (ae s)]⟩:=by rw[af8 yxd,af8 Y];exact X
     rw[au K]at g z;rw[au M,au u]at U;rw[d]at g ⊢;refine ay.x T6 Tryz.func200 rfl ?_;refine wA ?_;refine .p a ?_;refine wA ?_;refine .p b ?_;refine wA ?_;refine .p D ?_;refine wA ?_;refine .p g ?_;refine wA ?_;refine .p U ?_
     by_cases y:aZ M u=0
     ·rw[decide_eq_true y];refine wA ?_;refine .p z ?_;refine wA ?_;exact⟨by cases cG s K <;>rfl,((hC.refl _).cz (HV.one yxb)).cz (HV.one yxb)⟩
     ·rw[decide_eq_false y];exact zba
    ·rw[au (we t)]at g;rw[decide_eq_false d];generalize we t=K at *;have V:br (H++[Pi t]++[Pi K])=true:=((w.cz (HV.one yxb)).cz (HV.one yxb)).closed;refine ay.x T6 Tryz.func200 rfl ?_;refine wA ?_;refine .p a ?_;refine wA ?_;refine .p b ?_;refine wA ?_;refine .p D ?_;refine wA ?_;refine .p g ?_;exact zba
  ·rw[N,if_pos rfl]at f;rw[N]at b;have G:=OB J N Ke.2.2.2.1;have Q:=uM (t:=t) (i:=0) yxa;have B:=ju (pD (t:=t) (i:=0) yxa);have U:=qh (jh t 0) u yxa yxa;generalize O:jh t 0=M at *;rw[f];rw[au M,au u]at U;refine ay.x T6 Tryz.func200 rfl ?_;refine wA ?_;refine .p a ?_;refine wA ?_;refine .p b ?_;refine wA ?_;refine .p U ?_;refine wA ?_;exact⟨rfl,(hC.refl _).cz (HV.one yxb)⟩
 ·rw[j,if_pos rfl]at f;rw[j]at a;have G:=OB J j Ke.1;have Q:=uM (t:=t) (i:=0) yxa;have Jv:=uM (t:=t) (i:=1) yxa;have B:=ju (pD (t:=t) (i:=0) yxa);have Z:=ju (pD (t:=t) (i:=1) yxa);have U:=qh (jh t 0) u yxa yxa;have z:=qh (jh t 1) u yxa yxa;generalize O:jh t 0=M at *;generalize hM1:jh t 1=R at *;rw[f];rw[au M,au u]at U;rw[au R,au u]at z;refine ay.x T6 Tryz.func200 rfl ?_;refine wA ?_;refine .p a ?_;refine wA ?_;refine .p U ?_
  by_cases y:aZ M u=0
  ·rw[decide_eq_true y];refine wA ?_;exact⟨rfl,(hC.refl _).cz (HV.one yxb)⟩
  ·rw[decide_eq_false y];refine wA ?_;refine .p z ?_;refine wA ?_;exact⟨by rw[ahN];rfl,(hC.refl _).cz (HV.one yxb)⟩
theorem Kb(s:List Tm)(S:mi s)(J:∀t∈s,pA t=0)(u:Tm)(y:aC u<10000000):aT C 158 [.aa false (ae s),enc u] (.bool (yz s u)):=by
 have K:=S.len;obtain⟨B,H⟩:∃B:ab,B=[⟨.m,0,1,[.aa false (ae s)]⟩,Pi u]:=⟨_,rfl⟩;have b:B[0]?=some ⟨.m,0,1,[.aa false (ae s)]⟩:=by rw[H];rfl
 have f:B[1]?=some (Pi u):=by rw[H];rfl
 have a:HV B:=by rw[H];exact HV.Ay ⟨by simp,by simp⟩ ⟨by simp,by simp⟩
 have G:=Ms s 200 [.ptr 1 0 0 0,.ptr 0 0 0 0] (yB s u) B yxa (λx U=>gi.opened λY R=>Kf s S u x y (S.bk x U) (J x U) 1 0 Y (R.hv a) (R.at f) (R.at b));have w:yz s u=s.any (yB s u):=rfl;rw[w];rw[au];refine aT.x T6 Tryz.func158 rfl ?_;refine wA ?_;rw[<-H];refine .ex G (λd R=>?_);refine wA ?_;exact⟨_,rfl,rfl⟩
theorem Hk(t:Tm)(W:aC t<10000000):aT C 274 [enc t,.aa false [],enc t] (.b8 [enc t,.I 0]):=by
 have O:=p9 t yxa;rw[au]at O ⊢;refine aT.x T6 Tryz.func274 rfl ?_;refine wA ?_;refine .p O ?_;refine wA ?_;refine dU.zip T6 ([]:List Tm) (λp q L K=>L=[(5,.ptr 1 0 0 0),(6,.ptr 2 0 0 0),(8,.ptr 3 0 0 0),(9,.ptr 3 0 0 0),(14,.aa false []),(15,.I 0),(16,.I p.length)]/\K=[Pi t,Pi t,⟨.m,0,4,[PV.agg Nm]⟩,Pi t]) (.nx ⟨rfl,rfl⟩) ?_ ?_
 ·rintro p u q _ K Y e _
  cases p <;>cases e
 ·rintro _ _ Y ⟨rfl,rfl⟩;refine wA ?_;refine .p O ?_;refine wA ?_;exact o8
def ow(u:Tm):PV:=.agg [.int .i64 u.k,.str u.s,.int .i64 u.o,if u.l.length=0 then .aa true []else .aa false (ae u.l)]
theorem aa3(u:Tm):b9 (ow u)=enc u:=by
 rw[au];unfold ow Do
 split
 ·rename_i h
  have:u.l=[]:=agm h;simp[b9,aY,this,ae]
 simp[b9,aY,bI]
theorem Ki(u:Tm):aW (ow u)=true:=by
 unfold ow
 split <;>simp[aW,aw]
theorem Sx(l:List Tm)(hl:l.length<10000000)(D:∀t∈l,aC t<10000000)(P:∀t∈l,aT C 237 [.aa false (ae t.l)] (.aa false (ae t.l))):aT C 237 [.aa false (ae l)] (.aa false (ae l)):=by
 have Z:=aj l;refine aT.x T6 Tryz.func237 rfl ?_;refine wA ?_;refine dU.zip T6 l (λp q L H=>L=[(3,.an 0 0 0 (ae l).length),(9,.aa false (ae l)),(10,.I (ae l).length),(11,.I p.length)]/\HV H/\H[0]?=some ⟨.m,0,4,p.map ow++List.replicate q.length (PV.agg Nm)⟩) (.nx ⟨rfl,HV.one (by rw[bz,af9];intro y F;rw[ag8 F];rfl),by rw[Z];rfl⟩) ?_ ?_
 ·rintro p u q _ H Y e ⟨rfl,w,B⟩;have dm:=bO e;have g:=lenE e;have d:u∈l:=by rw[e];simp
  have O:=Hk u (D u d);have X:=P u d;have V:=aj u.l;rw[au]at O;have S:(p.map ow).length=p.length:=agY _
  have e0:(p.map ow++List.replicate (u::q).length (PV.agg Nm))[0+p.length]?=some (PV.agg Nm):=by
   rw[agz,agl yxa,S,ahK];rfl
  have f0:(H++[Pi u])[0]?=some ⟨.m,0,4,p.map ow++List.replicate (u::q).length (PV.agg Nm)⟩:=by rw[af8 (ag B)];exact B
  have W:(H++[Pi u])[H.length]?=some (Pi u):=by simp
  have z:(p.map ow++List.replicate (u::q).length (PV.agg Nm)).length=(ae l).length:=by simp[Z,g]
  refine wA ?_;refine .p O ?_;refine wA ?_;obtain⟨J,U⟩:∃J:ax,J=(Pi u):=⟨_,rfl⟩;obtain⟨h,a⟩:∃h:List PV,h=(p.map ow++List.replicate (u::q).length (PV.agg Nm)).set (0+p.length) (.agg (Do u)):=⟨_,rfl⟩;obtain⟨v,i⟩:∃v:ab,v=(H++[(Pi u)]).set 0 (⟨.m,0,4,h⟩:ax):=⟨_,rfl⟩;have yM:=ag B;have M:v[0]?=some ⟨.m,0,4,h⟩:=by rw[i];exact agc yxb
  have j:v[H.length]?=some J:=by rw[i,aga yxa,U];exact W
  have A:h[0+p.length]?=some (.agg (Do u)):=by rw[a];exact agc (by rw[z];omega)
  have Q:h.length=(ae l).length:=by rw[a,aiA];exact z
  rw[<-a,<-i];rw[U]at j;refine wA ?_;refine .p X ?_;refine wA ?_;rw[dI A,dI M];have f:ow u=.agg [.I u.k,.str u.s,.I u.o,if u.l.length=0 then .aa true []else .aa false (ae u.l)]:=rfl
  have n:∀x:PV,(p.map ow++List.replicate (u::q).length (PV.agg Nm)).set (0+p.length) x=(p.map ow++[x])++List.replicate q.length (PV.agg Nm):=λx=>by
   rw[agz,ahn _ _ yxa,S,ahK];simp[List.replicate_succ]
  have R:HV v:=by
   rw[i];refine(w.cz (HV.one yxb)).set 0 yxb ?_;rw[a,n,cU,cU];have b:aw (p.map ow)=true:=by rw[bz,af9];intro y F;obtain⟨t,_,rfl⟩:=agv.1 F;exact Ki t
   have K:aw (List.replicate q.length (PV.agg Nm))=true:=by rw[bz,af9];intro y F;rw[ag8 F];rfl
   rw[b,K];simp[aw,aW]
  refine wC (λG=>?_) λG=>?_
  ·have N:u.l.length=0:=by omega
   refine .nx ⟨rfl,R.set 0 yxb ?_,?_⟩
   ·show aw (h.set (0+p.length) (.agg [.I u.k,.str u.s,.I u.o,.aa true []]))=true;rw[a,ahF,n,cU,cU];have b:aw (p.map ow)=true:=by rw[bz,af9];intro y F;obtain⟨t,_,rfl⟩:=agv.1 F;exact Ki t
    have K:aw (List.replicate q.length (PV.agg Nm))=true:=by rw[bz,af9];intro y F;rw[ag8 F];rfl
    rw[b,K];rfl
   ·rw[agc (ag M)]
    have:h.set (0+p.length) (.agg [.I u.k,.str u.s,.I u.o,.aa true []])=(p++[u]).map ow++List.replicate q.length (PV.agg Nm):=by
     rw[a,ahF,n,agN,agp,agF,f,if_pos N]
    rw[<-this]
  ·have N:¬u.l.length=0:=by omega
   refine .nx ⟨rfl,R,?_⟩;rw[M,a,n,agN,agp,agF,f,if_neg N]
 ·rintro _ H Y ⟨rfl,w,B⟩;have B:H[0]?=some ⟨.m,0,4,l.map ow++[]⟩:=B;refine wA ?_;exact iF B (by simp[Z]) (by rw[bz,af9];intro y F;obtain⟨t,_,rfl⟩:=agv.1 F;exact Ki t) (by rw[cB,aie,dw];exact ahk λt _=>aa3 t)
theorem Wn(t:Tm):aC t<10000000->aT C 237 [.aa false (ae t.l)] (.aa false (ae t.l)):=by
 induction t using Tm.ind with
 |h k s o l P=>
  intro W
  have:=bF l;simp only[aC]at W;exact Sx l yxa (λt Z=>by have:=cc Z;omega) λt Z=>P t Z yxo
theorem Sz(u:Tm)(W:aC u<10000000):aT C 237 [.aa false (ae [u])] (.aa false (ae [u])):=
 Sx [u] yxb (λt Z=>by simp at Z;rw[Z];exact W) λt Z=>by simp at Z;rw[Z];exact Wn u W
theorem _root_.zcm{P:Prop}(h:P:=by
 refine aT.x T6 Tryz.func238 rfl ?_;refine wA ?_;exact⟨_,rfl,by simp[bo,b9,aY,bI]⟩):P:=h
theorem qW(u:Tm)(h1:fY u kV=false)(X:fY u AJ=false):aT C 238 [enc u] (.aa false (ae [u])):=by
 have D:fY u kV=(decide (u.k=3)&& (u.s.toList==(⟨#[122,101,114,111]⟩:ByteArray).toList)):=rfl;have N:fY u AJ=(decide (u.k=3)&& (u.s.toList==(⟨#[120,111,114]⟩:ByteArray).toList)):=rfl;rw[h1]at D;rw[X]at N;have y:ae [u]=[.agg (Do u)]:=by rw[ae,au];rfl
 rw[y,au]
 by_cases g:u.k=3
 ·rw[decide_eq_true g,ahA]at D N;have S:¬u.s.toList=(⟨#[122,101,114,111]⟩:ByteArray).toList:=by simpa using D.symm
  have v:¬u.s.toList=(⟨#[120,111,114]⟩:ByteArray).toList:=by simpa using N.symm
  exact zcm
 ·exact zcm
theorem _root_.zbb{P:Prop}(h:P:=by
 refine wA ?_;exact .nx ⟨rfl,w.cz (HV.one yxb),by rw[af8 (ag B)];exact B⟩):P:=h
theorem AV(u:Tm)(J:valid u=0)(W:aC u<10000000):aT C 236 [.aa false [],.aa false (ae [u])] (.I 0):=by
 have O:=(dZ u yxa).nine;rw[J]at O;have P:X2 [] (.aa true [.aa false [],.aa false (ae [u])]) (.aa false []) (.aa false (ae [u])):=.inl rfl;have D:=(CT [] [u] [] _ _ _ P (.inr ⟨_,rfl⟩) (.inr ⟨_,rfl⟩) yxb).nine;have y:ae [u]=[.agg (Do u)]:=by rw[ae,au];rfl
 rw[au]at O;rw[agS]at D;refine aT.x T6 Tryz.func236 rfl ?_;refine wA ?_;refine .opened rfl (D.mono λr d z=>?_)
 obtain⟨g,rfl,rfl⟩:∃g,r=.an 0 g 0 (ae [u]).length/\d=[⟨.m,g,4,ae [u]⟩]:=by
  rcases z with⟨h,_⟩|⟨g,O,X⟩;simp at h;exact⟨g,O,X⟩
 rw[if_neg (by simp[eI,cY,eu])];have f:Out 4 [⟨.m,g,4,ae [u]⟩] (.an 0 g 0 (ae [u]).length) (ae [u]):=.inr ⟨0,g,rfl,rfl⟩;rw[y]at f ⊢;refine wA ?_;refine dU.zip T6 [u] (λp q L H=>L=[(14,.an 0 g 0 1),(15,.I 1),(16,.I p.length)]/\HV H/\H[0]?=some ⟨.m,g,4,[.agg (Do u)]⟩) (.nx ⟨rfl,HV.one yxb,rfl⟩) ?_ ?_
 ·rintro p x q _ H Y e ⟨rfl,w,B⟩
  obtain⟨rfl,rfl,rfl⟩:p=[]/\x=u/\q=[]:=by
   cases p with
   |nil=>simp at e;exact⟨rfl,e.1.symm,e.2⟩
   |cons a p=>simp at e
  have A:([]:List Tm).length=0:=rfl;refine wA ?_;refine .p O ?_;exact zbb
 ·rintro _ H Y ⟨rfl,w,B⟩;have N:[u].length=1:=rfl;refine wA ?_;exact⟨_,rfl,rfl⟩
theorem Ot(u:Tm)(J:valid u=0)(W:aC u<10000000)(h1:fY u kV=false)(X:fY u AJ=false):aT C 203 [enc u] (.b8 [.aa false (ae [u]),.I 0]):=by
 have K:=AV u J W;have a:=qW u h1 X;have D:=Sz u W;have y:ae [u]=[.agg (Do u)]:=by rw[ae,au];rfl
 rw[y]at K a D ⊢;rw[au]at a ⊢;refine aT.x T6 Tryz.func203 rfl ?_;refine wA ?_;refine .p K ?_;refine wA ?_;refine .p a ?_;refine wA ?_;refine .p D ?_;refine wA ?_;exact⟨_,rfl,by simp[bo,b9,aY,bI]⟩
end aI
open Go.Proofs
theorem abi(e:cs=A++u::B)(S:gY cs){m:Nat}{w:Tm}(d:cs[m]?=some w):aZ w u<0↔m<A.length:=by
 subst e;have h:=aim.1 S;rcases aib m A.length with O |O |O
 ·rw[af8 O]at d;exact⟨λ_=>O,λ_=>h.2.2 w (agq d) u yxb⟩
 ·subst O;simp at d;subst d;rw[cP];omega
 ·rw[agl yxa]at d
  have X:(u::B)[m - A.length]?=B[m - A.length - 1]?:=by
   rw[show m - A.length=(m - A.length - 1)+1 by omega];simp
  rw[X]at d;have Q:=(agE.1 h.2.1).1 w (agq d);have n:=di u w;omega
theorem HS(h:aZ u t≠0):ye (p++[(u,n)]) t=ye p t:=by
 induction p with
 |nil=>simp[ye,h]
 |cons y p P=>rw[agL,ye,ye,P]
theorem WJ(e:cs=A++u::B)(S:gY cs)(K:∀y∈p,aZ y.1 u≠0):(jo (cs.map (ye p))).set A.length (.I n)=jo (cs.map (ye (p++[(u,n)]))):=by
 subst e;have h:=aim.1 S;have a:A.map (ye p)=A.map (ye (p++[(u,n)])):=ahk λt Z=>(HS (by have:=h.2.2 t Z u yxb;have:=di t u;omega)).symm
 have H:B.map (ye p)=B.map (ye (p++[(u,n)])):=ahk λt Z=>(HS (by have:=(agE.1 h.2.1).1 t Z;omega)).symm
 have b:ye (p++[(u,n)]) u=n:=QF (q:=[]) K (cP u);simp only[jo,agN,agp,a,H,b];rw[ahn _ _ yxb];simp
attribute [local irreducible] aE az aO aL Ev ai ah ay bh
theorem Hl(cs A B:List Tm)(u:Tm)(e:cs=A++u::B)(S:gY cs)(v:cs.length<100000000)(W:∀t∈cs,aC t<1000000000):
  aT C 300 [.aa false (ae cs),enc u,.fn 59 []] (.b8 [.I A.length,.bool true]):=by
 have a:A.length<cs.length:=by rw[e];simp
 have Z:=aj cs;have V:cs[A.length]?=some u:=by rw[e];simp
 have h:aC u<1000000000:=W u yxf
 have R:∀m,m<cs.length->∃w,cs[m]?=some w/\(ae cs)[m]?=some (.agg (Do w))/\aT C 59 [.agg (Do w),.agg (Do u)] (.I (aZ w u)):=λm d=>by
  have O:cs[m]?=some cs[m]:=agd d;refine⟨_,O,iT O,?_⟩;rw[<-au,<-au];exact dT _ _ (W _ (agq O)) h
 have P:∀m w,cs[m]?=some w->(aZ w u<0↔m<A.length):=λm w d=>abi e S d
 have M:=cP u;generalize A.length=N at *;rw[au];refine aT.x T6 Tryz.func300 rfl ?_;refine wA ?_;refine dU.nat T6 (λk L H=>∃i j:Nat,L=[(0,.aa false (ae cs)),(2,.fn 59 []),(4,.ptr 0 0 0 0),(8,.I (ae cs).length),(9,.I i),(10,.I j)]/\H=[Pi u]/\k=j - i/\i<=N/\N<=j/\j<=cs.length) cs.length (.nx ⟨0,(ae cs).length,rfl,rfl,by omega,by omega,by omega,by omega⟩) ?_;rintro k _ _ Y ⟨i,j,rfl,rfl,q,F,z,D⟩
 by_cases g:i<j
 ·obtain⟨m,y⟩:∃m:Nat,((i:Int)+j) / 2=m:=⟨(i+j) / 2,by omega⟩;obtain⟨w,O,Q,U⟩:=R m yxa;have f:=P m _ O;exact zai
 ·have b:i=N:=by omega
  subst b;obtain⟨w,O,Q,U⟩:=R i a;rw[V]at O;obtain rfl:=af7 O;rw[M]at U;refine wA ?_;refine .p U ?_;refine wA ?_
  all_goals exact⟨_,rfl,by simp[bo,b9,aY, *]⟩
end Go.Pm
namespace Go.Pm
variable{D h:ab}{x:Operand}{ep j n:Nat}{u:Tm}{H:Op}
namespace aI
open Go.Proofs
attribute [local irreducible] aE az aO aL Ev ai ah ay bh bH
set_option maxRecDepth 4000
theorem Wo(b:Nat)(H:ab)(W:H[b]?=some ⟨.m,0,1,[.int .u64 1]⟩):ay C 243 [.an b 0 0 1,.I 0] H (λr h'=>r=.bool true/\h'=H):=by
 refine ay.x T6 Tryz.func243 rfl ?_;refine wA ?_;refine .raw 0 rfl ?_;refine wA ?_;refine .mk (c:=1) ?_ rfl yxe;refine wA ?_;refine .mk 1 rfl ?_;refine wA ?_;exact⟨rfl,rfl⟩
theorem SA(b:Nat)(H:ab)(w:HR H)(W:H[b]?=some ⟨.m,0,1,[.int .u64 0]⟩):ay C 277 [.an b 0 0 1,.I 0] H (λr h'=>r=.b8 []/\h'=H.set b ⟨.m,0,1,[.int .u64 1]⟩):=by
 have V:=w.closed;refine ay.x T6 Tryz.func277 rfl ?_;refine wA ?_;refine .raw 0 rfl ?_;refine wA ?_;refine .mk 1 rfl yxe ?_;refine wA ?_;refine .mk 1 rfl ?_;refine wA ?_;exact⟨rfl,rfl⟩
theorem OD(b:Nat)(H:ab)(W:H[b]?=some ⟨.m,0,1,[.int .u64 1]⟩):ay C 242 [.an b 0 0 1,.I 1] H (λr h'=>r=.I 0/\h'=H):=by
 have R:=Wo b H W;refine ay.x T6 Tryz.func242 rfl ?_;refine wA ?_;refine dU.nat T6 (λk L K=>L=[(0,.an b 0 0 1),(6,.I 1),(7,.I 0)]/\K=H) 1 (.nx ⟨rfl,rfl⟩) ?_;rintro k _ _ Y ⟨rfl,rfl⟩;refine wA ?_;refine .same (R.mono λr h' h=>⟨h.1,h.2⟩) (λr z=>?_);subst z;refine wA ?_;exact⟨rfl,rfl⟩
structure Sys(h:ab)(x m1 m2 c ep:Nat)(u:Tm)(tl:List PV):Prop where
 hx:h[x]?=some ⟨.m,0,5,[.agg [.an c ep 0 1,.int .i64 0,.cq m1,.cq m2,.aa true []]]⟩
 h1:h[m1]?=some ⟨.m,0,0,[]⟩
 h2:h[m2]?=some ⟨.m,0,0,[]⟩
 hc:h[c]?=some ⟨.m,ep,4,.agg [.int .i64 u.k,.str u.s,.int .i64 u.o,.aa false (ae u.l)]::tl⟩
 ht:aw tl=true
theorem Sys.of_eq{h':ab}{x Y O c:Nat}{tl:List PV}(s:Sys h x Y O c ep u tl)(n:Nat)(hn:x<n/\Y<n/\O<n/\c<n)(e:∀j,j<n->h'[j]?=h[j]?):Sys h' x Y O c ep u tl:=
 ⟨(e _ hn.1).trans s.hx,(e _ hn.2.1).trans s.h1,(e _ hn.2.2.1).trans s.h2,(e _ hn.2.2.2).trans s.hc,s.ht⟩
theorem aa4(x Y O c ep:Nat)(u:Tm)(tl:List PV)(y:aC u<10000000)(H:ab)(w:HR H)(s:Sys H x Y O c ep u tl):ay C 279 [.ptr x 0 0 0,enc u] H (λr h'=>r=.I 0/\hC H h'):=by
 have W:=(Hl [u] [] [] u rfl (by simp[gY]) yxb (λt Z=>by simp at Z;rw[Z];omega)).nine;have V:=(w.cx (HV.one (ep:=0) (n:=4) (es:=[.agg (Do u)]) yxb)).closed;have f:=ag s.hx;have F:=ag s.hc;have G:(H++[(Pi u)])[x]?=some ⟨.m,0,5,[.agg [.an c ep 0 1,.I 0,.cq Y,.cq O,.aa true []]]⟩:=by rw[af8 f];exact s.hx
 have e:(H++[(Pi u)])[c]?=some ⟨.m,ep,4,ae [u]++tl⟩:=by rw[af8 F,s.hc,ae,au];rfl
 have S:AQ (H++[(Pi u)]) (.an c ep 0 1) [u]:=⟨c,ep,tl,rfl,e,s.ht⟩;rw[au u]at W ⊢;refine ay.x T6 Tryz.func279 rfl ?_;refine wA ?_;refine ah.op S W ?_;refine wA ?_;exact⟨rfl,(hC.refl _).cz (HV.one yxb)⟩
theorem zp{a:Tm}{p q:List Tm}(e:[u]=p++a::q):p=[]/\a=u/\q=[]:=by
 cases p with
 |nil=>simp at e;exact⟨rfl,e.1.symm,e.2⟩
 |cons b p=>simp at e
theorem aa5(x d O c ep:Nat)(u:Tm)(tl:List PV)(hu:aC u<10000000)(f1:fY u kV=false)(f2:fY u AJ=false)(H:ab)(hH:HR H)(s:Sys H x d O c ep u tl):
  ay C 241 [.ptr x 0 0 0,enc u] H (λr h'=>HR h'/\H.length<=h'.length/\(∀j,j<H.length->h'[j]?=H[j]?)/\∃b,r=.an b 0 0 1/\H.length<=b/\h'[b]?=some ⟨.m,0,1,[.int .u64 1]⟩):=by
 have S:=qW u f1 f2;have D:=ag s.hx;have F:=ag s.hc;have f:=ag s.h1;have g:=ag s.h2;obtain⟨B,X⟩:∃B:ab,B=H++[(Pi u)]:=⟨_,rfl⟩;have ext:∀J:ab,Sys (H++J) x d O c ep u tl:=λJ=>s.of_eq H.length ⟨D,f,g,F⟩ λj M=>af8 M
 have R:B.length=H.length+1:=by rw[X];simp
 have U:HR B:=by rw[X];exact hH.cx (HV.one yxb)
 have w:∀j,j<H.length->B[j]?=H[j]?:=λj M=>by rw[X,af8 M]
 have W:B[H.length]?=some (Pi u):=by rw[X];simp
 have y:Sys B x d O c ep u tl:=by rw[X];exact ext _
 have fx:=y.hx;have fc:=y.hc;have N:ae [u]=[.agg (Do u)]:=by rw[ae,au];rfl
 rw[N]at S;rw[au]at S;rw[au u];have h00:([]:List Tm).length=0:=rfl;have h01:[u].length=1:=rfl;have yQ:∀K:ab,HR K->H.length+2<=K.length->(∀j,j<H.length->K[j]?=H[j]?)->Sys K x d O c ep u tl:=λK _ _ h=>s.of_eq H.length ⟨D,f,g,F⟩ h
 refine ay.x T6 Tryz.func241 rfl ?_;refine wA ?_;rw[<-X];refine wA ?_;refine .raw 0 rfl ?_;refine wA ?_;have afM:(B++[(⟨.m,0,0+1,List.replicate (0+1) (.int .u64 0)⟩:ax)])[H.length]?=some (Pi u):=by rw[af8 yxa];exact W
 skip
 refine .p S ?_;refine wA ?_;refine dU.zip T6 [u] (λp q L K=>L=[(0,.ptr x 0 0 0),(5,.an B.length 0 0 1),(17,.aa false [.agg (Do u)]),(18,.I 1),(19,.I p.length)]/\HR K/\B.length+1<=K.length/\(∀j,j<B.length->K[j]?=B[j]?)/\K[B.length]?=some ⟨.m,0,1,[.int .u64 (if q.length=0 then 1 else 0)]⟩) (.nx ⟨rfl,U.cx (HV.one rfl),by simp,λj M=>af8 M,by simp⟩) ?_ ?_
 ·rintro p a q _ K Y e ⟨rfl,v,Q,n,t⟩;obtain⟨rfl,P,rfl⟩:=zp e;have P:=P.symm;subst P;have V:Sys K x d O c ep u tl:=y.of_eq B.length yxa n;have A:Sys (K++[(Pi u)]) x d O c ep u tl:=V.of_eq K.length ⟨ag V.hx,ag V.h1,ag V.h2,ag V.hc⟩ λj M=>af8 M
  have G:=aa4 x d O c ep u tl hu (K++[(Pi u)]) (v.cx (HV.one yxb)) A;rw[au]at G;refine wA ?_;refine .ex G (λh' hE=>?_);obtain⟨J,hJ,rfl⟩:=hE;have Z:(K++[(Pi u)]++J)[B.length]?=some ⟨.m,0,1,[.int .u64 0]⟩:=by rw[ags,af8 yxa];exact t
  have i:HR (K++[(Pi u)]++J):=(v.cx (HV.one yxb)).cx hJ;have hf:=SA B.length _ i Z;refine wA ?_;refine .ln hf (λr h' z=>by rw[z.2];simp) (λr h' z=>?_);obtain⟨rfl,rfl⟩:=z;refine wA ?_;refine .nx ⟨rfl,i.set _ yxb (by simp[bB,bq]),by simp;omega,λj M=>?_,agc (ag Z)⟩;rw[aga yxa,ags,af8 yxa];exact n j M
 ·rintro _ K Y ⟨rfl,v,Q,n,t⟩;refine wA ?_;exact⟨v,by omega,λj M=>(n j yxa).trans (w j M),B.length,rfl,by omega,t⟩
theorem aa6(x f O c ep b:Nat)(u:Tm)(tl:List PV)(H:ab)(w:HR H)(s:Sys H x f O c ep u tl):
  ay C 240 [.ptr x 0 0 0,.an b 0 0 1] H (λr h'=>r=.b8 [.an b 0 0 1,.an H.length 0 0 1]/\h'=H++[⟨.m,0,1,[.int .u64 0]⟩]):=by
 have g:=ag s.hx;have F:=ag s.hc;have h:=ag s.h1;have d:=ag s.h2;have G:=s.hx;have A:([]:List Tm).length=0:=rfl;have N:[u].length=1:=rfl;obtain⟨B,X⟩:∃B:ab,B=H++[(⟨.m,0,0+1,List.replicate (0+1) (.int .u64 0)⟩:ax)]:=⟨_,rfl⟩;have v:Sys B x f O c ep u tl:=by rw[X];exact s.of_eq H.length ⟨g,h,d,F⟩ λj M=>af8 M
 have n:=v.hx;have z:=v.hc;have i:=v.h1;refine ay.x T6 Tryz.func240 rfl ?_;refine wA ?_;refine .raw 0 rfl ?_;refine wA ?_;rw[<-X];refine wA ?_;refine dU.zip T6 [u] (λp q L K=>L=[(0,.ptr x 0 0 0),(1,.an b 0 0 1),(6,.an H.length 0 0 1),(21,.I 1),(22,.I p.length)]/\K=B) (.nx ⟨rfl,rfl⟩) ?_ ?_
 ·rintro p a q _ _ Y e ⟨rfl,rfl⟩;obtain⟨rfl,P,rfl⟩:=zp e;have P:=P.symm;subst P;refine wA ?_;refine .RG rfl ?_ i;refine wA ?_;exact .nx ⟨rfl,rfl⟩
 ·rintro _ _ Y ⟨rfl,rfl⟩;refine wA ?_;exact⟨rfl,X⟩
theorem Wp(a b:Tm)(j:aC a<1000000000)(W:aC b<1000000000):aT C 276 [enc a,enc b] (.bool (decide (aZ a b=0))):=by
 have O:=(dT a b j W).nine;rw[au,au]at O ⊢;refine aT.x T6 Tryz.func276 rfl ?_;exact zao
theorem _root_.Go.Pm.adt{C:cA}(T:li C.P){run:hZ}{lv:Nat}{L:Al}{Y:Nat->PV}{t el:TypeId}{V len:Nat}{o:ax}(U:cW L x=some (.an V ep 0 len))(g:T.kd t=some (.sl el))(N:getM h V ep=some o)(A:len<=o.es.length):ar C run lv (.call ⟨.builtin .len,#[x],#[t]⟩) (al L Y) h=some (.I len,h):=by
 simp[ar,bA,ak U,qz,bG (T.dA _ _ g),N,A]
theorem Ws(u:Tm)(hu:aC u<10000000)(R:fY u kV=false)(i:fY u AJ=false):ay C 239 [.aa false [],enc u] [⟨.m,0,4,[enc u]⟩] (λr h'=>HR h'/\1<=h'.length/\(∀j,j<1->h'[j]?=[(⟨.m,0,4,[enc u]⟩:ax)][j]?)/\∃x y O c ep tl,r=.ptr x 0 0 0/\1<=x/\Sys h' x y O c ep u tl):=by
 have S:=qW u R i;have d:ae [u]=[.agg (Do u)]:=by rw[ae,au];rfl
 have A:([]:List Tm).length=0:=rfl;have N:[u].length=1:=rfl;rw[d]at S;rw[au]at S;rw[au u]
 have B:HR [(Pi u),Pi u,⟨.m,0,0,[]⟩,⟨.m,0,0,[]⟩,⟨.m,0,5,[.agg [.aa true [],.I 0,.cq 2,.cq 3,.aa true []]]⟩]:=by
  intro o f
  simp only[agi,ahb,or_false]at f;rcases f with rfl |rfl |rfl |rfl |rfl <;>simp[bB,bq,bg]
 have H:=B.closed;refine ay.x T6 Tryz.func239 rfl ?_;refine wG ?_;refine .raw (λY=>?_);have w:bW 4 [.aa false []] ([(Pi u),Pi u,⟨.m,0,0,[]⟩,⟨.m,0,0,[]⟩,⟨.m,0,5,[.agg [.aa true [],.I 0,.cq 2,.cq 3,.aa true []]]⟩].map cm)=some (.aa true [],[(Pi u),Pi u,⟨.m,0,0,[]⟩,⟨.m,0,0,[]⟩,⟨.m,0,5,[.agg [.aa true [],.I 0,.cq 2,.cq 3,.aa true []]]⟩].map cm):=rfl;refine D.move rfl ?_;refine .IY [(Pi u),Pi u,⟨.m,0,0,[]⟩,⟨.m,0,0,[]⟩,⟨.m,0,5,[.agg [.aa true [],.I 0,.cq 2,.cq 3,.aa true []]]⟩] [] ⟨0,λn _=>GR rfl rfl w rfl⟩ ?_ rfl rfl H rfl rfl;refine .IY [(Pi u),Pi u,⟨.m,0,0,[]⟩,⟨.m,0,0,[]⟩,⟨.m,0,5,[.agg [.aa true [],.I 0,.cq 2,.cq 3,.aa true []]]⟩] [] ⟨0,λn _=>N5 T6 rfl rfl⟩ ?_ rfl rfl H rfl rfl;refine .IY [(Pi u),Pi u,⟨.m,0,0,[]⟩,⟨.m,0,0,[]⟩,⟨.m,0,5,[.agg [.aa true [],.I 0,.cq 2,.cq 3,.aa true []]]⟩] [] ⟨0,λn _=>N4 T6 (vs:=[.agg (Do u)]) yxg yxb⟩ ?_ rfl rfl H rfl rfl
 refine bh.two rfl rfl ⟨0,λn _=>yS rfl rfl (iB T6 (lv:=2) (full:=true) (ys:=[.agg (Do u)]) yxa rfl rfl rfl rfl rfl yxe rfl rfl rfl rfl yxb)⟩ ?_;refine bh.two rfl rfl ⟨0,λn _=>adt T6 rfl rfl rfl yxb⟩ ?_;refine D.move rfl ?_;refine bh.nil ⟨_,_,rfl,?_⟩
 conv=>whnf
 have Q:HR [(Pi u),Pi u,⟨.m,0,0,[]⟩,⟨.m,0,0,[]⟩,⟨.m,0,5,[.agg [.aa true [],.I 0,.cq 2,.cq 3,.aa true []]]⟩,Pi u,Pi u]:=by
  intro o f
  simp only[agi,ahb,or_false]at f;rcases f with rfl |rfl |rfl |rfl |rfl |rfl |rfl <;>simp[bB,bq,bg]
 have U:=Q.closed
 have F:HR [(Pi u),Pi u,⟨.m,0,0,[]⟩,⟨.m,0,0,[]⟩,⟨.m,0,5,[.agg [.an 7 0 0 1,.I 0,.cq 2,.cq 3,.aa true []]]⟩,Pi u,Pi u,Pi u]:=by
  intro o f
  simp only[agi,ahb,or_false]at f;rcases f with rfl |rfl |rfl |rfl |rfl |rfl |rfl |rfl <;>simp[bB,bq,bg]
 refine dU.zip T6 [u] (λp q L K=>L=[(0,.aa false []),(5,.ptr 4 0 0 0),(23,.an 5 0 0 1),(24,.I 1),(25,.I p.length)]/\((q.length=1/\K=[(Pi u),Pi u,⟨.m,0,0,[]⟩,⟨.m,0,0,[]⟩,⟨.m,0,5,[.agg [.aa true [],.I 0,.cq 2,.cq 3,.aa true []]]⟩,Pi u])\/(q.length=0/\K=[(Pi u),Pi u,⟨.m,0,0,[]⟩,⟨.m,0,0,[]⟩,⟨.m,0,5,[.agg [.an 7 0 0 1,.I 0,.cq 2,.cq 3,.aa true []]]⟩,Pi u,Pi u,Pi u]))) (.nx ⟨rfl,.inl ⟨rfl,rfl⟩⟩) ?_ ?_
 ·rintro p a q _ K Y e ⟨rfl,b⟩;obtain⟨rfl,V,rfl⟩:=zp e;obtain rfl:K=[(Pi u),Pi u,⟨.m,0,0,[]⟩,⟨.m,0,0,[]⟩,⟨.m,0,5,[.agg [.aa true [],.I 0,.cq 2,.cq 3,.aa true []]]⟩,Pi u]:=by rcases b with h |h;exact h.2;exact absurd h.1 yxb
  refine wA ?_;refine .mk (.aa false [.agg (Do u)]) (by simpa[aY,b9,bI]using S) ?_;refine wA ?_;refine .sn (es:=[]) ?_ rfl yxb;refine wA ?_;exact .nx ⟨rfl,.inr ⟨rfl,rfl⟩⟩
 ·rintro _ K Y ⟨rfl,b⟩;obtain rfl:K=[(Pi u),Pi u,⟨.m,0,0,[]⟩,⟨.m,0,0,[]⟩,⟨.m,0,5,[.agg [.an 7 0 0 1,.I 0,.cq 2,.cq 3,.aa true []]]⟩,Pi u,Pi u,Pi u]:=by rcases b with h |h;exact absurd h.1 yxb;exact h.2
  have v:[(Pi u),Pi u,⟨.m,0,0,[]⟩,⟨.m,0,0,[]⟩,⟨.m,0,5,[.agg [.an 7 0 0 1,.I 0,.cq 2,.cq 3,.aa true []]]⟩,Pi u,Pi u,Pi u][7]?=some ⟨.m,0,4,ae [u]⟩:=by rw[d];rfl
  have W:=oX (ts:=[u]) v yxb (λt Z=>by simp at Z;rw[Z];omega);have M:fj [u]=[u]:=rfl;rw[M,d]at W;refine wA ?_;refine ah.de rfl W ?_;have G:=sI _ rfl Wp u [] ([(Pi u),Pi u,⟨.m,0,0,[]⟩,⟨.m,0,0,[]⟩,⟨.m,0,5,[.agg [.an 7 0 0 1,.I 0,.cq 2,.cq 3,.aa true []]]⟩,Pi u,Pi u,Pi u].set 7 ⟨.m,0,4,ae [u]⟩) (by rw[d];exact F) 7 0 rfl yxb (λt Z=>by simp at Z;rw[Z];omega);have g:dd [u]=[u]:=rfl;rw[g,d]at G;refine wA ?_;refine .ln G (λr h' z=>by obtain⟨_,_,_,rfl⟩:=z;simp) (λr h' z=>?_);obtain⟨rfl,tl,J,rfl⟩:=z;refine wA ?_;refine dU.zip T6 ([]:List Tm) (λp q L K=>L=[(5,.ptr 4 0 0 0),(53,.aa false []),(54,.I 0),(55,.I p.length)]/\K=(([(Pi u),Pi u,⟨.m,0,0,[]⟩,⟨.m,0,0,[]⟩,⟨.m,0,5,[.agg [.an 7 0 0 1,.I 0,.cq 2,.cq 3,.aa true []]]⟩,Pi u,Pi u,Pi u].set 7 ⟨.m,0,4,ae [u]⟩).set 7 ⟨.m,0,4,[.agg (Do u)]++tl⟩).set 4 ⟨.m,0,5,[.agg [.an 7 0 0 1,.I 0,.cq 2,.cq 3,.aa true []]]⟩) (.nx ⟨rfl,rfl⟩) ?_ ?_
  ·rintro p u q _ K Y e _
   cases p <;>cases e
  ·rintro _ _ Y ⟨rfl,rfl⟩;refine wA ?_;refine⟨?_,by simp,λj X=>(by obtain rfl:j=0:=yxa;rfl),4,2,3,7,0,tl,rfl,by omega,⟨rfl,rfl,rfl,rfl,J⟩⟩
   intro o f
   have f:o∈[(Pi u),Pi u,⟨.m,0,0,[]⟩,⟨.m,0,0,[]⟩,⟨.m,0,5,[.agg [.an 7 0 0 1,.I 0,.cq 2,.cq 3,.aa true []]]⟩,Pi u,Pi u,⟨.m,0,4,[.agg (Do u)]++tl⟩]:=f;simp only[agi,ahb,or_false]at f;have P:aw ([.agg (Do u)]++tl)=true:=by rw[cU,J];simp
   rcases f with rfl |rfl |rfl |rfl |rfl |rfl |rfl |rfl;exact⟨by simp,bg _ _ yxb⟩;exact⟨by simp,bg _ _ yxb⟩;exact⟨by simp,rfl⟩;exact⟨by simp,rfl⟩;exact⟨by simp,by simp[bB,bq]⟩;exact⟨by simp,bg _ _ yxb⟩;exact⟨by simp,bg _ _ yxb⟩;exact⟨by simp,bg _ _ P⟩
theorem Ou(u:Tm)(J:valid u=0)(y:aC u<10000000)(R:fY u kV=false)(f:fY u AJ=false):aT C 204 [.aa false [],enc u] (.b8 [.aa false [],.I 4]):=by
 have K:=AV u J y;have i:=Ws u y R f;have w:ae [u]=[.agg (Do u)]:=by rw[ae,au];rfl
 rw[w]at K;rw[au u]at i ⊢;refine aT.x T6 Tryz.func204 rfl ?_;refine wA ?_;refine .p K ?_;refine wA ?_;refine .fr (P:=λr d=>∃x Y O c g a,r=.ptr x 0 0 0/\1<=x/\Sys d x Y O c g u a) i (λr h z W=>?_) (λr h F r2 S G=>?_)
 ·obtain⟨x,Y,O,c,g,a,rfl,U,_⟩:=z;simp[eI,cY,eu]at W;omega
 obtain⟨x,Y,O,c,g,a,rfl,U,e⟩:=G;have h0:h[0]?=some (Pi u):=S 0 yxb;have D:=aa5 x Y O c g u a y R f h F e;rw[au u]at D;refine wA ?_;refine .fr (P:=λr d=>∃b,r=.an b 0 0 1/\h.length<=b/\d[b]?=some ⟨.m,0,1,[.int .u64 1]⟩) D (λr k z W=>?_) (λr k v k2 Q B=>?_)
 ·obtain⟨b,rfl,Z,_⟩:=z;simp[eI,cY,eu]at W;omega
 obtain⟨b,rfl,Z,t⟩:=B;have H:Sys k x Y O c g u a:=e.of_eq h.length ⟨ag e.hx,ag e.h1,ag e.h2,ag e.hc⟩ Q;have N:=aa6 x Y O c g b u a k v H;refine wA ?_;refine .fr (P:=λr d=>r=.b8 [.an b 0 0 1,.an k.length 0 0 1]/\d=k++[⟨.m,0,1,[.int .u64 0]⟩]) (N.mono λr d z=>?_) (λr k z W=>?_) (λr d _ _ _ B=>?_)
 ·obtain⟨rfl,rfl⟩:=z;exact⟨v.cx (HV.one rfl),by simp,λj M=>af8 M,rfl,rfl⟩
 ·obtain⟨rfl,_⟩:=z;simp[eI,cY,eu]at W
 obtain⟨rfl,rfl⟩:=B;have q:Sys (k++[(⟨.m,0,1,[.int .u64 0]⟩:ax)]) x Y O c g u a:=H.of_eq k.length ⟨ag H.hx,ag H.h1,ag H.h2,ag H.hc⟩ λj M=>af8 M
 have n:(k++[(⟨.m,0,1,[.int .u64 0]⟩:ax)])[b]?=some ⟨.m,0,1,[.int .u64 1]⟩:=by rw[af8 (ag t)];exact t
 have A:=OD b _ n;have X:=q.hx;have V:=q.hc;refine wA ?_;refine .same (A.mono λr d h=>⟨h.1,h.2⟩) (λr z=>?_);subst z;refine wA ?_;exact⟨_,rfl,rfl⟩
end aI
open Go.Proofs
section
variable{C:cA}(T:li C.P){ops:Array Oper}{i d:Nat}{ty:TypeId}{pos:String}{af:Array Edge}{r:List Oper}{Y:Nat->PV}{L:List (Nat×PV)}{h:ab}{L0:Nat}{own:List Nat}{Q:St->Prop}
set_option maxRecDepth 4000
theorem bh.sP(S:vL T H L λv=>bh C ops (i+1) r ⟨⟨al ((d,v)::L) Y,h⟩,L0,own⟩ Q):bh C ops i (⟨some d,H,ty,pos,af,none⟩::r) ⟨⟨al L Y,h⟩,L0,own⟩ Q:=by
 obtain⟨R,v,J,k⟩:=qa T S;exact bh.plain R (λX=>J X 1 Y h) k
theorem bh.sR(S:sf T H L h λv=>bh C ops (i+1) r ⟨⟨al ((d,v)::L) Y,h⟩,h.length,[]⟩ Q)(V:br h=true)(J:Pc L h H.operands.toList):bh C ops i (⟨some d,H,ty,pos,af,none⟩::r) ⟨⟨al L Y,h⟩,h.length,[]⟩ Q:=by
 obtain⟨R,v,G,k⟩:=jT T S;exact bh.read R V (K5 J) ⟨0,λn W _ _=>G _ W Y⟩ k
theorem bh.sW(R:cI H=true)(A:level ops (before ops) i=2)(S:uj T H L h λv h'=>bh C ops (i+1) r ⟨⟨al ((d,v)::L) Y,h'⟩,h'.length,[]⟩ Q):bh C ops i (⟨some d,H,ty,pos,af,none⟩::r) ⟨⟨al L Y,h⟩,L0,own⟩ Q:=by
 obtain⟨v,h',G,k⟩:=nq T S;exact bh.two R A ⟨0,λn _=>G _ Y⟩ k
theorem bh.adp{xs:List Operand}{J:Array TypeId}{f:FuncId}{args:List PV}{P:ab->Prop}(A:level ops (before ops) i=1)(V:br h=true)(u:cW L x=some (.fn f []))(v:Bw L xs=some args)(w:C.mode f=.opened)(e:bB (bj h) args=true)
  (a:ay C f args (h.map cm) (λb h'=>b=.an h.length 0 0 n/\∃D,h'=h.map cm++D/\(∀o∈D,o.mu≠.l)/\P D))
  (k:∀D,P D->bh C ops (i+1) r ⟨⟨al ((d,.an h.length 0 0 n)::L) Y,h++D⟩,h.length,List.replicate D.length i⟩ Q):bh C ops i (⟨some d,.call ⟨.value x,xs.toArray,J⟩,ty,pos,af,none⟩::r) ⟨⟨al L Y,h⟩,h.length,[]⟩ Q:=by
 obtain⟨b,h',⟨rfl,D,rfl,j,H⟩,G,z⟩:=a;refine bh.step ⟨G,λm O=>?_⟩ (k D H);have t:cO ((before ops).getD i 0).testBit h.length [] h=h:=by simp[cO]
 have q:=gV (Y:=Y) v;have U:(h.map cm++D).drop h.length=D:=by rw[ahj yxb,agU yxb];simp
 have R:(D.all λo=>decide (o.mu≠.l))=true:=by rw[af9];exact λo B=>decide_eq_true (j o B)
 have W:eI h.length (.an h.length 0 0 n)=false:=by simp[eI,cY,eu]
 have M:dG C (dC C m) 1 f args h=some (.an h.length 0 0 n,h++D):=by
  unfold dG;simp only[w,jj,eP,z m O,U,R];simp[W]
 have S:((Op.call ⟨.value x,xs.toArray,J⟩).operands.toList.all λy=>bq (bj h) (ev (al L Y) y))=true:=by
  rw[af9]
  intro y F
  simp[Op.operands,Call.operands]at F;rcases F with rfl |F;rw[ak u];rfl
  ·exact zci
 have g:¬level ops (before ops) i=2:=by rw[A];decide
 have X:ar C (dC C m) 1 (.call ⟨.value x,xs.toArray,J⟩) (al L Y) h=some (.an h.length 0 0 n,h++D):=by
  simp only[ar,gp,ak u,q,agC,M]
 have K:(h++D).drop h.length=D:=by simp
 simp only[cM,bC,show cI (.call ⟨.value x,xs.toArray,J⟩)=true from rfl,agQ,if_false,g,t,V,S,and_self,if_true,X,K,R,cy,agS]
theorem yu(V:br h=true):br (h++D.map fE)=true:=by
 unfold br at V ⊢;rw[af9]at V ⊢
 intro o f
 rcases agh.1 f with f |f
 ·have:=V o f;rw[agJ]at this ⊢;rcases this with O |O;exact .inl O
  ·refine .inr (eK (λi B=>?_) _ O);unfold bj at B ⊢
   split at B
   ·rename_i o f
    rw[af8 (ag f),f];exact B
   cases B
 ·obtain⟨y,_,rfl⟩:=agv.1 f;simp[fE]
theorem De{e:Nat->Bool}(q:e j=false):cO e h.length (List.replicate D.length j) (h++D)=h++D.map fE:=by
 unfold cO;rw[List.take_left' rfl,List.drop_left' rfl]
 congr 1
 induction D with
 |nil=>rfl
 |cons o D P=>simp[List.replicate_succ,q,P]
theorem bh.bL{v:PV}{E:ab}(f:cI H=true)(A:level ops (before ops) i=1)(q:((before ops).getD i 0).testBit j=false)(V:br h=true)(S:∀y∈H.operands.toList,aW (ev (al L Y) y)=true)
  (G:∀run,ar C run 1 H (al L Y) (h++D.map fE)=some (v,h++D.map fE++E)) (R:∀o∈E,o.mu≠.l) (k:bh C ops (i+1) r ⟨⟨al ((d,v)::L) Y,h++D++E⟩,h.length,List.replicate D.length j++List.replicate E.length i⟩ Q):
  bh C ops i (⟨some d,H,ty,pos,af,none⟩::r) ⟨⟨al L Y,h++D⟩,h.length,List.replicate D.length j⟩ Q:=by
 refine bh.step ⟨0,λm _=>?_⟩ k;have b:¬level ops (before ops) i=2:=by rw[A];decide
 have u:cO ((before ops).getD i 0).testBit h.length (List.replicate D.length j) (h++D)=h++D.map fE:=De q
 have e:(H.operands.toList.all λy=>bq (bj (h++D.map fE)) (ev (al L Y) y))=true:=by
  rw[af9];exact λy F=>zk _ _ (S y F)
 have U:(h++D.map fE++E).drop (h++D).length=E:=by
  rw[ahj yxb,agU yxb];simp
 have a:(E.all λo=>decide (o.mu≠.l))=true:=by rw[af9];exact λo g=>decide_eq_true (R o g)
 simp only[cM,bC,f,agQ,if_false,b,u,yu V,e,and_self,if_true,G,U,a,cy]
theorem bh.aaZ{t el:TypeId}{full:Bool}{es:List PV}(A:level ops (before ops) i=1)(q:((before ops).getD i 0).testBit j=false)(V:br h=true)(U:cW L x=some (.aa full es))(g:T.kd t=some (.sl el))
  (k:bh C ops (i+1) r ⟨⟨al ((d,.I es.length)::L) Y,h++D⟩,h.length,List.replicate D.length j⟩ Q):bh C ops i (⟨some d,.call ⟨.builtin .len,#[x],#[t]⟩,ty,pos,af,none⟩::r) ⟨⟨al L Y,h++D⟩,h.length,List.replicate D.length j⟩ Q:=by
 refine bh.bL (E:=[]) (v:=.I es.length) rfl A q V (λy F=>?_) (λX=>?_) yxb (by simpa using k)
 ·simp[Op.operands,Call.operands]at F;subst F;rw[ak U];rfl
 simp only[ar,bA,agp,agF,ak U,qz,bG (T.dA _ _ g),ago,agC]
theorem bh.Wg{l:Operand}{t el:TypeId}{w:IntKind}{sz G:Nat}{z:PV}(A:level ops (before ops) i=1)(q:((before ops).getD i 0).testBit j=false)(V:br h=true)(U:cW L l=some (.int w n))(g:T.kd t=some (.sl el))(S:T.ts el=some (sz+1))(W:T.tb el=some G)(M:T.tz el=some z)
  (O:G<=65536) (u:(cells z).length=sz+1) (f:(cells z).all bP=true) (hn:n<=1073741824)
  (k:bh C ops (i+1) r ⟨⟨al ((d,.an (h.length+D.length) 0 0 n)::L) Y,h++D++[⟨.m,0,sz+1,List.replicate n z⟩]⟩,h.length,List.replicate D.length j++[i]⟩ Q):bh C ops i (⟨some d,.makeSlice t l l,ty,pos,af,none⟩::r) ⟨⟨al L Y,h++D⟩,h.length,List.replicate D.length j⟩ Q:=by
 refine bh.bL (E:=[⟨.m,0,sz+1,List.replicate n z⟩]) (v:=.an (h.length+D.length) 0 0 n) rfl A q V (λy F=>?_) (λX=>?_) yxb k
 ·simp[Op.operands]at F;subst F;rw[ak U];rfl
 ·simp only[ar,aD,ak U,kY,bG (T.dA _ _ g),T.eT _ _ S,T.vg _ _ W,T.pJ _ _ M];rw[if_pos ⟨by omega,by omega,by omega,by omega,by omega,O,u,f⟩];simp[newObj]
end
end Go.Pm
