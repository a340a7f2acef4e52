/-
  Pm, a part. Conditions: none.
-/
import Derived.Test.YtiipafafbpaaoaaGreatDoorPsAJ
set_option linter.unusedVariables false
set_option linter.unusedSimpArgs false
set_option linter.unnecessarySimpa false
set_option linter.unusedSectionVars false
namespace Go.Pm
open Go.Proofs
attribute [local irreducible] aE az aO aL Ev ai ah ay bh
set_option maxRecDepth 4000
theorem Wf(cs:List Tm)(x:List Pw)(H:ab)(S:gY cs)(b:cs.length<100000000)(W:∀t∈cs,aC t<1000000000)(U:U9 x)(z:x.length<100000000)(d:∀p∈x,p.1∈cs):
  ay C 313 [.aa false (ae cs),.aa false (cQ x)] H (λr h'=>r=.an H.length 0 0 cs.length/\∃J:ab,h'=H++⟨.m,0,1,jo (cs.map (ye x))⟩::J/\∀o∈J,o.mu=.m/\aw o.es=true):=by
 have Z:=aj cs;have i:=jR x;refine ay.x T6 Tryz.func313 rfl ?_;refine wA ?_
 refine dU.zip T6 x (λp q L h=>L=[(0,.aa false (ae cs)),(5,.an H.length 0 0 (ae cs).length),(13,.aa false (cQ x)),(14,.I (cQ x).length),(15,.I p.length)]/\∃J:ab,h=H++⟨.m,0,1,jo (cs.map (ye p))⟩::J/\∀o∈J,o.mu=.m/\aw o.es=true)
  (.nx ⟨rfl,[],?_,by simp⟩) ?_ ?_
 ·have:jo (cs.map (ye []))=List.replicate (ae cs).length (.I 0):=by rw[Z,jo,aie,<-List.map_const];rfl
  rw[this]
 ·rintro p ⟨u,n⟩ q _ h Y e ⟨rfl,J,N,g⟩;have D:h[H.length]?=some ⟨.m,0,1,jo (cs.map (ye p))⟩:=by rw[N];simp
  have O:H.length<h.length:=by rw[N];simp
  have j:=Gh e;have w:=lenE e;obtain⟨A,B,G⟩:=List.append_of_mem (d (u,n) yxf);dsimp only at G;have a:=Hl cs A B u G S b W;rw[au]at a;have V:A.length<cs.length:=by rw[G];simp
  have M:(jo (cs.map (ye p)))[0+A.length]?=some (.I (ye p u)):=by rw[G];simp[jo]
  have K:(jo (cs.map (ye p))).length=cs.length:=by simp
  have Q:∀y∈p,aZ y.1 u≠0:=λy F=>by
   rw[e]at U;have:=(aim.1 U).2.2 y F (u,n) yxb;simp only at this;omega
  refine wA ?_;refine .p a ?_;have v:(jo (cs.map (ye p))).set (0+A.length) (.I n)=jo (cs.map (ye (p++[(u,n)]))):=by rw[agz];exact WJ G S Q
  refine wA ?_;rw[v];refine .nx ⟨rfl,J++[⟨.m,0,5,[.agg [.I u.k,.str u.s,.I u.o,.aa false (ae u.l),.I n]]⟩],?_,?_⟩;rw[N,ags,agL,ahn _ _ (agb _),ahK,List.set_cons_zero]
  ·intro o f
   rcases agh.1 f with f |f;exact g o f;rw[agu.1 f];exact⟨rfl,by simp⟩
 ·rintro _ h Y ⟨rfl,J,N,g⟩;refine wA ?_;exact⟨by rw[Z];rfl,J,N,g⟩
end Go.Pm
namespace Go.Pm
open Go.Proofs
set_option maxRecDepth 4000
structure Km(u:Tm)(k:ab)(x t p c:Nat):Prop where
 hr:HR k
 ex:∃i,k[x]?=some ⟨.m,0,4,[.agg [.aa false (ae [u]),.aa true [],.an i 0 0 1,.bool false]]⟩/\k[i]?=some ⟨.m,0,1,[.int .i64 (-1)]⟩
 et:k[t]?=some ⟨.m,0,3,[.agg [.an p 0 0 1,.an c 0 0 0,.bool false]]⟩
 ep:k[p]?=some ⟨.m,0,1,[.int .i64 1]⟩
theorem Ox(u:Tm):ye [(u,1)] u=1:=QF (p:=[]) (q:=[]) yxb (cP u)
namespace aI
attribute [local irreducible] aE az aO aL Ev ai ah ay bh
theorem Wd(x:Nat)(B P:PV)(H:ab)(w:HR H)(A:H[x]?=some ⟨.m,0,4,[.agg [B,.aa true [],P,.bool false]]⟩):ay C 314 [.ptr x 0 0 0,.I 0] H (λr h'=>r=.b8 []/\h'=H):=by
 refine ay.x T6 Tryz.func314 rfl ?_;refine wA ?_;refine dU.nat T6 (λm L h=>m=0/\L=[(0,.ptr x 0 0 0),(1,.I 0)]/\h=H) 0 (.nx ⟨rfl,rfl,rfl⟩) ?_;rintro m _ h Y ⟨rfl,rfl,rfl⟩;refine wA ?_;refine dU.zip T6 ([]:List Nat) (λp q u h'=>h'=h/\p=[]/\u=[(0,.ptr x 0 0 0),(1,.I 0),(4,.I (-1)),(5,.I 0),(18,.aa true []),(19,.I 0),(20,.I 0)]) (.nx ⟨rfl,rfl,rfl⟩) ?_ ?_
 ·rintro p a q u h' Y e;simp at e
 ·rintro _ h Y ⟨rfl,_,rfl⟩;refine wA ?_;exact⟨rfl,rfl⟩
theorem We(u:Tm)(H:ab)(x t p c:Nat)(K:Km u H x t p c):ay C 303 [.ptr x 0 0 0,.ptr t 0 0 0] H (λr h'=>r=.I 0/\h'=H):=by
 obtain⟨w,⟨i,A,a⟩,R,g⟩:=K;have Z:(ae [u]).length=1:=aj [u];refine ay.x T6 Tryz.func303 rfl ?_;refine wA ?_;rw[Z];refine dU.zip T6 [(0:Nat)] (λp q L h=>L=[(0,.ptr x 0 0 0),(1,.ptr t 0 0 0),(12,.I 1),(13,.I p.length)]/\h=H/\q≠[]) (.nx ⟨rfl,rfl,by simp⟩) ?_ ?_
 ·rintro p i q _ _ Y e ⟨rfl,rfl,_⟩
  obtain rfl:p=[]:=by
   cases p with
   |nil=>rfl
   |cons b p=>simp at e
  refine wA ?_;exact⟨rfl,rfl⟩
 ·rintro _ _ Y ⟨rfl,rfl,h⟩;exact absurd rfl h
theorem Oy(u:Tm)(hu:aC u<10000000)(h:gQ u=false)(hv:valid u=0):
  ay C 302 [.aa false [],.aa false (cQ [(u,1)])] [] (λr h'=>HR h'/\([]:ab).length<=h'.length/\(∀j,j<([]:ab).length->h'[j]?=([]:ab)[j]?)/\∃x t p c,r=.b8 [.ptr x 0 0 0,.ptr t 0 0 0,.I 0]/\Km u h' x t p c):=by
 have X:oe [(u,1)]=0:=by
  unfold oe;rw[if_neg yxb,qT,if_neg (by simpa using hv),if_neg (by simp[h]),if_neg yxb,if_neg yxb,yA]
 have Yx:∀q∈[(u,(1:Int))],aC q.1<100000000:=by simp;omega
 have Q:=(Kc [(u,1)] Yx yxb).nine;rw[X]at Q;have Yy:=QU [[(u,1)]] ⟨λx hx=>by simp at hx;subst hx;exact⟨Yx,by simp⟩,by simp⟩;have hf:NI [[(u,1)]]=[u]:=rfl;rw[hf]at Yy;have cL:(ae [u]).length=1:=aj [u];refine ay.x T6 Tryz.func302 rfl ?_;refine wG ?_;refine dU.zip T6 ([]:List Nat) (λp q L h=>p=[]/\L=[(0,.aa false []),(1,.aa false (cQ [(u,1)])),(19,.aa false []),(20,.I 0),(21,.I 0)]/\h=[]) (.nx ⟨rfl,rfl,rfl⟩) ?_ ?_
 ·rintro p x q _ h Y e;simp at e
 rintro _ h Y ⟨_,rfl,rfl⟩;refine wG ?_;refine .p Q ?_;refine wG ?_;refine ah.de rfl (show bW 1 [.aa false []] []=some (.aa true [],[])from rfl) ?_
 (repeat' (first |(refine Rn.go ?_;conv=>whnf)|((fail_if_success (show UI _ _ _ _ _));refine .mk ?_)|refine .lp λv H O=>?_ |fail))
 have R:=O.hv;have xe:Out 1 H v (jF [[(u,1)]]):=O.out;refine .po xe Yy (λG b=>?_)
 have z:HV G:=by
  rcases b with rfl |⟨_,_,_,rfl⟩;exact R;exact R.set _ yxb yxb
 clear b xe R O;have M:(G++[(⟨.m,0,4,[.agg [.aa false (ae [u]),.aa true [],.aa true [],.bool false]]⟩:ax)])[G.length]?=some ⟨.m,0,4,[.agg [.aa false (ae [u]),.aa true [],.aa true [],.bool false]]⟩:=by simp
 have U:HR (G++[(⟨.m,0,4,[.agg [.aa false (ae [u]),.aa true [],.aa true [],.bool false]]⟩:ax)]):=z.hr.cx (HV.one rfl);refine wG ?_;generalize G++[(⟨.m,0,4,[.agg [.aa false (ae [u]),.aa true [],.aa true [],.bool false]]⟩:ax)]=S at *;generalize G.length=x at *;clear z;refine dU.zip T6 ([]:List Nat) (λp q L k=>p=[]/\L=[(0,.aa false []),(1,.aa false (cQ [(u,1)])),(11,.ptr x 0 0 0),(50,.aa false []),(51,.I 0),(52,.I 0)]/\k=S) (.nx ⟨rfl,rfl,rfl⟩) ?_ ?_
 ·rintro p y q _ k Y e;simp at e
 rintro _ S Y ⟨_,rfl,rfl⟩;refine wG ?_;refine dU.nat T6 (λm B k=>(m=1/\B=[(0,.aa false []),(1,.aa false (cQ [(u,1)])),(11,.ptr x 0 0 0),(89,.I (ae [u]).length),(90,.I 0)]/\k=S)\/(m=0/\B=[(0,.aa false []),(1,.aa false (cQ [(u,1)])),(11,.ptr x 0 0 0),(89,.I (ae [u]).length),(90,.I 1)]/\HR k/\∃i,k[x]?=some ⟨.m,0,4,[.agg [.aa false (ae [u]),.aa true [],.an i 0 0 1,.bool false]]⟩/\k[i]?=some ⟨.m,0,1,[.I (-1)]⟩)) 1 (.nx (.inl ⟨rfl,rfl,rfl⟩)) ?_;rintro m _ k Y (⟨rfl,rfl,rfl⟩|⟨rfl,rfl,w,i,A,ei⟩)
 ·have Z:=ag M;refine wG ?_;refine .sn (es:=[]) ?_ rfl yxb;have A:(k++[(⟨.m,0,1,[.I (-1)]⟩:ax)])[x]?=some ⟨.m,0,4,[.agg [.aa false (ae [u]),.aa true [],.aa true [],.bool false]]⟩:=by rw[af8 Z];exact M
  have w:HR (k++[(⟨.m,0,1,[.I (-1)]⟩:ax)]):=U.cx (HV.one rfl);refine wG ?_;refine .nx ⟨0,by omega,.inr ⟨rfl,rfl,w.set _ yxb (by simp[bB,bq]),k.length,agc yxd,?_⟩⟩;rw[aga yxa];simp
 refine wG ?_;refine dU.nat T6 (λm B K=>K=k/\((m=1/\B=[(0,.aa false []),(1,.aa false (cQ [(u,1)])),(11,.ptr x 0 0 0),(106,.I (ae [u]).length),(107,.I 0)])\/(m=0/\B=[(0,.aa false []),(1,.aa false (cQ [(u,1)])),(11,.ptr x 0 0 0),(106,.I (ae [u]).length),(107,.I 1)]))) 1 (.nx ⟨rfl,.inl ⟨rfl,rfl⟩⟩) ?_;rintro m _ K Y ⟨rfl,(⟨rfl,rfl⟩|⟨rfl,rfl⟩)⟩
 ·refine wG ?_;refine .same (Wd x _ _ _ w A) λr hr=>?_;subst hr;refine wG ?_;exact .nx ⟨0,by omega,rfl,.inr ⟨rfl,rfl⟩⟩
 have UZ:=(Wf [u] [(u,1)] (K.map cm) (by simp[gY]) yxb yxd (by simp[U9]) yxb yxb).nine;rw[agY]at UZ;refine wG ?_;refine .raw λY=>?_;refine bh.sP T6 ?_
 conv=>whnf
 refine bh.sP T6 ?_
 conv=>whnf
 refine bh.sP T6 ?_
 conv=>whnf
 refine bh.sP T6 ?_
 conv=>whnf
 refine bh.sR T6 ?_ w.closed ⟨E3 A yxb,trivial⟩
 conv=>whnf
 refine wA ?_;refine bh.sP T6 ?_
 conv=>whnf
 refine bh.adp (n:=1) (P:=λD=>∃J:ab,D=⟨.m,0,1,[.I 1]⟩::J/\∀o∈J,o.mu=.m/\aw o.es=true) rfl w.closed rfl rfl rfl rfl (UZ.mono λr h' hh=>⟨hh.1,?_⟩) λD hD=>?_
 ·obtain⟨_,J,rfl,N⟩:=hh
  exact⟨_,rfl,λo f=>by
   rcases agi.1 f with rfl |f;simp;rw[(N o f).1];simp,J,by simp[jo,Ox],N⟩
 obtain⟨J,W,N⟩:=hD;refine bh.sP T6 ?_
 conv=>whnf
 refine bh.aaZ T6 rfl rfl w.closed rfl rfl ?_;refine bh.Wg T6 (n:=0) rfl rfl w.closed rfl rfl rfl rfl rfl yxe rfl rfl yxa ?_;refine bh.sP T6 ?_
 conv=>whnf
 refine bh.sW T6 rfl rfl ?_
 conv=>whnf
 refine wA ?_;refine bh.sP T6 ?_
 conv=>whnf
 refine bh.sP T6 ?_
 conv=>whnf
 refine bh.sP T6 ?_
 conv=>whnf
 obtain⟨g,F⟩:∃g,g=K++D++[(⟨.m,0,0+1,List.replicate 0 (.I 0)⟩:ax)]++[(⟨.m,0,3,[.agg [.an K.length 0 0 1,.an (K.length+D.length) 0 0 0,.bool false]]⟩:ax)]:=⟨_,rfl⟩;have d:K.length+D.length+1=(K++D++[(⟨.m,0,0+1,List.replicate 0 (.I 0)⟩:ax)]).length:=by simp;omega
 have lD:0<D.length:=by rw[W];simp
 have aF:∀j,j<K.length->g[j]?=K[j]?:=λj V=>by rw[F,ags,ags,af8 V]
 have a3:g[K.length]?=some ⟨.m,0,1,[.I 1]⟩:=by rw[F,W];simp
 have a2:g[K.length+D.length+1]?=some ⟨.m,0,3,[.agg [.an K.length 0 0 1,.an (K.length+D.length) 0 0 0,.bool false]]⟩:=by
  rw[F,d,agl (agb _),ahK];rfl
 have a:HR g:=by
  rw[F];refine HR.Gt (HR.Gt (w.cx λo f=>?_) yxb (by simp[bB])) yxb (by simp[bB,bq];omega);rw[W]at f;rcases agi.1 f with rfl |f;simp;rw[(N o f).1];exact⟨by simp,(N o f).2⟩
 have Z:=ag A;have ki:=ag ei;rw[<-d,<-F];refine bh.nil ⟨_,_,rfl,?_⟩
 conv=>whnf
 skip
 exact⟨a,ag7 _,λj V=>absurd V (Nat.not_lt_zero _),x,_,_,_,rfl,a,⟨i,by rw[aF _ Z];exact A,by rw[aF _ ki];exact ei⟩,a2,a3⟩
theorem Oz(u:Tm)(y:aC u<10000000)(h:gQ u=false)(J:valid u=0):
  ay C 285 [.aa false [],.aa false (cQ [(u,1)])] [] (λr h'=>HR h'/\([]:ab).length<=h'.length/\(∀j,j<([]:ab).length->h'[j]?=([]:ab)[j]?)/\∃x t p c,r=.b8 [.ptr x 0 0 0,.ptr t 0 0 0,.I 0,.I 0]/\Km u h' x t p c):=by
 have a:=Oy u y h J;refine ay.x T6 Tryz.func285 rfl ?_;refine wA ?_;refine .fr a (λr h z W=>?_) (λr h b V S v=>?_)
 ·obtain⟨x,t,p,c,rfl,K⟩:=z;simp[eI,cY,eu]at W
 obtain⟨x,t,p,c,rfl,K⟩:=v;have M:=We u _ x t p c K;obtain⟨i,A,d⟩:=K.ex;refine wA ?_;refine .same M λr z=>?_;subst z;refine wA ?_;exact⟨b,V,S,x,t,p,c,rfl,K⟩
theorem G8(u:Tm)(y:aC u<10000000)(h:gQ u=false)(J:valid u=0):∃x,aT C 248 [.aa false [],.aa false (cQ [(u,1)])] (.b8 [x,.I 4]):=by
 have B:=Oz u y h J;refine⟨.aa false [],?_⟩;refine aT.x T6 Tryz.func248 rfl ?_;refine wA ?_;refine .fr B (λr h z W=>?_) (λr h b V S v=>?_)
 ·obtain⟨x,t,p,c,rfl,K⟩:=z;simp[eI,cY,eu]at W
 obtain⟨x,t,p,c,rfl,K⟩:=v;refine wA ?_;exact⟨_,rfl,rfl⟩
end aI
end Go.Pm
namespace Go.Pm
variable{p q r s u:List Tm}{t:List Nat}{H M h h':ab}{G V c d ep j lv n sz:Nat}{l z:List cg}{args es vs ys:List PV}{o:ax}{a:Array Edge}{L:Al}{Y:Nat->PV}{F:Array (Nat×Operand)}{ops:Array Oper}{run:hZ}{x:Operand}{k:IntKind}{f:FuncId}{Q:PV->ab->Prop}{S:List cV}{w:PV}
set_option maxRecDepth 4000
theorem yy{u:Tm}(h:mL u=true):gQ u=false:=by
 obtain⟨a,X,_,_,_,N⟩:=pe h;obtain⟨k,s,o,l⟩:=u
 have H:∀(n:ByteArray) (m:List UInt8),n.toList=m->fY (.mk k s o l) n=false->(decide (k=3)&&decide (s.toList=m))=false:=λn m e R=>by
  subst e;simp only[fY,iP,Tm.k,Tm.s]at R
  cases g:decide (k=3)with
  |false=>rfl
  |true=>
   have e:k=3:=by simpa using g
   subst e;simp at R;simpa using R
 have f:=H EX CF Qh a;have S:=H EY CG Qi X;have O:=H xM CH Qj N;show(decide (k=3)&& (decide (s.toList=CF)||decide (s.toList=CG)||decide (s.toList=CH)))=false;rw[Bool.and_or_distrib_left,Bool.and_or_distrib_left,f,S,O]
 rfl
namespace aI
open Go.Proofs
attribute [local irreducible] aE az aO aL Ev ai ah ay bh bH
theorem G7(u:Tm):cQ [(u,1)]=[.agg [.I u.k,.str u.s,.I u.o,.aa false (ae u.l),.I 1]]:=by obtain⟨k,s,o,l⟩:=u;rfl
theorem _root_.za6{P:Prop}(h:P:=by
 refine wA ?_;refine .p O ?_;refine wA ?_;exact⟨rfl,(hC.refl _).cz (HV.one yxk)⟩):P:=h
theorem V8(s:List Tm)(S:mi s)(u:Tm)(y:aC u<10000000)(V:Nat)(H:ab)(h0:H[V]?=some ⟨.m,0,1,[.aa false (ae s)]⟩):ay C 284 [.agg [.I u.k,.str u.s,.I u.o,.aa false (ae u.l),.I 1],.ptr V 0 0 0] H (λr h'=>r=.bool (cG s u)/\hC H h'):=by
 have O:=S.has y;have F:=ag h0;rw[au]at O;refine ay.x T6 Tryz.func284 rfl ?_;exact za6
theorem E0(s:List Tm)(S:mi s)(u:Tm)(y:aC u<10000000)(hn:cG s u=false):aT C 247 [.aa false (ae s),.aa false (cQ [(u,1)])] (.aa false (cQ [(u,1)])):=by
 rw[G7];obtain⟨B,H⟩:∃B:ab,B=[⟨.m,0,1,[.aa false (ae s)]⟩,⟨.m,0,5,[.agg [.I u.k,.str u.s,.I u.o,.aa false (ae u.l),.I 1]]⟩]:=⟨_,rfl⟩;have b:B[0]?=some ⟨.m,0,1,[.aa false (ae s)]⟩:=by rw[H];rfl
 have f:B[1]?=some ⟨.m,0,5,[.agg [.I u.k,.str u.s,.I u.o,.aa false (ae u.l),.I 1]]⟩:=by rw[H];rfl
 have h:ay C 301 [.an 1 0 0 1,.fn 284 [.ptr 0 0 0 0]] B (λr d=>r=.I (-1)/\hC B d):=by
  have A:([]:List Tm).length=0:=rfl;have N:[u].length=1:=rfl;refine ay.x T6 Tryz.func301 rfl ?_;refine wA ?_;refine dU.zip T6 [u] (λp q L K=>L=[(0,.an 1 0 0 1),(1,.fn 284 [.ptr 0 0 0 0]),(7,.I 1),(8,.I p.length)]/\hC B K) (.nx ⟨rfl,hC.refl _⟩) ?_ ?_
  ·rintro p a q _ K Y e ⟨rfl,R⟩;obtain⟨rfl,P,rfl⟩:=zp e;have P:=P.symm;subst P;have i:=R.at f;have g:=V8 s S u y 0 K (R.at b);rw[hn]at g;refine wA ?_;refine .ex g (λd U=>?_);refine wA ?_;exact .nx ⟨rfl,R.trans U⟩
  ·rintro _ K Y ⟨rfl,R⟩;refine wA ?_;exact⟨rfl,R⟩
 have t:ay C 282 [.an 1 0 0 1,.fn 284 [.ptr 0 0 0 0]] B (λr d=>r=.an 1 0 0 1/\hC B d):=by
  refine ay.x T6 Tryz.func282 rfl ?_;refine wA ?_;refine .ex h (λd R=>?_);refine wA ?_;exact⟨rfl,R⟩
 have w:bW 5 [.aa false [.agg [.I u.k,.str u.s,.I u.o,.aa false (ae u.l),.I 1]]] [⟨.m,0,1,[.aa false (ae s)]⟩]=some (.an 1 0 0 1,B):=by rw[H];rfl
 refine aT.x T6 Tryz.func247 rfl ?_;refine wA ?_;refine ah.de rfl w ?_;refine wA ?_;refine .ex t (λd R=>?_);have O:=R.at f;refine wA ?_;exact iF (tl:=[]) (es:=[.agg [.I u.k,.str u.s,.I u.o,.aa false (ae u.l),.I 1]]) O rfl (by rw[<-G7];simp) (by rw[<-G7];simp)
theorem AM(s:List Tm)(S:mi s)(b:∀t∈s,mL t=true)(u:Tm)(y:aC u<10000000)(hn:cG s u=false)(h:mL u=true)(J:valid u=0):aT C 209 [.aa false (ae s),.aa false (cQ [(u,1)])] (.bool false):=by
 have Z:=aj s;have U:=S.len;have O:=E0 s S u y hn;obtain⟨x,X⟩:=G8 u y (yy h) J;rw[G7]at O X ⊢;refine aT.x T6 Tryz.func209 rfl ?_;refine wA ?_;refine .p O ?_;refine wC (λG=>?_) λG=>?_;exfalso;simp at G;refine dU.zip T6 s (λp q L H=>L=[(0,.aa false (ae s)),(1,.aa false [.agg [.I u.k,.str u.s,.I u.o,.aa false (ae u.l),.I 1]]),(5,.aa true []),(18,.aa false (ae s)),(19,.I (ae s).length),(20,.I p.length)]/\HV H) (.nx ⟨rfl,HV.nil⟩) ?_ ?_
 ·rintro p t q _ H Y e ⟨rfl,w⟩;have d:=bO e;have f:=lenE e;have Q:=Dr t;obtain⟨K,a,_⟩:=pe (b t yxf);rw[show GZ t=false by simp[GZ,K,a],au]at Q;refine wA ?_;refine .p Q ?_;refine wA ?_;exact .nx ⟨rfl,w.cz (HV.one yxb)⟩
 ·rintro _ H Y ⟨rfl,w⟩;refine wA ?_;refine .p X ?_;refine wA ?_;exact⟨_,rfl,rfl⟩
theorem _root_.za8{P:Prop}(h:P:=by
 refine wA ?_;refine .p O ?_;refine wA ?_;refine .p X ?_;refine wA ?_;exact⟨_,rfl,rfl⟩):P:=h
theorem yW(s:List Tm)(S:mi s)(a:∀t∈s,mL t=true)(u:Tm)(y:aC u<10000000)(hn:cG s u=false)(h:mL u=true)(J:valid u=0):aT C 161 [.aa false (ae s),enc u] (.bool false):=by
 have O:=(V9 u yxa (yy h) J).nine;have X:=AM s S a u y hn h J;rw[G7]at O X;rw[au]at O ⊢;refine aT.x T6 Tryz.func161 rfl ?_;exact za8
theorem G9(u:Tm)(h:mL u=true):aT C 205 [enc u] (.b8 [enc u,.aa false []]):=by
 have O:=qk u ⟨#[101,120,112]⟩;rw[show fY u ⟨#[101,120,112]⟩=false from(pe h).2.2.1]at O;rw[au]at O ⊢;refine aT.x T6 Tryz.func205 rfl ?_;refine wA ?_;refine .p O ?_;refine wA ?_;exact⟨_,rfl,by simp⟩
theorem Ka(u t:Tm)(y:aC u<10000000)(Z:aC t<10000000)(h:mL t=true)(Q:aZ u t≠0)(F q z:Nat)(H:ab)(w:HV H)(h1:H[F]?=some (Pi u)):
  ay C 206 [enc t,.ptr F 0 0 0,.ptr q 0 0 0,.ptr z 0 0 0] H (λr h'=>r=.bool false/\hC H h'):=by
 have K:=G9 t h;have a:=qh u t yxa yxa;have W:=ag h1;rw[decide_eq_false Q]at a;rw[au]at K a ⊢;rw[au t]at a
 have R:(H++[(Pi t)]++[Pi t])[F]?=some (Pi u):=by
  rw[af8 yxd,af8 W];exact h1
 refine ay.x T6 Tryz.func206 rfl ?_;refine wA ?_;refine .p K ?_;refine wA ?_;refine .p a ?_;exact zba
theorem Ha(s:List Tm)(S:mi s)(e:∀t∈s,mL t=true)(u:Tm)(y:aC u<10000000)(hn:cG s u=false)(h:mL u=true):aT C 160 [.aa false (ae s),enc u] (.bool false):=by
 have O:=G9 u h;have K:=S.len;obtain⟨B,H⟩:∃B:ab,B=[⟨.m,0,1,[.aa false (ae s)]⟩,Pi u,Pi u,⟨.m,0,1,[.aa false []]⟩]:=⟨_,rfl⟩;have b:B[2]?=some (Pi u):=by rw[H];rfl
 have a:HV B:=by
  rw[H];intro o f;simp only[agi,ahb,or_false]at f;rcases f with rfl |rfl |rfl |rfl <;>simp[aw,aW]
 have G:=Ms s 206 [.ptr 2 0 0 0,.ptr 3 0 0 0,.ptr 0 0 0 0] (λ_=>false) B yxa (λx U=>gi.opened λY R=>Ka u x y (S.bk x U) (e x U) (λd=>by
  have:=eH.2 ((dD d)▸U);rw[hn]at this;cases this) 2 3 0 Y (R.hv a) (R.at b))
 have j:(s.any λ_=>false)=false:=by simp
 rw[j]at G;rw[au]at O ⊢;refine aT.x T6 Tryz.func160 rfl ?_;refine wA ?_;refine .p O ?_;refine wA ?_;rw[<-H];refine .ex G (λg R=>?_);refine wA ?_;exact⟨_,rfl,rfl⟩
end aI
structure Cl(u s r:List Tm):Prop where
 Mt:gY r
 base:∀x∈s,x∈r
 Yw:∀x∈r,x∈u/\Cg u s x
def ru(u r:List Tm):Nat:=u.countP λt=>!cG r t
theorem Cl.len(U:Sk u)(h:Cl u s r):r.length<=u.length:=by
 have:r=u.filter (cG r):=qO h.Mt (gN U.Mt) λy=>by
  rw[aha,eH];exact⟨λF=>⟨(h.Yw y F).1,F⟩,λF=>F.2⟩
 rw[this];exact ahf _ _
theorem Sl{t:Tm}(h:cG r t=false):ru (p++t::q) (fV t r)<ru (p++t::q) r:=by
 have d:∀l:List Tm,ru l (fV t r)<=ru l r:=λl=>by
  refine List.countP_mono_left λx _ U=>?_;simp only[ahg]at U ⊢
  cases R:cG r x with
  |false=>rfl
  |true=>
   rw[eH.2 ((qN t r x).2 (.inr (eH.1 R)))]at U
   cases U
 have Z:cG (fV t r) t=true:=eH.2 ((qN t r t).2 (.inl rfl));have O:=d p;have X:=d q;unfold ru at *;rw[List.countP_append,List.countP_append,ah2,ah2,Z,h];simp;omega
theorem Cl.add(U:Sk u)(h:Cl u s r){t:Tm}(Z:t∈u)(S:qm r t=true):Cl u s (fV t r):=by
 refine⟨zZ h.Mt,λx a=>(qN _ _ _).2 (.inr (h.base x a)),λx a=>?_⟩;rcases(qN _ _ _).1 a with rfl |a;exact⟨Z,Cg.step U h.Yw Z S⟩;exact h.Yw x a
namespace aI
open Go.Proofs
attribute [local irreducible] aE az aO aL Ev ai ah ay bh bH
theorem Cl.ok(U:Sk u)(h:Cl u s r)(A:u.length<10000000)(W:∀b∈u,aC b<10000000):mi r:=
 ⟨h.Mt,by have:=h.len U;omega,λb M=>W b (h.Yw b M).1⟩
theorem Hd(s:List Tm)(S:mi s)(i:∀t∈s,mL t=true)(u:Tm)(y:aC u<10000000)(hn:cG s u=false)(h:mL u=true)(J:valid u=0):aT C 159 [.aa false (ae s),enc u] (.bool false):=by
 have A:=aj s;have U:=S.len;have R:=(pe h).2.2.2.2.1;have g:=(pe h).2.2.2.1;have O:=Ot u J y R g;have X:=Ds [u] yxb (λt Z=>by simp at Z;rw[Z];omega);have Q:=Ou u J y R g;have v:nL [u]=[u]:=rfl;have d:ae [u]=[.agg (Do u)]:=by rw[ae,au];rfl
 rw[v]at X;rw[d]at O X;have D:mi [u]:=⟨by simp[gY],by simp,λb W=>by simp at W;rw[W];exact y⟩;rw[au]at O Q ⊢;refine aT.x T6 Tryz.func159 rfl ?_;refine wA ?_;refine .p O ?_;refine wA ?_;refine dU.zip T6 s (λp q L H=>L=[(0,.aa false (ae s)),(3,.ptr 0 0 0 0),(5,.aa false [.agg (Do u)]),(22,.aa false (ae s)),(23,.I (ae s).length),(24,.I p.length)]/\HV H/\H[0]?=some (Pi u)) (.nx ⟨rfl,HV.one yxb,rfl⟩) ?_ ?_
 ·rintro p t q _ H Y e ⟨rfl,w,B⟩;have j:=bO e;have n:=lenE e;have K:=qk t ⟨#[120,111,114]⟩;rw[show fY t ⟨#[120,111,114]⟩=false from(pe (i t yxf)).2.2.2.1,au]at K;refine wA ?_;refine .p K ?_;exact zbb
 ·rintro _ H Y ⟨rfl,w,B⟩;refine wA ?_;refine .p X ?_;refine wA ?_;refine dU.zip T6 s (λp q L H=>L=[(3,.ptr 0 0 0 0),(11,.aa false [.agg (Do u)]),(12,.aa true []),(42,.aa false (ae s)),(43,.I (ae s).length),(44,.I p.length)]/\HV H/\H[0]?=some (Pi u)) (.nx ⟨rfl,w,B⟩) ?_ ?_
  ·rintro p t q _ H Y e ⟨rfl,w,B⟩;have j:=bO e;have n:=lenE e;have V:t∈s:=by rw[e];simp
   have K:=qk t ⟨#[120,111,114]⟩;have a:=D.has (S.bk t V)
   have f:cG [u] t=false:=by
    cases z:cG [u] t with
    |false=>rfl
    |true=>
     have G:=eH.1 z;simp at G;rw[<-G,eH.2 V]at hn
     cases hn
   rw[f,d]at a;rw[show fY t ⟨#[120,111,114]⟩=false from(pe (i t V)).2.2.2.1]at K;rw[au]at K a;refine wA ?_;refine .p K ?_;refine wA ?_;refine .p a ?_;exact zbb
  ·rintro _ H Y ⟨rfl,w,B⟩;refine wA ?_;refine .p Q ?_;refine wA ?_;exact⟨_,rfl,rfl⟩
theorem AN(s:List Tm)(S:mi s)(a:∀t∈s,mL t=true)(Z:∀t∈s,pA t=0)(u:Tm)(y:aC u<10000000)(h:mL u=true)(J:valid u=0):aT C 125 [.aa false (ae s),enc u] (.bool (qm s u)):=by
 have V:u.l.length<10000000:=by obtain⟨k,n,o,l⟩:=u;have:=bF l;simp only[aC]at y;simp only[Tm.l];omega
 have O:=S.has y;have X:=J5 u yxa yxa;have Q:=E1 s S u y;have G:=Kb s S Z u y;have d:=Hd s S a u y;have N:=Ha s S a u y;have H:=yW s S a u y;have w:qm s u=(cG s u ||ET u ||AO s u ||yz s u):=rfl;rw[w];rw[au]at O X Q G d N H ⊢;refine aT.x T6 Tryz.func125 rfl ?_;refine wA ?_;refine .p O ?_
 cases z:cG s u
 ·refine wA ?_;refine .p X ?_
  cases ET u
  ·refine wA ?_;refine .p Q ?_
   cases AO s u
   ·refine wA ?_;refine .p G ?_
    cases yz s u
    ·refine wA ?_;refine .p (d z h J) ?_;refine wA ?_;refine .p (N z h) ?_;refine wA ?_;refine .p (H z h J) ?_;refine wA ?_;exact⟨_,rfl,rfl⟩
    ·refine wA ?_;exact⟨_,rfl,rfl⟩
   ·refine wA ?_;exact⟨_,rfl,rfl⟩
  ·refine wA ?_;exact⟨_,rfl,rfl⟩
 ·refine wA ?_;exact⟨_,rfl,rfl⟩
theorem He(u s:List Tm)(U:Sk u)(hs:gY s)(y:∀x∈s,x∈u)(S:u.length<10000000)(W:∀b∈u,aC b<10000000):aT C 87 [.aa false (ae s),.aa false (ae u)] (.aa false (ae (Cx u s))):=by
 have cL:=aj u;refine aT.x T6 Tryz.func87 rfl ?_;refine wA ?_;refine dU.nat T6 (λn L H=>∃r g,n=ru u r+(if g then 1 else 0)/\L=[(0,.aa false (ae r)),(1,.aa false (ae u)),(5,.bool g)]/\Cl u s r/\(g=false->∀t∈u,qm r t=true->t∈r)/\HV H) (ru u s+1) (.nx ⟨s,true,rfl,rfl,⟨hs,λ_ h=>h,λx a=>⟨y x a,.base a⟩⟩,by simp,HV.nil⟩) ?_;rintro n _ H Y ⟨r,g,rfl,rfl,G,N,A⟩
 cases g with
 |false=>
  have Z:r=Cx u s:=V' U G.Mt G.Yw λt ht B=>Cg.fix U G.base (λx a=>(G.Yw x a).1) (N rfl) B
  refine wA ?_;exact⟨_,rfl,by rw[<-Z];simp[bo,b9,bI]⟩
 |true=>
  refine wA ?_;refine dU.zip T6 u (λp q L K=>∃i V,L=[(0,.aa false (ae i)),(1,.aa false (ae u)),(5,.bool V),(9,.aa false (ae u)),(10,.I (ae u).length),(11,.I p.length)]/\Cl u s i/\(V=true->ru u i<ru u r)/\(V=false->i=r/\∀t∈p,qm r t=true->t∈r)/\HV K) (.nx ⟨r,false,rfl,G,by simp,λ_=>⟨rfl,by simp⟩,A⟩) ?_ ?_
  ·rintro p t q _ K Y e ⟨i,V,rfl,j,f,d,w⟩;have dm:=bO e;have eR:=lenE e;have v:t∈u:=by rw[e];simp
   have D:mi i:=Cl.ok U j S W;have O:=D.has (W t v);have X:=AN i D (λx a=>U.fr x (j.Yw x a).1) (λx a=>U.ok x (j.Yw x a).1) t (W t v) (U.fr t v) (qj.1 (U.ok t v)).1;have Q:=Of i t j.Mt D.len (λb M=>by have:=D.bk b M;omega) (by have:=W t v;omega);rw[au]at O X Q;refine wA ?_;refine .p O ?_
   cases R:cG i t
   ·refine wA ?_;refine .p X ?_
    cases z:qm i t
    ·refine wA ?_;refine .nx ⟨i,V,rfl,j,f,λh=>⟨(d h).1,λx a P=>?_⟩,w.cz (HV.one yxb)⟩;rcases agh.1 a with a |a;exact(d h).2 x a P
     ·simp at a;rw[a,<-(d h).1,z]at P
      cases P
    ·refine wA ?_;refine .p Q ?_;refine wA ?_;refine .nx ⟨fV t i,true,rfl,j.add U v z,λ_=>?_,by simp,w.cz (HV.one yxb)⟩;have F:ru u (fV t i)<ru u i:=by rw[e];exact Sl R
     cases J:V with
     |true=>have:=f J;omega
     |false=>rw[(d J).1]at F;rw[(d J).1];exact F
   ·refine wA ?_;refine .nx ⟨i,V,rfl,j,f,λh=>⟨(d h).1,λx a P=>?_⟩,w.cz (HV.one yxb)⟩;rcases agh.1 a with a |a;exact(d h).2 x a P
    ·simp at a;rw[a,<-(d h).1];exact eH.1 R
  ·rintro _ K Y ⟨i,V,rfl,j,f,d,w⟩;refine wA ?_;refine .nx ⟨ru u i+(if V then 1 else 0),?_,i,V,rfl,rfl,j,λh=>?_,w⟩
   ·cases V with
    |true=>have:=f rfl;simp;omega
    |false=>rw[(d rfl).1];simp
   ·obtain⟨rfl,X⟩:=d h;exact X
theorem Cv(k:List Tm)(t:Tm)(f:∀u∈k++[t],mL u=true)(A:bm (k++[t])<10000000):
  aT C 53 [.aa false (ae k),enc t] (.b8 [.bool (JR k t),.I (uK k t)]):=by
 have F:=bF (k++[t]);simp only[agf,agj,agH]at F;have d:∀u∈k++[t],aC u<10000000:=λu y=>by have:=cc y;omega
 have H:=Di d;have i:=nT (k++[t]);have O:=E2 k t f A;have g:ae [t]=[.agg (Do t)]:=by rw[ae,au];rfl
 rw[g]at O
 by_cases R:uK k t=0
 ·rw[if_neg yxa,R]at O
  have e:oc (k++[t])=0:=by
   unfold uK at R
   split at R
   omega
   ·split at R
    ·omega
    ·omega
  have U:Sk (fq (k++[t])):=aaY λx a=>⟨(Ov (AP e x a)).1,f x a⟩
  have h:∀x∈nL k,x∈fq (k++[t]):=λx a=>(gM _ _).2 (dN.2 ⟨x,by simp[(gM _ _).1 a],fK x⟩)
  have X:=Ds k yxa (λx a=>by have:=d x (by simp[a]);omega);have Q:=He _ _ U (iH k) h yxa H;have J:mi (Cx (fq (k++[t])) (nL k)):=⟨gN U.Mt,by have:=ahf (λx=>@decide (Cg (fq (k++[t])) (nL k) x) (Classical.propDecidable _)) (fq (k++[t]));unfold Cx;omega,λb W=>H b (Wa.1 W).1⟩;have G:=J.has (d t yxb);have w:JR k t=cG (Cx (fq (k++[t])) (nL k)) t:=by rw[JR,decide_eq_true R,ahA]
  rw[w,R];rw[au]at G ⊢;refine aT.x T6 Tryz.func53 rfl ?_;exact zbh
 ·rw[if_pos R]at O;have w:JR k t=false:=by rw[JR,decide_eq_false R,Bool.false_and]
  rw[w,au];refine aT.x T6 Tryz.func53 rfl ?_;refine wA ?_;refine .p O ?_;refine wA ?_;exact⟨_,rfl,rfl⟩
end aI
theorem X'{C:cA}(T:li C.P){st xt el q:TypeId}{z v:PV}{full:Bool}(g:T.kd st=some (.sl el))(D:T.kd xt=some (.sl q))(S:T.ts el=some (sz+1))(W:T.tb el=some G)(b:T.tz el=some z)(O:G<=1000)(A:(cells z).length=sz+1)(f:(cells z).all bP=true)
  (o:Out (sz+1) H v es) (a:eE (sz+1) ys) (hn:es.length+ys.length<1000000000) (X:aw es=true) (t:aw ys=true) (w:HV H):
  ∃r H',bR C.P 2 H st xt v (.aa full ys)=some (r,H')/\Out (sz+1) H' r (es++ys)/\HV H'/\H.length<=H'.length/\(∀(j:Nat) (o:ax),H[j]?=some o->o.mu≠.m->H'[j]?=some o)/\∀(j:Nat) (o:ax),H'[j]?=some o->o.mu≠.l\/H[j]?=some o:=by
 by_cases Q:ys=[]
 ·subst Q;refine⟨v,H,?_,by simpa using o,w,agb _,λ_ _ h _=>h,λ_ _ h=>.inr h⟩;unfold eE at a;unfold bR;rw[bG (T.dA _ _ g)];simp only[T.eT _ _ S,T.vg _ _ W,T.pJ _ _ b,cH,bG (T.dA _ _ D),cr];rw[if_pos ⟨by omega,by omega,⟨A,f⟩,a⟩];rcases o with⟨rfl,_⟩|⟨V,d,rfl,e⟩;simp
  ·simp only[bw e rfl (by simp:Mu.m≠Mu.x)];rw[if_pos ⟨by simp,trivial⟩];simp
 ·have n:ys.isEmpty=false:=by cases ys with |nil=>exact absurd rfl Q |cons=>rfl
  rcases o with⟨rfl,rfl⟩|⟨V,d,rfl,e⟩
  ·refine⟨_,_,iB T (h:=H) (lv:=2) (full:=full) yxa g D S W b O A f a n (by simpa using hn),.inr ⟨H.length,0,by simp,by simp⟩,w.cz (HV.one t),by simp,λj o h _=>by rw[af8 (ag h)];exact h,λj o h=>?_⟩
   by_cases M:j<H.length
   rw[af8 M]at h;exact .inr h
   ·have F:=ag h;simp at F;have:j=H.length:=by omega
    subst this;simp at h;subst h;exact .inl yxb
  ·have F:=ag e;have:=lA T (h:=H) (full:=full) (len:=es.length) g D S W b O A f a n hn (bw e rfl yxb) rfl rfl (agb _);rw[ahe]at this;refine⟨_,_,this,.inr ⟨V,d+1,by simp,agc F⟩,w.set V yxb (by simp[bz]at X t ⊢;exact⟨X,t⟩),by simp,λj o h i=>?_,λj o h=>?_⟩
   ·by_cases M:j=V
    ·subst M;rw[e]at h;cases h;exact absurd rfl i
    ·rw[aga yxa];exact h
   ·by_cases M:j=V
    ·subst M;rw[agc F]at h;cases h;exact .inl yxb
    ·rw[aga yxa]at h;exact .inr h
section
variable{C:cA}(T:li C.P){run:hZ}{ops:Array Oper}{b:List Nat}{h0:ab}{i:Nat}{L:Al}{Y:Nat->PV}{h:ab}
theorem uD{o:Oper}{r:List Oper}{s U:St}(e:du C run ops b h0 i o s=some U):cF C run ops b h0 i (o::r) s=cF C run ops b h0 (i+1) r U:=by rw[cF,e]
theorem kP{H:Op}{v:PV}{y:TypeId}{s:String}(S:vL T H L (λx=>x=v)):du C run ops b h0 i ⟨some d,H,y,s,a,none⟩ ⟨al L Y,h⟩=some ⟨al ((d,v)::L) Y,h⟩:=by
 obtain⟨R,W,e,rfl⟩:=qa T S;unfold du;simp only[bC,R,if_true,e,cy]
theorem kR{H:Op}{v:PV}{y:TypeId}{s:String}(S:sf T H L h (λx=>x=v))(N:rP H (al L Y)=none)(z:fF H=true:=by rfl):du C run ops b h0 i ⟨some d,H,y,s,a,none⟩ ⟨al L Y,h⟩=some ⟨al ((d,v)::L) Y,h⟩:=by
 obtain⟨R,W,e,rfl⟩:=jT T S;refine kRd R z (by simp only[mq,N]) ?_;have:=e run 1 Y
 cases H <;>first |exact this |(cases z)
end
theorem Vx{C:cA}(T:li C.P){t:TypeId}(x:Co T t n F.toList L (λ_ es=>es=vs))(J:aw vs=true):aD C.P 1 (.buildSlice t n F) (al L Y) M=some (.aa true vs,M):=by
 obtain⟨q,es,rfl,e⟩:=pZ T x;have:=e Y M 1;rw[if_pos J]at this;simpa only[aD]using this
theorem Jr{C:cA}{u:Al}(F:∀Y,iS ops (before ops) (al L Y)=[])(R:sinks ops (before ops)=none)(n:∀(j:Nat) (o:ax),h'[j]?=some o->o.mu≠.l\/H[j]?=some o)
  (a:∀run Y,cF C run ops (before ops) H 0 ops.toList ⟨al L Y,H⟩=some ⟨al u Y,h'⟩):∀run Y,ka C run ops ⟨al L Y,H⟩=some ⟨al u Y,h'⟩:=by
 intro run Y
 have O:∀x:ab,cJ [] x=x:=λx=>by
  apply agZ
  intro i
  rw[mY];simp
 have X:eZ [] H h'=h':=by
  apply agZ
  intro i
  rw[pY];simp
 unfold ka;rw[F,O,a];dsimp only
 have z:uo [] H h'=true:=xq λj o h=>by
  rcases n j o h with h |h;exact .inl h;exact .inr (.inr h)
 rw[if_pos ⟨z,by simp only[uq,R]⟩,X]
namespace aI
open Go.Proofs
attribute [local irreducible] aE az aO aL Ev ai ah ay bh bH
theorem atM{l:List Tm}{u:Tm}{tl:List PV}(e:l=p++u::q):(ae l++tl)[0+p.length]?=some (.agg (Do u)):=by
 rw[agz,af8 (by have:=congrArg List.length e;simp at this;rw[aj];omega)];exact bO e
theorem Wb(l:List Tm)(tl:List PV)(g:FuncId)(p:Tm->Bool)(V ep:Nat)(H:ab)(G:H[V]?=some ⟨.m,ep,4,ae l++tl⟩)(A:l.length<1000000000)(b:∀x∈l,aT C g [enc x] (.bool (p x)))(d:C.mode g=.pure):
  ay C 79 [.an V ep 0 l.length,.fn g []] H (λr h'=>r=.I (yU p l)/\hC H h'):=by
 have Z:=aj l;refine ay.x T6 Tryz.func79 rfl ?_;refine wA ?_;refine dU.zip T6 l (λa q L K=>L=[(0,.an V ep 0 l.length),(1,.fn g []),(7,.I l.length),(8,.I a.length)]/\hC H K/\∀y∈a,p y=false) (.nx ⟨rfl,hC.refl _,by simp⟩) ?_ ?_
 ·rintro a x q _ K Y e ⟨rfl,R,j⟩;have Q:=atM (tl:=tl) e;have n:=R.at G;have f:=lenE e;have t:=b x yxf;have u:(ae l++tl).length=l.length+tl.length:=by rw[agf,Z]
  rw[au]at t;refine wA ?_;refine ah.pure d rfl (by simpa using t) ?_
  cases W:p x
  ·refine wA ?_;exact .nx ⟨rfl,R,λy F=>by rcases agh.1 F with h |h;exact j y h;simp at h;rw[h];exact W⟩
  ·refine wA ?_;exact⟨by rw[e,tu j W];rfl,R⟩
 ·rintro _ K Y ⟨rfl,R,j⟩;refine wA ?_;exact⟨by rw[nh j];rfl,R⟩
theorem _root_.Go.Pm.adm{C:cA}(T:li C.P){t el:TypeId}{z:Operand}{len a:Nat}(U:cW L x=some (.an V ep 0 len))(b:cW L z=some (.int k a))(g:T.kd t=some (.sl el))(S:T.ts el=some sz)(N:getM h V ep=some o)(D:sz=o.bQ)(A:len<=o.es.length)(j:a<len):ar C run lv (.slice t x (some z) none none) (al L Y) h=some (.an V ep a (len - a),h):=by
 have O:dq (some (.int k a)) 0 len=some a:=by simp[dq];omega
 have X:cS C.P h t (.an V ep 0 len) (some (.int k a)) none none=some (.an V ep a (len - a)):=by
  unfold cS;rw[bG (T.dA _ _ g)];simp only[T.eT _ _ S,N];rw[if_pos ⟨D,by omega⟩];simp only[beyond,dq];rw[if_pos ⟨by omega,by omega⟩]
  by_cases B:a=0
  subst B;simp;simp[B];omega
 simp[ar,aD,ak U,ak b,X]
theorem _root_.Go.Pm.adn{C:cA}(T:li C.P){t el:TypeId}{B:Operand}{len b:Nat}(U:cW L x=some (.an V ep 0 len))(e:cW L B=some (.int k b))(g:T.kd t=some (.sl el))(S:T.ts el=some sz)(N:getM h V ep=some o)(D:sz=o.bQ)(A:len<=o.es.length)(W:b<=len):ar C run lv (.slice t x none (some B) none) (al L Y) h=some (.an V ep 0 b,h):=by
 have X:cS C.P h t (.an V ep 0 len) none (some (.int k b)) none=some (.an V ep 0 b):=by
  unfold cS;rw[bG (T.dA _ _ g)];simp only[T.eT _ _ S,N];rw[if_pos ⟨D,by omega⟩];simp only[beyond,dq];rw[if_neg yxa];simp;rw[if_pos W]
 simp[ar,aD,ak U,ak e,X]
theorem _root_.Go.Pm.ado{C:cA}(T:li C.P){t el:TypeId}{off len:Nat}{z:PV}(U:cW L x=some (.an V ep off len))(g:T.kd t=some (.sl el))(S:T.ts el=some o.bQ)(M:T.tz el=some z)(N:getM h V ep=some o)(d:o.mu=.m)(A:off+len<=o.es.length)(h1:(cells z).length=o.bQ)(X:(cells z).all bP=true):ar C run 2 (.call ⟨.builtin .clear,#[x],#[t]⟩) (al L Y) h=some (.b8 [],h.set V {o with es:=o.es.take off++List.replicate len z++o.es.drop (off+len)}):=by
 have Q:qA C.P 2 h t (.an V ep off len)=some (.b8 [],h.set V {o with es:=o.es.take off++List.replicate len z++o.es.drop (off+len)}):=by
  unfold qA;rw[bG (T.dA _ _ g)];simp only[T.eT _ _ S,T.pJ _ _ M,N];rw[if_pos (by simp only[d,h1,X,A,and_self,agb])]
 simp[ar,bA,ak U,Q]
theorem Mv(l:List Tm)(tl:List PV)(ht:aw tl=true)(g:FuncId)(p:Tm->Bool)(V ep:Nat)(H:ab)(hH:HR H)(G:H[V]?=some ⟨.m,ep,4,ae l++tl⟩)(hl:l.length<1000000000)(hp:∀x∈l,aT C g [enc x] (.bool (p x)))(hm:C.mode g=.pure):
  ay C 57 [.an V ep 0 l.length,.fn g []] H (λr h'=>(HR h'/\H.length<=h'.length/\∀j,j<H.length->j≠V->h'[j]?=H[j]?)/\r=.an V ep 0 (l.filter λx=>!p x).length/\AQ h' r (l.filter λx=>!p x)):=by
 have d:=Wb l tl g p V ep H G hl hp hm;have cL:=aj l
 by_cases Q:∀y∈l,p y=false
 ·rw[nh Q]at d
  have Ct:(l.filter λx=>!p x)=l:=by
   rw[List.filter_eq_self]
   intro x U
   rw[Q x U];rfl
  rw[Ct];refine ay.x T6 Tryz.func57 rfl ?_;refine wA ?_;refine .ex d (λh' Z=>?_);obtain⟨J,hJ,rfl⟩:=Z;refine wA ?_;exact⟨⟨hH.cx hJ,by simp,λj hj _=>af8 hj⟩,rfl,V,ep,tl,rfl,by rw[af8 (ag G)];exact G,ht⟩
 ·obtain⟨a,x,b,e,ha,U⟩:∃a x b,l=a++x::b/\(∀y∈a,p y=false)/\p x=true:=by
   clear d hp G cL hl
   induction l with
   |nil=>exact absurd yxb Q
   |cons y l ih=>
    cases n:p y with
    |true=>exact⟨[],y,l,rfl,by simp,n⟩
    |false=>
     obtain⟨a,x,b,rfl,O,X⟩:=ih (λh=>Q λz M=>by rcases agi.1 M with rfl |M;exact n;exact h z M);exact⟨y::a,x,b,rfl,λz M=>by rcases agi.1 M with rfl |M;exact n;exact O z M,X⟩
  have hi:yU p l=a.length:=by rw[e];exact tu ha U
  rw[hi]at d
  have hfa:(a.filter λx=>!p x)=a:=by
   rw[List.filter_eq_self]
   intro y n
   rw[ha y n];rfl
  have uE:=lenE e;refine ay.x T6 Tryz.func57 rfl ?_;refine wA ?_;refine .ex d (λh' Z=>?_);obtain⟨J,hJ,rfl⟩:=Z;have R:=ag G;have e1:(H++J)[V]?=some ⟨.m,ep,4,ae l++tl⟩:=by rw[af8 R];exact G
  refine wA ?_;refine dU.zip T6 b (λc q L K=>L=[(0,.an V ep 0 l.length),(1,.fn g []),(5,.I (a++c.filter λx=>!p x).length),(6,.I (a.length+1+c.length))]/\(HR K/\H.length<=K.length/\∀j,j<H.length->j≠V->K[j]?=H[j]?)/\∃N,0<N.length/\K[V]?=some ⟨.m,ep,4,ae (a++c.filter λx=>!p x)++ae N++(ae q++tl)⟩/\(a++c.filter λx=>!p x).length+N.length+q.length=l.length) (.nx ⟨rfl,⟨hH.cx hJ,by simp,λj hj _=>af8 hj⟩,[x],by simp,?_,?_⟩) ?_ ?_;rw[e1,e,ch,ae];simp[ae];simp;omega
  ·rintro c u q _ K Y e2 ⟨rfl,⟨D,Dj,B⟩,N,hM,t,i⟩;have Hg:=hp u (by rw[e,e2];simp);rw[au]at Hg
   have hFs:a++(c++[u]).filter (λx=>!p x)=(a++c.filter λx=>!p x)++if p u then[]else[u]:=by
    rw[aia,ags]
    cases hb:p u <;>simp[hb]
   rw[hFs];obtain⟨F,hF⟩:∃F,F=a++c.filter λx=>!p x:=⟨_,rfl⟩
   rw[<-hF]at t i ⊢;have f:=aj F;have hNl:=aj N;have eR:=congrArg List.length e2;simp only[agf,agj]at eR i;have eW:F.length+N.length=a.length+1+c.length:=by omega
   obtain⟨A,S⟩:∃A,A=ae F++ae N++(ae (u::q)++tl):=⟨_,rfl⟩;rw[<-S]at t
   have dm:A[0+(a.length+1+c.length)]?=some (.agg (Do u)):=by
    rw[S,agz,agl yxd];simp only[agf];rw[show a.length+1+c.length - ((ae F).length+(ae N).length)=0 by omega,ae,au]
    rfl
   have CW:A.length=l.length+tl.length:=by
    rw[S];simp only[agf,agj,aj];omega
   have W:=ag t;have f0:(K++[(Pi u)])[V]?=some ⟨.m,ep,4,A⟩:=by rw[af8 W];exact t
   have fb:(K++[(Pi u)])[K.length]?=some (Pi u):=by simp
   have Cf:ae (u::q)=.agg (Do u)::ae q:=by rw[ae,au]
   have UM:ae [u]=[.agg (Do u)]:=by rw[ae,au];rfl
   refine wA ?_;refine ah.pure hm rfl (by simpa using Hg) ?_
   cases hb:p u
   ·obtain⟨y,w,rfl⟩:∃y w,N=y::w:=by
     cases N with
     |nil=>simp at hM
     |cons y M2=>exact⟨y,M2,rfl⟩
    have ey:A[0+F.length]?=some (.agg (Do y)):=by
     rw[S,agz,ags,agl yxa,f,ahK,ae,au];rfl
    have P:A.set (0+F.length) (.agg (Do u))=ae (F++[u])++ae (w++[u])++(ae q++tl):=by
     rw[S,agz,ags,ahn _ _ yxa,f,ahK,Cf,ch,ch,UM,ae];simp
    simp only[agj]at eW i;rw[if_neg yxb];refine wA ?_;refine .nx ⟨rfl,⟨(D.cx (HV.one yxb)).set V yxb ?_,by simp;omega,λj O X=>by rw[aga yxa,af8 yxa];exact B j O X⟩,w++[u],by simp,?_,by simp at i ⊢;omega⟩
    ·rw[P];exact bg _ _ (by rw[cU,cU,cU,ht];simp)
    ·rw[<-P];exact agc (ag f0)
   ·rw[if_pos rfl,agC];refine wA ?_;refine .nx ⟨rfl,⟨D.cx (HV.one yxb),by simp;omega,λj O X=>by rw[af8 yxa];exact B j O X⟩,N++[u],by simp,?_,by simp at i ⊢;omega⟩;rw[f0,S,Cf,ch,UM];simp
  ·rintro _ K Y ⟨rfl,⟨D,Dj,B⟩,N,hM,t,i⟩;have yQ:(l.filter λx=>!p x)=a++b.filter λx=>!p x:=by rw[e,aia,hfa,List.filter_cons,if_neg yxl]
   rw[yQ];have f:=aj (a++b.filter λx=>!p x);have hNl:=aj N;generalize(a++b.filter λx=>!p x)=F at *;simp only[agH,ahJ]at i;obtain⟨A,S⟩:∃A,A=ae F++ae N++(ae []++tl):=⟨_,rfl⟩;rw[<-S]at t
   have CW:A.length=l.length+tl.length:=by
    rw[S];simp only[agf,ae,agH];omega
   have hg:getM K V ep=some ⟨.m,ep,4,A⟩:=bw t rfl yxb
   have P:A.take F.length++List.replicate (l.length - F.length) (PV.agg Nm)++A.drop (F.length+(l.length - F.length))=ae F++(List.replicate (l.length - F.length) (PV.agg Nm)++tl):=by
    rw[S,agX (by simp <;>omega),agX yxa,agB yxa,ags]
    congr 2
    rw[show ae F++ae N++(ae []++tl)=(ae F++ae N)++tl by simp[ae],ahj (by simp <;>omega),List.drop_of_length_le (by simp <;>omega),agS]
   have yg:aw (List.replicate (l.length - F.length) (PV.agg Nm)++tl)=true:=by
    rw[cU,ht,ahO,bz,af9]
    intro y n
    rw[ag8 n];rfl
   refine wA ?_;refine .mk (λv lv Y=>adm T6 (o:=⟨.m,ep,4,A⟩) rfl rfl rfl rfl hg rfl (by show _<=A.length;omega) yxa) ?_;refine wA ?_;refine .mk (λv Y=>ado T6 (o:=⟨.m,ep,4,A⟩) rfl rfl rfl rfl hg rfl (by show _<=A.length;omega) rfl rfl) ?_;rw[show(⟨.m,ep,4,A.take F.length++List.replicate (l.length - F.length) (PV.agg Nm)++A.drop (F.length+(l.length - F.length))⟩:ax)=⟨.m,ep,4,ae F++(List.replicate (l.length - F.length) (PV.agg Nm)++tl)⟩ by rw[P]];have f1:(K.set V (⟨.m,ep,4,ae F++(List.replicate (l.length - F.length) (PV.agg Nm)++tl)⟩:ax))[V]?=some ⟨.m,ep,4,ae F++(List.replicate (l.length - F.length) (PV.agg Nm)++tl)⟩:=agc (ag t);have Vq:(ae F++(List.replicate (l.length - F.length) (PV.agg Nm)++tl)).length=l.length+tl.length:=by simp only[agf,ahx];omega
   have EV:=bw f1 rfl yxb;refine wA ?_;refine .mk (λv lv Y=>adn T6 (o:=⟨.m,ep,4,ae F++(List.replicate (l.length - F.length) (PV.agg Nm)++tl)⟩) rfl rfl rfl rfl EV rfl (by rw[show(⟨.m,ep,4,ae F++(List.replicate (l.length - F.length) (PV.agg Nm)++tl)⟩:ax).es.length=_ from Vq];omega) yxa) ?_;refine wA ?_;exact⟨⟨D.set V yxb (bg _ _ (by rw[cU,yg];simp)),by simp;omega,λj O X=>by rw[aga yxa];exact B j O X⟩,rfl,V,ep,_,rfl,f1,yg⟩
theorem ah.del{F:List Tm}{X:ab->Prop}(t:V<H.length)
  (a:ay C f args H (λr h'=>(HR h'/\H.length<=h'.length/\X h')/\r=.an V ep 0 F.length/\AQ h' r F))
  (q:∀k,HR k->AQ k (.an V ep 0 F.length) F->Q (.an V ep 0 F.length) k) (d:C.mode f=.opened:=by rfl):ah C 2 f args H Q:=by
 refine ah.sm a (λr h' p=>⟨p.1.1,p.1.2.1⟩) (λr h' p=>?_) (λr h' p z=>?_) d
 ·obtain⟨⟨O,_⟩,rfl,b⟩:=p;exact q _ O b
 ·obtain⟨⟨O,g,_⟩,rfl,S,h,e,D,N,P⟩:=p
  cases D
  exact q _ z ⟨V,ep,e,rfl,by rw[agD t];exact N,P⟩
theorem AQ.NO{r:PV}{l:List Tm}(o:AQ h r l):∃b,rb h (bo [r])=some b/\b9 b=.aa false (ae l):=by
 obtain⟨V,g,O,rfl,e,Z⟩:=o;exact iF e (by rw[aj]) yxb yxb
theorem _root_.zay{P:Prop}(h:P:=by
 have D:(H++[(⟨.m,0,1,[.aa true []]⟩:ax)])[H.length]?=some ⟨.m,0,1,[.aa true []]⟩:=by simp
 refine wA ?_;refine .ln (sF _) (λr h' z=>by rw[z.2]) (λr h' z=>?_);obtain⟨rfl,rfl⟩:=z;refine wA ?_;exact⟨rfl,rfl⟩):P:=h
theorem Mw(H:ab)(w:HR H):ay C 28 [.aa true []] H (λr h'=>r=.aa true []/\h'=H++[⟨.m,0,1,[.aa true []]⟩]):=by
 refine ay.x T6 Tryz.func28 rfl ?_;refine wA ?_;refine dU.zip T6 ([]:List Tm) (λp q L K=>L=[(3,.ptr H.length 0 0 0),(6,.aa true []),(7,.I 0),(8,.I p.length)]/\K=H++[⟨.m,0,1,[.aa true []]⟩]) (.nx ⟨rfl,rfl⟩) ?_ ?_
 ·rintro p u q _ K Y e _
  cases p <;>cases e
 ·rintro _ _ Y ⟨rfl,rfl⟩;exact zay
theorem Wc(g:FuncId)(H:ab):ay C 79 [.aa true [],.fn g []] H (λr h'=>r=.I (-1)/\h'=H):=by
 refine ay.x T6 Tryz.func79 rfl ?_;refine wA ?_;refine dU.zip T6 ([]:List Tm) (λp q L K=>L=[(0,.aa true []),(1,.fn g []),(7,.I 0),(8,.I p.length)]/\K=H) (.nx ⟨rfl,rfl⟩) ?_ ?_
 ·rintro p u q _ K Y e _
  cases p <;>cases e
 ·rintro _ _ Y ⟨rfl,rfl⟩;refine wA ?_;exact⟨rfl,rfl⟩
theorem Mx(g:FuncId)(H:ab):ay C 57 [.aa true [],.fn g []] H (λr h'=>r=.aa true []/\h'=H):=by
 refine ay.x T6 Tryz.func57 rfl ?_;refine wA ?_;refine .ln (Wc g H) (λr h' z=>by rw[z.2]) (λr h' z=>?_);obtain⟨rfl,rfl⟩:=z;refine wA ?_;exact⟨rfl,rfl⟩
theorem Ow(t:Tm):aT C 82 [enc t] (.bool (decide (t.k≠1))):=by
 rw[au];refine aT.x T6 Tryz.func82 rfl ?_;refine wC (λG=>?_) λG=>?_
 all_goals exact⟨_,rfl,by simp[bo, *]⟩
def cD(l:List cg):List Tm:=l.flatMap λd=>d.kn++[d.tm]
theorem Cu(l:List cg)(hl:l.length<1000000)(W:bm (cD l)<10000000):aT C 48 [.aa false (aR l)] (.aa false (ae (bN l))):=by
 have cL:=dE l
 have h:bN l=(fq (cD l)).filter λx=>!(decide (x.k≠1)):=by
  unfold bN cD
  congr 1
  funext x
  simp
 rw[h];have cK:=bF (cD l);refine aT.x T6 Tryz.func48 rfl ?_;refine wA ?_;refine dU.zip T6 l (λp q L H=>∃v,L=[(3,v),(6,.aa false (aR l)),(7,.I (aR l).length),(8,.I p.length)]/\HV H/\Out 4 H v (ae (cD p))/\(p=[]->v=.aa true [])) (.nx ⟨_,rfl,HV.nil,.inl ⟨rfl,rfl⟩,λ_=>rfl⟩) ?_ ?_
 ·rintro p d q _ H Y e ⟨v,rfl,w,f,_⟩;have dm:=gA e;have eR:=lenE e;have X:cD (p++[d])=cD p++(d.kn++[d.tm]):=by simp[cD]
  have U:(cD p).length+(d.kn++[d.tm]).length<=(cD l).length:=by rw[e];simp[cD]
  have u:=aj (cD p);have A:=aj (d.kn++[d.tm]);have K:=xG d (by simp at U;omega);rw[tQ]at K;have mo:=w.cz (HV.one (ep:=0) (n:=5) (es:=[PV.agg [.aa false (ae d.kn),.I d.tm.k,.str d.tm.s,.I d.tm.o,.aa false (ae d.tm.l)]]) yxb);have N1:=f.cz [⟨.m,0,5,[PV.agg [.aa false (ae d.kn),.I d.tm.k,.str d.tm.s,.I d.tm.o,.aa false (ae d.tm.l)]]⟩];refine wA ?_;refine .p K ?_;refine wH λv H i=>?_;refine .nx ⟨_,rfl,i.hv,?_,by simp⟩;have:=i.out;rw[X,ch];exact this
 ·rintro _ H Y ⟨v,rfl,w,f,j⟩;rcases f with⟨rfl,G⟩|⟨V,g,rfl,D⟩
  ·have M:cD l=[]:=agm (by rw[<-aj,G];rfl);rw[M];refine wA ?_;refine ah.ex ((Mw H w.hr).mono λr a z=>⟨z.1,_,HV.one rfl,z.2⟩) (λa hE=>?_);refine wA ?_;refine .ln (Mx _ a) (λr a z=>by rw[z.2]) (λr a z=>?_);obtain⟨rfl,rfl⟩:=z;refine wA ?_;exact⟨_,rfl,rfl⟩
  by_cases B:cD l=[]
  ·have:l=[]:=by
    cases l with
    |nil=>rfl
    |cons d l=>simp[cD]at B
   cases j this
  ·have O:=mT (cD l) B H w.hr V g D W;rw[aj]at *;refine wA ?_;refine .fr O (λr a z W=>?_) (λr a Q r2 r3 R=>?_)
   ·obtain⟨_,V,g,n,rfl,t⟩:=z;simp[eI,cY,eu]at W;omega
   obtain⟨⟨b,Z,S,rfl,N,P⟩,F,y,n,M,t⟩:=R;have J:=Mv (fq (cD l)) S P 82 (λx=>decide (x.k≠1)) b Z a Q N (by have:=nT (cD l);omega) (λx _=>Ow x) rfl;refine wA ?_;refine ah.del (ag N) J (λk hk f=>?_);refine wA ?_;exact f.NO
theorem Um{p q:List cg}{u:cg}(e:l=p++u::q)(K:∀v∈p,vQ S v=0)(y:vQ S u≠0):rq S l=vQ S u:=by
 subst e
 induction p with
 |nil=>simp only[agS,rq];rw[if_pos y]
 |cons v p P=>
  simp only[agL,rq];rw[if_neg (by rw[K v yxb];simp),P (λw H=>K w (by simp[H]))]
theorem BR{S:List cV}:∀{l:List cg},(∀v∈l,vQ S v=0)->rq S l=0
 |[],_=>rfl
 |v::l,h=>by
  rw[rq,if_neg (by rw[h v yxb];simp)];exact BR λu y=>h u yxj
theorem xH{S:List cV}:∀{l:List Tm},kK S l=0->∀t∈l,(cj S t).2=0
 |[],_,t,h=>by cases h
 |u::l,e,t,h=>by
  rw[kK]at e
  split at e
  ·rename_i z;exact absurd e z
  ·rcases agi.1 h with rfl |h
   ·omega
   ·exact xH e t h
theorem PD{d:cg}(h:vQ S d=0):kK S d.kn=0/\(cj S d.tm).2=0/\∀t∈(rB S d).kn++[(rB S d).tm],aC t<=10000:=by
 unfold vQ at h
 split at h
 ·rename_i O;exact absurd h O
 ·rename_i O
  have X:kK S d.kn=0:=by omega
  refine⟨X,h,λt Z=>?_⟩;simp only[rB,agh,agu,eJ,agv]at Z;rcases Z with⟨u,y,rfl⟩|rfl;exact bu (nV (xH X u y)).2.2;exact bu (nV h).2.2
theorem D6(a b:List cg):aR (a++b)=aR a++aR b:=by simp[aR]
theorem O5(l:List cg)(S:List cV)(hl:l.length<1000000000)(hb:∀d∈l,d.kn.length<10000000/\∀t∈d.kn++[d.tm],aC t<10000000)(J:S.length<1000000000)(ZI:∀b∈S,aC b.v<100000000/\aC b.t<100000000):
  aT C 64 [.aa false (aR l),.aa false (aU S)] (.b8 [.aa false (aR (instL l S)),.I (instE l S)]):=by
 have h1:=gP l hl hb;have h2:=BO S J ZI;have cL:=dE l;refine aT.x T6 Tryz.func64 rfl ?_;refine wA ?_;refine .p h1 ?_;refine wC (λG=>?_) λG=>?_
 ·have yM:gB l=0:=by omega
  obtain⟨yd,ko⟩:=mZ yM;refine .p h2 ?_;refine wC (λG=>?_) λG=>?_
  ·have W:pB S=0:=by omega
   have A:rq S l≠0->instE l S=rq S l:=λh=>by rw[instE,if_neg yxa,if_neg yxa,if_pos h]
   have PS:rq S l=0->instE l S=gB (l.map (rB S)):=λh=>by rw[instE,if_neg yxa,if_neg yxa,if_neg yxa]
   refine dU.zip T6 l (λp q L H=>∃v,L=[(1,.aa false (aU S)),(8,v),(25,.aa false (aR l)),(26,.I (aR l).length),(27,.I p.length)]/\HV H/\Out 5 H v (aR (p.map (rB S)))/\∀u∈p,vQ S u=0) (.nx ⟨_,rfl,HV.nil,.inl ⟨rfl,rfl⟩,by simp⟩) ?_ ?_
   ·rintro p u q _ H Y e ⟨v,rfl,V,g,K⟩;have dm:=gA e;have eR:=lenE e;obtain⟨Jf,Q⟩:=ko u yxf;have CW:=GB S W u.kn yxa (λt Z=>by have:=iN (Q t (by simp[Z]));omega);have i:=AD S W u.tm (by have:=iN (Q u.tm yxb);omega);have a:vQ S u=if kK S u.kn≠0 then kK S u.kn else(cj S u.tm).2:=rfl;have U:vQ S u≠0->rq S l=vQ S u:=Um e K
    have f:∀n,vQ S u=n->n≠0->instE l S=n/\instL l S=[]:=λn h j=>by
     have R:=U (by rw[h];exact j);have y:=A (by rw[R,h];exact j);rw[R,h]at y;exact⟨y,by rw[instL,if_pos (by rw[y];exact j)]⟩
    rw[au u.tm]at i;rw[au (cj S u.tm).1]at i;have yh:=g.cz [⟨.m,0,5,[.agg [.aa false (ae u.kn),.I u.tm.k,.str u.tm.s,.I u.tm.o,.aa false (ae u.tm.l)]]⟩];have F:=dE (p.map (rB S));rw[agY]at F;obtain⟨w,hw⟩:∃w,w=(cj S u.tm).1:=⟨_,rfl⟩;have UU:(cj S u.tm).2=0->w=cw S u.tm:=λh=>by rw[hw,(nV h).1]
    rw[<-hw]at i;have NN:=yh.cz [Pi w];have Ez:HV (H++[⟨.m,0,5,[.agg [.aa false (ae u.kn),.I u.tm.k,.str u.tm.s,.I u.tm.o,.aa false (ae u.tm.l)]]⟩]++[Pi w]):=(V.cz (HV.one yxb)).cz (HV.one yxb);refine wA ?_;refine .p CW ?_;refine wC (λG=>?_) λG=>?_
    ·have Yo:kK S u.kn=0:=by omega
     rw[if_neg yxa];refine .p i ?_;refine wK (λG v H lp=>?_) λG=>?_
     ·have Mm:vQ S u=0:=by rw[a,if_neg yxa];omega
      have M:=UU yxa;refine .nx ⟨_,rfl,lp.hv,?_,λx U=>by rcases agh.1 U with h |h;exact K x h;simp at h;rw[h];exact Mm⟩;have:=lp.out;have e9:aR (p.map (rB S))++[.agg [.aa false (ae (cR S u.kn)),.I w.k,.str w.s,.I w.o,.aa false (ae w.l)]]=aR ((p++[u]).map (rB S)):=by rw[agN,D6,M];rfl
      rw[<-e9];exact this
     ·obtain⟨O,P⟩:=f (cj S u.tm).2 (by rw[a,if_neg yxa]) yxa;exact⟨_,rfl,by rw[O,P];rfl⟩
    ·obtain⟨O,P⟩:=f (kK S u.kn) (by rw[a,if_pos yxa]) yxa;exact⟨_,rfl,by rw[O,P];rfl⟩
   ·rintro _ H Y ⟨v,rfl,V,g,K⟩;have D:=PS (BR K)
    have z:=gP (l.map (rB S)) yxd (λd hd=>by
     obtain⟨u,X,rfl⟩:=agv.1 hd;refine⟨?_,λt Z=>by have:=(PD (K u X)).2.2 t Z;omega⟩;simp only[rB,iU];have:=(ko u X).1;omega)
    refine wA ?_;refine .plS (.inl g) z ?_;refine wC (λG=>?_) λG=>?_
    ·have N:instE l S=0:=by omega
     have hL:instL l S=l.map (rB S):=by rw[instL,if_neg yxa]
     rw[N,hL];exact Ls.Cy (.inl g)
    ·have N:instL l S=[]:=by rw[instL,if_pos yxa]
     exact⟨_,rfl,by rw[N,D];rfl⟩
  ·have B:instE l S=pB S:=by rw[instE,if_neg yxa,if_pos yxa]
   exact⟨_,rfl,by rw[instL,if_pos yxa,B];rfl⟩
 ·have B:instE l S=gB l:=by rw[instE,if_pos yxa]
  exact⟨_,rfl,by rw[instL,if_pos yxa,B];rfl⟩
end aI
def vY(n:Nat)(o:Int):Tm:=.mk 2 ⟨#[113,UInt8.ofNat (48+n)]⟩ o []
def jt:Nat->List Tm->List cV
 |_,[]=>[]
 |n,v::l=>⟨v,vY n v.o⟩::jt (n+1) l
def nS(l:List cg):List Tm:=(l.filter λd=>decide (d.tm.k=1)).map (·.tm)
theorem Mh:∀{l:List Tm} {n:Nat} {b:cV},b∈jt n l->∃i,l[i]?=some b.v/\b.t=vY (n+i) b.v.o
 |[],_,b,h=>by cases h
 |v::l,n,b,h=>by
  rw[jt]at h;rcases agi.1 h with rfl |h;exact⟨0,rfl,rfl⟩
  ·obtain⟨i,O,X⟩:=Mh h;exact⟨i+1,by simpa using O,by rw[X,show n+(i+1)=n+1+i by omega]⟩
theorem Gy:∀(l:List Tm) (n:Nat),(jt n l).length=l.length
 |[],_=>rfl
 |v::l,n=>by rw[jt,agj,agj,Gy l]
def Rz(n:Nat)(v:Tm):Bool:=decide (FB ⟨v,vY n v.o⟩=0)&& !(ET (vY n v.o))&&mL (vY n v.o)&&decide ((vY n v.o).s.toList.head?=some 113)&&decide (aC (vY n v.o)<=20)
theorem JQ:((List.range 4).all λn=>uI.all (Rz n))=true:=by kernel_rfl
theorem Mi{v:Tm}(hn:n<4)(J:v∈uI):FB ⟨v,vY n v.o⟩=0/\ET (vY n v.o)=false/\mL (vY n v.o)=true/\(vY n v.o).s.toList.head?=some 113/\aC (vY n v.o)<=20:=by
 have h:=af9.1 (af9.1 JQ n (ais.2 hn)) v J;simp only[Rz,age,decide_eq_true_eq,ahg]at h;exact⟨h.1.1.1.1,h.1.1.1.2,h.1.1.2,h.1.2,h.2⟩
structure Yn(l:List cg):Prop where
 f:∀d∈l,∀t∈d.kn++[d.tm],C' t=true
 v:∀y∈bN l,y∈uI
 n:(bN l).length<=4
theorem VR(D:Yn l){b:cV}(W:b∈jt 0 (bN l)):∃i,i<4/\(bN l)[i]?=some b.v/\b.v∈uI/\b.t=vY i b.v.o:=by
 obtain⟨i,O,X⟩:=Mh W;rw[agz]at X;have Q:=(ahY.1 O).1;have G:=D.n;exact⟨i,by omega,O,D.v _ (agq O),X⟩
theorem RA(j:∀b∈S,mL b.t=true){k:List Tm}{t:Tm}(h:∀x∈k++[t],mL x=true):∀x∈cR S k++[cw S t],mL x=true:=λx U=>by
 rcases agh.1 U with U |U
 ·rw[eJ]at U;obtain⟨y,F,rfl⟩:=agv.1 U;exact Mj j y (h y (ahX _ F))
 ·simp at U;rw[U];exact Mj j t (h t yxb)
theorem N6(b:List (List Nat)):Yn (nQ b):=by
 obtain⟨O,X⟩:=JJ b;refine⟨λd J t Z=>?_,X,O⟩;obtain⟨_,U,z,_⟩:=(As b).2 d J;rcases agh.1 Z with h |h;exact(U t h).1;simp at h;rw[h];exact z
theorem Df:∀{l:List Tm} {n:Nat} {Q:Option Tm},gY l->(∀v∈l,v∈uI)->n+l.length<=4->(∀p,Q=some p->∀v∈l,aZ p v<0)->rp Q (jt n l)=0
 |[],n,Q,_,_,_,_=>rfl
 |v::l,n,Q,S,J,z,K=>by
  have O:=(Mi (n:=n) (by simp at z;omega) (J v yxb)).1
  have X:behind Q v=true:=by
   cases Q with
   |none=>rfl
   |some p=>exact decide_eq_true (K p rfl v yxb)
  rw[jt,rp,if_neg yxa,if_neg (by rw[X];simp)];have H:=agE.1 S
  exact Df H.2 (λu y=>J u yxj) (by simp at z ⊢;omega) λp w u y=>by
   obtain rfl:=af7 w;exact H.1 u y
theorem RB(D:Yn l):pB (jt 0 (bN l))=0:=by
 have O:=D.n;have X:=Gy (bN l) 0;unfold pB;rw[if_neg yxa];exact Df (gN (iH _)) D.v yxa (λp h=>by cases h)
structure Ro(ids:List Nat)(h h':ab):Prop where
 len:h'.length=h.length
 same:∀j,j∉ids->h'[j]?=h[j]?
 oD:∀(j:Nat) (o:ax),h[j]?=some o->∃mu:Mu,h'[j]?=some ⟨mu,o.ep,o.bQ,o.es⟩/\(mu=o.mu\/mu=.f)
theorem Ro.refl(t:List Nat)(h:ab):Ro t h h:=⟨rfl,λ_ _=>rfl,λj o e=>⟨o.mu,e,.inl rfl⟩⟩
theorem Ro.hr(z:Ro t h h')(H:HR h):HR h':=by
 intro o f
 obtain⟨j,M,rfl⟩:=aiE f;have n:j<h.length:=by rw[<-z.len];exact M
 obtain⟨i,e,d⟩:=z.oD j h[j] (agd n);rw[agd M]at e;have e:=af7 e;obtain⟨O,X⟩:=H h[j] (agO n);rw[e,z.len];refine⟨?_,X⟩;rcases d with rfl |rfl;exact O;simp
theorem Au:∀{t:List Nat} {h h':ab},gm h t=some h'->Ro t h h'
 |[],h,h',e=>by
  simp only[gm,agx]at e;subst e;exact .refl _ _
 |V::r,h,h',e=>by
  unfold gm at e
  split at e
  ·rename_i O D
   have a:=Au e;unfold mO at D
   split at D
   ·rename_i o f
    split at D
    ·obtain rfl:=af7 D;refine⟨by rw[a.len,aiA],λj M=>?_,λj y M=>?_⟩
     ·rw[agi,not_or]at M;rw[a.same j M.2,aga (λR=>M.1 R.symm)]
     ·by_cases b:V=j
      ·subst b;obtain rfl:=af7 (f.symm.trans M);obtain⟨i,U,z⟩:=a.oD V _ (agc (ag f));exact⟨i,U,.inr (by rcases z with rfl |rfl <;>rfl)⟩
      ·exact a.oD j y (by rw[aga b];exact M)
    cases D
   cases D
  cases e
theorem ah.aay{C:cA}{args':List PV}{rv:PV}(W:iR h args=some args')(X:aw args=false)(w:∀V∈jQ args,∃o:ax,h[V]?=some o/\aw o.es=true/\(o.mu=.m\/o.mu=.f))(a:aT C f (aY args') rv)(q:∀h',Ro (jQ args) h h'->Q rv h')(d:C.mode f=.pure:=by rfl):ah C 2 f args h Q:=by
 obtain⟨B,z⟩:=a;obtain⟨u,e⟩:=Rp _ _ w;refine⟨rv,if(fm rv ||pM h (jQ args))=true then h else u,q _ ?_,B,λn O=>?_⟩
 ·split
  ·exact .refl _ _
  ·exact Au e
 exact za9
inductive Ce(h:ab):List Nat->List PV->List cg->Prop
 |nil:Ce h [] [] []
 |snoc {ids:List Nat} {es:List PV} {ds:List cg} {w:PV} {d:cg}:Ce h ids es ds->Out 4 h w (ae d.kn)->Ce h (ids++bJ w) (es++[.agg [w,.int .i64 d.tm.k,.str d.tm.s,.int .i64 d.tm.o,.aa false (ae d.tm.l)]]) (ds++[d])
theorem Ce.len(n:Ce h t es z):es.length=z.length:=by
 induction n with
 |nil=>rfl
 |snoc _ _ P=>simp[P]
theorem Ce.of_eq{h h':ab}{t:List Nat}{es:List PV}{z:List cg}(n:Ce h t es z):(∀i∈t,h'[i]?=h[i]?)->Ce h' t es z:=by
 induction n with
 |nil=>exact λ_=>.nil
 |snoc _ o P=>exact λq=>.snoc (P λi B=>q i (by simp[B])) (o.of_eq λi B=>q i (by simp[B]))
theorem Ce.lt(n:Ce h t es z):∀i∈t,i<h.length:=by
 induction n with
 |nil=>intro i B;cases B
 |snoc _ o P=>
  intro i B
  rcases agh.1 B with B |B;exact P i B;exact o.nP i B
theorem Ce.NV(n:Ce h t es z):bB (λi=>decide (i<h.length)) es=true:=by
 induction n with
 |nil=>rfl
 |snoc _ o P=>
  rw[dx,ag9,<-dx,P];simp[bq,bB,o.bq]
theorem xE{f:PV->Option PV}:∀{a b u g:List PV},fT f a=some u->fT f b=some g->fT f (a++b)=some (u++g)
 |[],b,u,g,O,X=>by
  simp only[fT,agx]at O;subst O;exact X
 |c::a,b,u,g,O,X=>by
  simp only[fT]at O
  split at O
  ·rename_i d i D N
   obtain rfl:=af7 O;simp[fT,D,xE N X]
  cases O
theorem LY{len:Nat}{r:List PV}(N:getM h V ep=some o)(A:len<=o.es.length)(d:o.mu=.m\/o.mu=.f)(z:fT (mW n h) (o.es.take len)=some r):mW (n+1) h (.an V ep 0 len)=some (.aa false r):=by
 rw[mW];simp only[N];rw[if_pos ⟨by omega,d⟩,ahs,z]
 rfl
theorem LZ{cs r:List PV}(z:fT (mW n h) cs=some r):mW (n+1) h (.agg cs)=some (.agg r):=by
 rw[mW,z]
 rfl
theorem fk{f:PV->Option PV}{c c':PV}{r i:List PV}(h1:f c=some c')(X:fT f r=some i):fT f (c::r)=some (c'::i):=by
 simp only[fT,h1,X]
theorem yr{i:Int}:mW n h (.int k i)=some (.int k i):=by cases n <;>rfl
theorem Rq{s:ByteArray}:mW n h (.str s)=some (.str s):=by cases n <;>rfl
theorem Da{f:Bool}:mW n h (.aa f es)=some (.aa f es):=by cases n <;>rfl
theorem VN(n:Nat)(h:ab)(t:Tm):mW (n+1) h (enc t)=some (enc t):=by
 rw[au];exact LZ (fk yr (fk Rq (fk yr (fk Da rfl))))
theorem Gs(n:Nat)(h:ab):∀l:List Tm,fT (mW (n+1) h) (ae l)=some (ae l)
 |[]=>rfl
 |t::l=>by rw[ae];exact fk (VN n h t) (Gs n h l)
theorem aaz{d:cg}(o:Out 4 h w (ae d.kn)):∃r,mW (n+3) h (.agg [w,.I d.tm.k,.str d.tm.s,.I d.tm.o,.aa false (ae d.tm.l)])=some r/\b9 r=tQ d:=by
 rcases o with⟨rfl,e⟩|⟨V,g,rfl,e⟩;exact⟨.agg [.aa true [],.I d.tm.k,.str d.tm.s,.I d.tm.o,.aa false (ae d.tm.l)],LZ (fk Da (fk yr (fk Rq (fk yr (fk Da rfl))))),by simp[b9,aY,bI,uF,e]⟩
 ·refine⟨.agg [.aa false (ae d.kn),.I d.tm.k,.str d.tm.s,.I d.tm.o,.aa false (ae d.tm.l)],?_,by simp[b9,aY,bI,uF]⟩;have N:=bw e rfl yxb;have a:=Gs n h d.kn;have O:mW (n+2) h (.an V g 0 (ae d.kn).length)=some (.aa false (ae d.kn)):=LY N (agb _) (.inl rfl) (by rw[ahe];exact a);exact LZ (fk O (fk yr (fk Rq (fk yr (fk Da rfl)))))
theorem Ce.mW(n:Ce h t es z)(k:Nat):∃U,fT (mW (k+3) h) es=some U/\aY U=aR z:=by
 induction n with
 |nil=>exact⟨[],rfl,rfl⟩
 |snoc _ o P=>
  obtain⟨a,O,X⟩:=P;obtain⟨r,Q,G⟩:=aaz (n:=k) o;refine⟨a++[r],xE O (by simp[fT,Q]),?_⟩;rw[cB,agN,<-cB,X];simp[aR,G]
theorem Ce.NW(n:Ce h t es z):aw es=true->aY es=aR z:=by
 induction n with
 |nil=>exact λ_=>rfl
 | @snoc t es z w d _ o P=>
  intro J
  rw[bz,ag9,age,<-bz,<-bz]at J;rw[cB,agN,<-cB,P J.1]
  have H:aW w=true:=by
   have:=J.2;simp[aw,aW]at this;exact this
  rcases o with⟨rfl,e⟩|⟨V,g,rfl,e⟩;simp[b9,aY,bI,aR,uF,e];simp[aW]at H
theorem Ce.ret{v:PV}(o:Out 5 h v es)(n:Ce h t es z):∃b,yb h (bo [v])=some b/\b9 b=.aa false (aR z):=by
 show∃b,yb h v=some b/\b9 b=.aa false (aR z);rcases o with⟨rfl,rfl⟩|⟨V,g,rfl,e⟩
 ·have:=n.len;obtain rfl:=agm (show z.length=0 by simpa using this.symm);exact⟨_,rfl,rfl⟩
 ·have N:=bw e rfl yxb
  by_cases J:aw es=true
  ·refine⟨.aa false es,?_,by simp[b9,n.NW J]⟩;simp[yb,rb,kZ,rf,N,J]
  ·obtain⟨U,O,X⟩:=n.mW 4;refine⟨.aa false U,?_,by simp[b9,X]⟩;have Q:rb h (.an V g 0 es.length)=none:=by simp[rb,kZ,rf,N,J]
   simp only[yb,Q];exact LY N (agb _) (.inl rfl) (by rw[ahe];exact O)
structure NX(H:ab)(v:PV)(sz:Nat)(es ys:List PV)(r:PV)(H':ab):Prop where
 out:Out sz H' r (es++ys)
 cs:(H'=H/\r=v/\ys=[])\/(H'=H++[⟨.m,0,sz,ys⟩]/\r=.an H.length 0 0 ys.length/\es=[])\/∃id ep,v=.an id ep 0 es.length/\H[id]?=some ⟨.m,ep,sz,es⟩/\H'=H.set id ⟨.m,ep+1,sz,es++ys⟩/\r=.an id (ep+1) 0 (es.length+ys.length)
section
variable{H H':ab}{v r:PV}{sz:Nat}{es ys:List PV}
theorem NX.len(a:NX H v sz es ys r H'):H.length<=H'.length:=by
 rcases a.cs with⟨rfl,_⟩|⟨rfl,_⟩|⟨V,g,_,_,rfl,_⟩ <;>simp
theorem NX.fr(a:NX H v sz es ys r H')(j:Nat)(M:j<H.length)(J:j∉bJ v):H'[j]?=H[j]?:=by
 rcases a.cs with⟨rfl,_⟩|⟨rfl,_⟩|⟨V,g,rfl,_,rfl,_⟩
 rfl
 exact af8 M;exact aga (λh=>J (by simp[bJ,h]))
theorem NX.bJ(a:NX H v sz es ys r H'):∀i∈Pm.bJ r,i∈Pm.bJ v\/H.length<=i:=by
 intro i B
 rcases a.cs with⟨_,rfl,_⟩|⟨_,rfl,_⟩|⟨V,g,rfl,_,_,rfl⟩;exact .inl B;simp[Pm.bJ]at B;exact .inr yxa;exact .inl (by simpa[Pm.bJ]using B)
theorem NX.hr(a:NX H v sz es ys r H')(w:HR H)(Z:bB (λi=>decide (i<H.length)) (es++ys)=true):HR H':=by
 rcases a.cs with⟨rfl,_⟩|⟨rfl,_,rfl⟩|⟨V,g,_,_,rfl,_⟩;exact w;exact w.Gt yxb (eK (f:=λi=>decide (i<H.length)) (λi B=>by have:=of_decide_eq_true B;exact decide_eq_true yxa) _ (by simpa using Z));exact w.set V yxb Z
theorem NX.ba(a:NX H v sz es ys r H'):∀(j:Nat) (o:ax),H[j]?=some o->o.mu≠.m->H'[j]?=some o:=by
 intro j o h d
 rcases a.cs with⟨rfl,_⟩|⟨rfl,_⟩|⟨V,g,_,e,rfl,_⟩;exact h;rw[af8 (ag h)];exact h
 ·by_cases M:V=j
  ·subst M;rw[e]at h;cases h;exact absurd rfl d
  ·rw[aga M];exact h
theorem NX.EM(a:NX H v sz es ys r H'):∀(j:Nat) (o:ax),H'[j]?=some o->o.mu≠.l\/H[j]?=some o:=by
 intro j o h
 rcases a.cs with⟨rfl,_⟩|⟨rfl,_⟩|⟨V,g,_,e,rfl,_⟩;exact .inr h
 ·by_cases M:j<H.length
  ·rw[af8 M]at h;exact .inr h
  ·have F:=ag h;simp at F;obtain rfl:j=H.length:=by omega
   simp at h;subst h;exact .inl yxb
 ·by_cases M:V=j
  ·subst M;rw[agc (ag e)]at h;cases h;exact .inl yxb
  ·rw[aga M]at h;exact .inr h
end
theorem xF{C:cA}(T:li C.P){st xt el d:TypeId}{z v u:PV}(b:T.kd st=some (.sl el))(D:T.kd xt=some (.sl d))(S:T.ts el=some (sz+1))(W:T.tb el=some G)(M:T.tz el=some z)(O:G<=1000)(A:(cells z).length=sz+1)(f:(cells z).all bP=true)
  (o:Out (sz+1) H v es) (y:cr H u=some ys) (h:∀i∈bJ v,i∉bJ u) (F:eE (sz+1) ys) (hn:es.length+ys.length<1000000000):∃r H',bR C.P 2 H st xt v u=some (r,H')/\NX H v (sz+1) es ys r H':=by
 unfold eE at F
 have t:bR C.P 2 H st xt v u=match(generalizing:=false) v with
   | .aa full es=>if ys.isEmpty then some (v,H)else if full=true/\1<=2/\roomy (es.length+ys.length) G=true/\es.all (λv=>decide ((cells v).length=sz+1)&& (cells v).all bP)=true then some (.an H.length 0 0 (es.length+ys.length),newObj H (sz+1) (es++ys))else none
   | .an V g U K=>match getM H V g with
    |some o=>if U+K<=o.es.length/\sz+1=o.bQ then
      if ys.isEmpty then some (v,H)
      else if U=0/\2<=2/\o.mu=.m/\mN V u=true/\K+ys.length<=o.es.length then some (.an V g 0 (K+ys.length),H.set V {o with es:=o.es.take K++ys++o.es.drop (K+ys.length)})
      else if U=0/\2<=2/\o.mu=.m/\roomy (K+ys.length) G=true then some (.an V (g+1) 0 (K+ys.length),H.set V {o with ep:=g+1,es:=o.es.take K++ys})else none
     else none
    |none=>none
   |_=>none:=by
  unfold bR;rw[bG (T.dA _ _ b)];simp only[T.eT _ _ S,T.vg _ _ W,T.pJ _ _ M,cH,bG (T.dA _ _ D),y];rw[if_pos ⟨by omega,by omega,⟨A,f⟩,F⟩]
  rfl
 rw[t]
 by_cases Q:ys=[]
 ·subst Q;rcases o with⟨rfl,rfl⟩|⟨V,g,rfl,e⟩;exact⟨_,_,rfl,.inl ⟨rfl,rfl⟩,.inl ⟨rfl,rfl,rfl⟩⟩
  ·refine⟨.an V g 0 es.length,H,?_,.inr ⟨V,g,by simp,by simpa using e⟩,.inl ⟨rfl,rfl,rfl⟩⟩;simp[bw e rfl (by simp:Mu.m≠Mu.x)]
 ·have n:ys.isEmpty=false:=by cases ys with |nil=>exact absurd rfl Q |cons=>rfl
  rcases o with⟨rfl,rfl⟩|⟨V,g,rfl,e⟩
  ·refine⟨.an H.length 0 0 ys.length,H++[⟨.m,0,sz+1,ys⟩],?_,.inr ⟨H.length,0,by simp,by simp⟩,.inr (.inl ⟨rfl,rfl,rfl⟩)⟩;have a:roomy ys.length G=true:=kq (by simpa using hn) O
   simp[n,a,newObj]
  ·refine⟨.an V (g+1) 0 (es.length+ys.length),H.set V ⟨.m,g+1,sz+1,es++ys⟩,?_,.inr ⟨V,g+1,by simp,agc (ag e)⟩,.inr (.inr ⟨V,g,rfl,e,rfl,rfl⟩)⟩;have a:roomy (es.length+ys.length) G=true:=kq hn O
   have j:mN V u=false:=by
    have:=h V yxi
    cases u <;>simp_all[mN,bJ]
    omega
   simp[bw e rfl (by simp:Mu.m≠Mu.x),n,a,j]
theorem Rr{C:cA}(T:li C.P)(K:1<=lv){st xt el b:TypeId}{z u:PV}(g:T.kd st=some (.sl el))(D:T.kd xt=some (.sl b))(S:T.ts el=some (sz+1))(W:T.tb el=some G)(M:T.tz el=some z)(O:G<=1000)(A:(cells z).length=sz+1)(f:(cells z).all bP=true)
  (y:cr H u=some ys) (X:eE (sz+1) es) (F:eE (sz+1) ys) (hn:es.length+ys.length<1000000000):∃r J,bR C.P lv H st xt (.aa true es) u=some (r,H++J)/\Ls (sz+1) (H++J) r (es++ys)/\(J=[]\/J=[⟨.m,0,sz+1,es++ys⟩])/\(∀i∈bJ r,H.length<=i)/\(es=[]->Out (sz+1) (H++J) r ys):=by
 unfold eE at F X
 have t:bR C.P lv H st xt (.aa true es) u=if ys.isEmpty then some (.aa true es,H)else if true=true/\1<=lv/\roomy (es.length+ys.length) G=true/\es.all (λv=>decide ((cells v).length=sz+1)&& (cells v).all bP)=true then some (.an H.length 0 0 (es.length+ys.length),newObj H (sz+1) (es++ys))else none:=by
  unfold bR;rw[bG (T.dA _ _ g)];simp only[T.eT _ _ S,T.vg _ _ W,T.pJ _ _ M,cH,bG (T.dA _ _ D),y];rw[if_pos ⟨by omega,by omega,⟨A,f⟩,F⟩]
 rw[t]
 by_cases Q:ys=[]
 ·subst Q;exact⟨.aa true es,[],by simp,.inr ⟨true,by simp⟩,.inl rfl,by simp[bJ],λh=>.inl ⟨by rw[h],rfl⟩⟩
 ·have n:ys.isEmpty=false:=by cases ys with |nil=>exact absurd rfl Q |cons=>rfl
  have a:roomy (es.length+ys.length) G=true:=kq hn O
  refine⟨.an H.length 0 0 (es.length+ys.length),[⟨.m,0,sz+1,es++ys⟩],by rw[n,if_neg yxb,if_pos ⟨rfl,by omega,a,X⟩];rfl,.inl (.inr ⟨H.length,0,by simp,by simp⟩),.inr rfl,by simp[bJ],λh=>.inr ⟨H.length,0,by simp[h],by simp[h]⟩⟩
theorem L3{C:cA}{u:Al}(F:∀Y,iS ops (before ops) (al L Y)=[c])(R:sinks ops (before ops)=none)(G:c<H.length)(n:∀(j:Nat) (o:ax),h'[j]?=some o->o.mu≠.l\/(cJ [c] H)[j]?=some o)
  (a:∀run Y,cF C run ops (before ops) (cJ [c] H) 0 ops.toList ⟨al L Y,cJ [c] H⟩=some ⟨al u Y,h'⟩):∀run Y,ka C run ops ⟨al L Y,H⟩=some ⟨al u Y,eZ [c] H h'⟩:=by
 intro run Y
 unfold ka;rw[F,a];dsimp only
 have z:uo [c] H h'=true:=xq λj o h=>by
  rcases n j o h with h |h;exact .inl h
  ·by_cases M:j=c
   ·subst M;exact .inr (.inl ⟨by simp,G⟩)
   ·rw[mY]at h;have:([c].contains j)=false:=by simp;exact M
    simp only[this,agn,if_false,air]at h;exact .inr (.inr h)
 rw[if_pos ⟨z,by simp only[uq,R]⟩]
theorem JL(h:j≠c):(cJ [c] H)[j]?=H[j]?:=by
 rw[mY];have:([c].contains j)=false:=by simp;exact h
 simp only[this,agn,if_false,air]
theorem Gu(h:H[c]?=some ⟨.m,ep,sz,es⟩):(cJ [c] H)[c]?=some ⟨.l,ep,sz,es⟩:=by
 rw[mY,h];simp[cm]
theorem tj:(cJ [c] H).length=H.length:=by simp[cJ]
theorem Aw(M:j≠c):(eZ [c] H h)[j]?=h[j]?:=by
 rw[pY];have:([c].contains j)=false:=by simp;exact M
 simp only[this,agn,if_false,air]
theorem Gv(h0:H[c]?=some o)(G:c<h.length):(eZ [c] H h)[c]?=some o:=by
 rw[pY,h0,agd G];simp
theorem L4:(eZ [c] H h).length=h.length:=by simp[eZ]
theorem HR.L8(w:HR H):HR (cJ [c] H):=by
 intro o f
 obtain⟨j,M,rfl⟩:=aiE f;have R:j<H.length:=by rw[<-tj (c:=c)];exact M
 have e:=mY [c] H j;rw[agd M,agd R]at e;simp only[ago,agx]at e;obtain⟨O,X⟩:=w _ (agO R);rw[e,tj]
 split
 ·unfold cm
  split
  exact⟨by simp,X⟩;exact⟨O,X⟩
 exact⟨O,X⟩
theorem HR.L9(w:HR h)(a:HR H)(hle:H.length<=h.length):HR (eZ [c] H h):=by
 intro o f
 obtain⟨j,M,rfl⟩:=aiE f;have R:j<h.length:=by rw[<-L4 (H:=H) (c:=c)];exact M
 rw[L4]
 by_cases d:j=c
 ·subst d
  by_cases B:j<H.length
  ·have e:=Gv (h:=h) (agd B) R;rw[agd M]at e;rw[af7 e];obtain⟨O,X⟩:=a _ (agO B);exact⟨O,eK (λi b=>by have:=of_decide_eq_true b;exact decide_eq_true yxa) _ X⟩
  ·have e:=pY [j] H h j;rw[agd M,agd R,agr (Nat.not_lt.1 B)]at e;simp at e;rw[e];exact w _ (agO R)
 ·have e:=Aw (H:=H) (h:=h) d;rw[agd M,agd R]at e;rw[af7 e];exact w _ (agO R)
theorem _root_.zbe{P:Prop}(h:P:=by
 refine kRd R rfl ?_ (by have:=e run 1 Y;exact this);have:rP (.load t (.tmp x)) (al L Y)=some c:=by simp only[rP,ev,K]
 simp only[mq,this,qB,G];simp[f]):P:=h
theorem kLd{C:cA}(T:li C.P){b:List Nat}{h0:ab}{i:Nat}{x:Nat}{t:TypeId}{v:PV}{y:TypeId}{s:String}
  (U:lk L x=some (.ptr c 0 0 0)) (G:h0[c]?=some o) (f:o.mu≠.m) (S:sf T (.load t (.tmp x)) L h (λy=>y=v)):du C run ops b h0 i ⟨some d,.load t (.tmp x),y,s,a,none⟩ ⟨al L Y,h⟩=some ⟨al ((d,v)::L) Y,h⟩:=by
 obtain⟨R,W,e,rfl⟩:=jT T S;have K:al L Y x=.ptr c 0 0 0:=fi U Y;exact zbe
theorem acY{C:cA}(T:li C.P){V:ab}{t:TypeId}{z:Nat}{u:PV}(x:Co T t n F.toList L (λsz es=>es=vs/\sz=z))(h:(aw vs=true/\u=.aa true vs/\V=M)\/(aw vs=false/\u=.an M.length 0 0 n/\V=newObj M z vs)):ar C run 2 (.buildSlice t n F) (al L Y) M=some (u,V):=by
 obtain⟨sz,es,⟨rfl,rfl⟩,e⟩:=pZ T x;have:=e Y M 2;rcases h with⟨J,rfl,rfl⟩|⟨J,rfl,rfl⟩
 ·rw[J,if_pos rfl]at this;simpa only[ar,aD]using this
 ·rw[J,if_neg yxb,if_pos yxa]at this;simpa only[ar,aD]using this
namespace aI
open Go.Proofs
attribute [local irreducible] aE az aO aL Ev ai ah ay bh bH
theorem PE(p a:List Tm)(u:Tm):tL (p++[u]) a=fV u (tL p a):=by simp[tL]
theorem IB(l:List Tm)(A:l.length<1000000)(W:∀t∈l,aC t<100000000):aT C 69 [.aa false (ae l)] (.aa false (ae (nL l))):=by
 have Z:=aj l;refine aT.x T6 Tryz.func69 rfl ?_;refine wA ?_;refine dU.zip T6 l (λp q L H=>∃f,L=[(0,.aa false (ae l)),(3,.aa f (ae (tL p []))),(4,.I p.length)]/\H=[]) (.nx ⟨true,rfl,rfl⟩) ?_ ?_
 ·rintro p u q _ _ Y e ⟨f,rfl,rfl⟩;have Q:=bO e;have b:=lenE e;have O:=zY p [];simp only[agH]at O
  have a:=(QG u (tL p []) (by have:=W u yxf;omega) (λx U=>by
   rcases Gc U with h |h;have:=W x (by rw[e];simp[h]);omega
   cases h) yxa).nine
  rw[au]at a;refine wA ?_;refine .p a ?_;refine wA ?_;exact .nx ⟨_,by rw[PE],rfl⟩
 ·rintro _ _ Y ⟨f,rfl,rfl⟩;refine wA ?_;exact⟨_,rfl,by simp[bo,b9,nL]⟩
theorem PF(t:Tm)(n:Int)(W:aC t<1000000):aT C 38 [enc t,.I n] (.aa false (ae (tY n t))):=by
 have O:=TI t yxa;have S:=zj t;have Z:=aj (pre t);have J:=IB (y9 n (pre t)) (by have:=zu n (pre t);omega) (λu y=>by have:=qb t u (aha.1 y).1;omega);rw[au]at O ⊢;refine aT.x T6 Tryz.func38 rfl ?_;refine wA ?_;refine .p O ?_;refine wA ?_;refine dU.zip T6 (pre t) (λp q L H=>∃v,L=[(1,.I n),(5,v),(6,.aa false (ae (pre t))),(7,.I p.length)]/\HV H/\Out 4 H v (ae (y9 n p))) (.nx ⟨_,rfl,HV.one yxb,.inl ⟨rfl,rfl⟩⟩) ?_ ?_
 ·rintro p u q _ H Y e ⟨v,rfl,w,f⟩;have Q:=bO e;have b:=lenE e;have h:=zu n p;have a:=aj (y9 n p);have P:ae (y9 n p)++[.agg (Do u)]=ae (y9 n p++[u]):=by rw[ch,<-au];rfl
  have F:=Nf n p [u];rw[IC]at F;refine wK (λG v H i=>?_) λG=>?_
  ·rw[if_pos yxc]at F;refine .nx ⟨_,rfl,i.hv,?_⟩;have:=i.out;rw[P]at this;rw[F];exact this
  ·rw[if_neg yxc]at F;refine .nx ⟨_,rfl,w,?_⟩;rw[F];simpa[y9]using f
 ·rintro _ H Y ⟨v,rfl,w,f⟩;refine wA ?_;refine .pl (.inl f) J (λd g=>?_);refine wA ?_;exact⟨_,rfl,by simp[bo,b9,tY,y9]⟩
theorem Dd(t:Tm)(W:aC t<1000000):aT C 16 [enc t] (.aa false (ae (cC t))):=by
 have O:=PF t 1 W;rw[au]at O ⊢;refine aT.x T6 Tryz.func16 rfl ?_;refine wA ?_;refine .p O ?_;refine wA ?_;exact⟨_,rfl,by simp[bo,cC]⟩
theorem GC(l:List Tm)(A:(l.flatMap cC).length<1000000)(z:l.length<1000000)(W:∀t∈l,aC t<1000000):aT C 30 [.aa false (ae l)] (.aa false (ae (nL (l.flatMap cC)))):=by
 have b:=aj l
 have J:=IB (l.flatMap cC) A (λu y=>by
  obtain⟨t,Z,y⟩:=ag6.1 y;have:=nN y;have:=W t Z;omega)
 refine aT.x T6 Tryz.func30 rfl ?_;refine wA ?_;refine dU.zip T6 l (λp q L H=>∃v,L=[(0,.aa false (ae l)),(3,v),(4,.I p.length)]/\HV H/\Out 4 H v (ae (p.flatMap cC))) (.nx ⟨_,rfl,HV.nil,.inl ⟨rfl,rfl⟩⟩) ?_ ?_
 ·rintro p u q _ H Y e ⟨v,rfl,w,f⟩;have Q:=bO e;have d:=lenE e;have K:=Dd u (W u yxf);have F:(p++[u]).flatMap cC=p.flatMap cC++cC u:=by simp
  have U:(p.flatMap cC).length+(cC u).length<=(l.flatMap cC).length:=by rw[e];simp
  have a:=aj (p.flatMap cC);have h:=aj (cC u);rw[au]at K;refine wA ?_;refine .p K ?_;refine wH λv H i=>?_;refine .nx ⟨_,rfl,i.hv,?_⟩;have:=i.out;rw[F,ch];exact this
 ·rintro _ H Y ⟨v,rfl,w,f⟩;refine wA ?_;refine .pl (.inl f) J (λj g=>?_);refine wA ?_;exact⟨_,rfl,by simp[bo,b9]⟩
def bP(d:cg):Int:=if 40<d.kn.length then 3 else jA (d.kn++[d.tm])
theorem lF(s:ByteArray)(n:Int):aT C 36 [.str s,.I n] (enc (.mk 2 s n [])):=by
 rw[bE];refine aT.x T6 Tryz.func36 rfl ?_;refine wA ?_;exact⟨_,rfl,by simp[bo,b9,aY]⟩
theorem NY:aT C 15 [] (.aa false (ae uI)):=aT.pw (n:=40) (by kernel_rfl)
theorem Ma{k o:Int}{n:ByteArray}{x:PV}(J:aw es=true:=by simp)(d:aY es=es:=by simp)(U:kZ h x=some x:=by rfl)(hn:b9 x=x:=by rfl):∃b,rb h (bo [.agg (List.take (3+1) (List.drop 0 (cells (.agg [.I k,.str n,.I o,.aa false es])))),x])=some b/\b9 b=.b8 [.agg [.I k,.str n,.I o,.aa false es],x]:=by
 refine⟨.b8 [.agg [.I k,.str n,.I o,.aa false es],x],?_,by simp[b9,aY,hn,d]⟩;simp only[bo,rb,iR,U];simp[kZ,oE,rf,cells,aW]
theorem exA:enc JB=.agg [.I 2,.str ⟨#[97]⟩,.I 1,.aa false []]:=by rw[JB,bE,vW]
theorem exB:enc Yg=.agg [.I 2,.str ⟨#[98]⟩,.I 1,.aa false []]:=by rw[Yg,bE,vW]
theorem Mc(s:ByteArray)(t:Tm){v:PV}(h:enc t=v):aT C 35 [.str s,.aa false [v]] (.agg [.I 3,.str s,.I 0,.aa false [v]]):=by
 have a:=(sq s [t] yxb).nine;rw[bE,ae,h]at a;exact a
theorem Yj(s:ByteArray)(t u:Tm){v:PV}(h:enc t=v)(X:enc u=w):aT C 35 [.str s,.aa false [v,w]] (.agg [.I 3,.str s,.I 0,.aa false [v,w]]):=by
 have a:=(sq s [t,u] yxb).nine;rw[bE,ae,ae,h,X]at a;exact a
theorem exS(a:Tm){v:PV}(h:enc a=v):enc (.mk 3 JH 0 [a])=.agg [.I 3,.str ⟨#[115,107]⟩,.I 0,.aa false [v]]:=by
 rw[bE,show ae [a]=[enc a] by simp[ae],h]
 rfl
theorem exP(a:Tm){v:PV}(h:enc a=v):enc (.mk 3 LV 0 [.mk 3 JH 0 [a]])=.agg [.I 3,.str ⟨#[112,107]⟩,.I 0,.aa false [.agg [.I 3,.str ⟨#[115,107]⟩,.I 0,.aa false [v]]]]:=by
 rw[bE,show ae [Tm.mk 3 JH 0 [a]]=[enc (.mk 3 JH 0 [a])] by simp[ae],exS a h]
 rfl
theorem Cf(t:Tm):ae [t]=[.agg (Do t)]:=by rw[ae,au];rfl
theorem UM(t u:Tm):ae [t,u]=[.agg (Do t),.agg (Do u)]:=by rw[ae,ae,au,au];rfl
theorem Ax(H:ab)(w:HR H):ay C 14 [] H (λr h'=>r=.aa true (ae yo)/\hC H h'):=by
 have b:=lF ⟨#[97]⟩ 1;have e:=lF ⟨#[98]⟩ 1;have d:=lF ⟨#[110,35,48]⟩ 2;have f:=lF ⟨#[109,35,49]⟩ 2;have a:=lF ⟨#[107,35,48]⟩ 3;have A:=lF ⟨#[104,105]⟩ 5;have g:=Yj ⟨#[115,104,107]⟩ JB Yg exA exB;have i:=Mc ⟨#[115,107]⟩ Yg exB;have h:=Mc ⟨#[112,107]⟩ (.mk 3 JH 0 [Yg]) (exS Yg exB);rw[bE,vW]at b e d f a A;refine ay.x T6 Tryz.func14 rfl ?_;refine wA ?_;refine .p b ?_;refine wA ?_;refine .p e ?_;have N:List.set (List.set (H++[(⟨.m,0,4,[.agg Nm]⟩:ax)]++[(⟨.m,0,4,[.agg Nm]⟩:ax)]) H.length ⟨.m,0,4,[.agg [.I 2,.str ⟨#[97]⟩,.I 1,.aa false []]]⟩) (H++[(⟨.m,0,4,[.agg Nm]⟩:ax)]).length ⟨.m,0,4,[.agg [.I 2,.str ⟨#[98]⟩,.I 1,.aa false []]]⟩=H++[⟨.m,0,4,[.agg [.I 2,.str ⟨#[97]⟩,.I 1,.aa false []]]⟩,⟨.m,0,4,[.agg [.I 2,.str ⟨#[98]⟩,.I 1,.aa false []]]⟩]:=by simp
 refine wA ?_;refine .mk ?_ (bw (o:=(⟨.m,0,4,[.agg Nm]⟩:ax)) yxb rfl yxb);refine wA ?_;rw[N];clear N;have t:(H++[(⟨.m,0,4,[.agg [.I 2,.str ⟨#[97]⟩,.I 1,.aa false []]]⟩:ax),⟨.m,0,4,[.agg [.I 2,.str ⟨#[98]⟩,.I 1,.aa false []]]⟩])[H.length]?=some ⟨.m,0,4,[.agg [.I 2,.str ⟨#[97]⟩,.I 1,.aa false []]]⟩:=by simp
 have j:(H++[(⟨.m,0,4,[.agg [.I 2,.str ⟨#[97]⟩,.I 1,.aa false []]]⟩:ax),⟨.m,0,4,[.agg [.I 2,.str ⟨#[98]⟩,.I 1,.aa false []]]⟩])[(H++[(⟨.m,0,4,[.agg Nm]⟩:ax)]).length]?=some ⟨.m,0,4,[.agg [.I 2,.str ⟨#[98]⟩,.I 1,.aa false []]]⟩:=by simp
 have D:HR (H++[(⟨.m,0,4,[.agg [.I 2,.str ⟨#[97]⟩,.I 1,.aa false []]]⟩:ax),⟨.m,0,4,[.agg [.I 2,.str ⟨#[98]⟩,.I 1,.aa false []]]⟩]):=w.cx (HV.Ay ⟨by simp,by simp⟩ ⟨by simp,by simp⟩);refine .mk _ (by simpa[aY,b9]using d) ?_;refine wA ?_;refine .mk _ (by simpa[aY,b9]using f) ?_;refine wA ?_;refine .mk _ yxq ?_;refine wA ?_;refine .mk _ (by simpa[aY,b9]using g) ?_;refine wA ?_;refine .mk _ (by simpa[aY,b9]using i) ?_;refine wA ?_;refine .mk _ (by simpa[aY,b9]using h) ?_;refine wA ?_;refine .mk _ (by simpa[aY,b9]using A) ?_;refine wA ?_;exact⟨by simp[bo,yo,ae,lfN,lfM,lfK,lfS,lfP,lfH,exA,exB,bE];exact⟨rfl,rfl,rfl⟩,_,HV.Ay ⟨by simp,by simp⟩ ⟨by simp,by simp⟩,rfl⟩
theorem tq(b:List Nat)(l:List Tm)(B:Nat)(W:NZ b)(z:b.length<100000000)(h0:0<l.length)(J:l.length<100000000)(H:Cs B l):∀(f d i:Nat),d+f=3->i<=100000 * d->
  aT C 13 [.aa false (gd b),.I i,.I d,.aa false (ae l)] (.b8 [enc (jg b l f i).1,.I (jg b l f i).2])
 |0,d,i,hd,hi=>by
  have Z:=aj l;have t:=ss b;have hn:=EN W i;have D:((jf b i:Nat):Int).tdiv 2=((jf b i / 2:Nat):Int):=lT (jf b i) 2;have ht:((jf b i:Nat):Int).tmod 2=((jf b i % 2:Nat):Int):=Ra (jf b i) 2;have O:=Az (l:=l) (i:=jf b i / 2 % (ae l).length) (by rw[Z];exact aiB _ h0);have w:jg b l 0 i=(l.getD (jf b i / 2 % (ae l).length) gZ,i+1):=by rw[Z];rfl
  rw[w];dsimp only;generalize l.getD (jf b i / 2 % (ae l).length) gZ=g at *;rw[au]at O;rw[au]
  by_cases a:i<b.length
  ·have Q:=su a;refine aT.x T6 Tryz.func13 rfl ?_;refine wA ?_;exact o8
  ·have M:=EO a;rw[M,Nat.zero_div,Nat.zero_mod]at O;refine aT.x T6 Tryz.func13 rfl ?_;refine wA ?_;refine .raw 0 rfl ?_;refine wA ?_;exact o8
 |f+1,d,i,hd,hi=>by
  have Z:=aj l;have t:=ss b;have hn:=EN W i;have D:((jf b i:Nat):Int).tdiv 2=((jf b i / 2:Nat):Int):=lT (jf b i) 2;have ht:((jf b i:Nat):Int).tmod 2=((jf b i % 2:Nat):Int):=Ra (jf b i) 2;have h6:(((jf b i:Nat):Int).tdiv 2).tmod 6=((jf b i / 2 % 6:Nat):Int):=by rw[D];exact Ra (jf b i / 2) 6
  have O:=Az (l:=l) (i:=jf b i / 2 % (ae l).length) (by rw[Z];exact aiB _ h0);have u:Ri b l i=l.getD (jf b i / 2 % (ae l).length) gZ:=by rw[Z];rfl
  by_cases e:jf b i % 2=0
  ·have w:jg b l (f+1) i=(Ri b l i,i+1):=by rw[jg,if_pos e]
   rw[w,u];dsimp only;generalize l.getD (jf b i / 2 % (ae l).length) gZ=g at *;rw[au]at O;rw[au]
   by_cases a:i<b.length
   ·have Q:=su a;refine aT.x T6 Tryz.func13 rfl ?_;refine wA ?_;exact o8
   ·have M:=EO a;rw[M,Nat.zero_div,Nat.zero_mod]at O;refine aT.x T6 Tryz.func13 rfl ?_;refine wA ?_;refine .raw 0 rfl ?_;refine wA ?_;exact o8
  ·have a:i<b.length:=by
    by_cases h:i<b.length
    exact h;rw[EO h]at e;omega
   have Q:=su a;have ig:=Ar (b:=b) h0 H f (i+1);have h2f:2^ (f+1)<=8:=Nat.pow_le_pow_right yxa (show f+1<=3 by omega);have j:=tq b l B W z h0 J H f (d+1) (i+1) yxa yxa;have q:=tq b l B W z h0 J H f (d+1) (jg b l f (i+1)).2 yxa yxa;have Y:jf b i / 2 % 6=0->jg b l (f+1) i=(.mk 3 yp 0 [(jg b l f (i+1)).1],(jg b l f (i+1)).2):=λh=>by rw[jg,if_neg e,if_pos h]
   have K:jf b i / 2 % 6≠0->jf b i / 2 % 6<=2->jg b l (f+1) i=(.mk 3 kM 0 [(jg b l f (i+1)).1,(jg b l f (jg b l f (i+1)).2).1],(jg b l f (jg b l f (i+1)).2).2):=λh n=>by rw[jg,if_neg e,if_neg h,if_pos n]
   have V:jf b i / 2 % 6=3->jg b l (f+1) i=(.mk 3 gK 0 [(jg b l f (i+1)).1,Rh],(jg b l f (jg b l f (i+1)).2).2):=λh=>by rw[jg,if_neg e,if_neg yxa,if_neg yxa,if_pos h]
   have v:¬jf b i / 2 % 6<=2->jf b i / 2 % 6≠3->jg b l (f+1) i=(.mk 3 kT 0 [(jg b l f (i+1)).1,(jg b l f (jg b l f (i+1)).2).1],(jg b l f (jg b l f (i+1)).2).2):=λh n=>by rw[jg,if_neg e,if_neg yxa,if_neg h,if_neg n]
   generalize jg b l (f+1) i=R at *;generalize jg b l f (jg b l f (i+1)).2=jk at *;generalize jg b l f (i+1)=X at *;obtain⟨x,nx⟩:=X;obtain⟨y,ny⟩:=jk;simp only at j q Y K V v
   push_cast at j q
   have A:=(sq ⟨#[104,97,115,104]⟩ [x] yxb).nine;have S:=(sq ⟨#[101,110,99]⟩ [x,y] yxb).nine;have N:=(sq ⟨#[112,97,105,114]⟩ [x,y] yxb).nine;rw[au]at j q;rw[bE,Cf]at A;rw[bE,UM]at S N;refine aT.x T6 Tryz.func13 rfl ?_;refine wA ?_;refine .p j ?_;refine wC (λG=>?_) λG=>?_
   ·rw[Y yxa,bE,Cf];refine .p A ?_;refine wA ?_;exact Ma
   ·refine .p q ?_;refine wI (λG=>?_) (λG G=>?_) λG G=>?_
    ·rw[K yxa yxa,bE,UM];refine .p S ?_;refine wA ?_;exact Ma
    ·rw[V yxa]
     have e3:enc (.mk 3 gK 0 [x,Rh])=.agg [.I 3,.str ⟨#[97,101,110,99]⟩,.I 0,.aa false [.agg (Do x),.agg [.I 3,.str ⟨#[112,107]⟩,.I 0,.aa false [.agg [.I 3,.str ⟨#[115,107]⟩,.I 0,.aa false [.agg [.I 2,.str ⟨#[97]⟩,.I 1,.aa false []]]]]]]]:=by
      rw[bE,show ae [x,Rh]=[enc x,enc Rh] by simp[ae],Rh,exP JB exA,au]
      rfl
     have F:=lF ⟨#[97]⟩ 1;have U:=Mc ⟨#[115,107]⟩ JB exA;have P:=Mc ⟨#[112,107]⟩ (.mk 3 JH 0 [JB]) (exS JB exA);have b4:=Yj ⟨#[97,101,110,99]⟩ x Rh (au x) (exP JB exA);rw[bE,vW]at F;rw[e3]
     skip
     refine .mk _ (by simpa[aY,b9]using F) ?_;refine wA ?_;refine .mk _ (by simpa[aY,b9]using U) ?_;refine wA ?_;refine .mk _ (by simpa[aY,b9]using P) ?_;refine wA ?_;refine .p b4 ?_;refine wA ?_;exact Ma
    ·rw[v yxa yxa,bE,UM];refine .p N ?_;refine wA ?_;exact Ma
end aI
end Go.Pm
