/-
  Pm, a part. Conditions: none.
-/
import Derived.Test.YtimogkojklpdnaaGreatDoorPxAL
set_option linter.unusedVariables false
set_option linter.unusedSimpArgs false
set_option linter.unnecessarySimpa false
namespace Go.Pm
open Go.Proofs
set_option maxRecDepth 4000
structure Km(u:Tm)(k:ab)(x t p c:Nat):Prop where
 hr:HR k
 ex:∃i,k[x]?=some ⟨.m,0,4,[.agg [.aa false (ae [u]),.aa true [],.ak i 0 0 1,.bool false]]⟩/\k[i]?=some ⟨.m,0,1,[.int .i64 (-1)]⟩
 et:k[t]?=some ⟨.m,0,3,[.agg [.ak p 0 0 1,.ak c 0 0 0,.bool false]]⟩
 ep:k[p]?=some ⟨.m,0,1,[.int .i64 1]⟩
theorem KB(u:Tm):vt [(u,1)] u=1:=MA (p:=[]) (q:=[]) (by simp) (cq u)
namespace bE
attribute [local irreducible] aD az aL aJ Ev ah aj ay aY
theorem Ro(x:Nat)(cv pv:PV)(H:ab)(hR:HR H)(ex:H[x]?=some ⟨.m,0,4,[.agg [cv,.aa true [],pv,.bool false]]⟩):ay C 399 [.ptr x 0 0 0,.int .i64 0] H (λr h'=>r=.ct []/\h'=H):=by
 refine ay.x T6 Tryz.func399 rfl ?_;refine wA ?_;refine cO.nat T6 (λm L h=>m=0/\L=[(0,.ptr x 0 0 0),(1,.int .i64 0)]/\h=H) 0 (.nx ⟨rfl,rfl,rfl⟩) ?_;rintro m _ h ρ ⟨rfl,rfl,rfl⟩;refine wA ?_;refine cO.zip T6 ([]:List Nat) (λp q L' h'=>h'=h/\p=[]/\L'=[(0,.ptr x 0 0 0),(1,.int .i64 0),(4,.int .i64 (-1)),(5,.int .i64 0),(18,.aa true []),(19,.int .i64 0),(20,.int .i64 0)]) (.nx ⟨rfl,rfl,rfl⟩) ?_ ?_
 ·rintro p a q L' h' ρ e;simp at e
 ·rintro _ h ρ ⟨rfl,_,rfl⟩;refine wA ?_;exact⟨rfl,rfl⟩
theorem Rp(u:Tm)(H:ab)(x t p c:Nat)(K:Km u H x t p c):ay C 388 [.ptr x 0 0 0,.ptr t 0 0 0] H (λr h'=>r=.int .i64 0/\h'=H):=by
 obtain⟨hR,⟨i,ex,ei⟩,et,ep⟩:=K;have cr:(ae [u]).length=1:=ai [u];refine ay.x T6 Tryz.func388 rfl ?_;refine wA ?_;rw[cr];refine cO.zip T6 [(0:Nat)] (λp q L h=>L=[(0,.ptr x 0 0 0),(1,.ptr t 0 0 0),(12,.int .i64 1),(13,.int .i64 p.length)]/\h=H/\q≠[]) (.nx ⟨rfl,rfl,by simp⟩) ?_ ?_
 ·rintro p i q _ _ ρ e ⟨rfl,rfl,_⟩
  obtain rfl:p=[]:=by
   cases p with
   |nil=>rfl
   |cons b p=>simp at e
  refine wA ?_;exact⟨rfl,rfl⟩
 ·rintro _ _ ρ ⟨rfl,rfl,h⟩;exact absurd rfl h
theorem KD(u:Tm)(hu:ax u<10000000)(h:dT u=false)(hv:valid u=0):
  ay C 387 [.aa false [],.aa false (br [(u,1)])] [] (λr h'=>HR h'/\([]:ab).length<=h'.length/\(∀j,j<([]:ab).length->h'[j]?=([]:ab)[j]?)/\∃x t p c,r=.ct [.ptr x 0 0 0,.ptr t 0 0 0,.int .i64 0]/\Km u h' x t p c):=by
 have hvp:qf [(u,1)]=0:=by
  unfold qf;rw[if_neg (by simp),tv,if_neg (by simpa using hv),if_neg (by simp[h]),if_neg (by simp),if_neg (by simp),vN]
 have VN:∀q∈[(u,(1:Int))],ax q.1<100000000:=by simp;omega
 have hvm:=(G' [(u,1)] VN (by simp)).nine;rw[hvp]at hvm;have TK:=MR [[(u,1)]] ⟨λx hx=>by simp at hx;subst hx;exact⟨VN,by simp⟩,by simp⟩;have hf:JO [[(u,1)]]=[u]:=rfl;rw[hf]at TK;have cr:(ae [u]).length=1:=ai [u];refine ay.x T6 Tryz.func387 rfl ?_;refine wH ?_;refine cO.zip T6 ([]:List Nat) (λp q L h=>p=[]/\L=[(0,.aa false []),(1,.aa false (br [(u,1)])),(19,.aa false []),(20,.int .i64 0),(21,.int .i64 0)]/\h=[]) (.nx ⟨rfl,rfl,rfl⟩) ?_ ?_
 ·rintro p x q _ h ρ e;simp at e
 rintro _ h ρ ⟨_,rfl,rfl⟩;refine wH ?_;refine .p hvm ?_;refine wH ?_;refine aj.cS rfl (show bG 1 [.aa false []] []=some (.aa true [],[])from rfl) ?_
 (repeat' (first |(refine Rn.go ?_;conv=>whnf)|((fail_if_success (show Tj _ _ _ _ _));refine .mk ?_)|refine .lp λv H lp=>?_ |fail))
 have FH:=lp.hv;have zP:Out 1 H v (iN [[(u,1)]]):=lp.out;refine .po zP TK (λh4 hh4=>?_)
 have hv4:HV h4:=by
  rcases hh4 with rfl |⟨_,_,_,rfl⟩
  ·exact FH
  ·exact FH.set _ (by simp) (by simp)
 clear hh4 zP FH lp;have hx5:(h4++[(⟨.m,0,4,[.agg [.aa false (ae [u]),.aa true [],.aa true [],.bool false]]⟩:aw)])[h4.length]?=some ⟨.m,0,4,[.agg [.aa false (ae [u]),.aa true [],.aa true [],.bool false]]⟩:=by simp
 have hR5:HR (h4++[(⟨.m,0,4,[.agg [.aa false (ae [u]),.aa true [],.aa true [],.bool false]]⟩:aw)]):=hv4.hr.dA (HV.one rfl);refine wH ?_;generalize h4++[(⟨.m,0,4,[.agg [.aa false (ae [u]),.aa true [],.aa true [],.bool false]]⟩:aw)]=h5 at *;generalize h4.length=x at *;clear hv4;refine cO.zip T6 ([]:List Nat) (λp q L k=>p=[]/\L=[(0,.aa false []),(1,.aa false (br [(u,1)])),(11,.ptr x 0 0 0),(50,.aa false []),(51,.int .i64 0),(52,.int .i64 0)]/\k=h5) (.nx ⟨rfl,rfl,rfl⟩) ?_ ?_
 ·rintro p y q _ k ρ e;simp at e
 rintro _ h5 ρ ⟨_,rfl,rfl⟩;refine wH ?_;refine cO.nat T6 (λm L2 k=>(m=1/\L2=[(0,.aa false []),(1,.aa false (br [(u,1)])),(11,.ptr x 0 0 0),(89,.int .i64 (ae [u]).length),(90,.int .i64 0)]/\k=h5)\/(m=0/\L2=[(0,.aa false []),(1,.aa false (br [(u,1)])),(11,.ptr x 0 0 0),(89,.int .i64 (ae [u]).length),(90,.int .i64 1)]/\HR k/\∃i,k[x]?=some ⟨.m,0,4,[.agg [.aa false (ae [u]),.aa true [],.ak i 0 0 1,.bool false]]⟩/\k[i]?=some ⟨.m,0,1,[.int .i64 (-1)]⟩)) 1 (.nx (.inl ⟨rfl,rfl,rfl⟩)) ?_;rintro m _ k ρ (⟨rfl,rfl,rfl⟩|⟨rfl,rfl,hR,i,ex,ei⟩)
 ·have kx:=ag hx5;refine wH ?_;refine .sn (es:=[]) ?_ rfl (by simp);have ex:(k++[(⟨.m,0,1,[.int .i64 (-1)]⟩:aw)])[x]?=some ⟨.m,0,4,[.agg [.aa false (ae [u]),.aa true [],.aa true [],.bool false]]⟩:=by rw[abj kx];exact hx5
  have hR:HR (k++[(⟨.m,0,1,[.int .i64 (-1)]⟩:aw)]):=hR5.dA (HV.one rfl);refine wH ?_;refine .nx ⟨0,by omega,.inr ⟨rfl,rfl,hR.set _ (by simp) (by simp[bw,bq]),k.length,abl (by simp;omega),?_⟩⟩;rw[abm (by omega)];simp
 refine wH ?_;refine cO.nat T6 (λm L2 K=>K=k/\((m=1/\L2=[(0,.aa false []),(1,.aa false (br [(u,1)])),(11,.ptr x 0 0 0),(106,.int .i64 (ae [u]).length),(107,.int .i64 0)])\/(m=0/\L2=[(0,.aa false []),(1,.aa false (br [(u,1)])),(11,.ptr x 0 0 0),(106,.int .i64 (ae [u]).length),(107,.int .i64 1)]))) 1 (.nx ⟨rfl,.inl ⟨rfl,rfl⟩⟩) ?_;rintro m _ K ρ ⟨rfl,(⟨rfl,rfl⟩|⟨rfl,rfl⟩)⟩
 ·refine wH ?_;refine .same (Ro x _ _ _ hR ex) λr hr=>?_;subst hr;refine wH ?_;exact .nx ⟨0,by omega,rfl,.inr ⟨rfl,rfl⟩⟩
 have Od:=(Rq [u] [(u,1)] (K.map bS) (by simp[fv]) (by simp) (by simp;omega) (by simp[FU]) (by simp) (by simp)).nine;rw[acy]at Od;refine wH ?_;refine .raw λρ=>?_;refine aY.sP T6 ?_
 conv=>whnf
 refine aY.sP T6 ?_
 conv=>whnf
 refine aY.sP T6 ?_
 conv=>whnf
 refine aY.sP T6 ?_
 conv=>whnf
 refine aY.sR T6 ?_ hR.closed ⟨Cz ex (by simp),trivial⟩
 conv=>whnf
 refine wA ?_;refine aY.sP T6 ?_
 conv=>whnf
 refine aY.YR (n:=1) (P:=λD=>∃J:ab,D=⟨.m,0,1,[.int .i64 1]⟩::J/\∀o∈J,o.mu=.m/\ar o.es=true) rfl hR.closed rfl rfl rfl rfl (Od.mono λr h' hh=>⟨hh.1,?_⟩) λD hD=>?_
 ·obtain⟨_,J,rfl,hJ⟩:=hh
  exact⟨_,rfl,λo ho=>by
   rcases abu.1 ho with rfl |ho
   ·simp
   ·rw[(hJ o ho).1];simp,J,by simp[fS,KB],hJ⟩
 obtain⟨J,hDJ,hJ⟩:=hD;refine aY.sP T6 ?_
 conv=>whnf
 refine aY.VO T6 rfl rfl hR.closed rfl rfl ?_;refine aY.Rr T6 (n:=0) rfl rfl hR.closed rfl rfl rfl rfl rfl (by decide) rfl rfl (by omega) ?_;refine aY.sP T6 ?_
 conv=>whnf
 refine aY.sW T6 rfl rfl ?_
 conv=>whnf
 refine wA ?_;refine aY.sP T6 ?_
 conv=>whnf
 refine aY.sP T6 ?_
 conv=>whnf
 refine aY.sP T6 ?_
 conv=>whnf
 obtain⟨kA,QZ⟩:∃kA,kA=K++D++[(⟨.m,0,0+1,List.replicate 0 (.int .i64 0)⟩:aw)]++[(⟨.m,0,3,[.agg [.ak K.length 0 0 1,.ak (K.length+D.length) 0 0 0,.bool false]]⟩:aw)]:=⟨_,rfl⟩;have hlD:K.length+D.length+1=(K++D++[(⟨.m,0,0+1,List.replicate 0 (.int .i64 0)⟩:aw)]).length:=by simp;omega
 have lD:0<D.length:=by rw[hDJ];simp
 have aF:∀j,j<K.length->kA[j]?=K[j]?:=λj hj=>by rw[QZ,abI,abI,abj hj]
 have a3:kA[K.length]?=some ⟨.m,0,1,[.int .i64 1]⟩:=by rw[QZ,hDJ];simp
 have a2:kA[K.length+D.length+1]?=some ⟨.m,0,3,[.agg [.ak K.length 0 0 1,.ak (K.length+D.length) 0 0 0,.bool false]]⟩:=by
  rw[QZ,hlD,abt (abn _),acw];rfl
 have hRA:HR kA:=by
  rw[QZ];refine HR.wk (HR.wk (hR.dA λo ho=>?_) (by simp) (by simp[bw])) (by simp) (by simp[bw,bq];omega);rw[hDJ]at ho;rcases abu.1 ho with rfl |ho
  ·simp
  ·rw[(hJ o ho).1];exact⟨by simp,(hJ o ho).2⟩
 have kx:=ag ex;have ki:=ag ei;rw[<-hlD,<-QZ];refine aY.nil ⟨_,_,rfl,?_⟩
 conv=>whnf
 skip
 exact⟨hRA,acM _,λj hj=>absurd hj (Nat.not_lt_zero _),x,_,_,_,rfl,hRA,⟨i,by rw[aF _ kx];exact ex,by rw[aF _ ki];exact ei⟩,a2,a3⟩
theorem KE(u:Tm)(hu:ax u<10000000)(h:dT u=false)(hv:valid u=0):
  ay C 372 [.aa false [],.aa false (br [(u,1)])] [] (λr h'=>HR h'/\([]:ab).length<=h'.length/\(∀j,j<([]:ab).length->h'[j]?=([]:ab)[j]?)/\∃x t p c,r=.ct [.ptr x 0 0 0,.ptr t 0 0 0,.int .i64 0,.int .i64 0]/\Km u h' x t p c):=by
 have Bp:=KD u hu h hv;refine ay.x T6 Tryz.func372 rfl ?_;refine wA ?_;refine .fr Bp (λr h hr hb=>?_) (λr h r1 r2 r3 r4=>?_)
 ·obtain⟨x,t,p,c,rfl,K⟩:=hr;simp[dZ,cK,dY]at hb
 obtain⟨x,t,p,c,rfl,K⟩:=r4;have PI:=Rp u _ x t p c K;obtain⟨i,ex,ei⟩:=K.ex;refine wA ?_;refine .same PI λr hr=>?_;subst hr;refine wA ?_;exact⟨r1,r2,r3,x,t,p,c,rfl,K⟩
theorem Ej(u:Tm)(hu:ax u<10000000)(h:dT u=false)(hv:valid u=0):∃x,aI C 328 [.aa false [],.aa false (br [(u,1)])] (.ct [x,.int .i64 4]):=by
 have Rt:=KE u hu h hv;refine⟨.aa false [],?_⟩;refine aI.x T6 Tryz.func328 rfl ?_;refine wA ?_;refine .fr Rt (λr h hr hb=>?_) (λr h r1 r2 r3 r4=>?_)
 ·obtain⟨x,t,p,c,rfl,K⟩:=hr;simp[dZ,cK,dY]at hb
 obtain⟨x,t,p,c,rfl,K⟩:=r4;refine wA ?_;exact⟨_,rfl,rfl⟩
end bE
end Go.Pm
namespace Go.Pm
set_option maxRecDepth 4000
theorem vK{u:Tm}(h:iQ u=true):dT u=false:=by
 obtain⟨h1,h2,_,_,_,h6⟩:=jF h;obtain⟨k,s,o,l⟩:=u
 have key:∀(n:ByteArray) (m:List UInt8),n.toList=m->db (.mk k s o l) n=false->(decide (k=3)&&decide (s.toList=m))=false:=λn m e hh=>by
  subst e;simp only[db,eI,Tm.k,Tm.s]at hh
  cases hk:decide (k=3)with
  |false=>rfl
  |true=>
   have e:k=3:=by simpa using hk
   subst e;simp at hh;simpa using hh
 have a1:=key yy vf Mi h1;have a2:=key yz mH Mj h2;have a3:=key qc vg Mk h6;show(decide (k=3)&& (decide (s.toList=vf)||decide (s.toList=mH)||decide (s.toList=vg)))=false;rw[Bool.and_or_distrib_left,Bool.and_or_distrib_left,a1,a2,a3]
 rfl
theorem N9{u:Tm}(h:dT u=false)(hv:valid u=0):IY u=([(u,1)],0):=by
 obtain⟨k,s,o,l⟩:=u;have ha:arity (.mk k s o l)=true:=by rw[arity,if_pos h]
 have hc:gB [] (.mk k s o l) 1=[(.mk k s o l,1)]:=by rw[gB,if_pos h];rfl
 rw[IY,if_neg (by omega),if_neg (by rw[ha];simp),hc,if_neg (by simp)]
namespace bE
open Go.Proofs
attribute [local irreducible] aD az aL aJ Ev ah aj ay aY bJ
theorem Eh(u:Tm):br [(u,1)]=[.agg [.int .i64 u.k,.str u.s,.int .i64 u.o,.aa false (ae u.l),.int .i64 1]]:=by obtain⟨k,s,o,l⟩:=u;rfl
theorem Rh(s:List Tm)(hs:kQ s)(u:Tm)(hu:ax u<10000000)(id:Nat)(H:ab)(h0:H[id]?=some ⟨.m,0,1,[.aa false (ae s)]⟩):ay C 371 [.agg [.int .i64 u.k,.str u.s,.int .i64 u.o,.aa false (ae u.l),.int .i64 1],.ptr id 0 0 0] H (λr h'=>r=.bool (bF s u)/\gq H h'):=by
 have h1:=hs.has hu;have cG:=ag h0;rw[ao]at h1;refine ay.x T6 Tryz.func371 rfl ?_;refine wA ?_;refine .p h1 ?_;refine wA ?_;exact⟨rfl,(gq.refl _).cB (HV.one (by simp[ar,aW]))⟩
theorem Cw(s:List Tm)(hs:kQ s)(u:Tm)(hu:ax u<10000000)(hn:bF s u=false):aI C 327 [.aa false (ae s),.aa false (br [(u,1)])] (.aa false (br [(u,1)])):=by
 rw[Eh];obtain⟨B,hB⟩:∃B:ab,B=[⟨.m,0,1,[.aa false (ae s)]⟩,⟨.m,0,5,[.agg [.int .i64 u.k,.str u.s,.int .i64 u.o,.aa false (ae u.l),.int .i64 1]]⟩]:=⟨_,rfl⟩;have WU:B[0]?=some ⟨.m,0,1,[.aa false (ae s)]⟩:=by rw[hB];rfl
 have Yy:B[1]?=some ⟨.m,0,5,[.agg [.int .i64 u.k,.str u.s,.int .i64 u.o,.aa false (ae u.l),.int .i64 1]]⟩:=by rw[hB];rfl
 have VJ:ay C 381 [.ak 1 0 0 1,.fn 371 [.ptr 0 0 0 0]] B (λr h'=>r=.int .i64 (-1)/\gq B h'):=by
  have W0:([]:List Tm).length=0:=rfl;have h01:[u].length=1:=rfl;refine ay.x T6 Tryz.func381 rfl ?_;refine wA ?_;refine cO.zip T6 [u] (λp q L K=>L=[(0,.ak 1 0 0 1),(1,.fn 371 [.ptr 0 0 0 0]),(7,.int .i64 1),(8,.int .i64 p.length)]/\gq B K) (.nx ⟨rfl,gq.refl _⟩) ?_ ?_
  ·rintro p a q _ K ρ e ⟨rfl,hE⟩;obtain⟨rfl,G6,rfl⟩:=xc e;have G6:=G6.symm;subst G6;have YM:=hE.at Yy;have hk:=Rh s hs u hu 0 K (hE.at WU);rw[hn]at hk;refine wA ?_;refine .ex hk (λh' PY=>?_);refine wA ?_;exact .nx ⟨rfl,hE.trans PY⟩
  ·rintro _ K ρ ⟨rfl,hE⟩;refine wA ?_;exact⟨rfl,hE⟩
 have Iz:ay C 369 [.ak 1 0 0 1,.fn 371 [.ptr 0 0 0 0]] B (λr h'=>r=.ak 1 0 0 1/\gq B h'):=by
  refine ay.x T6 Tryz.func369 rfl ?_;refine wA ?_;refine .ex VJ (λh' hE=>?_);refine wA ?_;exact⟨rfl,hE⟩
 have NS:bG 5 [.aa false [.agg [.int .i64 u.k,.str u.s,.int .i64 u.o,.aa false (ae u.l),.int .i64 1]]] [⟨.m,0,1,[.aa false (ae s)]⟩]=some (.ak 1 0 0 1,B):=by rw[hB];rfl
 refine aI.x T6 Tryz.func327 rfl ?_;refine wA ?_;refine aj.cS rfl NS ?_;refine wA ?_;refine .ex Iz (λh' hE=>?_);have h1:=hE.at Yy;refine wA ?_;exact iC (tl:=[]) (es:=[.agg [.int .i64 u.k,.str u.s,.int .i64 u.o,.aa false (ae u.l),.int .i64 1]]) h1 rfl (by rw[<-Eh];simp) (by rw[<-Eh];simp)
theorem yB(s:List Tm)(hs:kQ s)(hf:∀t∈s,iQ t=true)(u:Tm)(hu:ax u<10000000)(hn:bF s u=false)(Ei:iQ u=true)(hv:valid u=0):aI C 280 [.aa false (ae s),.aa false (br [(u,1)])] (.bool false):=by
 have cr:=ai s;have NE:=hs.len;have h1:=Cw s hs u hu hn;obtain⟨x,h2⟩:=Ej u hu (vK Ei) hv;rw[Eh]at h1 h2 ⊢;refine aI.x T6 Tryz.func280 rfl ?_;refine wA ?_;refine .p h1 ?_;refine wC (λhc=>?_) λhc=>?_
 ·exfalso;simp at hc
 refine cO.zip T6 s (λp q L H=>L=[(0,.aa false (ae s)),(1,.aa false [.agg [.int .i64 u.k,.str u.s,.int .i64 u.o,.aa false (ae u.l),.int .i64 1]]),(5,.aa true []),(18,.aa false (ae s)),(19,.int .i64 (ae s).length),(20,.int .i64 p.length)]/\HV H) (.nx ⟨rfl,HV.nil⟩) ?_ ?_
 ·rintro p t q _ H ρ e ⟨rfl,hH⟩;have cm:=bg e;have di:=lenE e;have h3:=Bm t;obtain⟨g1,g2,_⟩:=jF (hf t (by rw[e];simp));rw[show Ee t=false by simp[Ee,g1,g2],ao]at h3;refine wA ?_;refine .p h3 ?_;refine wA ?_;exact .nx ⟨rfl,hH.cB (HV.one (by simp))⟩
 ·rintro _ H ρ ⟨rfl,hH⟩;refine wA ?_;refine .p h2 ?_;refine wA ?_;exact⟨_,rfl,rfl⟩
theorem wv(s:List Tm)(hs:kQ s)(hf:∀t∈s,iQ t=true)(u:Tm)(hu:ax u<10000000)(hn:bF s u=false)(Ei:iQ u=true)(hv:valid u=0):aI C 214 [.aa false (ae s),enc u] (.bool false):=by
 have h1:=(VK u (by omega)).nine;rw[N9 (vK Ei) hv]at h1;have h2:=yB s hs hf u hu hn Ei hv;rw[Eh]at h1 h2;rw[ao]at h1 ⊢;refine aI.x T6 Tryz.func214 rfl ?_;refine wA ?_;refine .p h1 ?_;refine wA ?_;refine .p h2 ?_;refine wA ?_;exact⟨_,rfl,rfl⟩
theorem Ek(u:Tm)(Ei:iQ u=true):aI C 277 [enc u] (.ct [enc u,.aa false []]):=by
 have h1:=nU u ⟨#[101,120,112]⟩;rw[show db u ⟨#[101,120,112]⟩=false from(jF Ei).2.2.1]at h1;rw[ao]at h1 ⊢;refine aI.x T6 Tryz.func277 rfl ?_;refine wA ?_;refine .p h1 ?_;refine wA ?_;exact⟨_,rfl,by simp⟩
theorem G7(u t:Tm)(hu:ax u<10000000)(ht:ax t<10000000)(hft:iQ t=true)(bN:aT u t≠0)(i1 i2 i3:Nat)(H:ab)(hH:HV H)(h1:H[i1]?=some ⟨.m,0,4,[.agg [.int .i64 u.k,.str u.s,.int .i64 u.o,.aa false (ae u.l)]]⟩):
  ay C 278 [enc t,.ptr i1 0 0 0,.ptr i2 0 0 0,.ptr i3 0 0 0] H (λr h'=>r=.bool false/\gq H h'):=by
 have g1:=Ek t hft;have g2:=nS u t (by omega) (by omega);have VL:=ag h1;rw[decide_eq_false bN]at g2;rw[ao]at g1 g2 ⊢;rw[ao t]at g2
 have f1:(H++[(⟨.m,0,4,[.agg [.int .i64 t.k,.str t.s,.int .i64 t.o,.aa false (ae t.l)]]⟩:aw)]++[⟨.m,0,4,[.agg [.int .i64 t.k,.str t.s,.int .i64 t.o,.aa false (ae t.l)]]⟩])[i1]?=some ⟨.m,0,4,[.agg [.int .i64 u.k,.str u.s,.int .i64 u.o,.aa false (ae u.l)]]⟩:=by
  rw[abj (by simp;omega),abj VL];exact h1
 refine ay.x T6 Tryz.func278 rfl ?_;refine wA ?_;refine .p g1 ?_;refine wA ?_;refine .p g2 ?_;refine wA ?_;exact⟨rfl,((gq.refl _).cB (HV.one (by simp))).cB (HV.one (by simp))⟩
theorem Em(s:List Tm)(hs:kQ s)(hf:∀t∈s,iQ t=true)(u:Tm)(hu:ax u<10000000)(hn:bF s u=false)(Ei:iQ u=true):aI C 213 [.aa false (ae s),enc u] (.bool false):=by
 have h1:=Ek u Ei;have hlen:=hs.len;obtain⟨B,hB⟩:∃B:ab,B=[⟨.m,0,1,[.aa false (ae s)]⟩,⟨.m,0,4,[.agg [.int .i64 u.k,.str u.s,.int .i64 u.o,.aa false (ae u.l)]]⟩,⟨.m,0,4,[.agg [.int .i64 u.k,.str u.s,.int .i64 u.o,.aa false (ae u.l)]]⟩,⟨.m,0,1,[.aa false []]⟩]:=⟨_,rfl⟩;have hB2:B[2]?=some ⟨.m,0,4,[.agg [.int .i64 u.k,.str u.s,.int .i64 u.o,.aa false (ae u.l)]]⟩:=by rw[hB];rfl
 have hBv:HV B:=by
  rw[hB];intro o ho;simp only[abu,acB,or_false]at ho;rcases ho with rfl |rfl |rfl |rfl <;>simp[ar,aW]
 have hc:=IZ s 278 [.ptr 2 0 0 0,.ptr 3 0 0 0,.ptr 0 0 0 0] (λ_=>false) B (by omega) (λx hx=>il.opened λH' hE=>G7 u x hu (hs.bk x hx) (hf x hx) (λh0=>by
  have:=bU.2 ((cP h0)▸hx);rw[hn]at this;cases this) 2 3 0 H' (hE.hv hBv) (hE.at hB2))
 have ha:(s.any λ_=>false)=false:=by simp
 rw[ha]at hc;rw[ao]at h1 ⊢;refine aI.x T6 Tryz.func213 rfl ?_;refine wA ?_;refine .p h1 ?_;refine wA ?_;rw[<-hB];refine .ex hc (λh' hE=>?_);refine wA ?_;exact⟨_,rfl,rfl⟩
end bE
structure Cl(u s r:List Tm):Prop where
 oT:fv r
 base:∀x∈s,x∈r
 Ep:∀x∈r,x∈u/\sf u s x
def eJ(u r:List Tm):Nat:=u.countP λt=>!bF r t
theorem Cl.len{u s r:List Tm}(U:Bn u)(h:Cl u s r):r.length<=u.length:=by
 have:r=u.filter (bF r):=mL h.oT (iR U.oT) λy=>by
  rw[acf,bU];exact⟨λhy=>⟨(h.Ep y hy).1,hy⟩,λhy=>hy.2⟩
 rw[this];exact acm _ _
theorem N'{p q r:List Tm}{t:Tm}(h:bF r t=false):eJ (p++t::q) (fj t r)<eJ (p++t::q) r:=by
 have hm:∀l:List Tm,eJ l (fj t r)<=eJ l r:=λl=>by
  refine adJ λx _ hx=>?_;simp only[acG]at hx ⊢
  cases hh:bF r x with
  |false=>rfl
  |true=>
   rw[bU.2 ((oP t r x).2 (.inr (bU.1 hh)))]at hx
   cases hx
 have ht:bF (fj t r) t=true:=bU.2 ((oP t r t).2 (.inl rfl));have h1:=hm p;have h2:=hm q;unfold eJ at *;rw[adA,adA,acO,acO,ht,h];simp;omega
theorem Cl.add{u s r:List Tm}(U:Bn u)(h:Cl u s r){t:Tm}(ht:t∈u)(hs:nV r t=true):Cl u s (fj t r):=by
 refine⟨xO h.oT,λx hx=>(oP _ _ _).2 (.inr (h.base x hx)),λx hx=>?_⟩;rcases(oP _ _ _).1 hx with rfl |hx
 ·exact⟨ht,sf.step U h.Ep ht hs⟩
 ·exact h.Ep x hx
namespace bE
open Go.Proofs
attribute [local irreducible] aD az aL aJ Ev ah aj ay aY bJ
theorem Cl.ok{u s r:List Tm}(U:Bn u)(h:Cl u s r)(hl:u.length<10000000)(hb:∀b∈u,ax b<10000000):kQ r:=
 ⟨h.oT,by have:=h.len U;omega,λb dS=>hb b (h.Ep b dS).1⟩
theorem Er(s:List Tm)(hs:kQ s)(hf:∀t∈s,iQ t=true)(u:Tm)(hu:ax u<10000000)(hn:bF s u=false)(Ei:iQ u=true)(hv:valid u=0):aI C 212 [.aa false (ae s),enc u] (.bool false):=by
 have cr:=ai s;have NE:=hs.len;have f1:=(jF Ei).2.2.2.2.1;have f2:=(jF Ei).2.2.2.1;have h1:=Ky u hv hu f1 f2;have h2:=Bo [u] (by simp) (λt ht=>by simp at ht;rw[ht];omega);have h3:=Kz u hv hu f1 f2;have hsu:gb [u]=[u]:=rfl;have wm:ae [u]=[.agg [.int .i64 u.k,.str u.s,.int .i64 u.o,.aa false (ae u.l)]]:=by rw[ae,ao];rfl
 rw[hsu]at h2;rw[wm]at h1 h2;have ga:kQ [u]:=⟨by simp[fv],by simp,λb hb=>by simp at hb;rw[hb];exact hu⟩;rw[ao]at h1 h3 ⊢;refine aI.x T6 Tryz.func212 rfl ?_;refine wA ?_;refine .p h1 ?_;refine wA ?_;refine cO.zip T6 s (λp q L H=>L=[(0,.aa false (ae s)),(3,.ptr 0 0 0 0),(5,.aa false [.agg [.int .i64 u.k,.str u.s,.int .i64 u.o,.aa false (ae u.l)]]),(22,.aa false (ae s)),(23,.int .i64 (ae s).length),(24,.int .i64 p.length)]/\HV H/\H[0]?=some ⟨.m,0,4,[.agg [.int .i64 u.k,.str u.s,.int .i64 u.o,.aa false (ae u.l)]]⟩) (.nx ⟨rfl,HV.one (by simp),rfl⟩) ?_ ?_
 ·rintro p t q _ H ρ e ⟨rfl,hH,h0⟩;have cm:=bg e;have di:=lenE e;have g1:=nU t ⟨#[120,111,114]⟩;rw[show db t ⟨#[120,111,114]⟩=false from(jF (hf t (by rw[e];simp))).2.2.2.1,ao]at g1;refine wA ?_;refine .p g1 ?_;refine wA ?_;exact .nx ⟨rfl,hH.cB (HV.one (by simp)),by rw[abj (ag h0)];exact h0⟩
 ·rintro _ H ρ ⟨rfl,hH,h0⟩;refine wA ?_;refine .p h2 ?_;refine wA ?_;refine cO.zip T6 s (λp q L H=>L=[(3,.ptr 0 0 0 0),(11,.aa false [.agg [.int .i64 u.k,.str u.s,.int .i64 u.o,.aa false (ae u.l)]]),(12,.aa true []),(42,.aa false (ae s)),(43,.int .i64 (ae s).length),(44,.int .i64 p.length)]/\HV H/\H[0]?=some ⟨.m,0,4,[.agg [.int .i64 u.k,.str u.s,.int .i64 u.o,.aa false (ae u.l)]]⟩) (.nx ⟨rfl,hH,h0⟩) ?_ ?_
  ·rintro p t q _ H ρ e ⟨rfl,hH,h0⟩;have cm:=bg e;have di:=lenE e;have dV:t∈s:=by rw[e];simp
   have g1:=nU t ⟨#[120,111,114]⟩;have g2:=ga.has (hs.bk t dV)
   have YN:bF [u] t=false:=by
    cases hh:bF [u] t with
    |false=>rfl
    |true=>
     have h4:=bU.1 hh;simp at h4;rw[<-h4,bU.2 dV]at hn
     cases hn
   rw[YN,wm]at g2;rw[show db t ⟨#[120,111,114]⟩=false from(jF (hf t dV)).2.2.2.1]at g1;rw[ao]at g1 g2;refine wA ?_;refine .p g1 ?_;refine wA ?_;refine .p g2 ?_;refine wA ?_;exact .nx ⟨rfl,hH.cB (HV.one (by simp)),by rw[abj (ag h0)];exact h0⟩
  ·rintro _ H ρ ⟨rfl,hH,h0⟩;refine wA ?_;refine .p h3 ?_;refine wA ?_;exact⟨_,rfl,rfl⟩
theorem Oa(s:List Tm)(hs:kQ s)(hf:∀t∈s,iQ t=true)(Gz:∀t∈s,gw t=0)(u:Tm)(hu:ax u<10000000)(Ei:iQ u=true)(hv:valid u=0):aI C 164 [.aa false (ae s),enc u] (.bool (nV s u)):=by
 have Qq:u.l.length<10000000:=by obtain⟨k,n,o,l⟩:=u;have:=ba l;simp only[ax]at hu;simp only[Tm.l];omega
 have h1:=hs.has hu;have h2:=GV u (by omega) (by omega);have h3:=Cx s hs u hu;have h4:=G8 s hs Gz u hu;have h5:=Er s hs hf u hu;have h6:=Em s hs hf u hu;have h7:=wv s hs hf u hu;have hR:nV s u=(bF s u ||wq u ||mg s u ||vL s u):=rfl;rw[hR];rw[ao]at h1 h2 h3 h4 h5 h6 h7 ⊢;refine aI.x T6 Tryz.func164 rfl ?_;refine wA ?_;refine .p h1 ?_
 cases hn:bF s u
 ·refine wA ?_;refine .p h2 ?_
  cases wq u
  ·refine wA ?_;refine .p h3 ?_
   cases mg s u
   ·refine wA ?_;refine .p h4 ?_
    cases vL s u
    ·refine wA ?_;refine .p (h5 hn Ei hv) ?_;refine wA ?_;refine .p (h6 hn Ei) ?_;refine wA ?_;refine .p (h7 hn Ei hv) ?_;refine wA ?_;exact⟨_,rfl,rfl⟩
    ·refine wA ?_;exact⟨_,rfl,rfl⟩
   ·refine wA ?_;exact⟨_,rfl,rfl⟩
  ·refine wA ?_;exact⟨_,rfl,rfl⟩
 ·refine wA ?_;exact⟨_,rfl,rfl⟩
theorem Es(u s:List Tm)(U:Bn u)(hs:fv s)(hsu:∀x∈s,x∈u)(hl:u.length<10000000)(hb:∀b∈u,ax b<10000000):aI C 115 [.aa false (ae s),.aa false (ae u)] (.aa false (ae (qe u s))):=by
 have cr:=ai u;refine aI.x T6 Tryz.func115 rfl ?_;refine wA ?_;refine cO.nat T6 (λn L H=>∃r g,n=eJ u r+(if g then 1 else 0)/\L=[(0,.aa false (ae r)),(1,.aa false (ae u)),(5,.bool g)]/\Cl u s r/\(g=false->∀t∈u,nV r t=true->t∈r)/\HV H) (eJ u s+1) (.nx ⟨s,true,rfl,rfl,⟨hs,λ_ h=>h,λx hx=>⟨hsu x hx,.base hx⟩⟩,by simp,HV.nil⟩) ?_;rintro n _ H ρ ⟨r,g,rfl,rfl,hc,hg,hH⟩
 cases g with
 |false=>
  have hr:r=qe u s:=I0 U hc.oT hc.Ep λt ht hd=>sf.fix U hc.base (λx hx=>(hc.Ep x hx).1) (hg rfl) hd
  refine wA ?_;exact⟨_,rfl,by rw[<-hr];simp[aO,b9,aZ]⟩
 |true=>
  refine wA ?_;refine cO.zip T6 u (λp q L K=>∃r' g',L=[(0,.aa false (ae r')),(1,.aa false (ae u)),(5,.bool g'),(9,.aa false (ae u)),(10,.int .i64 (ae u).length),(11,.int .i64 p.length)]/\Cl u s r'/\(g'=true->eJ u r'<eJ u r)/\(g'=false->r'=r/\∀t∈p,nV r t=true->t∈r)/\HV K) (.nx ⟨r,false,rfl,hc,by simp,λ_=>⟨rfl,by simp⟩,hH⟩) ?_ ?_
  ·rintro p t q _ K ρ e ⟨r',g',rfl,tX,I1,qI,hK⟩;have cm:=bg e;have di:=lenE e;have mS:t∈u:=by rw[e];simp
   have ga:kQ r':=Cl.ok U tX hl hb;have h1:=ga.has (hb t mS);have h2:=Oa r' ga (λx hx=>U.fr x (tX.Ep x hx).1) (λx hx=>U.ok x (tX.Ep x hx).1) t (hb t mS) (U.fr t mS) (iE.1 (U.ok t mS)).1;have h3:=Ko r' t tX.oT ga.len (λb dS=>by have:=ga.bk b dS;omega) (by have:=hb t mS;omega);rw[ao]at h1 h2 h3;refine wA ?_;refine .p h1 ?_
   cases hh:bF r' t
   ·refine wA ?_;refine .p h2 ?_
    cases Bp:nV r' t
    ·refine wA ?_;refine .nx ⟨r',g',rfl,tX,I1,λh=>⟨(qI h).1,λx hx rE=>?_⟩,hK.cB (HV.one (by simp))⟩;rcases abp.1 hx with hx |hx
     ·exact(qI h).2 x hx rE
     ·simp at hx;rw[hx,<-(qI h).1,Bp]at rE
      cases rE
    ·refine wA ?_;refine .p h3 ?_;refine wA ?_;refine .nx ⟨fj t r',true,rfl,tX.add U mS Bp,λ_=>?_,by simp,hK.cB (HV.one (by simp))⟩;have cG:eJ u (fj t r')<eJ u r':=by rw[e];exact N' hh
     cases LZ:g' with
     |true=>have:=I1 LZ;omega
     |false=>rw[(qI LZ).1]at cG;rw[(qI LZ).1];exact cG
   ·refine wA ?_;refine .nx ⟨r',g',rfl,tX,I1,λh=>⟨(qI h).1,λx hx rE=>?_⟩,hK.cB (HV.one (by simp))⟩;rcases abp.1 hx with hx |hx
    ·exact(qI h).2 x hx rE
    ·simp at hx;rw[hx,<-(qI h).1];exact bU.1 hh
  ·rintro _ K ρ ⟨r',g',rfl,tX,I1,qI,hK⟩;refine wA ?_;refine .nx ⟨eJ u r'+(if g' then 1 else 0),?_,r',g',rfl,rfl,tX,λh=>?_,hK⟩
   ·cases g' with
    |true=>have:=I1 rfl;simp;omega
    |false=>rw[(qI rfl).1];simp
   ·obtain⟨rfl,h2⟩:=qI h;exact h2
theorem Ap(k:List Tm)(t:Tm)(hf:∀u∈k++[t],iQ u=true)(hl:bp (k++[t])<10000000):
  aI C 58 [.aa false (ae k),enc t] (.ct [.bool (nh k t),.int .i64 (fF k t)]):=by
 have vq:=ba (k++[t]);simp only[abr,abx,abX]at vq;have FK:∀u∈k++[t],ax u<10000000:=λu hu=>by have:=bC hu;omega
 have YO:=qS FK;have hUl:=mh (k++[t]);have h1:=Cy k t hf hl;have wm:ae [t]=[.agg [.int .i64 t.k,.str t.s,.int .i64 t.o,.aa false (ae t.l)]]:=by rw[ae,ao];rfl
 rw[wm]at h1
 by_cases hE:fF k t=0
 ·rw[if_neg (by omega),hE]at h1
  have hrk:jg (k++[t])=0:=by
   unfold fF at hE
   split at hE
   ·omega
   ·split at hE
    ·omega
    ·omega
  have U:Bn (fQ (k++[t])):=Ob λx hx=>⟨(Bq (sg hrk x hx)).1,hf x hx⟩
  have Yw:∀x∈gb k,x∈fQ (k++[t]):=λx hx=>(eG _ _).2 (fm.2 ⟨x,by simp[(eG _ _).1 hx],pT x⟩)
  have h2:=Bo k (by omega) (λx hx=>by have:=FK x (by simp[hx]);omega);have h3:=Es _ _ U (jA k) Yw (by omega) YO;have hd:kQ (qe (fQ (k++[t])) (gb k)):=⟨iR U.oT,by have:=acm (λx=>@decide (sf (fQ (k++[t])) (gb k) x) (Classical.propDecidable _)) (fQ (k++[t]));unfold qe;omega,λb hb=>YO b (I2.1 hb).1⟩;have h4:=hd.has (FK t (by simp));have hR:nh k t=bF (qe (fQ (k++[t])) (gb k)) t:=by rw[nh,decide_eq_true hE,acs]
  rw[hR,hE];rw[ao]at h4 ⊢;refine aI.x T6 Tryz.func58 rfl ?_;refine wA ?_;refine .p h1 ?_;refine wA ?_;refine .p h2 ?_;refine wA ?_;refine .p h3 ?_;refine wA ?_;refine .p h4 ?_;refine wA ?_;exact⟨_,rfl,rfl⟩
 ·rw[if_pos hE]at h1;have hR:nh k t=false:=by rw[nh,decide_eq_false hE,Bool.false_and]
  rw[hR,ao];refine aI.x T6 Tryz.func58 rfl ?_;refine wA ?_;refine .p h1 ?_;refine wA ?_;exact⟨_,rfl,rfl⟩
theorem atM{l p q:List Tm}{u:Tm}{tl:List PV}(e:l=p++u::q):(ae l++tl)[0+p.length]?=some (.agg [.int .i64 u.k,.str u.s,.int .i64 u.o,.aa false (ae u.l)]):=by
 rw[abE,abj (by have:=congrArg List.length e;simp at this;rw[ai];omega)];exact bg e
theorem Ri(l:List Tm)(tl:List PV)(g:FuncId)(p:Tm->Bool)(id ep:Nat)(H:ab)(e0:H[id]?=some ⟨.m,ep,4,ae l++tl⟩)(hl:l.length<1000000000)(hp:∀x∈l,aI C g [enc x] (.bool (p x)))(hm:C.mode g=.pure):
  ay C 142 [.ak id ep 0 l.length,.fn g []] H (λr h'=>r=.int .i64 (wo p l)/\gq H h'):=by
 have cr:=ai l;refine ay.x T6 Tryz.func142 rfl ?_;refine wA ?_;refine cO.zip T6 l (λa q L K=>L=[(0,.ak id ep 0 l.length),(1,.fn g []),(7,.int .i64 l.length),(8,.int .i64 a.length)]/\gq H K/\∀y∈a,p y=false) (.nx ⟨rfl,gq.refl _,by simp⟩) ?_ ?_
 ·rintro a x q _ K ρ e ⟨rfl,hE,ha⟩;have cm:=atM (tl:=tl) e;have hK:=hE.at e0;have di:=lenE e;have Co:=hp x (by rw[e];simp);have hla:(ae l++tl).length=l.length+tl.length:=by rw[abr,cr]
  rw[ao]at Co;refine wA ?_;refine aj.pure hm rfl (by simpa using Co) ?_
  cases hb:p x
  ·refine wA ?_;exact .nx ⟨rfl,hE,λy hy=>by rcases abp.1 hy with h |h;exact ha y h;simp at h;rw[h];exact hb⟩
  ·refine wA ?_;exact⟨by rw[e,qO ha hb];rfl,hE⟩
 ·rintro _ K ρ ⟨rfl,hE,ha⟩;refine wA ?_;exact⟨by rw[lJ ha];rfl,hE⟩
theorem _root_.Go.Pm.YP{C:cR}(T:lQ C.P){run:iI}{lv:Nat}{L:Al}{ρ:Nat->PV}{h:ab}{t el:TypeId}{x lo:Operand}{k:IntKind}{id ep len sz a:Nat}{o:aw}(hx:cM L x=some (.ak id ep 0 len))(zP:cM L lo=some (.int k a))(hk:T.kd t=some (.sl el))(hs:T.ts el=some sz)(hg:getM h id ep=some o)(gM:sz=o.bM)(hl:len<=o.es.length)(ha:a<len):au C run lv (.slice t x (some lo) none none) (al L ρ) h=some (.ak id ep a (len - a),h):=by
 have h1:cJ (some (.int k a)) 0 len=some a:=by simp[cJ];omega
 have h2:cf C.P h t (.ak id ep 0 len) (some (.int k a)) none none=some (.ak id ep a (len - a)):=by
  unfold cf;rw[bz (T.cT _ _ hk)];simp only[T.dV _ _ hs,hg];rw[if_pos ⟨gM,by omega⟩];simp only[beyond,cJ];rw[if_pos ⟨by omega,by omega⟩]
  by_cases h0:a=0
  ·subst h0;simp
  ·simp[h0];omega
 simp[au,aC,an hx,an zP,h2]
theorem _root_.Go.Pm.Oc{C:cR}(T:lQ C.P){run:iI}{lv:Nat}{L:Al}{ρ:Nat->PV}{h:ab}{t el:TypeId}{x hi:Operand}{k:IntKind}{id ep len sz b:Nat}{o:aw}(hx:cM L x=some (.ak id ep 0 len))(zQ:cM L hi=some (.int k b))(hk:T.kd t=some (.sl el))(hs:T.ts el=some sz)(hg:getM h id ep=some o)(gM:sz=o.bM)(hl:len<=o.es.length)(hb:b<=len):au C run lv (.slice t x none (some hi) none) (al L ρ) h=some (.ak id ep 0 b,h):=by
 have h2:cf C.P h t (.ak id ep 0 len) none (some (.int k b)) none=some (.ak id ep 0 b):=by
  unfold cf;rw[bz (T.cT _ _ hk)];simp only[T.dV _ _ hs,hg];rw[if_pos ⟨gM,by omega⟩];simp only[beyond,cJ];rw[if_neg (by omega)];simp;rw[if_pos hb]
 simp[au,aC,an hx,an zQ,h2]
theorem _root_.Go.Pm.YQ{C:cR}(T:lQ C.P){run:iI}{L:Al}{ρ:Nat->PV}{h:ab}{t el:TypeId}{x:Operand}{id ep off len:Nat}{o:aw}{z:PV}(hx:cM L x=some (.ak id ep off len))(hk:T.kd t=some (.sl el))(hs:T.ts el=some o.bM)(hz:T.tz el=some z)(hg:getM h id ep=some o)(hm:o.mu=.m)(hl:off+len<=o.es.length)(h1:(cells z).length=o.bM)(h2:(cells z).all bH=true):au C run 2 (.call ⟨.builtin .clear,#[x],#[t]⟩) (al L ρ) h=some (.ct [],h.set id {o with es:=o.es.take off++List.replicate len z++o.es.drop (off+len)}):=by
 have h3:mX C.P 2 h t (.ak id ep off len)=some (.ct [],h.set id {o with es:=o.es.take off++List.replicate len z++o.es.drop (off+len)}):=by
  unfold mX;rw[bz (T.cT _ _ hk)];simp only[T.dV _ _ hs,T.nt _ _ hz,hg];rw[if_pos (by simp only[hm,h1,h2,hl,and_self,abn])]
 simp[au,bt,an hx,h3]
theorem Rj(l:List Tm)(tl:List PV)(ht:ar tl=true)(g:FuncId)(p:Tm->Bool)(id ep:Nat)(H:ab)(hH:HR H)(e0:H[id]?=some ⟨.m,ep,4,ae l++tl⟩)(hl:l.length<1000000000)(hp:∀x∈l,aI C g [enc x] (.bool (p x)))(hm:C.mode g=.pure):
  ay C 104 [.ak id ep 0 l.length,.fn g []] H (λr h'=>(HR h'/\H.length<=h'.length/\∀j,j<H.length->j≠id->h'[j]?=H[j]?)/\r=.ak id ep 0 (l.filter λx=>!p x).length/\Aq h' r (l.filter λx=>!p x)):=by
 have VJ:=Ri l tl g p id ep H e0 hl hp hm;have cr:=ai l
 by_cases rr:∀y∈l,p y=false
 ·rw[lJ rr]at VJ
  have IN:(l.filter λx=>!p x)=l:=by
   rw[List.filter_eq_self]
   intro x hx
   rw[rr x hx];rfl
  rw[IN];refine ay.x T6 Tryz.func104 rfl ?_;refine wA ?_;refine .ex VJ (λh' hE=>?_);obtain⟨J,hJ,rfl⟩:=hE;refine wA ?_;exact⟨⟨hH.dA hJ,by simp,λj hj _=>abj hj⟩,rfl,id,ep,tl,rfl,by rw[abj (ag e0)];exact e0,ht⟩
 ·obtain⟨a,x,b,e,ha,hx⟩:∃a x b,l=a++x::b/\(∀y∈a,p y=false)/\p x=true:=by
   clear VJ hp e0 cr hl
   induction l with
   |nil=>exact absurd (by simp) rr
   |cons y l ih=>
    cases hy:p y with
    |true=>exact⟨[],y,l,rfl,by simp,hy⟩
    |false=>
     obtain⟨a,x,b,rfl,h1,h2⟩:=ih (λh=>rr λz hz=>by rcases abu.1 hz with rfl |hz;exact hy;exact h z hz);exact⟨y::a,x,b,rfl,λz hz=>by rcases abu.1 hz with rfl |hz;exact hy;exact h1 z hz,h2⟩
  have hi:wo p l=a.length:=by rw[e];exact qO ha hx
  rw[hi]at VJ
  have hfa:(a.filter λx=>!p x)=a:=by
   rw[List.filter_eq_self]
   intro y hy
   rw[ha y hy];rfl
  have tY:=lenE e;refine ay.x T6 Tryz.func104 rfl ?_;refine wA ?_;refine .ex VJ (λh' hE=>?_);obtain⟨J,hJ,rfl⟩:=hE;have aaj:=ag e0;have e1:(H++J)[id]?=some ⟨.m,ep,4,ae l++tl⟩:=by rw[abj aaj];exact e0
  refine wA ?_;refine cO.zip T6 b (λc q L K=>L=[(0,.ak id ep 0 l.length),(1,.fn g []),(5,.int .i64 (a++c.filter λx=>!p x).length),(6,.int .i64 (a.length+1+c.length))]/\(HR K/\H.length<=K.length/\∀j,j<H.length->j≠id->K[j]?=H[j]?)/\∃N,0<N.length/\K[id]?=some ⟨.m,ep,4,ae (a++c.filter λx=>!p x)++ae N++(ae q++tl)⟩/\(a++c.filter λx=>!p x).length+N.length+q.length=l.length) (.nx ⟨rfl,⟨hH.dA hJ,by simp,λj hj _=>abj hj⟩,[x],by simp,?_,?_⟩) ?_ ?_
  ·rw[e1,e,bT,ae];simp[ae]
  ·simp;omega
  ·rintro c u q _ K ρ e2 ⟨rfl,⟨hK,G9,Br⟩,N,hM,hA,hn⟩;have Co:=hp u (by rw[e,e2];simp);rw[ao]at Co
   have hFs:a++(c++[u]).filter (λx=>!p x)=(a++c.filter λx=>!p x)++if p u then[]else[u]:=by
    rw[ada,abI]
    cases hb:p u <;>simp[hb]
   rw[hFs];obtain⟨F,hF⟩:∃F,F=a++c.filter λx=>!p x:=⟨_,rfl⟩
   rw[<-hF]at hA hn ⊢;have hFl:=ai F;have hNl:=ai N;have di:=congrArg List.length e2;simp only[abr,abx]at di hn;have dw:F.length+N.length=a.length+1+c.length:=by omega
   obtain⟨A,PZ⟩:∃A,A=ae F++ae N++(ae (u::q)++tl):=⟨_,rfl⟩;rw[<-PZ]at hA
   have cm:A[0+(a.length+1+c.length)]?=some (.agg [.int .i64 u.k,.str u.s,.int .i64 u.o,.aa false (ae u.l)]):=by
    rw[PZ,abE,abt (by simp;omega)];simp only[abr];rw[show a.length+1+c.length - ((ae F).length+(ae N).length)=0 by omega,ae,ao]
    rfl
   have FB:A.length=l.length+tl.length:=by
    rw[PZ];simp only[abr,abx,ai];omega
   have aak:=ag hA;have f0:(K++[(⟨.m,0,4,[.agg [.int .i64 u.k,.str u.s,.int .i64 u.o,.aa false (ae u.l)]]⟩:aw)])[id]?=some ⟨.m,ep,4,A⟩:=by rw[abj aak];exact hA
   have fb:(K++[(⟨.m,0,4,[.agg [.int .i64 u.k,.str u.s,.int .i64 u.o,.aa false (ae u.l)]]⟩:aw)])[K.length]?=some ⟨.m,0,4,[.agg [.int .i64 u.k,.str u.s,.int .i64 u.o,.aa false (ae u.l)]]⟩:=by simp
   have wm:ae (u::q)=.agg [.int .i64 u.k,.str u.s,.int .i64 u.o,.aa false (ae u.l)]::ae q:=by rw[ae,ao]
   have PN:ae [u]=[.agg [.int .i64 u.k,.str u.s,.int .i64 u.o,.aa false (ae u.l)]]:=by rw[ae,ao];rfl
   refine wA ?_;refine aj.pure hm rfl (by simpa using Co) ?_
   cases hb:p u
   ·obtain⟨y,N2,rfl⟩:∃y N2,N=y::N2:=by
     cases N with
     |nil=>simp at hM
     |cons y M2=>exact⟨y,M2,rfl⟩
    have ey:A[0+F.length]?=some (.agg [.int .i64 y.k,.str y.s,.int .i64 y.o,.aa false (ae y.l)]):=by
     rw[PZ,abE,abI,abt (by omega),hFl,acw,ae,ao];rfl
    have eL:A.set (0+F.length) (.agg [.int .i64 u.k,.str u.s,.int .i64 u.o,.aa false (ae u.l)])=ae (F++[u])++ae (N2++[u])++(ae q++tl):=by
     rw[PZ,abE,abI,acA _ _ (by omega),hFl,acw,wm,bT,bT,PN,ae];simp
    simp only[abx]at dw hn;rw[if_neg (by simp)];refine wA ?_;refine .nx ⟨rfl,⟨(hK.dA (HV.one (by simp))).set id (by simp) ?_,by simp;omega,λj h1 h2=>by rw[abm (by omega),abj (by omega)];exact Br j h1 h2⟩,N2++[u],by simp,?_,by simp at hn ⊢;omega⟩
    ·rw[eL];exact bj _ _ (by rw[dy,dy,dy,ht];simp)
    ·rw[<-eL];exact abl (ag f0)
   ·rw[if_pos rfl,abJ];refine wA ?_;refine .nx ⟨rfl,⟨hK.dA (HV.one (by simp)),by simp;omega,λj h1 h2=>by rw[abj (by omega)];exact Br j h1 h2⟩,N++[u],by simp,?_,by simp at hn ⊢;omega⟩;rw[f0,PZ,wm,bT,PN];simp
  ·rintro _ K ρ ⟨rfl,⟨hK,G9,Br⟩,N,hM,hA,hn⟩;have pu:(l.filter λx=>!p x)=a++b.filter λx=>!p x:=by rw[e,ada,hfa,List.filter_cons,if_neg (by simp[hx])]
   rw[pu];have hFl:=ai (a++b.filter λx=>!p x);have hNl:=ai N;generalize(a++b.filter λx=>!p x)=F at *;simp only[abX,acY]at hn;obtain⟨A,PZ⟩:∃A,A=ae F++ae N++(ae []++tl):=⟨_,rfl⟩;rw[<-PZ]at hA
   have FB:A.length=l.length+tl.length:=by
    rw[PZ];simp only[abr,ae,abX];omega
   have hg:getM K id ep=some ⟨.m,ep,4,A⟩:=bo hA rfl (by simp)
   have eL:A.take F.length++List.replicate (l.length - F.length) (PV.agg [.int .i64 0,.str ByteArray.empty,.int .i64 0,.aa true []])++A.drop (F.length+(l.length - F.length))=ae F++(List.replicate (l.length - F.length) (PV.agg [.int .i64 0,.str ByteArray.empty,.int .i64 0,.aa true []])++tl):=by
    rw[PZ,abW (by simp <;>omega),abW (by omega),abO (by omega),abI]
    congr 2
    rw[show ae F++ae N++(ae []++tl)=(ae F++ae N)++tl by simp[ae],acq (by simp <;>omega),List.drop_of_length_le (by simp <;>omega),abT]
   have Ab:ar (List.replicate (l.length - F.length) (PV.agg [.int .i64 0,.str ByteArray.empty,.int .i64 0,.aa true []])++tl)=true:=by
    rw[dy,ht,acN,bB,abk]
    intro y hy
    rw[acg hy];rfl
   refine wA ?_;refine .mk (λrun lv ρ=>YP T6 (o:=⟨.m,ep,4,A⟩) rfl rfl rfl rfl hg rfl (by show _<=A.length;omega) (by omega)) ?_;refine wA ?_;refine .mk (λrun ρ=>YQ T6 (o:=⟨.m,ep,4,A⟩) rfl rfl rfl rfl hg rfl (by show _<=A.length;omega) rfl rfl) ?_;rw[show(⟨.m,ep,4,A.take F.length++List.replicate (l.length - F.length) (PV.agg [.int .i64 0,.str ByteArray.empty,.int .i64 0,.aa true []])++A.drop (F.length+(l.length - F.length))⟩:aw)=⟨.m,ep,4,ae F++(List.replicate (l.length - F.length) (PV.agg [.int .i64 0,.str ByteArray.empty,.int .i64 0,.aa true []])++tl)⟩ by rw[eL]];have f1:(K.set id (⟨.m,ep,4,ae F++(List.replicate (l.length - F.length) (PV.agg [.int .i64 0,.str ByteArray.empty,.int .i64 0,.aa true []])++tl)⟩:aw))[id]?=some ⟨.m,ep,4,ae F++(List.replicate (l.length - F.length) (PV.agg [.int .i64 0,.str ByteArray.empty,.int .i64 0,.aa true []])++tl)⟩:=abl (ag hA);have Ul:(ae F++(List.replicate (l.length - F.length) (PV.agg [.int .i64 0,.str ByteArray.empty,.int .i64 0,.aa true []])++tl)).length=l.length+tl.length:=by simp only[abr,acQ];omega
   have qI:=bo f1 rfl (by simp);refine wA ?_;refine .mk (λrun lv ρ=>Oc T6 (o:=⟨.m,ep,4,ae F++(List.replicate (l.length - F.length) (PV.agg [.int .i64 0,.str ByteArray.empty,.int .i64 0,.aa true []])++tl)⟩) rfl rfl rfl rfl qI rfl (by rw[show(⟨.m,ep,4,ae F++(List.replicate (l.length - F.length) (PV.agg [.int .i64 0,.str ByteArray.empty,.int .i64 0,.aa true []])++tl)⟩:aw).es.length=_ from Ul];omega) (by omega)) ?_;refine wA ?_;exact⟨⟨hK.set id (by simp) (bj _ _ (by rw[dy,Ab];simp)),by simp;omega,λj h1 h2=>by rw[abm (by omega)];exact Br j h1 h2⟩,rfl,id,ep,_,rfl,f1,Ab⟩
theorem aj.del{f:FuncId}{args:List PV}{H:ab}{id ep:Nat}{F:List Tm}{Q:PV->ab->Prop}{X:ab->Prop}(bW:id<H.length)
  (a:ay C f args H (λr h'=>(HR h'/\H.length<=h'.length/\X h')/\r=.ak id ep 0 F.length/\Aq h' r F))
  (q:∀k,HR k->Aq k (.ak id ep 0 F.length) F->Q (.ak id ep 0 F.length) k) (hm:C.mode f=.opened:=by rfl):aj C 2 f args H Q:=by
 refine aj.sm a (λr h' p=>⟨p.1.1,p.1.2.1⟩) (λr h' p=>?_) (λr h' p hr=>?_) hm
 ·obtain⟨⟨h1,_⟩,rfl,h3⟩:=p;exact q _ h1 h3
 ·obtain⟨⟨h1,h2,_⟩,rfl,eA,im,tl,e1,e2,e3⟩:=p
  cases e1
  exact q _ hr ⟨id,ep,tl,rfl,by rw[ab1 bW];exact e2,e3⟩
theorem Aq.Gc{h:ab}{r:PV}{l:List Tm}(o:Aq h r l):∃r1,rb h (aO [r])=some r1/\b9 r1=.aa false (ae l):=by
 obtain⟨id,ep,tl,rfl,e,ht⟩:=o;exact iC e (by rw[ai]) (by simp) (by simp)
theorem Rk(H:ab)(hH:HR H):ay C 72 [.aa true []] H (λr h'=>r=.aa true []/\h'=H++[⟨.m,0,1,[.aa true []]⟩]):=by
 refine ay.x T6 Tryz.func72 rfl ?_;refine wA ?_;refine cO.zip T6 ([]:List Tm) (λp q L K=>L=[(3,.ptr H.length 0 0 0),(6,.aa true []),(7,.int .i64 0),(8,.int .i64 p.length)]/\K=H++[⟨.m,0,1,[.aa true []]⟩]) (.nx ⟨rfl,rfl⟩) ?_ ?_
 ·rintro p u q _ K ρ e _
  cases p <;>cases e
 ·rintro _ _ ρ ⟨rfl,rfl⟩;have e1:(H++[(⟨.m,0,1,[.aa true []]⟩:aw)])[H.length]?=some ⟨.m,0,1,[.aa true []]⟩:=by simp
  refine wA ?_;refine .ln (vM _) (λr h' hr=>by rw[hr.2]) (λr h' hr=>?_);obtain⟨rfl,rfl⟩:=hr;refine wA ?_;exact⟨rfl,rfl⟩
theorem Rl(g:FuncId)(H:ab):ay C 142 [.aa true [],.fn g []] H (λr h'=>r=.int .i64 (-1)/\h'=H):=by
 refine ay.x T6 Tryz.func142 rfl ?_;refine wA ?_;refine cO.zip T6 ([]:List Tm) (λp q L K=>L=[(0,.aa true []),(1,.fn g []),(7,.int .i64 0),(8,.int .i64 p.length)]/\K=H) (.nx ⟨rfl,rfl⟩) ?_ ?_
 ·rintro p u q _ K ρ e _
  cases p <;>cases e
 ·rintro _ _ ρ ⟨rfl,rfl⟩;refine wA ?_;exact⟨rfl,rfl⟩
theorem Rm(g:FuncId)(H:ab):ay C 104 [.aa true [],.fn g []] H (λr h'=>r=.aa true []/\h'=H):=by
 refine ay.x T6 Tryz.func104 rfl ?_;refine wA ?_;refine .ln (Rl g H) (λr h' hr=>by rw[hr.2]) (λr h' hr=>?_);obtain⟨rfl,rfl⟩:=hr;refine wA ?_;exact⟨rfl,rfl⟩
theorem KA(t:Tm):aI C 105 [enc t] (.bool (decide (t.k≠1))):=by
 rw[ao];refine aI.x T6 Tryz.func105 rfl ?_;refine wC (λhc=>?_) λhc=>?_
 all_goals exact⟨_,rfl,by simp[aO, *]⟩
def fD(l:List fV):List Tm:=l.flatMap λd=>d.kn++[d.tm]
theorem Ar(l:List fV)(hl:l.length<1000000)(hb:bp (fD l)<10000000):aI C 53 [.aa false (cw l)] (.aa false (ae (dj l))):=by
 have cr:=jT l
 have hR:dj l=(fQ (fD l)).filter λx=>!(decide (x.k≠1)):=by
  unfold dj fD
  congr 1
  funext x
  simp
 rw[hR];have cG:=ba (fD l);refine aI.x T6 Tryz.func53 rfl ?_;refine wA ?_;refine cO.zip T6 l (λp q L H=>∃v,L=[(3,v),(6,.aa false (cw l)),(7,.int .i64 (cw l).length),(8,.int .i64 p.length)]/\HV H/\Out 4 H v (ae (fD p))/\(p=[]->v=.aa true [])) (.nx ⟨_,rfl,HV.nil,.inl ⟨rfl,rfl⟩,λ_=>rfl⟩) ?_ ?_
 ·rintro p d q _ H ρ e ⟨v,rfl,hH,ho,_⟩;have cm:=kJ e;have di:=lenE e;have m':fD (p++[d])=fD p++(d.kn++[d.tm]):=by simp[fD]
  have NE:(fD p).length+(d.kn++[d.tm]).length<=(fD l).length:=by rw[e];simp[fD]
  have hle:=ai (fD p);have hlu:=ai (d.kn++[d.tm]);have DW:=Bs d (by simp at NE;omega);rw[sV]at DW;have mB:=hH.cB (HV.one (ep:=0) (n:=5) (es:=[PV.agg [.aa false (ae d.kn),.int .i64 d.tm.k,.str d.tm.s,.int .i64 d.tm.o,.aa false (ae d.tm.l)]]) (by simp));have IP:=ho.cB [⟨.m,0,5,[PV.agg [.aa false (ae d.kn),.int .i64 d.tm.k,.str d.tm.s,.int .i64 d.tm.o,.aa false (ae d.tm.l)]]⟩];refine wA ?_;refine .p DW ?_;refine wG λv H lp=>?_;refine .nx ⟨_,rfl,lp.hv,?_,by simp⟩;have:=lp.out;rw[m',bT];exact this
 ·rintro _ H ρ ⟨v,rfl,hH,ho,Dw⟩;rcases ho with⟨rfl,e0⟩|⟨id,ep,rfl,e1⟩
  ·have e4:fD l=[]:=abA (by rw[<-ai,e0];rfl);rw[e4];refine wA ?_;refine aj.ex ((Rk H hH.hr).mono λr h' hr=>⟨hr.1,_,HV.one rfl,hr.2⟩) (λh' hE=>?_);refine wA ?_;refine .ln (Rm _ h') (λr h' hr=>by rw[hr.2]) (λr h' hr=>?_);obtain⟨rfl,rfl⟩:=hr;refine wA ?_;exact⟨_,rfl,rfl⟩
  by_cases h0:fD l=[]
  ·have:l=[]:=by
    cases l with
    |nil=>rfl
    |cons d l=>simp[fD]at h0
   cases Dw this
  ·have Bp:=tu (fD l) h0 H hH.hr id ep e1 hb;rw[ai]at *;refine wA ?_;refine .fr Bp (λr h' hr hb=>?_) (λr h' r1 r2 r3 r4=>?_)
   ·obtain⟨_,id,ep,n,rfl,bW⟩:=hr;simp[dZ,cK,dY]at hb;omega
   obtain⟨⟨id2,ep2,tl,rfl,e2,e3⟩,id3,ep3,n,e4,bW⟩:=r4;have hd:=Rj (fQ (fD l)) tl e3 105 (λx=>decide (x.k≠1)) id2 ep2 h' r1 e2 (by have:=mh (fD l);omega) (λx _=>KA x) rfl;refine wA ?_;refine aj.del (ag e2) hd (λk hk ho=>?_);refine wA ?_;exact ho.Gc
theorem BT{S:List dD}:∀{l:List Tm},lz S l=0->∀t∈l,(bI S t).2=0
 |[],_,t,h=>by cases h
 |u::l,e,t,h=>by
  rw[lz]at e
  split at e
  ·rename_i hn;exact absurd e hn
  ·rcases abu.1 h with rfl |h
   ·omega
   ·exact BT e t h
theorem uD{S:List dD}{d:fV}(h:lA S d=0):lz S d.kn=0/\(bI S d.tm).2=0/\∀t∈(QB S d).kn++[(QB S d).tm],ax t<=10000:=by
 unfold lA at h
 split at h
 ·rename_i h1;exact absurd h h1
 ·rename_i h1
  have h2:lz S d.kn=0:=by omega
  refine⟨h2,h,λt ht=>?_⟩;simp only[QB,abp,abP,eN,abZ]at ht;rcases ht with⟨u,hu,rfl⟩|rfl
  ·exact ee (nY (BT h2 u hu)).2.2
  ·exact ee (nY h).2.2
end bE
def yH(p:dD->Bool):List dD->Nat->Int
 |[],_=>-1
 |b::l,n=>if p b then n else yH p l (n+1)
theorem I5{p:dD->Bool}{b:dD}{q:List dD}(hb:p b=true):∀{a:List dD} {n:Nat},(∀y∈a,p y=false)->yH p (a++b::q) n=((n+a.length:Nat):Int)
 |[],n,_=>by rw[abT,yH,if_pos hb];rfl
 |c::a,n,h=>by
  rw[abH,yH,if_neg (by rw[h c (by simp)];simp),I5 hb λy hy=>h y (by simp[hy])];simp only[abx]
  congr 1
  omega
theorem Bw{p:dD->Bool}:∀{a:List dD} {n:Nat},(∀y∈a,p y=false)->yH p a n=-1
 |[],n,_=>rfl
 |c::a,n,h=>by rw[yH,if_neg (by rw[h c (by simp)];simp),Bw λy hy=>h y (by simp[hy])]
theorem EA(p:dD->Bool):∀(l:List dD) (n:Nat),decide (yH p l n>=0)=l.any p
 |[],n=>by simp[yH]
 |b::l,n=>by
  rw[yH,adH]
  cases hb:p b with
  |true=>rw[if_pos rfl,decide_eq_true (by omega)];rfl
  |false=>rw[if_neg (by simp),EA p l (n+1)];rfl
theorem xg{α:Type}{l p q:List α}{x:α}{f:α->Bool}(e:l=p++x::q)(h:f x=true):l.any f=true:=by rw[e];simp[h]
namespace bE
open Go.Proofs
attribute [local irreducible] aD az aL aJ Ev ah aj ay aY bJ
theorem VT(b:dD)(x:Tm)(hb:ax b.v<1000000000)(hx:ax x<1000000000)(id:Nat)(H:ab)(hH:HV H)(h0:H[id]?=some ⟨.m,0,4,[enc x]⟩):ay C 51 [uo b,.ptr id 0 0 0] H (λr h'=>r=.bool (decide (aT b.v x=0))/\gq H h'):=by
 have h1:=(eB b.v x hb hx).nine;have cG:=ag h0;rw[ao b.v,ao x]at h1;rw[ao x]at h0;rw[uo];refine ay.x T6 Tryz.func51 rfl ?_;refine wA ?_;refine .p h1 ?_;refine wC (λhc=>?_) λhc=>?_
 all_goals exact⟨by simp[aO, *],(gq.refl _).cB (HV.one (by simp))⟩
theorem RB(S:List dD)(x:Tm)(hS:S.length<1000000000)(hb:∀b∈S,ax b.v<1000000000)(hx:ax x<1000000000)(id:Nat)(H:ab)(hH:HV H)(h0:H[id]?=some ⟨.m,0,4,[enc x]⟩):ay C 100 [.aa false (bD S),.fn 51 [.ptr id 0 0 0]] H (λr h'=>r=.int .i64 (yH (λb=>decide (aT b.v x=0)) S 0)/\gq H h'):=by
 have cr:=gi S;refine ay.x T6 Tryz.func100 rfl ?_;refine wA ?_;refine cO.zip T6 S (λa q L K=>L=[(0,.aa false (bD S)),(1,.fn 51 [.ptr id 0 0 0]),(7,.int .i64 (bD S).length),(8,.int .i64 a.length)]/\gq H K/\∀y∈a,decide (aT y.v x=0)=false) (.nx ⟨rfl,gq.refl _,by simp⟩) ?_ ?_
 ·rintro a b q _ K ρ e ⟨rfl,hE,ha⟩;have cm:=gH e;have di:=lenE e;have Co:=VT b x (hb b (by rw[e];simp)) hx id K (hE.hv hH) (hE.at h0);rw[uo]at Co;refine wA ?_;refine .ex Co (λh' PY=>?_)
  cases Cj:decide (aT b.v x=0)
  ·refine wA ?_;exact .nx ⟨rfl,hE.trans PY,λy hy=>by rcases abp.1 hy with h |h;exact ha y h;simp at h;rw[h];exact Cj⟩
  ·refine wA ?_;exact⟨by rw[e,I5 (p:=λb:dD=>decide (aT b.v x=0)) Cj ha];simp[aO],hE.trans PY⟩
 ·rintro _ K ρ ⟨rfl,hE,ha⟩;refine wA ?_;exact⟨by rw[Bw (p:=λb:dD=>decide (aT b.v x=0)) ha];rfl,hE⟩
theorem RC(S:List dD)(x:Tm)(hS:S.length<1000000000)(hb:∀b∈S,ax b.v<1000000000)(hx:ax x<1000000000)(id:Nat)(H:ab)(hH:HV H)(h0:H[id]?=some ⟨.m,0,4,[enc x]⟩):ay C 50 [.aa false (bD S),.fn 51 [.ptr id 0 0 0]] H (λr h'=>r=.bool (En S x)/\gq H h'):=by
 have hi:=RB S x hS hb hx id H hH h0;have ha:decide (yH (λb=>decide (aT b.v x=0)) S 0>=0)=En S x:=EA _ S 0;refine ay.x T6 Tryz.func50 rfl ?_;refine wA ?_;refine .ex hi (λh' hE=>?_);refine wC (λhc=>?_) λhc=>?_
 all_goals exact⟨by rw[<-ha];simp[aO, *],hE⟩
theorem Oi(S:List dD)(x:Tm)(hS:S.length<1000000000)(hb:∀b∈S,ax b.v<1000000000)(hx:ax x<1000000000)(id:Nat)(H:ab)(hH:HV H)(h0:H[id]?=some ⟨.m,0,1,[.aa false (bD S)]⟩):ay C 49 [enc x,.ptr id 0 0 0] H (λr h'=>r=.bool (En S x)/\gq H h'):=by
 have cG:=ag h0;have hc:=RC S x hS hb hx H.length (H++[⟨.m,0,4,[enc x]⟩]) (hH.cB (HV.one (by simp))) (by simp);rw[ao]at hc ⊢;refine ay.x T6 Tryz.func49 rfl ?_;refine wA ?_;refine .ex hc (λh' hE=>?_);refine wA ?_;exact⟨rfl,gq.trans ((gq.refl _).cB (HV.one (by simp))) hE⟩
end bE
theorem yc{S:List dD}{n:Bool×Int}{d:fV}{q:List fV}(h1:gf S (d::q)=n):∀{p:List fV},(∀u∈p,lA S u=0/\fF (cc S u.kn) (da S u.tm)=0/\nh (cc S u.kn) (da S u.tm)=true)->gf S (p++d::q)=n
 |[],_=>h1
 |u::p,h=>by
  obtain⟨a,b,c⟩:=h u (by simp);rw[abH,gf,if_neg (by omega),if_neg (by omega),if_neg (by rw[c];simp)];exact yc h1 λx hx=>h x (by simp[hx])
theorem uE{S:List dD}:∀{p:List fV},(∀u∈p,lA S u=0/\fF (cc S u.kn) (da S u.tm)=0/\nh (cc S u.kn) (da S u.tm)=true)->gf S p=(true,0)
 |[],_=>rfl
 |u::p,h=>by
  obtain⟨a,b,c⟩:=h u (by simp);rw[gf,if_neg (by omega),if_neg (by omega),if_neg (by rw[c];simp)];exact uE λx hx=>h x (by simp[hx])
namespace bE
open Go.Proofs
attribute [local irreducible] aD az aL aJ Ev ah aj ay aY bJ
theorem Kf(l:List fV)(S:List dD)(hl:l.length<1000000)(hb:bp (fD l)<10000000)(hls:S.length<1000000)(AS:∀b∈S,ax b.v<10000000/\ax b.t<10000000)(yb:∀b∈S,iQ b.t=true):
  aI C 14 [.aa false (cw l),.aa false (bD S)] (.ct [.bool (kL l S).1,.int .i64 (kL l S).2]):=by
 have cr:=jT l;have iK:=gi S;have fu:∀d∈l,∀t∈d.kn++[d.tm],t∈fD l:=λd hd t ht=>acp.2 ⟨d,hd,ht⟩
 have FM:∀t∈fD l,ax t<10000000:=λt ht=>by have:=bC ht;omega
 have Ae:∀d∈l,d.kn.length<10000000:=λd hd=>by
  obtain⟨p,q,e⟩:=acC hd;have h1:=ba (fD l);have h2:d.kn.length<=(fD l).length:=by rw[e];simp[fD];omega
  omega
 have h1:=Hf l (by omega) (λd hd=>⟨Ae d hd,λt ht=>FM t (fu d hd t ht)⟩);have h2:=yK S (by omega) (λb hb=>by have:=AS b hb;omega);have h3:=Ar l hl hb;have hvb:∀x∈dj l,ax x<10000000:=λx hx=>qS FM x (acf.1 hx).1
 have PS:(dj l).length<10000000:=by have:=mh (fD l);have:=acm (λt=>decide (t.k=1)) (fQ (fD l));unfold dj;unfold fD at *;omega
 have oQ:=ai (dj l);refine aI.x T6 Tryz.func14 rfl ?_;refine wA ?_;refine .p h1 ?_;refine wC (λhc=>?_) λhc=>?_
 ·have Im:nL l=0:=by omega
  obtain⟨zJ,WK⟩:=A0 Im;refine .p h2 ?_;refine wC (λhc=>?_) λhc=>?_
  ·have hS:iD S=0:=by omega
   refine .p h3 ?_;refine wA ?_;refine cO.zip T6 (dj l) (λp q L H=>L=[(0,.aa false (cw l)),(3,.ptr 0 0 0 0),(8,.fn 49 [.ptr 0 0 0 0]),(34,.aa false (ae (dj l))),(35,.int .i64 (ae (dj l)).length),(36,.int .i64 p.length)]/\HV H/\H[0]?=some ⟨.m,0,1,[.aa false (bD S)]⟩/\∀x∈p,En S x=true) (.nx ⟨rfl,HV.one (by simp),rfl,by simp⟩) ?_ ?_
   ·rintro p x q _ H ρ e ⟨rfl,hH,h0,hp⟩;have cm:=bg e;have di:=lenE e;have hx:=Oi S x (by omega) (λb hb=>by have:=AS b hb;omega) (by have:=hvb x (by rw[e];simp);omega) 0 (H++[⟨.m,0,4,[enc x]⟩]) (hH.cB (HV.one (by simp))) (by rw[abj (ag h0)];exact h0);rw[ao]at hx;refine wA ?_;refine .ex hx (λh' hE=>?_)
    cases Cj:En S x
    ·have hM:kL l S=(false,13):=by
      have:(dj l).all (En S)=false:=by rw[e];simp[Cj]
      have hs:lc l S=13:=by rw[lc,if_neg (by omega),if_pos this]
      rw[kL,if_neg (by omega),if_pos (by omega),hs]
     refine wA ?_;exact⟨_,rfl,by rw[hM];rfl⟩
    ·obtain⟨J,hJ,rfl⟩:=hE;refine wA ?_;refine .nx ⟨rfl,(hH.cB (HV.one (by simp))).cB hJ,by rw[abI,abj (ag h0)];exact h0,λy hy=>?_⟩;rcases abp.1 hy with h |h
     ·exact hp y h
     ·simp at h;rw[h];exact Cj
   ·rintro _ H ρ ⟨rfl,hH,h0,hp⟩;have xL:(dj l).all (En S)=true:=abk.2 hp;refine wA ?_;refine cO.zip T6 S (λp q L H=>L=[(0,.aa false (cw l)),(3,.ptr 0 0 0 0),(45,.aa false (bD S)),(46,.int .i64 (bD S).length),(47,.int .i64 p.length)]/\HV H/\H[0]?=some ⟨.m,0,1,[.aa false (bD S)]⟩/\∀b∈p,bu b.t=[]) (.nx ⟨rfl,hH,h0,by simp⟩) ?_ ?_
    ·rintro p b q _ H ρ e ⟨rfl,hH,h0,hp⟩;have cm:=gH e;have di:=lenE e;have hv:=mf b.t (AS b (by rw[e];simp)).2;have W5:=ai (bu b.t);rw[ao]at hv;refine wA ?_;refine .p hv ?_;refine wC (λhc=>?_) λhc=>?_
     ·have hM:kL l S=(false,13):=by
       have h5:bu b.t≠[]:=λhh=>by
        have h0:(ae (bu b.t)).length=0:=by rw[hh];rfl
        omega
       have h6:S.any (λb=>decide (bu b.t≠[]))=true:=xg e (decide_eq_true h5);have hs:lc l S=13:=by rw[lc,if_neg (by omega),if_neg (by rw[xL];simp),if_pos h6]
       rw[kL,if_neg (by omega),if_pos (by omega),hs]
      exact⟨_,rfl,by rw[hM];rfl⟩
     ·have h5:bu b.t=[]:=abA (by omega);refine .nx ⟨rfl,hH.cB (HV.one (by simp)),by rw[abj (ag h0)];exact h0,λy hy=>?_⟩;rcases abp.1 hy with h |h
      ·exact hp y h
      ·simp at h;rw[h];exact h5
    ·rintro _ H ρ ⟨rfl,hH,h0,hp⟩
     have Te:¬S.any (λb=>decide (bu b.t≠[]))=true:=by
      rw[aci];rintro⟨b,hb,h⟩;exact of_decide_eq_true h (hp b hb)
     refine wA ?_;refine cO.zip T6 S (λp q L H=>L=[(0,.aa false (cw l)),(3,.ptr 0 0 0 0),(57,.aa false (bD S)),(58,.int .i64 (bD S).length),(59,.int .i64 p.length)]/\HV H/\H[0]?=some ⟨.m,0,1,[.aa false (bD S)]⟩/\∀b∈p,gw b.t=0) (.nx ⟨rfl,hH,h0,by simp⟩) ?_ ?_
     ·rintro p b q _ H ρ e ⟨rfl,hH,h0,hp⟩;have cm:=gH e;have di:=lenE e;have V0:b∈S:=by rw[e];simp
      have hv:=Bl b.t (yb b V0) (by have:=(AS b V0).2;omega);rw[ao]at hv;refine wA ?_;refine .p hv ?_
      by_cases ht:gw b.t=0
      ·rw[decide_eq_true ht];refine wA ?_;refine .nx ⟨rfl,hH.cB (HV.one (by simp)),by rw[abj (ag h0)];exact h0,λy hy=>?_⟩;rcases abp.1 hy with h |h
       ·exact hp y h
       ·simp at h;rw[h];exact ht
      ·rw[decide_eq_false ht]
       have hM:kL l S=(false,10):=by
        have h6:S.any (λb=>decide (gw b.t≠0))=true:=xg e (decide_eq_true ht);have hs:lc l S=10:=by rw[lc,if_neg (by omega),if_neg (by rw[xL];simp),if_neg Te,if_pos h6]
        rw[kL,if_neg (by omega),if_pos (by omega),hs]
       refine wA ?_;exact⟨_,rfl,by rw[hM];rfl⟩
     ·rintro _ H ρ ⟨rfl,hH,h0,hp⟩
      have hs3:¬S.any (λb=>decide (gw b.t≠0))=true:=by
       rw[aci];rintro⟨b,hb,h⟩;exact of_decide_eq_true h (hp b hb)
      have ED:lc l S=0:=by rw[lc,if_neg (by omega),if_neg (by rw[xL];simp),if_neg Te,if_neg hs3]
      have hMM:kL l S=gf S l:=by rw[kL,if_neg (by omega),if_neg (by omega)]
      rw[hMM];refine wA ?_;refine cO.zip T6 l (λp q L H=>L=[(3,.ptr 0 0 0 0),(68,.aa false (cw l)),(69,.int .i64 (cw l).length),(70,.int .i64 p.length)]/\HV H/\H[0]?=some ⟨.m,0,1,[.aa false (bD S)]⟩/\∀u∈p,lA S u=0/\fF (cc S u.kn) (da S u.tm)=0/\nh (cc S u.kn) (da S u.tm)=true) (.nx ⟨rfl,hH,h0,by simp⟩) ?_ ?_
      ·rintro p u q _ H ρ e ⟨rfl,hH,h0,hp⟩;have cm:=kJ e;have di:=lenE e;obtain⟨Ty,Gy⟩:=WK u (by rw[e];simp);have FB:=Ot S hS u.kn (by omega) (λt ht=>by have:=dx (Gy t (by simp[ht]));omega);have mK:=Hg S hS u.tm (by have:=dx (Gy u.tm (by simp));omega);have hdm:lA S u=if lz S u.kn≠0 then lz S u.kn else(bI S u.tm).2:=rfl;have hG:∀n,gf S (u::q)=n->gf S l=n:=λn h=>by rw[e];exact yc h hp
       have Ch:lA S u≠0->gf S l=(false,lA S u):=λh=>hG _ (by rw[gf,if_pos h])
       rw[ao u.tm]at mK;obtain⟨w,hw⟩:∃w,w=(bI S u.tm).1:=⟨_,rfl⟩;have V1:(bI S u.tm).2=0->w=da S u.tm:=λh=>by rw[hw,(nY h).1]
       rw[<-hw]at mK;rw[ao w]at mK;refine wA ?_;refine .p FB ?_;refine wC (λhc=>?_) λhc=>?_
       ·have TN:lz S u.kn=0:=by omega
        rw[if_neg (by omega)]
        skip
        refine .p mK ?_;refine wC (λhc=>?_) λhc=>?_
        ·have WM:lA S u=0:=by rw[hdm,if_neg (by omega)];omega
         have Tz:=V1 (by omega);obtain⟨_,_,hdb⟩:=uD WM;have Dq:(cc S u.kn++[w]).length<=41:=by rw[abr,gS];simp;omega
         have Cj:bp (cc S u.kn++[w])<10000000:=by
          have:=td (B:=10000) (l:=cc S u.kn++[w]) (by rw[Tz];exact hdb);have:=abY 10000 Dq;omega
         have hfw:∀t∈cc S u.kn++[w],iQ t=true:=λt ht=>by
          rcases abp.1 ht with h |h
          ·rw[eN]at h;obtain⟨y,hy,rfl⟩:=abZ.1 h;exact wZ yb y (qM (Gy y (by simp[hy])))
          ·simp at h;rw[h,Tz];exact wZ yb u.tm (qM (Gy u.tm (by simp)))
         have B8:=Ap (cc S u.kn) w hfw Cj;rw[ao w]at B8;have Vb:fF (cc S u.kn) w≠0->gf S l=(false,fF (cc S u.kn) w):=λh=>hG _ (by rw[gf,if_neg (by omega),<-Tz,if_pos h])
         have Vc:fF (cc S u.kn) w=0->nh (cc S u.kn) w=false->gf S l=(false,0):=λh h'=>hG _ (by rw[gf,if_neg (by omega),<-Tz,if_neg (by omega),if_pos h'])
         refine .p B8 ?_
         cases Nr:nh (cc S u.kn) w
         ·refine wA ?_
          by_cases hu:fF (cc S u.kn) w=0
          ·exact⟨_,rfl,by rw[Vc hu Nr,hu];rfl⟩
          ·exact⟨_,rfl,by rw[Vb hu];rfl⟩
         ·have Yk:fF (cc S u.kn) w=0:=by
           unfold nh at Nr;simp at Nr;exact Nr.1
          rw[Yk];refine wA ?_;refine .nx ⟨rfl,?_,?_,λy hy=>?_⟩
          ·exact(hH.cB (HV.one (by simp))).cB (HV.one (by simp))
          ·rw[abI,abj (ag h0)];exact h0
          ·rcases abp.1 hy with h |h
           ·exact hp y h
           ·simp at h;rw[h,<-Tz];exact⟨WM,Yk,Nr⟩
        ·have hde:lA S u=(bI S u.tm).2:=by rw[hdm,if_neg (by omega)]
         exact⟨_,rfl,by rw[Ch (by omega),hde];rfl⟩
       ·have hde:lA S u=lz S u.kn:=by rw[hdm,if_pos (by omega)]
        exact⟨_,rfl,by rw[Ch (by omega),hde];rfl⟩
      ·rintro _ H ρ ⟨rfl,hH,h0,hp⟩;refine wA ?_;exact⟨_,rfl,by rw[uE hp];rfl⟩
  ·have hM:kL l S=(false,iD S):=by
    have hs:lc l S=iD S:=by rw[lc,if_pos (by omega)]
    rw[kL,if_neg (by omega),if_pos (by omega),hs]
   exact⟨_,rfl,by rw[hM];rfl⟩
 ·have hM:kL l S=(false,nL l):=by rw[kL,if_pos (by omega)]
  exact⟨_,rfl,by rw[hM];rfl⟩
theorem LC(p a:List Tm)(u:Tm):rm (p++[u]) a=fj u (rm p a):=by simp[rm]
theorem tO(l:List Tm)(hl:l.length<1000000)(hb:∀t∈l,ax t<100000000):aI C 70 [.aa false (ae l)] (.aa false (ae (gb l))):=by
 have cr:=ai l;refine aI.x T6 Tryz.func70 rfl ?_;refine wA ?_;refine cO.zip T6 l (λp q L H=>∃f,L=[(0,.aa false (ae l)),(3,.aa f (ae (rm p []))),(4,.int .i64 p.length)]/\H=[]) (.nx ⟨true,rfl,rfl⟩) ?_ ?_
 ·rintro p u q _ _ ρ e ⟨f,rfl,rfl⟩;have cm:=bg e;have di:=lenE e;have h1:=xN p [];simp only[abX]at h1
  have had:=(MB u (rm p []) (by have:=hb u (by rw[e];simp);omega) (λx hx=>by
   rcases Dz hx with h |h
   ·have:=hb x (by rw[e];simp[h]);omega
   ·cases h) (by omega)).nine
  rw[ao]at had;refine wA ?_;refine .p had ?_;refine wA ?_;exact .nx ⟨_,by rw[LC],rfl⟩
 ·rintro _ _ ρ ⟨f,rfl,rfl⟩;refine wA ?_;exact⟨_,rfl,by simp[aO,b9,gb]⟩
theorem LD(t:Tm)(n:Int)(hb:ax t<1000000):aI C 124 [enc t,.int .i64 n] (.aa false (ae (rB n t))):=by
 have h1:=tL t (by omega);have kH:=qJ t;have cr:=ai (pre t);have hse:=tO (wM n (pre t)) (by have:=xk n (pre t);omega) (λu hu=>by have:=nM t u (acf.1 hu).1;omega);rw[ao]at h1 ⊢;refine aI.x T6 Tryz.func124 rfl ?_;refine wA ?_;refine .p h1 ?_;refine wA ?_;refine cO.zip T6 (pre t) (λp q L H=>∃v,L=[(1,.int .i64 n),(5,v),(6,.aa false (ae (pre t))),(7,.int .i64 p.length)]/\HV H/\Out 4 H v (ae (wM n p))) (.nx ⟨_,rfl,HV.one (by simp),.inl ⟨rfl,rfl⟩⟩) ?_ ?_
 ·rintro p u q _ H ρ e ⟨v,rfl,hH,ho⟩;have cm:=bg e;have di:=lenE e;have hol:=xk n p;have hle:=ai (wM n p);have e9:ae (wM n p)++[.agg [.int .i64 u.k,.str u.s,.int .i64 u.o,.aa false (ae u.l)]]=ae (wM n p++[u]):=by rw[bT,<-ao];rfl
  have m':=Jt n p [u];rw[Fs]at m';refine wK (λhc v H lp=>?_) λhc=>?_
  ·rw[if_pos (by assumption)]at m';refine .nx ⟨_,rfl,lp.hv,?_⟩;have:=lp.out;rw[e9]at this;rw[m'];exact this
  ·rw[if_neg (by assumption)]at m';refine .nx ⟨_,rfl,hH,?_⟩;rw[m'];simpa[wM]using ho
 ·rintro _ H ρ ⟨v,rfl,hH,ho⟩;refine wA ?_;refine .pl (.inl ho) hse (λh' fz=>?_);refine wA ?_;exact⟨_,rfl,by simp[aO,b9,rB,wM]⟩
theorem nQ(t:Tm)(hb:ax t<1000000):aI C 67 [enc t] (.aa false (ae (bu t))):=by
 have h1:=LD t 1 hb;rw[ao]at h1 ⊢;refine aI.x T6 Tryz.func67 rfl ?_;refine wA ?_;refine .p h1 ?_;refine wA ?_;exact⟨_,rfl,by simp[aO,bu]⟩
theorem tM(l:List Tm)(t:Tm)(ht:ax t<1000000000)(hl:l.length<1000000000)(hb:∀u∈l,ax u<1000000000):aI C 91 [.aa false (ae l),enc t] (.bool (bF l t)):=by
 have cr:=ai l;rw[ao];refine aI.x T6 Tryz.func91 rfl ?_;refine wA ?_;refine cO.zip T6 l (λp q L H=>L=[(0,.aa false (ae l)),(3,.ptr 0 0 0 0),(5,.int .i64 p.length)]/\H=[⟨.m,0,4,[.agg [.int .i64 t.k,.str t.s,.int .i64 t.o,.aa false (ae t.l)]]⟩]/\∀u∈p,aT u t≠0) (.nx ⟨rfl,rfl,by simp⟩) ?_ ?_
 ·rintro p u q _ _ ρ e ⟨rfl,rfl,hp⟩;have cm:=bg e;have di:=lenE e;have QY:=(oc u t (hb u (by rw[e];simp)) ht).nine;rw[ao,ao t]at QY;refine wA ?_;refine .p QY ?_
  by_cases hc:aT u t=0
  ·rw[decide_eq_true hc];refine wA ?_;have hh:bF l t=true:=bU.2 (by rw[<-cP hc,e];simp);exact⟨_,rfl,by rw[hh];rfl⟩
  ·rw[decide_eq_false hc];refine wA ?_;exact .nx ⟨rfl,rfl,λw hw=>by rcases abp.1 hw with h |h;exact hp w h;simp at h;rw[h];exact hc⟩
 ·rintro _ _ ρ ⟨rfl,rfl,hp⟩;refine wA ?_
  have hh:bF l t=false:=by
   cases hx:bF l t with
   |false=>rfl
   |true=>exact absurd (cq t) (hp t (bU.1 hx))
  exact⟨_,rfl,by rw[hh];rfl⟩
theorem p9(l:List Tm)(hl:(l.flatMap bu).length<1000000)(tY:l.length<1000000)(hb:∀t∈l,ax t<1000000):aI C 21 [.aa false (ae l)] (.aa false (ae (gb (l.flatMap bu)))):=by
 have cr:=ai l
 have hse:=tO (l.flatMap bu) hl (λu hu=>by
  obtain⟨t,ht,hu⟩:=acp.1 hu;have:=jU hu;have:=hb t ht;omega)
 refine aI.x T6 Tryz.func21 rfl ?_;refine wA ?_;refine cO.zip T6 l (λp q L H=>∃v,L=[(0,.aa false (ae l)),(3,v),(4,.int .i64 p.length)]/\HV H/\Out 4 H v (ae (p.flatMap bu))) (.nx ⟨_,rfl,HV.nil,.inl ⟨rfl,rfl⟩⟩) ?_ ?_
 ·rintro p u q _ H ρ e ⟨v,rfl,hH,ho⟩;have cm:=bg e;have di:=lenE e;have DW:=nQ u (hb u (by rw[e];simp));have m':(p++[u]).flatMap bu=p.flatMap bu++bu u:=by simp
  have NE:(p.flatMap bu).length+(bu u).length<=(l.flatMap bu).length:=by rw[e];simp
  have hle:=ai (p.flatMap bu);have hlu:=ai (bu u);rw[ao]at DW;refine wA ?_;refine .p DW ?_;refine wG λv H lp=>?_;refine .nx ⟨_,rfl,lp.hv,?_⟩;have:=lp.out;rw[m',bT];exact this
 ·rintro _ H ρ ⟨v,rfl,hH,ho⟩;refine wA ?_;refine .pl (.inl ho) hse (λh' fz=>?_);refine wA ?_;exact⟨_,rfl,by simp[aO,b9]⟩
theorem zz(t:Tm)(hb:ax t<10000000):aI C 144 [enc t] (.int .i64 (cx t)):=by
 have h1:=qm t (by omega);have h2:=HS t (by omega)
 have DW:gw t=0->valid t=0:=λh=>by
  unfold gw at h
  split at h
  ·rename_i hn;exact absurd h hn
  ·omega
 have h3:gw t=0->aI C 67 [enc t] (.aa false (ae (bu t))):=λh=>nQ t (by have:=ee (DW h);omega)
 have h4:=(sS t (by omega)).nine;have PS:=eO t;have cr:=ai (bu t);rw[ao]at h1 h2 h3 h4 ⊢;refine aI.x T6 Tryz.func144 rfl ?_;refine wA ?_;refine .p h1 ?_;refine wC (λhc=>?_) λhc=>?_
 ·have hth:gw t=0:=by omega
  have h3:=h3 hth;have Pk:cx t=if kK t=false\/(bu t).any C8=true then 10 else if 60<size t then 3 else 0:=by rw[cx,if_neg (by omega)]
  refine .p h3 ?_;refine wA ?_;refine cO.zip T6 (bu t) (λp q L H=>L=[(1,.ptr 0 0 0 0),(4,.aa false (ae (bu t))),(5,.int .i64 p.length)]/\H=[⟨.m,0,4,[.agg [.int .i64 t.k,.str t.s,.int .i64 t.o,.aa false (ae t.l)]]⟩]/\∀u∈p,C8 u=false) (.nx ⟨rfl,rfl,by simp⟩) ?_ ?_
  ·rintro p u q _ _ ρ e ⟨rfl,rfl,hp⟩;have cm:=bg e;have di:=lenE e;have hx:C8 u=true->cx t=10:=λh=>by rw[Pk,if_pos (.inr (aci.2 ⟨u,by rw[e];simp,h⟩))]
   have hn:C8 u=false->∀w∈p++[u],C8 w=false:=λh w hw=>by rcases abp.1 hw with h1 |h1;exact hp w h1;simp at h1;rw[h1];exact h
   refine wI (λhc=>?_) (λhc hc=>?_) λhc hc=>?_
   ·exact⟨_,rfl,by rw[hx (by simp[C8, *])];rfl⟩
   ·exact⟨_,rfl,by rw[hx (by simp[C8, *])];rfl⟩
   ·exact .nx ⟨rfl,rfl,hn (by simp[C8, *])⟩
  ·rintro _ _ ρ ⟨rfl,rfl,hp⟩;have ha:(bu t).any C8=false:=by rw[acH];intro u hu;simp[hp u hu]
   refine wA ?_;refine .p h2 ?_
   cases hf:kK t
   ·refine wA ?_;exact⟨_,rfl,by rw[Pk,if_pos (.inl hf)];rfl⟩
   ·rw[hf,ha,if_neg (by simp)]at Pk;refine wA ?_;refine .p h4 ?_;refine wC (λhc=>?_) λhc=>?_
    ·exact⟨_,rfl,by rw[Pk,if_pos (by omega)];rfl⟩
    ·exact⟨_,rfl,by rw[Pk,if_neg (by omega)];rfl⟩
 ·exact⟨_,rfl,by rw[cx,if_pos (by assumption)];rfl⟩
theorem Ft{l:List Tm}{t:Tm}(h:∀u∈l,cx u=0):fW (l++[t])=cx t:=by
 induction l with
 |nil=>
  show(if cx t≠0 then cx t else 0)=cx t
  split
  ·rfl
  ·omega
 |cons v l ih=>
  show(if cx v≠0 then cx v else fW (l++[t]))=_;rw[if_neg (by rw[h v (by simp)];simp)];exact ih λu hu=>h u (by simp[hu])
def bH(d:fV):Int:=if 40<d.kn.length then 3 else fW (d.kn++[d.tm])
theorem Ps(d:fV)(hl:d.kn.length<1000000000)(hb:∀t∈d.kn++[d.tm],ax t<10000000):aI C 90 [sV d] (.int .i64 (bE.bH d)):=by
 have cr:=ai d.kn;have TZ:=zz d.tm (hb d.tm (by simp));rw[ao]at TZ;rw[kZ];refine aI.x T6 Tryz.func90 rfl ?_;refine wC (λhc=>?_) λhc=>?_
 ·exact⟨_,rfl,by rw[bE.bH,if_pos (by omega)];rfl⟩
 have ho:bE.bH d=fW (d.kn++[d.tm]):=by rw[bE.bH,if_neg (by omega)]
 refine cO.zip T6 d.kn (λp q L H=>L=[(1,.ptr 0 0 0 0),(3,.int .i64 p.length)]/\H=[⟨.m,0,5,[.agg [.aa false (ae d.kn),.int .i64 d.tm.k,.str d.tm.s,.int .i64 d.tm.o,.aa false (ae d.tm.l)]]⟩]/\∀u∈p,cx u=0) (.nx ⟨rfl,rfl,by simp⟩) ?_ ?_
 ·rintro p u q _ _ ρ e ⟨rfl,rfl,hp⟩;have cm:=bg e;have di:=lenE e;have Xg:=zz u (hb u (by rw[e];simp));have hx:=BR (l:=d.kn++[d.tm]) (p:=p) (q:=q++[d.tm]) (u:=u) (by rw[e];simp) hp;rw[ao]at Xg;refine wA ?_;refine .p Xg ?_;refine wC (λhc=>?_) λhc=>?_
  ·exact .nx ⟨rfl,rfl,λw hw=>by rcases abp.1 hw with h |h;exact hp w h;simp at h;rw[h];assumption⟩
  ·exact⟨_,rfl,by rw[ho,hx (by assumption)];rfl⟩
 ·rintro _ _ ρ ⟨rfl,rfl,hp⟩;refine wA ?_;refine .p TZ ?_;refine wA ?_;exact⟨_,rfl,by rw[ho,Ft hp];rfl⟩
end bE
theorem aj.sp{C:cR}{f:FuncId}{sz:Nat}{s:ByteArray}{v:PV}{h:ab}{es fA:List PV}{rv:PV}{Q:PV->ab->Prop}(o:Out sz h v es)(a:aI C f [.str s,.aa false fA] rv)(q:∀h',Fz sz h v es h'->Q rv h')(hm:C.mode f=.pure:=by rfl)(hv:ar es=true:=by simp)(hn:aR es=fA:=by simp):aj C 2 f [.str s,v] h Q:=by
 rcases o with⟨rfl,rfl⟩|⟨id,ep,rfl,e⟩
 ·refine aj.pure hm rfl ?_ (q h (.inl rfl));subst hn;simpa[aR,b9]using a
 ·obtain⟨n0,Tc⟩:=a
  have hrb:gz h [.str s,.ak id ep 0 es.length]=some [.str s,.aa false es]:=by
   simp[gz,ke,oB,getM,e,hv,aW]
  have S9:eZ h [id]=some (h.set id ⟨.f,ep,sz,es⟩):=by
   simp[eZ,kg,e,hv]
  have hnn:aR [.str s,.aa false es]=[.str s,.aa false fA]:=by subst hn;simp[aR,b9]
  refine⟨rv,if(dO rv ||lC h [id])=true then h else h.set id ⟨.f,ep,sz,es⟩,q _ ?_,n0,λn h1=>?_⟩
  ·split
   ·exact .inl rfl
   ·exact .inr ⟨id,ep,rfl,rfl⟩
  ·obtain⟨r0,hc,r1,e1,e3,e4⟩:=Tc n h1;have zH:dO r1=dO rv:=by have:=ja r1;rw[e4]at this;exact this.symm
   have xJ:jK [.str s,.ak id ep 0 es.length]=[id]:=rfl;have yf:ar [.str s,.ak id ep 0 es.length]=false:=rfl;unfold dg;rw[hm];simp only[dp,yf,abz,if_false,hrb,hnn,e1,e3,zH,e4,xJ,S9]
   split
   ·rfl
   ·rfl
namespace bE
open Go.Proofs
attribute [local irreducible] aD az aL aJ Ev ah aj ay aY bJ
theorem kr(t:Tm)(n:ByteArray):aI C 224 [enc t,.str n] (.bool (db t n)):=by
 rw[ao];refine aI.x T6 Tryz.func224 rfl ?_;refine wJ (λhc hc=>?_) (λhc hc=>?_) λhc=>?_
 ·exact⟨_,rfl,by simp[aO,db,eI, *]⟩
 ·exact⟨_,rfl,by simp[aO,db,eI, *]⟩
 ·exact⟨_,rfl,by simp[aO,db,eI, *]⟩
theorem vU(t:Tm)(hb:ax t<1000000):aI C 117 [enc t] (.bool (decide (bu t=[]))):=by
 have h1:=nQ t hb;have hl:=ai (bu t);rw[ao]at h1 ⊢;refine aI.x T6 Tryz.func117 rfl ?_;refine wA ?_;refine .p h1 ?_;refine wC (λhc=>?_) λhc=>?_
 ·have:bu t=[]:=abA (by omega);exact⟨_,rfl,by simp[aO,this]⟩
 ·have:bu t≠[]:=λh=>by
   have h0:(ae (bu t)).length=0:=by rw[h];rfl
   omega
  exact⟨_,rfl,by simp[aO,this]⟩
theorem Hw(s:ByteArray)(l:List Tm)(hf:ua s=true)(hl:l.length<10000000)(ih:∀t∈l,aI C 217 [enc t] (.ct [enc t,.int .i64 0])):aI C 217 [enc (.mk 3 s 0 l)] (.ct [enc (.mk 3 s 0 l),.int .i64 0]):=by
 have cr:=ai l;obtain⟨n1,n2,n3,n4,n5,n6,n7,n8,n9,n10,n11,n12⟩:=N4 hf;have hk:=qY s;have hk3:=(xb hf).2;have mK:=(nO s l (by omega)).nine;rw[bh]at mK ⊢;refine aI.x T6 Tryz.func217 rfl ?_;refine wA ?_;refine cO.zip T6 l (λp q L H=>∃v,L=[(1,.ptr 0 0 0 0),(2,.ptr 1 0 0 0),(4,v),(5,.int .i64 p.length)]/\HV H/\H[0]?=some ⟨.m,0,4,[.agg [.int .i64 3,.str s,.int .i64 0,.aa false (ae l)]]⟩/\H[1]?=some ⟨.m,0,4,[.agg [.int .i64 0,.str ByteArray.empty,.int .i64 0,.aa true []]]⟩/\Out 4 H v (ae p)/\∀i∈bV v,2<=i) (.nx ⟨_,rfl,(HV.one (by simp)).cB (HV.one (by simp)),rfl,rfl,.inl ⟨rfl,rfl⟩,by simp[bV]⟩) ?_ ?_
 ·rintro p u q _ H ρ e ⟨v,rfl,hH,h0,h1,ho,hv⟩;have cm:=bg e;have di:=lenE e;have hi:=ih u (by rw[e];simp);have hle:=ai p;have mB:HV (H++[(⟨.m,0,4,[.agg [.int .i64 u.k,.str u.s,.int .i64 u.o,.aa false (ae u.l)]]⟩:aw)]):=hH.cB (HV.one (by simp));have IP:=ho.cB [(⟨.m,0,4,[.agg [.int .i64 u.k,.str u.s,.int .i64 u.o,.aa false (ae u.l)]]⟩:aw)];have m':ae p++[.agg [.int .i64 u.k,.str u.s,.int .i64 u.o,.aa false (ae u.l)]]=ae (p++[u]):=by rw[bT,<-ao];rfl
  have yf:∀j,j<2->∀ep n,v≠.ak j ep 0 n:=λj hj ep n hh=>by have:=hv j (by rw[hh];simp[bV]);omega
  have l0:=ag h0;have l1:=ag h1;rw[ao]at hi;refine wA ?_;refine .p hi ?_;refine wG λv H lp=>?_;refine .nx ⟨_,rfl,lp.hv,?_,?_,?_,λi hi=>?_⟩
  ·rw[lp.fr 0 (by simp) (yf 0 (by omega)),abj l0];exact h0
  ·rw[lp.fr 1 (by simp;omega) (yf 1 (by omega)),abj l1];exact h1
  ·have:=lp.out;rw[m']at this;exact this
  ·rcases lp.out with⟨hs,_⟩|⟨id,ep,hs,_⟩
   ·rw[hs]at hi;simp[bV]at hi
   ·rcases lp.ref id ep _ hs with⟨im,n',h⟩|h
    ·rw[hs]at hi;simp[bV]at hi;subst hi;exact hv _ (by rw[h];simp[bV])
    ·rw[hs]at hi;simp[bV]at hi;simp at h;omega
 ·rintro _ H ρ ⟨v,rfl,hH,h0,h1,ho,hv⟩;have l0:=ag h0;have l1:=ag h1;refine wA ?_;refine aj.sp ho mK (λh' fz=>?_)
  have bN:∀j,j<2->h'[j]?=H[j]?:=λj hj=>by
   rcases fz with rfl |⟨id,ep,rfl,rfl⟩
   ·rfl
   ·have:=hv id (by simp[bV]);rw[abm (by omega)]
  have g0:=(bN 0 (by omega)).trans h0;have g1:=(bN 1 (by omega)).trans h1;have k0:=ag g0;have k1:=ag g1;have XC:=fz.hv hH (by simp);refine wA ?_;refine .p hk ?_;refine wA ?_;refine .mk ?_ (jY (T:=T6) rfl (abl (by simp;omega)) rfl rfl rfl rfl);exact⟨jd⟩
theorem E5(t:Tm):gw t=0->iQ t=true->ax t<10000000->aI C 217 [enc t] (.ct [enc t,.int .i64 0]):=by
 induction t using Tm.ind with
 |h k s o l ih=>
  intro hv hf hb
  by_cases hk:k=3
  ·subst hk;obtain rfl:=Ec (iE.1 hv).1 rfl;have:=ba l;simp only[ax]at hb;refine Hw s l ((r9.1 hf).1 rfl) (by omega) λt ht=>ih t ht (qR hv ht) ((r9.1 hf).2 t ht) (by have:=bC ht;omega)
  ·rw[bh];refine aI.x T6 Tryz.func217 rfl ?_;refine wA ?_;exact jd
theorem CN(t:Tm)(hf:iQ t=true)(hb:ax t<10000000):aI C 167 [enc t] (.ct [enc (if gw t=0 then t else dM),.int .i64 (gw t)]):=by
 have h1:=qm t (by omega);have h2:=λh=>E5 t h hf hb
 have h3:=λh:gw t=0=>(gL t (by omega)).nine
 have hz:=kj;rw[ao t]at h1 h2 h3 ⊢
 by_cases hv:gw t=0
 ·have h2:=h2 hv;have h3:=h3 hv;rw[(iE.1 hv).1]at h3;rw[if_pos hv,hv,ao];rw[hv]at h1;refine aI.x T6 Tryz.func167 rfl ?_;refine wA ?_;refine .p h1 ?_;refine wA ?_;refine .p h2 ?_;refine wA ?_;refine .p h3 ?_;refine wA ?_;exact jd
 ·rw[if_neg hv,hz];refine aI.x T6 Tryz.func167 rfl ?_;refine wA ?_;refine .p h1 ?_;refine wA ?_;exact⟨_,rfl,rfl⟩
theorem zg(t:Tm)(hf:iQ t=true)(hb:ax t<10000000):aI C 118 [enc t] (.bool (decide (gw t=0))):=by
 have h1:=CN t hf hb
 by_cases hv:gw t=0
 ·have h3:=(oc t t (by omega) (by omega)).nine;rw[cq]at h3;have h4:=tL t (by omega);have kH:=qJ t;have cr:=ai (pre t);rw[if_pos hv,hv]at h1;rw[hv];rw[ao]at h1 h3 h4 ⊢;refine aI.x T6 Tryz.func118 rfl ?_;refine wA ?_;refine .p h1 ?_;refine wA ?_;refine .p h3 ?_;refine wA ?_;refine .p h4 ?_;refine wA ?_;refine cO.zip T6 (pre t) (λp q L H=>L=[(5,.aa false (ae (pre t))),(6,.int .i64 p.length)]/\HV H) (.nx ⟨rfl,(HV.one (by simp)).cB (HV.one (by simp))⟩) ?_ ?_
  ·rintro p u q _ H ρ e ⟨rfl,hH⟩;have cm:=bg e;have di:=lenE e;have hk:=qY u.s;have hu:u∈pre t:=by rw[e];simp
   have Ei:u.k=3->(bZ u.s).k≠3:=λh=>(xb (IX (tc hf hu) h)).2
   by_cases hk3:u.k=3
   ·have hs3:=Ei hk3;refine wA ?_;refine .p hk ?_;refine wA ?_;exact .nx ⟨rfl,hH⟩
   ·refine wA ?_;exact .nx ⟨rfl,hH⟩
  ·rintro _ H ρ ⟨rfl,hH⟩;refine wA ?_;exact⟨_,rfl,rfl⟩
 ·rw[decide_eq_false hv];rw[if_neg hv,kj]at h1;rw[ao]at h1 ⊢;refine aI.x T6 Tryz.func118 rfl ?_;refine wA ?_;refine .p h1 ?_;refine wA ?_;exact⟨_,rfl,rfl⟩
theorem ON(t:Tm)(hb:ax t<10000000):aI C 289 [enc t] (.ct [enc (cg t),.int .i64 (mi t)]):=by
 have h1:=qm t (by omega);have h2:=kr t ⟨#[101,110,99]⟩;have h3:=kr t ⟨#[97,101,110,99]⟩;have hE:mi t=if gw t≠0 then gw t else if db t iP=true then 0 else if db t fC=false then 10 else if db (fO t 1) FG=false then 4 else 0:=rfl;have hV:cg t=if mi t≠0 then dM else if db t iP=true then fO t 1 else fO (fO t 1) 0:=rfl;have n1:db t ⟨#[101,110,99]⟩=db t iP:=rfl;have n2:db t ⟨#[97,101,110,99]⟩=db t fC:=rfl;rw[n1]at h2;rw[n2]at h3;have hz:=kj;rw[ao t]at h1 h2 h3 ⊢
 by_cases hv:gw t=0
 ·rw[if_neg (by omega)]at hE
  cases hn:db t iP
  ·rw[hn]at h2 hE hV;rw[if_neg (by simp)]at hE
   cases ha:db t fC
   ·rw[ha,if_pos rfl]at hE;rw[ha]at h3;rw[if_pos (by omega)]at hV;rw[hV,hE,hz];refine aI.x T6 Tryz.func289 rfl ?_;refine wA ?_;refine .p h1 ?_;refine wA ?_;refine .p h2 ?_;refine wA ?_;refine .p h3 ?_;refine wA ?_;exact⟨_,rfl,rfl⟩
   ·rw[ha,if_neg (by simp)]at hE;rw[ha]at h3;have di:=As hv ha Bt.2.2.1;have cm:=nk (t:=t) (i:=1) (by omega);have h4:=kr (fO t 1) ⟨#[112,107]⟩;have n3:db (fO t 1) ⟨#[112,107]⟩=db (fO t 1) FG:=rfl;rw[n3,ao]at h4
    cases hp:db (fO t 1) FG
    ·rw[hp,if_pos rfl]at hE;rw[hp]at h4;rw[if_pos (by omega)]at hV;rw[hV,hE,hz];refine aI.x T6 Tryz.func289 rfl ?_;refine wA ?_;refine .p h1 ?_;refine wA ?_;refine .p h2 ?_;refine wA ?_;refine .p h3 ?_;refine wA ?_;refine .p h4 ?_;refine wA ?_;exact⟨_,rfl,rfl⟩
    ·rw[hp,if_neg (by simp)]at hE;rw[hp]at h4;rw[if_neg (by omega),if_neg (by simp)]at hV;have jJ:=jZ (t:=t) (i:=1) (by omega);obtain⟨c,Q7⟩:=xf (qR hv jJ) hp Bt.2.2.2.2;have wQ:(fO t 1).l.length=1:=by rw[Q7];rfl
     have nf:=nk (t:=fO t 1) (i:=0) (by omega);have b1:=fP jJ;have b2:=fP (jZ (t:=fO t 1) (i:=0) (by omega));rw[hV,hE];generalize hK:fO (fO t 1) 0=K at *;generalize hM:fO t 1=M at *;rw[ao];refine aI.x T6 Tryz.func289 rfl ?_;refine wA ?_;refine .p h1 ?_;refine wA ?_;refine .p h2 ?_;refine wA ?_;refine .p h3 ?_;refine wA ?_;refine .p h4 ?_;refine wA ?_;exact jd
  ·rw[hn,if_pos rfl]at hE;rw[hn]at h2 hV;rw[if_neg (by omega),if_pos rfl]at hV;have di:=As hv hn Bt.2.1;have cm:=nk (t:=t) (i:=1) (by omega);have b1:=fP (jZ (t:=t) (i:=1) (by omega));rw[hV,hE];generalize hM:fO t 1=M at *;rw[ao];refine aI.x T6 Tryz.func289 rfl ?_;refine wA ?_;refine .p h1 ?_;refine wA ?_;refine .p h2 ?_;refine wA ?_;exact jd
 ·rw[if_pos hv]at hE;rw[if_pos (by omega)]at hV;rw[hV,hE,hz];refine aI.x T6 Tryz.func289 rfl ?_;refine wA ?_;refine .p h1 ?_;refine wA ?_;exact⟨_,rfl,rfl⟩
theorem jc(s:ByteArray)(n:Int):aI C 44 [.str s,.int .i64 n] (enc (.mk 2 s n [])):=by
 rw[bh];refine aI.x T6 Tryz.func44 rfl ?_;refine wA ?_;exact⟨_,rfl,by simp[aO,b9,aR]⟩
theorem J8:aI C 66 [] (.aa false (ae vC)):=aI.oF (n:=40) (by kernel_rfl)
theorem DU(n:Nat)(h:n<2):aI C 68 [.int .i64 n] (.str ⟨#[UInt8.ofNat (48+n)]⟩):=by
 match n,h with
 |0,_=>exact aI.oF (n:=40) (by kernel_rfl)
 |1,_=>exact aI.oF (n:=40) (by kernel_rfl)
theorem GC(x:List Nat):aI C 63 [.aa false (eW x)] (.bool (decide (20<x.length))):=by
 have cr:=lZ x;refine aI.x T6 Tryz.func63 rfl ?_;refine wC (λhc=>?_) λhc=>?_
 ·exact⟨_,rfl,by rw[decide_eq_true (by omega)];rfl⟩
 ·exact⟨_,rfl,by rw[decide_eq_false (by omega)];rfl⟩
theorem II{h:ab}{k o:Int}{n:ByteArray}{es:List PV}{x:PV}(hv:ar es=true:=by simp)(hm:aR es=es:=by simp)(hx:ke h x=some x:=by rfl)(hn:b9 x=x:=by rfl):∃r1,rb h (aO [.agg (List.take (3+1) (List.drop 0 (cells (.agg [.int .i64 k,.str n,.int .i64 o,.aa false es])))),x])=some r1/\b9 r1=.ct [.agg [.int .i64 k,.str n,.int .i64 o,.aa false es],x]:=by
 refine⟨.ct [.agg [.int .i64 k,.str n,.int .i64 o,.aa false es],x],?_,by simp[b9,aR,hn,hm]⟩;simp only[aO,rb,gz,hx];simp[ke,nw,oB,cells,aW]
theorem WO:enc Gp=.agg [.int .i64 2,.str ⟨#[97]⟩,.int .i64 1,.aa false []]:=by rw[Gp,bh,pY]
theorem exB:enc Tw=.agg [.int .i64 2,.str ⟨#[98]⟩,.int .i64 1,.aa false []]:=by rw[Tw,bh,pY]
theorem IJ(s:ByteArray)(t:Tm){v:PV}(h:enc t=v):aI C 43 [.str s,.aa false [v]] (.agg [.int .i64 3,.str s,.int .i64 0,.aa false [v]]):=by
 have a:=(nO s [t] (by simp)).nine;rw[bh,ae,h]at a;exact a
theorem TD(s:ByteArray)(t u:Tm){v w:PV}(h:enc t=v)(h2:enc u=w):aI C 43 [.str s,.aa false [v,w]] (.agg [.int .i64 3,.str s,.int .i64 0,.aa false [v,w]]):=by
 have a:=(nO s [t,u] (by simp)).nine;rw[bh,ae,ae,h,h2]at a;exact a
theorem exS(a:Tm){v:PV}(h:enc a=v):enc (.mk 3 Ah 0 [a])=.agg [.int .i64 3,.str ⟨#[115,107]⟩,.int .i64 0,.aa false [v]]:=by
 rw[bh,show ae [a]=[enc a] by simp[ae],h]
 rfl
theorem exP(a:Tm){v:PV}(h:enc a=v):enc (.mk 3 FG 0 [.mk 3 Ah 0 [a]])=.agg [.int .i64 3,.str ⟨#[112,107]⟩,.int .i64 0,.aa false [.agg [.int .i64 3,.str ⟨#[115,107]⟩,.int .i64 0,.aa false [v]]]]:=by
 rw[bh,show ae [Tm.mk 3 Ah 0 [a]]=[enc (.mk 3 Ah 0 [a])] by simp[ae],exS a h]
 rfl
theorem wm(t:Tm):ae [t]=[.agg [.int .i64 t.k,.str t.s,.int .i64 t.o,.aa false (ae t.l)]]:=by rw[ae,ao];rfl
theorem PN(t u:Tm):ae [t,u]=[.agg [.int .i64 t.k,.str t.s,.int .i64 t.o,.aa false (ae t.l)],.agg [.int .i64 u.k,.str u.s,.int .i64 u.o,.aa false (ae u.l)]]:=by rw[ae,ae,ao,ao];rfl
theorem sa(H:ab)(hH:HR H):ay C 65 [] H (λr h'=>r=.aa true (ae oq)/\gq H h'):=by
 have aA:=jc ⟨#[97]⟩ 1;have aB:=jc ⟨#[98]⟩ 1;have aN:=jc ⟨#[110,35,48]⟩ 2;have aM:=jc ⟨#[109,35,49]⟩ 2;have aK:=jc ⟨#[107,35,48]⟩ 3;have aH:=jc ⟨#[104,105]⟩ 5;have aS:=TD ⟨#[115,104,107]⟩ Gp Tw WO exB;have aX:=IJ ⟨#[115,107]⟩ Tw exB;have aP:=IJ ⟨#[112,107]⟩ (.mk 3 Ah 0 [Tw]) (exS Tw exB);rw[bh,pY]at aA aB aN aM aK aH;refine ay.x T6 Tryz.func65 rfl ?_;refine wA ?_;refine .p aA ?_;refine wA ?_;refine .p aB ?_;have hJ:List.set (List.set (H++[(⟨.m,0,4,[.agg [.int .i64 0,.str ByteArray.empty,.int .i64 0,.aa true []]]⟩:aw)]++[(⟨.m,0,4,[.agg [.int .i64 0,.str ByteArray.empty,.int .i64 0,.aa true []]]⟩:aw)]) H.length ⟨.m,0,4,[.agg [.int .i64 2,.str ⟨#[97]⟩,.int .i64 1,.aa false []]]⟩) (H++[(⟨.m,0,4,[.agg [.int .i64 0,.str ByteArray.empty,.int .i64 0,.aa true []]]⟩:aw)]).length ⟨.m,0,4,[.agg [.int .i64 2,.str ⟨#[98]⟩,.int .i64 1,.aa false []]]⟩=H++[⟨.m,0,4,[.agg [.int .i64 2,.str ⟨#[97]⟩,.int .i64 1,.aa false []]]⟩,⟨.m,0,4,[.agg [.int .i64 2,.str ⟨#[98]⟩,.int .i64 1,.aa false []]]⟩]:=by simp
 refine wA ?_;refine .mk ?_ (bo (o:=(⟨.m,0,4,[.agg [.int .i64 0,.str ByteArray.empty,.int .i64 0,.aa true []]]⟩:aw)) (by simp) rfl (by simp));refine wA ?_;rw[hJ];clear hJ;have hA:(H++[(⟨.m,0,4,[.agg [.int .i64 2,.str ⟨#[97]⟩,.int .i64 1,.aa false []]]⟩:aw),⟨.m,0,4,[.agg [.int .i64 2,.str ⟨#[98]⟩,.int .i64 1,.aa false []]]⟩])[H.length]?=some ⟨.m,0,4,[.agg [.int .i64 2,.str ⟨#[97]⟩,.int .i64 1,.aa false []]]⟩:=by simp
 have hB:(H++[(⟨.m,0,4,[.agg [.int .i64 2,.str ⟨#[97]⟩,.int .i64 1,.aa false []]]⟩:aw),⟨.m,0,4,[.agg [.int .i64 2,.str ⟨#[98]⟩,.int .i64 1,.aa false []]]⟩])[(H++[(⟨.m,0,4,[.agg [.int .i64 0,.str ByteArray.empty,.int .i64 0,.aa true []]]⟩:aw)]).length]?=some ⟨.m,0,4,[.agg [.int .i64 2,.str ⟨#[98]⟩,.int .i64 1,.aa false []]]⟩:=by simp
 have oN:HR (H++[(⟨.m,0,4,[.agg [.int .i64 2,.str ⟨#[97]⟩,.int .i64 1,.aa false []]]⟩:aw),⟨.m,0,4,[.agg [.int .i64 2,.str ⟨#[98]⟩,.int .i64 1,.aa false []]]⟩]):=hH.dA (HV.yg ⟨by simp,by simp⟩ ⟨by simp,by simp⟩);refine .mk _ (by simpa[aR,b9]using aN) ?_;refine wA ?_;refine .mk _ (by simpa[aR,b9]using aM) ?_;refine wA ?_;refine .mk _ (by simpa[aR,b9]using aK) ?_;refine wA ?_;refine .mk _ (by simpa[aR,b9]using aS) ?_;refine wA ?_;refine .mk _ (by simpa[aR,b9]using aX) ?_;refine wA ?_;refine .mk _ (by simpa[aR,b9]using aP) ?_;refine wA ?_;refine .mk _ (by simpa[aR,b9]using aH) ?_;refine wA ?_;exact⟨by simp[aO,oq,ae,lfN,lfM,lfK,lfS,lfP,lfH,WO,exB,bh];exact⟨rfl,rfl,rfl⟩,_,HV.yg ⟨by simp,by simp⟩ ⟨by simp,by simp⟩,rfl⟩
theorem qN(b:List Nat)(l:List Tm)(B:Nat)(hb:FI b)(Du:b.length<100000000)(h0:0<l.length)(tY:l.length<100000000)(hF:Aj B l):∀(f d i:Nat),d+f=3->i<=100000 * d->
  aI C 64 [.aa false (eW b),.int .i64 i,.int .i64 d,.aa false (ae l)] (.ct [enc (iq b l f i).1,.int .i64 (iq b l f i).2])
 |0,d,i,hd,hi=>by
  have cr:=ai l;have heu:=lZ b;have hn:=yh hb i;have hq:((fG b i:Nat):Int).tdiv 2=((fG b i / 2:Nat):Int):=QF (fG b i) 2;have ht:((fG b i:Nat):Int).tmod 2=((fG b i % 2:Nat):Int):=Gs (fG b i) 2;have nf:=te (l:=l) (i:=fG b i / 2 % (ae l).length) (by rw[cr];exact ado _ h0);have hR:iq b l 0 i=(l.getD (fG b i / 2 % (ae l).length) dM,i+1):=by rw[cr];rfl
  rw[hR];dsimp only;generalize l.getD (fG b i / 2 % (ae l).length) dM=g at *;rw[ao]at nf;rw[ao]
  by_cases Cm:i<b.length
  ·have cm:=nP Cm;refine aI.x T6 Tryz.func64 rfl ?_;refine wA ?_;exact jd
  ·have hz:=w9 Cm;rw[hz,Nat.zero_div,Nat.zero_mod]at nf;refine aI.x T6 Tryz.func64 rfl ?_;refine wA ?_;refine .raw 0 rfl ?_;refine wA ?_;exact jd
 |f+1,d,i,hd,hi=>by
  have cr:=ai l;have heu:=lZ b;have hn:=yh hb i;have hq:((fG b i:Nat):Int).tdiv 2=((fG b i / 2:Nat):Int):=QF (fG b i) 2;have ht:((fG b i:Nat):Int).tmod 2=((fG b i % 2:Nat):Int):=Gs (fG b i) 2;have h6:(((fG b i:Nat):Int).tdiv 2).tmod 6=((fG b i / 2 % 6:Nat):Int):=by rw[hq];exact Gs (fG b i / 2) 6
  have nf:=te (l:=l) (i:=fG b i / 2 % (ae l).length) (by rw[cr];exact ado _ h0);have hgl:Nj b l i=l.getD (fG b i / 2 % (ae l).length) dM:=by rw[cr];rfl
  by_cases oQ:fG b i % 2=0
  ·have hR:iq b l (f+1) i=(Nj b l i,i+1):=by rw[iq,if_pos oQ]
   rw[hR,hgl];dsimp only;generalize l.getD (fG b i / 2 % (ae l).length) dM=g at *;rw[ao]at nf;rw[ao]
   by_cases Cm:i<b.length
   ·have cm:=nP Cm;refine aI.x T6 Tryz.func64 rfl ?_;refine wA ?_;exact jd
   ·have hz:=w9 Cm;rw[hz,Nat.zero_div,Nat.zero_mod]at nf;refine aI.x T6 Tryz.func64 rfl ?_;refine wA ?_;refine .raw 0 rfl ?_;refine wA ?_;exact jd
  ·have Cm:i<b.length:=by
    by_cases h:i<b.length
    ·exact h
    ·rw[w9 h]at oQ;omega
   have cm:=nP Cm;have ga:=x9 (b:=b) h0 hF f (i+1);have h2f:2^ (f+1)<=8:=Nat.pow_le_pow_right (by omega) (show f+1<=3 by omega);have hX:=qN b l B hb Du h0 tY hF f (d+1) (i+1) (by omega) (by omega);have hY:=qN b l B hb Du h0 tY hF f (d+1) (iq b l f (i+1)).2 (by omega) (by omega);have PO:fG b i / 2 % 6=0->iq b l (f+1) i=(.mk 3 x6 0 [(iq b l f (i+1)).1],(iq b l f (i+1)).2):=λh=>by rw[iq,if_neg oQ,if_pos h]
   have PQ:fG b i / 2 % 6≠0->fG b i / 2 % 6<=2->iq b l (f+1) i=(.mk 3 iP 0 [(iq b l f (i+1)).1,(iq b l f (iq b l f (i+1)).2).1],(iq b l f (iq b l f (i+1)).2).2):=λh h'=>by rw[iq,if_neg oQ,if_neg h,if_pos h']
   have hR3:fG b i / 2 % 6=3->iq b l (f+1) i=(.mk 3 fC 0 [(iq b l f (i+1)).1,Ni],(iq b l f (iq b l f (i+1)).2).2):=λh=>by rw[iq,if_neg oQ,if_neg (by omega),if_neg (by omega),if_pos h]
   have hR4:¬fG b i / 2 % 6<=2->fG b i / 2 % 6≠3->iq b l (f+1) i=(.mk 3 gd 0 [(iq b l f (i+1)).1,(iq b l f (iq b l f (i+1)).2).1],(iq b l f (iq b l f (i+1)).2).2):=λh h'=>by rw[iq,if_neg oQ,if_neg (by omega),if_neg h,if_neg h']
   generalize iq b l (f+1) i=R at *;generalize iq b l f (iq b l f (i+1)).2=Y at *;generalize iq b l f (i+1)=X at *;obtain⟨x,nx⟩:=X;obtain⟨y,ny⟩:=Y;simp only at hX hY PO PQ hR3 hR4
   push_cast at hX hY
   have a1:=(nO ⟨#[104,97,115,104]⟩ [x] (by simp)).nine;have a2:=(nO ⟨#[101,110,99]⟩ [x,y] (by simp)).nine;have a4:=(nO ⟨#[112,97,105,114]⟩ [x,y] (by simp)).nine;rw[ao]at hX hY;rw[bh,wm]at a1;rw[bh,PN]at a2 a4;refine aI.x T6 Tryz.func64 rfl ?_;refine wA ?_;refine .p hX ?_;refine wC (λhc=>?_) λhc=>?_
   ·rw[PO (by omega),bh,wm];refine .p a1 ?_;refine wA ?_;exact II
   ·refine .p hY ?_;refine wI (λhc=>?_) (λhc hc=>?_) λhc hc=>?_
    ·rw[PQ (by omega) (by omega),bh,PN];refine .p a2 ?_;refine wA ?_;exact II
    ·rw[hR3 (by omega)]
     have e3:enc (.mk 3 fC 0 [x,Ni])=.agg [.int .i64 3,.str ⟨#[97,101,110,99]⟩,.int .i64 0,.aa false [.agg [.int .i64 x.k,.str x.s,.int .i64 x.o,.aa false (ae x.l)],.agg [.int .i64 3,.str ⟨#[112,107]⟩,.int .i64 0,.aa false [.agg [.int .i64 3,.str ⟨#[115,107]⟩,.int .i64 0,.aa false [.agg [.int .i64 2,.str ⟨#[97]⟩,.int .i64 1,.aa false []]]]]]]]:=by
      rw[bh,show ae [x,Ni]=[enc x,enc Ni] by simp[ae],Ni,exP Gp WO,ao]
      rfl
     have b1:=jc ⟨#[97]⟩ 1;have b2:=IJ ⟨#[115,107]⟩ Gp WO;have b3:=IJ ⟨#[112,107]⟩ (.mk 3 Ah 0 [Gp]) (exS Gp WO);have b4:=TD ⟨#[97,101,110,99]⟩ x Ni (ao x) (exP Gp WO);rw[bh,pY]at b1;rw[e3]
     skip
     refine .mk _ (by simpa[aR,b9]using b1) ?_;refine wA ?_;refine .mk _ (by simpa[aR,b9]using b2) ?_;refine wA ?_;refine .mk _ (by simpa[aR,b9]using b3) ?_;refine wA ?_;refine .p b4 ?_;refine wA ?_;exact II
    ·rw[hR4 (by omega) (by omega),bh,PN];refine .p a4 ?_;refine wA ?_;exact II
theorem Wp{l:List Tm}(h:∀t∈l,cx t=0):(l.flatMap bu).length<=l.length * 10000:=by
 induction l with
 |nil=>simp
 |cons t l ih=>
  have h1:=ih λx hx=>h x (by simp[hx])
  have h2:=eO t;have h3:=dx (h t (by simp));simp only[acJ,abr,abx]at h1 ⊢;omega
theorem Sx(b l:List Tm):C9 b l=(gb (l.flatMap bu)).all λx=>bF b x:=by
 rw[Bool.eq_iff_iff];unfold C9;simp only[abk,eG,acp];exact⟨λh x ⟨t,ht,hx⟩=>h t ht x hx,λh t ht x hx=>h x ⟨t,ht,hx⟩⟩
theorem Nq(l:List fV)(hl:l.length<1000000000)(hb:∀d∈l,d.kn.length<10000000/\∀t∈d.kn++[d.tm],ax t<10000000):aI C 31 [.aa false (cw l)] (.int .i64 (nL l)):=by
 have cr:=jT l;refine aI.x T6 Tryz.func31 rfl ?_;refine wC (λhc=>?_) λhc=>?_
 ·exact⟨_,rfl,by rw[nL,if_pos (by omega)];rfl⟩
 have Rt:nL l=mO none [] l:=by rw[nL,if_neg (by omega)]
 refine cO.zip T6 l (λp q L H=>∃v,L=[(0,.aa false (cw l)),(3,v),(4,.int .i64 p.length)]/\HV H/\Out 4 H v (ae (eP p))/\nL l=mO (og p) (eP p) q/\∀d∈p,cx d.tm=0) (.nx ⟨_,rfl,HV.nil,.inl ⟨rfl,rfl⟩,Rt,by simp⟩) ?_ ?_
 ·rintro p d q _ H ρ e ⟨v,rfl,hH,ho,hs,hp⟩;have cm:=kJ e;have di:=lenE e;obtain⟨Ae,LX⟩:=hb d (by rw[e];simp);have hon:=Ps d (by omega) LX;have hek:=ai d.kn;rw[kZ]at hon
  have Ch:bE.bH d≠0->nL l=bE.bH d:=λh=>by
   rw[hs,mO];unfold bE.bH at h ⊢
   by_cases h1:40<d.kn.length
   ·rw[if_pos h1,if_pos h1]
   ·rw[if_neg h1]at h ⊢;rw[if_neg h1,if_pos h]
  have Zu:bE.bH d=0->d.kn.length<=40/\(∀t∈d.kn++[d.tm],cx t=0)/\nL l=if kept (og p) d.kn=false then 9 else if C9 (eP p) d.kn=false then 13 else mO (some d.kn) (eP p++bu d.tm) q:=λh=>by
   unfold bE.bH at h
   split at h
   ·cases h
   ·rename_i h1
    exact⟨by omega,pV h,by rw[hs,mO,if_neg h1,if_neg (by omega)]⟩
  refine wA ?_;refine .p hon ?_;refine wC (λhc=>?_) λhc=>?_
  ·obtain⟨abg,Ws,hs⟩:=Zu (by omega);have Cj:=BS hp;have Du:=Fo hp;have kH:p.length<41:=by omega
   have ME:=ai (eP p);have IN:=Wp (l:=d.kn) λt ht=>Ws t (by simp[ht])
   have hvo:=p9 d.kn (by omega) (by omega) (λt ht=>by have:=dx (Ws t (by simp[ht]));omega);have NE:=pU (d.kn.flatMap bu);have iK:=ai (gb (d.kn.flatMap bu))
   have WW:∀x∈gb (d.kn.flatMap bu),ax x<=10000:=λx hx=>by
    obtain⟨t,ht,hx⟩:=acp.1 ((eG _ _).1 hx);have:=jU hx;have:=dx (Ws t (by simp[ht]));omega
   have FM:=dx (Ws d.tm (by simp));have JV:=nQ d.tm (by omega);have PS:=eO d.tm;have oQ:=ai (bu d.tm);have AS:=Sx (eP p) d.kn;rw[ao]at JV
   by_cases D4:p=[]
   ·have P4:kept (og p) d.kn=true:=by rw[D4];rfl
    rw[P4,if_neg (by simp)]at hs;have Dv:p.length=0:=by rw[D4];rfl
    refine cO.zip T6 ([]:List Tm) (λp2 q2 L K=>L=[(0,.aa false (cw l)),(3,v),(4,.int .i64 p.length),(6,.int .i64 p2.length)]/\H=K) (.nx ⟨rfl,rfl⟩) ?_ ?_
    ·rintro p2 u q2 _ K ρ e2 _
     cases p2 <;>cases e2
    ·rintro _ _ ρ ⟨rfl,rfl⟩;refine wA ?_;refine .p hvo ?_;refine wA ?_;refine cO.zip T6 (gb (d.kn.flatMap bu)) (λp4 q4 L K=>L=[(0,.aa false (cw l)),(3,v),(4,.int .i64 p.length),(7,.aa false (ae (gb (d.kn.flatMap bu)))),(8,.int .i64 p4.length)]/\H=K/\∀x∈p4,bF (eP p) x=true) (.nx ⟨rfl,rfl,by simp⟩) ?_ ?_
     ·rintro p4 x q4 _ _ ρ e4 ⟨rfl,rfl,H9⟩;have MV:=bg e4;have Qr:=lenE e4;have hxb:=WW x (by rw[e4];simp);have T0:=tM (eP p) x (by omega) (by omega) (λt ht=>by have:=Cj t ht;omega);rw[ao]at T0;refine wA ?_;refine .YX (.inl ho) T0 ?_
      cases hh:bF (eP p) x
      ·have sC:C9 (eP p) d.kn=false:=by
        rw[AS,ac2];exact⟨x,by rw[e4];simp,by simp[hh]⟩
       refine wA ?_;exact⟨_,rfl,by rw[hs,if_pos sC];rfl⟩
      ·refine wA ?_;exact .nx ⟨rfl,rfl,λw hw=>by rcases abp.1 hw with h |h;exact H9 w h;simp at h;rw[h];exact hh⟩
     ·rintro _ _ ρ ⟨rfl,rfl,H9⟩
      have sC:C9 (eP p) d.kn=true:=by
       rw[AS,abk];exact H9
      rw[sC,if_neg (by simp)]at hs;refine wA ?_;refine .p JV ?_;refine wG λv H lp=>?_;refine .nx ⟨_,rfl,lp.hv,?_,by rw[j',jk];exact hs,λw hw=>by rcases abp.1 hw with h |h;exact hp w h;simp at h;rw[h];exact Ws d.tm (by simp)⟩;have:=lp.out;rw[jk,bT];exact this
   ·obtain⟨p',e0,qW⟩:∃p' e0,p=p'++[e0]:=by
     rcases adl p with h |⟨a,b,h⟩
     ·exact absurd h D4
     ·exact⟨a,b,by rw[h];simp⟩
    have rn:=kJ (l:=l) (p:=p') (d:=e0) (q:=d::q) (by rw[e,qW];simp);have Dv:p.length=p'.length+1:=by rw[qW];simp
    have CL:og p=some e0.kn:=by rw[qW,j']
    have he0:=hb e0 (by rw[e,qW];simp);have abh:=ai e0.kn;have DG:(cw l)[p.length]?=some (.agg [.aa false (ae d.kn),.int .i64 d.tm.k,.str d.tm.s,.int .i64 d.tm.o,.aa false (ae d.tm.l)]):=cm;refine cO.zip T6 e0.kn (λp2 q2 L K=>L=[(0,.aa false (cw l)),(3,v),(4,.int .i64 p.length),(6,.int .i64 p2.length)]/\H=K/\∀t∈p2,bF d.kn t=true) (.nx ⟨rfl,rfl,by simp⟩) ?_ ?_
    ·rintro p2 u q2 _ _ ρ e2 ⟨rfl,rfl,FO⟩;have nf:=bg e2;have AX:=lenE e2;have T0:=tM d.kn u (by have:=he0.2 u (by rw[e2];simp);omega) (by omega) (λt ht=>by have:=dx (Ws t (by simp[ht]));omega);rw[ao]at T0;refine wA ?_;refine .mk (n:=p'.length) ?_ (by omega) rn rfl;refine wA ?_;refine .mk (n:=p'.length) ?_ (by omega) rn rfl;refine wA ?_;refine .p T0 ?_
     cases hh:bF d.kn u
     ·have Jk:kept (og p) d.kn=false:=by
       rw[CL];show(e0.kn.all λt=>bF d.kn t)=false;rw[ac2];exact⟨u,by rw[e2];simp,by simp[hh]⟩
      refine wA ?_;exact⟨_,rfl,by rw[hs,if_pos Jk];rfl⟩
     ·refine wA ?_;exact .nx ⟨rfl,rfl,λw hw=>by rcases abp.1 hw with h |h;exact FO w h;simp at h;rw[h];exact hh⟩
    ·rintro _ _ ρ ⟨rfl,rfl,FO⟩
     have Jk:kept (og p) d.kn=true:=by
      rw[CL];show(e0.kn.all λt=>bF d.kn t)=true;rw[abk];exact FO
     rw[Jk,if_neg (by simp)]at hs;refine wA ?_;refine .mk (n:=p'.length) ?_ (by omega) rn rfl;refine wA ?_;refine .p hvo ?_;refine wA ?_;refine cO.zip T6 (gb (d.kn.flatMap bu)) (λp4 q4 L K=>L=[(0,.aa false (cw l)),(3,v),(4,.int .i64 p.length),(7,.aa false (ae (gb (d.kn.flatMap bu)))),(8,.int .i64 p4.length)]/\H=K/\∀x∈p4,bF (eP p) x=true) (.nx ⟨rfl,rfl,by simp⟩) ?_ ?_
     ·rintro p4 x q4 _ _ ρ e4 ⟨rfl,rfl,H9⟩;have MV:=bg e4;have Qr:=lenE e4;have hxb:=WW x (by rw[e4];simp);have T0:=tM (eP p) x (by omega) (by omega) (λt ht=>by have:=Cj t ht;omega);rw[ao]at T0;refine wA ?_;refine .YX (.inl ho) T0 ?_
      cases hh:bF (eP p) x
      ·have sC:C9 (eP p) d.kn=false:=by
        rw[AS,ac2];exact⟨x,by rw[e4];simp,by simp[hh]⟩
       refine wA ?_;exact⟨_,rfl,by rw[hs,if_pos sC];rfl⟩
      ·refine wA ?_;exact .nx ⟨rfl,rfl,λw hw=>by rcases abp.1 hw with h |h;exact H9 w h;simp at h;rw[h];exact hh⟩
     ·rintro _ _ ρ ⟨rfl,rfl,H9⟩
      have sC:C9 (eP p) d.kn=true:=by
       rw[AS,abk];exact H9
      rw[sC,if_neg (by simp)]at hs;refine wA ?_;refine .p JV ?_;refine wG λv H lp=>?_;refine .nx ⟨_,rfl,lp.hv,?_,by rw[j',jk];exact hs,λw hw=>by rcases abp.1 hw with h |h;exact hp w h;simp at h;rw[h];exact Ws d.tm (by simp)⟩;have:=lp.out;rw[jk,bT];exact this
  ·have hx:=Ch (by assumption);exact⟨_,rfl,by rw[hx];rfl⟩
 ·rintro _ H ρ ⟨v,rfl,hH,ho,hs,hp⟩;refine wA ?_;exact⟨_,rfl,by rw[hs,mO];rfl⟩
theorem Ic{t:Tm}(h:valid t=0):t.k=1\/t.k=2\/t.k=3:=by
 obtain⟨k,n,o,l⟩:=t;have h1:=(lV (fq.1 h).1).1;simp only[node]at h1
 split at h1
 ·cases h1
 ·show k=1\/k=2\/k=3;omega
theorem LG(t:Tm)(n:Int):aI C 126 [enc t,.int .i64 n] (.bool (decide ((t.k=1\/t.k=2)/\t.o=n))):=by
 rw[ao];refine aI.x T6 Tryz.func126 rfl ?_
 (repeat' (first |(refine Rn.go ?_;conv=>whnf)|refine .mk ?_ |refine .mk (λhc=>?_) λhc=>?_ |fail))
 all_goals exact⟨_,rfl,by simp[aO, *]⟩
theorem Bc(x t:Tm)(hx:ax x<100000000)(ht:ax t<100000000):aI C 69 [enc x,enc t] (.bool (lq x t)):=by
 have h1:=(gL x (by omega)).nine;have h2:=(gL t (by omega)).nine;have h3:=LG t x.o;have hk:=Ic (t:=t);rw[ao]at h1 h2 h3 ⊢;rw[ao t];refine aI.x T6 Tryz.func69 rfl ?_;refine wA ?_;refine .p h1 ?_;refine wJ (λhc hc=>?_) (λhc hc=>?_) λhc=>?_
 ·refine .p h2 ?_;refine wJ (λhc hc=>?_) (λhc hc=>?_) λhc=>?_
  ·exact⟨_,rfl,by simp[aO,lq, *]⟩
  ·have hk:=hk (by omega)
   have h8:lq x t=decide ((t.k=1\/t.k=2)/\t.o=x.o):=by
    unfold lq
    congr 1
    rw[eq_iff_iff]
    constructor
    ·rintro⟨_,_,_,h |h⟩ <;>omega
    ·intro h;exact⟨by omega,by omega,by omega,by omega⟩
   refine .p h3 ?_;rw[h8]
   cases decide ((t.k=1\/t.k=2)/\t.o=x.o)
   all_goals
    refine wA ?_;exact⟨_,rfl,rfl⟩
  ·exact⟨_,rfl,by simp[aO,lq, *]⟩
 all_goals exact⟨_,rfl,by simp[aO,lq, *]⟩
theorem C1(b:dD)(hv:ax b.v<100000000)(ht:ax b.t<100000000):aI C 133 [uo b] (.int .i64 (vw b)):=by
 have h1:=(gL b.v (by omega)).nine;have h2:=(gL b.t (by omega)).nine;have h3:=(oc b.v b.t (by omega) (by omega)).nine;have h4:=Bc b.v b.t hv ht;rw[ao]at h1 h2 h3 h4;rw[ao b.t]at h3 h4;rw[oW];refine aI.x T6 Tryz.func133 rfl ?_;refine wA ?_;refine .p h1 ?_;refine wJ (λhc hc=>?_) (λhc hc=>?_) λhc=>?_
 ·refine .p h3 ?_
  by_cases hc:aT b.v b.t=0
  ·rw[decide_eq_true hc];refine wA ?_;exact⟨_,rfl,by rw[vw,if_neg (by omega),if_pos (.inr hc)];rfl⟩
  ·rw[decide_eq_false hc];have Au:¬(b.v.k≠1\/aT b.v b.t=0):=by omega
   refine wA ?_;refine .p h2 ?_;refine wC (λhc=>?_) λhc=>?_
   ·refine .p h4 ?_
    cases hf:lq b.v b.t
    ·refine wA ?_;exact⟨_,rfl,by rw[vw,if_neg (by omega),if_neg Au,if_neg (by omega),if_pos hf];rfl⟩
    ·refine wA ?_;exact⟨_,rfl,by rw[vw,if_neg (by omega),if_neg Au,if_neg (by omega),if_neg (by rw[hf];simp)];rfl⟩
   ·exact⟨_,rfl,by rw[vw,if_neg (by omega),if_neg Au,if_pos (by omega)];rfl⟩
 ·exact⟨_,rfl,by rw[vw,if_neg (by omega),if_pos (.inl (by assumption))];rfl⟩
 ·exact⟨_,rfl,by rw[vw,if_pos (by omega)];rfl⟩
theorem Fb(s:List dD)(hl:s.length<1000000000)(hb:∀b∈s,ax b.v<100000000/\ax b.t<100000000):aI C 76 [.aa false (bD s)] (.int .i64 (iD s)):=by
 have cr:=gi s;refine aI.x T6 Tryz.func76 rfl ?_;refine wC (λhc=>?_) λhc=>?_
 ·exact⟨_,rfl,by rw[iD,if_pos (by omega)];rfl⟩
 have Rt:iD s=mP none s:=by rw[iD,if_neg (by omega)]
 refine cO.zip T6 s (λp q L H=>L=[(0,.aa false (bD s)),(3,.int .i64 p.length)]/\H=[]/\iD s=mP (rJ p) q) (.nx ⟨rfl,rfl,Rt⟩) ?_ ?_
 ·rintro p b q _ _ ρ e ⟨rfl,rfl,hs⟩;have cm:=gH e;have di:=lenE e;obtain⟨Yz,FM⟩:=hb b (by rw[e];simp);have h1:=C1 b Yz FM;rw[oW]at h1;have hE:vw b≠0->iD s=vw b:=λh=>by rw[hs,Pl (q:=q) h]
  have hN:vw b=0->iD s=if behind (rJ p) b.v=false then 5 else mP (some b.v) q:=λh=>by rw[hs,mP,if_neg (by rw[h];simp)]
  refine wA ?_;refine .p h1 ?_;refine wJ (λhc hc=>?_) (λhc hc=>?_) λhc=>?_
  ·have xL:=hN (by omega)
   have D4:p≠[]:=λh=>by
    have:p.length=0:=by rw[h];rfl
    omega
   obtain⟨p',e0,qW⟩:∃p' e0,p=p'++[e0]:=by
    rcases adl p with h |⟨a,b,h⟩
    ·exact absurd h D4
    ·exact⟨a,b,by rw[h];simp⟩
   have rn:=gH (l:=s) (p:=p') (b:=e0) (q:=b::q) (by rw[e,qW];simp);have Dv:p.length=p'.length+1:=by rw[qW];simp
   have CL:rJ p=some e0.v:=by rw[qW,ka]
   have h5:=(xM e0.v b.v (by have:=(hb e0 (by rw[e,qW];simp)).1;omega) (by omega)).nine;rw[ao,ao b.v]at h5;rw[CL]at xL;refine .mk (n:=p'.length) ?_ (by omega) rn rfl;refine wA ?_;refine .p h5 ?_;refine wC (λhc=>?_) λhc=>?_
   ·exact⟨_,rfl,by rw[xL,if_pos (by simp[behind];omega)];rfl⟩
   ·exact .nx ⟨rfl,rfl,by rw[ka,xL,if_neg (by simp[behind];omega)]⟩
  ·have xL:=hN (by omega);have D4:p=[]:=abA (by omega);have P4:behind (rJ p) b.v=true:=by rw[D4];rfl
   rw[P4,if_neg (by simp)]at xL;exact .nx ⟨rfl,rfl,by rw[ka];exact xL⟩
  ·have hx:=hE (by assumption);exact⟨_,rfl,by rw[hx];rfl⟩
 ·rintro _ _ ρ ⟨rfl,rfl,hs⟩;refine wA ?_;exact⟨_,rfl,by rw[hs];rfl⟩
theorem Sz{s p q:List dD}{b:dD}{x:Tm}(e:s=p++b::q)(hp:∀c∈p,aT c.v x≠0)(hb:aT b.v x=0):ly s x=b.t:=by
 subst e
 induction p with
 |nil=>rw[abT,ly,if_pos hb]
 |cons c p ih=>rw[abH,ly,if_neg (hp c (by simp)),ih λd hd=>hp d (by simp[hd])]
theorem Pt(s:List dD)(x:Tm)(hl:s.length<1000000000)(hb:∀b∈s,ax b.v<100000000)(hx:ax x<100000000):aI C 219 [.aa false (bD s),enc x] (enc (ly s x)):=by
 have cr:=gi s;rw[ao x,ao];refine aI.x T6 Tryz.func219 rfl ?_;refine wA ?_;refine cO.zip T6 s (λp q L H=>L=[(0,.aa false (bD s)),(3,.ptr 0 0 0 0),(4,.ptr 1 0 0 0),(5,.int .i64 p.length)]/\H=[⟨.m,0,4,[.agg [.int .i64 x.k,.str x.s,.int .i64 x.o,.aa false (ae x.l)]]⟩,⟨.m,0,4,[.agg [.int .i64 0,.str ByteArray.empty,.int .i64 0,.aa true []]]⟩]/\∀c∈p,aT c.v x≠0) (.nx ⟨rfl,rfl,by simp⟩) ?_ ?_
 ·rintro p b q _ _ ρ e ⟨rfl,rfl,hp⟩;have cm:=gH e;have di:=lenE e;have QY:=(oc b.v x (by have:=hb b (by rw[e];simp);omega) (by omega)).nine;rw[ao,ao x]at QY;refine wA ?_;refine .p QY ?_
  by_cases hc:aT b.v x=0
  ·rw[decide_eq_true hc,Sz e hp hc];refine wA ?_;exact Eu
  ·rw[decide_eq_false hc];refine wA ?_;exact .nx ⟨rfl,rfl,λw hw=>by rcases abp.1 hw with h |h;exact hp w h;simp at h;rw[h];exact hc⟩
 ·rintro _ _ ρ ⟨rfl,rfl,hp⟩;rw[u7 hp];refine wA ?_;exact Eu
theorem SA(S:List dD)(hS:rL S)(k s o l)(hb:ax (.mk k s o l)<10000000)(ih:∀t∈l,aI C 170 [.aa false (bD S),enc t] (enc (da S t))):aI C 170 [.aa false (bD S),enc (.mk k s o l)] (enc (da S (.mk k s o l))):=by
 have cr:=ai l;have tY:=ba l;have hl:l.length<10000000:=by simp only[ax]at hb;omega
 have Ac:=Pt S (.mk k s o l) (by have:=hS.len;omega) (λb hb=>by have:=hS.v b hb;omega) (by omega);obtain⟨g,hg⟩:∃g,g=ly S (.mk k s o l):=⟨_,rfl⟩;have hpv:k=1->da S (.mk k s o l)=g:=λh=>by rw[da,if_pos h,hg]
 have hpt:k≠1->da S (.mk k s o l)=.mk k s o (cc S l):=λh=>by rw[da,if_neg h]
 rw[<-hg,ao g]at Ac;rw[bh]at Ac ⊢;refine aI.x T6 Tryz.func170 rfl ?_
 by_cases hk:k=1
 ·rw[hpv hk,ao];refine wA ?_;refine .p Ac ?_;refine wA ?_;exact Eu
 ·rw[hpt hk,bh];refine wA ?_
  have C6:HR [⟨.m,0,4,[.agg [.int .i64 k,.str s,.int .i64 o,.aa false (ae l)]]⟩,⟨.m,0,4,[.agg [.int .i64 0,.str ByteArray.empty,.int .i64 0,.aa true []]]⟩,⟨.m,0,4,[.agg [.int .i64 k,.str s,.int .i64 o,.aa true []]]⟩]:=by
   intro x hx
   simp at hx;rcases hx with rfl |rfl |rfl <;>simp[bw,bq]
  refine cO.zip T6 l (λp q L H=>∃v,L=[(0,.aa false (bD S)),(3,.ptr 0 0 0 0),(4,.ptr 1 0 0 0),(5,.ptr 2 0 0 0),(6,.int .i64 p.length)]/\HR H/\H[0]?=some ⟨.m,0,4,[.agg [.int .i64 k,.str s,.int .i64 o,.aa false (ae l)]]⟩/\H[1]?=some ⟨.m,0,4,[.agg [.int .i64 0,.str ByteArray.empty,.int .i64 0,.aa true []]]⟩/\H[2]?=some ⟨.m,0,4,[.agg [.int .i64 k,.str s,.int .i64 o,v]]⟩/\Out 4 H v (ae (cc S p))/\∀i∈bV v,3<=i) (.nx ⟨_,rfl,C6,rfl,rfl,rfl,.inl ⟨rfl,rfl⟩,by simp[bV]⟩) ?_ ?_
  ·rintro p u q _ H ρ e ⟨v,rfl,hH,g0,g1,g2,ho,hv⟩;have cm:=bg e;have di:=lenE e;have hi:=ih u (by rw[e];simp);have kH:=gS S p;have hle:=ai (cc S p);obtain⟨w,hw⟩:∃w,w=da S u:=⟨_,rfl⟩;rw[<-hw,ao u,ao w]at hi
   have m':ae (cc S p)++[.agg [.int .i64 w.k,.str w.s,.int .i64 w.o,.aa false (ae w.l)]]=ae (cc S (p++[u])):=by
    rw[eN,eN,ab6,bT,<-ao,hw];rfl
   have AX:=ag g2;refine wA ?_;refine .p hi ?_;refine wA ?_;refine .lr (λv' h' lr=>?_) ho;have yf:∀j,j<3->∀ep n,v≠.ak j ep 0 n:=λj hj ep n hh=>by have:=hv j (by rw[hh];simp[bV]);omega
   have f0:=(lr.fr 0 (by omega) (yf 0 (by omega))).trans g0;have f1:=(lr.fr 1 (by omega) (yf 1 (by omega))).trans g1;have f2:=(lr.fr 2 (by omega) (yf 2 (by omega))).trans g2;have VH:=lr.hr
   have N5:∀i∈bV v',3<=i:=λi hi=>by
    rcases lr.bV i hi with h |h
    ·exact hv i h
    ·omega
   have lo:=lr.out;rw[m']at lo;have N6:=lo.bq;rcases lo with⟨_,hx⟩|⟨id,ep,rfl,bW⟩
   ·have:=congrArg List.length hx;rw[ai,gS]at this;simp at this
   have k2:=ag f2;refine wA ?_;have PJ:=N5 id (by simp[bV]);exact .nx ⟨_,rfl,VH.set _ (by simp) (by simpa[bw,bq]using N6),(abm (by omega)).trans f0,(abm (by omega)).trans f1,abl k2,.inr ⟨id,ep,rfl,(abm (by omega)).trans bW⟩,N5⟩
  ·rintro _ H ρ ⟨v,rfl,hH,g0,g1,g2,ho,hv⟩;have k1:=ag g1;have e2:=abl (a:=(⟨.m,0,4,[.agg [.int .i64 k,.str s,.int .i64 o,v]]⟩:aw)) k1;have zO:Out 4 (H.set 1 ⟨.m,0,4,[.agg [.int .i64 k,.str s,.int .i64 o,v]]⟩) v (ae (cc S l)):=ho.of_eq λi hi=>abm (by have:=hv i hi;omega)
   rcases ho with⟨rfl,he⟩|⟨id,ep,rfl,bW⟩
   ·refine wA ?_;refine .mk ?_ (jY (T:=T6) rfl e2 rfl rfl rfl rfl);exact⟨Lz zO (by simp) (by simp)⟩
   ·refine wA ?_;refine .mk ?_ (jY (T:=T6) rfl e2 rfl rfl rfl rfl);exact⟨Lz zO (by simp) (by simp)⟩
theorem Pu(S:List dD)(hS:rL S)(t:Tm)(hb:ax t<10000000):aI C 170 [.aa false (bD S),enc t] (enc (da S t)):=by
 induction t using Tm.ind with
 |h k s o l ih=>
  refine SA S hS k s o l hb λt ht=>ih t ht ?_;have:=bC ht;simp only[ax]at hb;omega
theorem Zv{S:List dD}(hS:iD S=0):aI C 76 [.aa false (bD S)] (.int .i64 0):=by
 obtain⟨h1,h2,h3⟩:=qK hS
 have:=Fb S (by omega) λb hb=>by
  have h4:=ee (lX (h2 b hb)).1;have h5:=ee (lX (h2 b hb)).2.2.1;exact⟨by omega,by omega⟩
 rwa[hS]at this
theorem zA(S:List dD)(hS:iD S=0)(t:Tm)(hb:ax t<10000000):aI C 119 [.aa false (bD S),enc t] (.ct [enc (bI S t).1,.int .i64 (bI S t).2]):=by
 have h0:=Zv hS;have ga:=rL.of hS;have h1:=(gL t (by omega)).nine;have h2:=Pu S ga t hb;have h3:valid t=0->aI C 125 [enc (da S t)] (.int .i64 (valid (da S t))):=λh=>(gL (da S t) (by have:=Jq hS h;omega)).nine
 have a1:valid t≠0->bI S t=(dM,valid t):=λh=>by rw[bI,if_pos h]
 have a2:valid t=0->valid (da S t)≠0->bI S t=(dM,valid (da S t)):=λh h'=>by rw[bI,if_neg (by omega),if_pos h']
 have a3:valid t=0->valid (da S t)=0->bI S t=(da S t,0):=λh h'=>by rw[bI,if_neg (by omega),if_neg (by omega)]
 generalize bI S t=A at *;generalize da S t=u at *;rw[ao t]at h1 h2 ⊢;rw[ao u]at h2 h3;refine aI.x T6 Tryz.func119 rfl ?_;refine wA ?_;refine .p h0 ?_;refine wA ?_;refine .p h1 ?_;refine wC (λhc=>?_) λhc=>?_
 ·have hv:valid t=0:=by omega
  refine .p h2 ?_;refine wA ?_;refine .p (h3 hv) ?_;refine wC (λhc=>?_) λhc=>?_
  ·rw[a3 hv (by omega),ao];exact jd
  ·rw[a2 hv (by omega),kj];exact⟨_,rfl,rfl⟩
 ·rw[a1 (by omega),kj];exact⟨_,rfl,rfl⟩
theorem aaV{h:ab}{v:PV}{k o n:Int}{s:ByteArray}{es:List PV}{l:List Tm}(ho:Out 4 h v es)(hv:ar es=true)(hn:aR es=es):∃r1,rb h (aO [.agg [v,.int .i64 k,.str s,.int .i64 o,.aa false (ae l)],.int .i64 n])=some r1/\b9 r1=.ct [.agg [.aa false es,.int .i64 k,.str s,.int .i64 o,.aa false (ae l)],.int .i64 n]:=by
 obtain⟨r,h1,h2⟩:∃r,oB h v=some r/\b9 r=.aa false es:=by
  rcases ho with⟨rfl,rfl⟩|⟨id,ep,rfl,e2⟩
  ·exact⟨_,rfl,rfl⟩
  ·exact⟨.aa false es,by simp[oB,getM,e2,hv],by simp[b9,hn]⟩
 refine⟨.ct [.agg [r,.int .i64 k,.str s,.int .i64 o,.aa false (ae l)],.int .i64 n],?_,by simp[b9,aR,h2]⟩;simp only[aO,rb,gz,ke,nw,h1];simp[oB]
def Ci(S:List dD)(d:fV):fV:=if lz S d.kn≠0 then⟨[],dM⟩else⟨cc S d.kn,(bI S d.tm).1⟩
theorem QN(S:List dD)(hS:iD S=0)(d:fV)(hl:d.kn.length<10000000)(hb:∀t∈d.kn++[d.tm],ax t<10000000):aI C 60 [sV d,.aa false (bD S)] (.ct [sV (Ci S d),.int .i64 (lA S d)]):=by
 have cr:=ai d.kn;have mK:=zA S hS d.tm (hb d.tm (by simp));have hd1:lz S d.kn≠0->lA S d=lz S d.kn/\Ci S d=⟨[],dM⟩:=λh=>⟨by rw[lA,if_pos h],by rw[Ci,if_pos h]⟩
 have Gi:lz S d.kn=0->lA S d=(bI S d.tm).2/\Ci S d=⟨cc S d.kn,(bI S d.tm).1⟩:=λh=>⟨by rw[lA,if_neg (by omega)],by rw[Ci,if_neg (by omega)]⟩
 generalize lA S d=DE at *;generalize Ci S d=RD at *;obtain⟨w,hw⟩:∃w,w=(bI S d.tm).1:=⟨_,rfl⟩;obtain⟨wn,hwn⟩:∃n,n=(bI S d.tm).2:=⟨_,rfl⟩;rw[<-hw,<-hwn,ao d.tm,ao w]at mK;rw[<-hw,<-hwn]at Gi;rw[kZ];refine aI.x T6 Tryz.func60 rfl ?_;refine wA ?_
 have C6:HR [⟨.m,0,5,[.agg [.aa false (ae d.kn),.int .i64 d.tm.k,.str d.tm.s,.int .i64 d.tm.o,.aa false (ae d.tm.l)]]⟩,⟨.m,0,5,[.agg [.aa true [],.int .i64 0,.str ByteArray.empty,.int .i64 0,.aa true []]]⟩,⟨.m,0,5,[.agg [.aa true [],.int .i64 0,.str ByteArray.empty,.int .i64 0,.aa true []]]⟩]:=by
  intro x hx
  simp at hx;rcases hx with rfl |rfl |rfl <;>simp[bw,bq]
 refine cO.zip T6 d.kn (λp q L H=>∃v,L=[(1,.aa false (bD S)),(2,.ptr 0 0 0 0),(4,.ptr 1 0 0 0),(6,.ptr 2 0 0 0),(7,.int .i64 p.length)]/\HR H/\H[0]?=some ⟨.m,0,5,[.agg [.aa false (ae d.kn),.int .i64 d.tm.k,.str d.tm.s,.int .i64 d.tm.o,.aa false (ae d.tm.l)]]⟩/\H[1]?=some ⟨.m,0,5,[.agg [.aa true [],.int .i64 0,.str ByteArray.empty,.int .i64 0,.aa true []]]⟩/\H[2]?=some ⟨.m,0,5,[.agg [v,.int .i64 0,.str ByteArray.empty,.int .i64 0,.aa true []]]⟩/\Out 4 H v (ae (cc S p))/\(∀i∈bV v,3<=i)/\∀u∈p,(bI S u).2=0) (.nx ⟨_,rfl,C6,rfl,rfl,rfl,.inl ⟨rfl,rfl⟩,by simp[bV],by simp⟩) ?_ ?_
 ·rintro p u q _ H ρ e ⟨v,rfl,hH,g0,g1,g2,ho,hv,hp⟩;have cm:=bg e;have di:=lenE e;have G6:=zA S hS u (hb u (by rw[e];simp));have kH:=gS S p;have hle:=ai (cc S p);have h0:(bI S u).2=0->(bI S u).1=da S u:=λh=>by rw[(nY h).1]
  have hx:(bI S u).2≠0->lz S d.kn=(bI S u).2:=Jr e hp
  have hpn:(bI S u).2=0->∀w∈p++[u],(bI S w).2=0:=λh w hw=>by
   rcases abp.1 hw with h1 |h1
   ·exact hp w h1
   ·simp at h1;rw[h1];exact h
  generalize(bI S u).1=x at *;generalize(bI S u).2=xn at *;rw[ao u,ao x]at G6;have oN:HR (H++[⟨.m,0,4,[.agg [.int .i64 x.k,.str x.s,.int .i64 x.o,.aa false (ae x.l)]]⟩]):=hH.dA (HV.one (by simp));have ui:=ho.cB [⟨.m,0,4,[.agg [.int .i64 x.k,.str x.s,.int .i64 x.o,.aa false (ae x.l)]]⟩];have AX:=ag g2;have g0':(H++[⟨.m,0,4,[.agg [.int .i64 x.k,.str x.s,.int .i64 x.o,.aa false (ae x.l)]]⟩])[0]?=some ⟨.m,0,5,[.agg [.aa false (ae d.kn),.int .i64 d.tm.k,.str d.tm.s,.int .i64 d.tm.o,.aa false (ae d.tm.l)]]⟩:=by rw[abj (by omega)];exact g0
  have JJ:(H++[⟨.m,0,4,[.agg [.int .i64 x.k,.str x.s,.int .i64 x.o,.aa false (ae x.l)]]⟩])[1]?=some ⟨.m,0,5,[.agg [.aa true [],.int .i64 0,.str ByteArray.empty,.int .i64 0,.aa true []]]⟩:=by rw[abj (by omega)];exact g1
  have Tb:(H++[⟨.m,0,4,[.agg [.int .i64 x.k,.str x.s,.int .i64 x.o,.aa false (ae x.l)]]⟩])[2]?=some ⟨.m,0,5,[.agg [v,.int .i64 0,.str ByteArray.empty,.int .i64 0,.aa true []]]⟩:=by rw[abj (by omega)];exact g2
  refine wA ?_;refine .p G6 ?_;refine wC (λhc=>?_) λhc=>?_
  ·refine .lr (λv' h' lr=>?_) ui;have yf:∀j,j<3->∀ep n,v≠.ak j ep 0 n:=λj hj ep n hh=>by have:=hv j (by rw[hh];simp[bV]);omega
   have f0:=(lr.fr 0 (by simp) (yf 0 (by omega))).trans g0';have f1:=(lr.fr 1 (by simp;omega) (yf 1 (by omega))).trans JJ;have f2:=(lr.fr 2 (by simp;omega) (yf 2 (by omega))).trans Tb;have VH:=lr.hr
   have N5:∀i∈bV v',3<=i:=λi hi=>by
    rcases lr.bV i hi with h |h
    ·exact hv i h
    ·simp at h;omega
   have hxx:=h0 (by omega)
   have m':ae (cc S p)++[.agg [.int .i64 x.k,.str x.s,.int .i64 x.o,.aa false (ae x.l)]]=ae (cc S (p++[u])):=by
    rw[eN,eN,ab6,bT,<-ao,hxx];rfl
   have lo:=lr.out;rw[m']at lo;have N6:=lo.bq;rcases lo with⟨_,hx⟩|⟨id,ep,rfl,bW⟩
   ·have:=congrArg List.length hx;rw[ai,gS]at this;simp at this
   have k2:=ag f2;refine wA ?_;have PJ:=N5 id (by simp[bV]);exact .nx ⟨_,rfl,VH.set _ (by simp) (by simpa[bw,bq]using N6),(abm (by omega)).trans f0,(abm (by omega)).trans f1,abl k2,.inr ⟨id,ep,rfl,(abm (by omega)).trans bW⟩,N5,hpn (by omega)⟩
  ·have hxx:=hx (by omega);obtain⟨r1,r2⟩:=hd1 (by omega);rw[r1,r2];have e2:=abl (a:=(⟨.m,0,5,[.agg [.aa true [],.int .i64 0,.str ByteArray.empty,.int .i64 0,.aa true []]]⟩:aw)) (ag JJ);refine .mk ?_ (jY (T:=T6) rfl e2 rfl rfl rfl rfl);exact⟨⟨_,rfl,by rw[hxx];rfl⟩⟩
 ·rintro _ H ρ ⟨v,rfl,hH,g0,g1,g2,ho,hv,hp⟩;have FB:=u9 hp;obtain⟨r1,r2⟩:=Gi FB;rw[r1,r2];have oN:HR (H++[⟨.m,0,4,[.agg [.int .i64 w.k,.str w.s,.int .i64 w.o,.aa false (ae w.l)]]⟩]):=hH.dA (HV.one (by simp));have ui:=ho.cB [⟨.m,0,4,[.agg [.int .i64 w.k,.str w.s,.int .i64 w.o,.aa false (ae w.l)]]⟩];have k2:=ag g2;have JJ:(H++[⟨.m,0,4,[.agg [.int .i64 w.k,.str w.s,.int .i64 w.o,.aa false (ae w.l)]]⟩])[1]?=some ⟨.m,0,5,[.agg [.aa true [],.int .i64 0,.str ByteArray.empty,.int .i64 0,.aa true []]]⟩:=by rw[abj (by omega)];exact g1
  have Tb:(H++[⟨.m,0,4,[.agg [.int .i64 w.k,.str w.s,.int .i64 w.o,.aa false (ae w.l)]]⟩])[2]?=some ⟨.m,0,5,[.agg [v,.int .i64 0,.str ByteArray.empty,.int .i64 0,.aa true []]]⟩:=by rw[abj (by omega)];exact g2
  have s2:((H++([⟨.m,0,4,[.agg [.int .i64 w.k,.str w.s,.int .i64 w.o,.aa false (ae w.l)]]⟩]:ab)).set 2 ⟨.m,0,5,[.agg [v,.int .i64 w.k,.str w.s,.int .i64 w.o,.aa false (ae w.l)]]⟩)[2]?=some ⟨.m,0,5,[.agg [v,.int .i64 w.k,.str w.s,.int .i64 w.o,.aa false (ae w.l)]]⟩:=abl (by simp;omega);have s1:((H++([⟨.m,0,4,[.agg [.int .i64 w.k,.str w.s,.int .i64 w.o,.aa false (ae w.l)]]⟩]:ab)).set 2 ⟨.m,0,5,[.agg [v,.int .i64 w.k,.str w.s,.int .i64 w.o,.aa false (ae w.l)]]⟩)[1]?=some ⟨.m,0,5,[.agg [.aa true [],.int .i64 0,.str ByteArray.empty,.int .i64 0,.aa true []]]⟩:=(abm (by omega)).trans JJ;have e2:(((H++([⟨.m,0,4,[.agg [.int .i64 w.k,.str w.s,.int .i64 w.o,.aa false (ae w.l)]]⟩]:ab)).set 2 ⟨.m,0,5,[.agg [v,.int .i64 w.k,.str w.s,.int .i64 w.o,.aa false (ae w.l)]]⟩).set 1 ⟨.m,0,5,[.agg [v,.int .i64 w.k,.str w.s,.int .i64 w.o,.aa false (ae w.l)]]⟩)[1]?=some ⟨.m,0,5,[.agg [v,.int .i64 w.k,.str w.s,.int .i64 w.o,.aa false (ae w.l)]]⟩:=abl (by simp;omega);have o3:Out 4 (((H++([⟨.m,0,4,[.agg [.int .i64 w.k,.str w.s,.int .i64 w.o,.aa false (ae w.l)]]⟩]:ab)).set 2 ⟨.m,0,5,[.agg [v,.int .i64 w.k,.str w.s,.int .i64 w.o,.aa false (ae w.l)]]⟩).set 1 ⟨.m,0,5,[.agg [v,.int .i64 w.k,.str w.s,.int .i64 w.o,.aa false (ae w.l)]]⟩) v (ae (cc S d.kn)):=ui.of_eq λi hi=>by have:=hv i hi;rw[abm (by omega),abm (by omega)]
  rcases ho with⟨rfl,he⟩|⟨id,ep,rfl,bW⟩
  all_goals
   refine wA ?_;refine .p mK ?_;refine wA ?_;refine .mk ?_ (jY (T:=T6) rfl e2 rfl rfl rfl rfl);exact⟨aaV o3 (by simp) (by simp)⟩
theorem J6{S:List dD}{d:fV}(h:lA S d=0):Ci S d=QB S d:=by
 obtain⟨h1,h2,_⟩:=uD h;rw[Ci,if_neg (by omega),(nY h2).1]
 rfl
end bE
end Go.Pm
