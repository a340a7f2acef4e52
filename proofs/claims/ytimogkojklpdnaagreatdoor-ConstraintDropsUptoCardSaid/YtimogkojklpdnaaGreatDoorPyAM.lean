/-
  A part of the library Pm (joined by program). Conditions: none.
-/
import Derived.Test.YtimogkojklpdnaaGreatDoorPyAA
import Derived.Test.YtimogkojklpdnaaGreatDoorPyAH
import Derived.Test.YtimogkojklpdnaaGreatDoorPyAL
import Derived.Test.YtimogkojklpdnaaGreatDoorPyAG
import Derived.Test.YtimogkojklpdnaaGreatDoorPyAK
import Derived.Test.YtimogkojklpdnaaGreatDoorPyAI
set_option linter.unusedVariables false
set_option linter.unusedSimpArgs false
set_option linter.unnecessarySimpa false
namespace Go.Pm
open Go.Proofs
section
variable{C:cP}(T:lL C.P){ops:Array Oper}{i d:Nat}{ty:TypeId}{pos:String}{af:Array Edge}{r:List Oper}{ρ:Nat->PV}{L:List (Nat×PV)}{h:ab}{L0:Nat}{own:List Nat}{Q:St->Prop}
set_option maxRecDepth 4000
theorem aW.sP{op:Op}(hs:wh T op L λv=>aW C ops (i+1) r ⟨⟨al ((d,v)::L) ρ,h⟩,L0,own⟩ Q):aW C ops i (⟨some d,op,ty,pos,af,none⟩::r) ⟨⟨al L ρ,h⟩,L0,own⟩ Q:=by
 obtain⟨hh,v,hv,k⟩:=pU T hs;exact aW.plain hh (λrun=>hv run 1 ρ h) k
theorem aW.sR{op:Op}(hs:tZ T op L h λv=>aW C ops (i+1) r ⟨⟨al ((d,v)::L) ρ,h⟩,h.length,[]⟩ Q)(dp:aT h=true)(hv:Jb L h op.operands.toList):aW C ops i (⟨some d,op,ty,pos,af,none⟩::r) ⟨⟨al L ρ,h⟩,h.length,[]⟩ Q:=by
 obtain⟨hh,v,hc,k⟩:=kL T hs;exact aW.read hh dp (FI hv) ⟨0,λn lv _ _=>hc _ lv ρ⟩ k
theorem aW.sW{op:Op}(hh:cV op=true)(hl:level ops (before ops) i=2)(hs:uC T op L h λv h'=>aW C ops (i+1) r ⟨⟨al ((d,v)::L) ρ,h'⟩,h'.length,[]⟩ Q):aW C ops i (⟨some d,op,ty,pos,af,none⟩::r) ⟨⟨al L ρ,h⟩,L0,own⟩ Q:=by
 obtain⟨v,h',hc,k⟩:=qh T hs;exact aW.two hh hl ⟨0,λn _=>hc _ ρ⟩ k
theorem aW.Wz{x:Operand}{xs:List Operand}{zM:Array TypeId}{f:FuncId}{args:List PV}{n:Nat}{P:ab->Prop}(hl:level ops (before ops) i=1)(dp:aT h=true)(hf:cM L x=some (.fn f []))(ha:xU L xs=some args)(hm:C.mode f=.opened)(im:bz (aL h) args=true)
  (a:ax C f args (h.map bR) (λr' h'=>r'=.ak h.length 0 0 n/\∃D,h'=h.map bR++D/\(∀o∈D,o.mu≠.l)/\P D))
  (k:∀D,P D->aW C ops (i+1) r ⟨⟨al ((d,.ak h.length 0 0 n)::L) ρ,h++D⟩,h.length,List.replicate D.length i⟩ Q):aW C ops i (⟨some d,.call ⟨.value x,xs.toArray,zM⟩,ty,pos,af,none⟩::r) ⟨⟨al L ρ,h⟩,h.length,[]⟩ Q:=by
 obtain⟨r',h',⟨rfl,D,rfl,hD,hP⟩,n0,hn⟩:=a;refine aW.step ⟨n0,λm h1=>?_⟩ (k D hP);have hM:cr ((before ops).getD i 0).testBit h.length [] h=h:=by simp[cr]
 have he:=gC (ρ:=ρ) ha;have vY:(h.map bR++D).drop h.length=D:=by rw[aa1 (by simp),aaz (by simp)];simp
 have hDl:(D.all λo=>decide (o.mu≠.l))=true:=by rw[Z1];exact λo ho=>decide_eq_true (hD o ho)
 have hb:dQ h.length (.ak h.length 0 0 n)=false:=by simp[dQ,cH,dP]
 have DF:dg C (fe C m) 1 f args h=some (.ak h.length 0 0 n,h++D):=by
  unfold dg;simp only[hm,gP,dV,hn m h1,vY,hDl];simp[hb]
 have kV:((Op.call ⟨.value x,xs.toArray,zM⟩).operands.toList.all λy=>bt (aL h) (ev (al L ρ) y))=true:=by
  rw[Z1]
  intro y hy
  simp[Op.operands,Call.operands]at hy;rcases hy with rfl |hy
  ·rw[an hf];rfl
  ·rw[fw]at im;have:ev (al L ρ) y∈args:=by rw[<-he];exact aak.2 ⟨y,hy,rfl⟩
   exact Z1.1 im _ this
 have cE:¬level ops (before ops) i=2:=by rw[hl];decide
 have jC:ar C (fe C m) 1 (.call ⟨.value x,xs.toArray,zM⟩) (al L ρ) h=some (.ak h.length 0 0 n,h++D):=by
  simp only[ar,fS,an hf,he,aao,DF]
 have DT:(h++D).drop h.length=D:=by simp
 simp only[ct,bm,show cV (.call ⟨.value x,xs.toArray,zM⟩)=true from rfl,aaG,if_false,cE,hM,dp,kV,and_self,if_true,jC,DT,hDl,ck,aaL]
theorem ug{D:ab}(dp:aT h=true):aT (h++D.map eJ)=true:=by
 unfold aT at dp ⊢;rw[Z1]at dp ⊢
 intro o ho
 rcases Z8.1 ho with ho |ho
 ·have:=dp o ho;rw[aaq]at this ⊢;rcases this with h1 |h1
  ·exact .inl h1
  ·refine .inr (eG (λi hi=>?_) _ h1);unfold aL at hi ⊢
   split at hi
   ·rename_i o ho
    rw[Z0 (ag ho),ho];exact hi
   ·cases hi
 ·obtain⟨o',_,rfl⟩:=aak.1 ho;simp[eJ]
theorem zD{D:ab}{e:Nat->Bool}{j:Nat}(he:e j=false):cr e h.length (List.replicate D.length j) (h++D)=h++D.map eJ:=by
 unfold cr;rw[List.take_left' rfl,List.drop_left' rfl]
 congr 1
 induction D with
 |nil=>rfl
 |cons o D ih=>simp[List.replicate_succ,he,ih]
theorem aW.bU{op:Op}{D:ab}{j:Nat}{v:PV}{E:ab}(hh:cV op=true)(hl:level ops (before ops) i=1)(he:((before ops).getD i 0).testBit j=false)(dp:aT h=true)(kV:∀y∈op.operands.toList,aV (ev (al L ρ) y)=true)
  (hc:∀run,ar C run 1 op (al L ρ) (h++D.map eJ)=some (v,h++D.map eJ++E)) (hE:∀o∈E,o.mu≠.l) (k:aW C ops (i+1) r ⟨⟨al ((d,v)::L) ρ,h++D++E⟩,h.length,List.replicate D.length j++List.replicate E.length i⟩ Q):
  aW C ops i (⟨some d,op,ty,pos,af,none⟩::r) ⟨⟨al L ρ,h++D⟩,h.length,List.replicate D.length j⟩ Q:=by
 refine aW.step ⟨0,λm _=>?_⟩ k;have cE:¬level ops (before ops) i=2:=by rw[hl];decide
 have hM:cr ((before ops).getD i 0).testBit h.length (List.replicate D.length j) (h++D)=h++D.map eJ:=zD he
 have Zy:(op.operands.toList.all λy=>bt (aL (h++D.map eJ)) (ev (al L ρ) y))=true:=by
  rw[Z1];exact λy hy=>vg _ _ (kV y hy)
 have vY:(h++D.map eJ++E).drop (h++D).length=E:=by
  rw[aa1 (by simp),aaz (by simp)];simp
 have hEl:(E.all λo=>decide (o.mu≠.l))=true:=by rw[Z1];exact λo ho=>decide_eq_true (hE o ho)
 simp only[ct,bm,hh,aaG,if_false,cE,hM,ug dp,Zy,and_self,if_true,hc,vY,hEl,ck]
theorem aW.TH{x:Operand}{t el:TypeId}{D:ab}{j:Nat}{full:Bool}{es:List PV}(hl:level ops (before ops) i=1)(he:((before ops).getD i 0).testBit j=false)(dp:aT h=true)(hx:cM L x=some (.aa full es))(hk:T.kd t=some (.sl el))
  (k:aW C ops (i+1) r ⟨⟨al ((d,.int .i64 es.length)::L) ρ,h++D⟩,h.length,List.replicate D.length j⟩ Q):aW C ops i (⟨some d,.call ⟨.builtin .len,#[x],#[t]⟩,ty,pos,af,none⟩::r) ⟨⟨al L ρ,h++D⟩,h.length,List.replicate D.length j⟩ Q:=by
 refine aW.bU (E:=[]) (v:=.int .i64 es.length) rfl hl he dp (λy hy=>?_) (λrun=>?_) (by simp) (by simpa using k)
 ·simp[Op.operands,Call.operands]at hy;subst hy;rw[an hx];rfl
 ·simp only[ar,bo,aah,aas,an hx,ov,bp (T.cU _ _ hk),aab,aao]
theorem aW.Pb{l:Operand}{t el:TypeId}{D:ab}{j:Nat}{kk:IntKind}{n sz fZ:Nat}{z:PV}(hl:level ops (before ops) i=1)(he:((before ops).getD i 0).testBit j=false)(dp:aT h=true)(hx:cM L l=some (.int kk n))(hk:T.kd t=some (.sl el))(hs:T.ts el=some (sz+1))(hb:T.tb el=some fZ)(hz:T.tz el=some z)
  (jn:fZ<=65536) (Oc:(cells z).length=sz+1) (ho:(cells z).all bI=true) (hn:n<=1073741824)
  (k:aW C ops (i+1) r ⟨⟨al ((d,.ak (h.length+D.length) 0 0 n)::L) ρ,h++D++[⟨.m,0,sz+1,List.replicate n z⟩]⟩,h.length,List.replicate D.length j++[i]⟩ Q):aW C ops i (⟨some d,.makeSlice t l l,ty,pos,af,none⟩::r) ⟨⟨al L ρ,h++D⟩,h.length,List.replicate D.length j⟩ Q:=by
 refine aW.bU (E:=[⟨.m,0,sz+1,List.replicate n z⟩]) (v:=.ak (h.length+D.length) 0 0 n) rfl hl he dp (λy hy=>?_) (λrun=>?_) (by simp) k
 ·simp[Op.operands]at hy;subst hy;rw[an hx];rfl
 ·simp only[ar,aC,an hx,jy,bp (T.cU _ _ hk),T.dT _ _ hs,T.rI _ _ hb,T.na _ _ hz];rw[if_pos ⟨by omega,by omega,by omega,by omega,by omega,jn,Oc,ho⟩];simp[newObj]
end
attribute [local irreducible] aE az aI aJ Ev ah ai ax aW
set_option maxRecDepth 4000
theorem Pa(cs:List Tm)(x:List Pw)(H:ab)(hs:fO cs)(hl:cs.length<100000000)(hb:∀t∈cs,ay t<1000000000)(hx:As x)(lx:x.length<100000000)(hm:∀p∈x,p.1∈cs):
  ax C 398 [.aa false (ae cs),.aa false (bh x)] H (λr h'=>r=.ak H.length 0 0 cs.length/\∃J:ab,h'=H++⟨.m,0,1,fD (cs.map (tX x))⟩::J/\∀o∈J,o.mu=.m/\ao o.es=true):=by
 have cX:=aj cs;have YJ:=eX x;refine ax.x T6 Tryz.func398 rfl ?_;refine wXA ?_
 refine eD.zip T6 x (λp q L h=>L=[(0,.aa false (ae cs)),(5,.ak H.length 0 0 (ae cs).length),(13,.aa false (bh x)),(14,.int .i64 (bh x).length),(15,.int .i64 p.length)]/\∃J:ab,h=H++⟨.m,0,1,fD (cs.map (tX p))⟩::J/\∀o∈J,o.mu=.m/\ao o.es=true)
  (.nx ⟨rfl,[],?_,by simp⟩) ?_ ?_
 ·have:fD (cs.map (tX []))=List.replicate (ae cs).length (.int .i64 0):=by rw[cX,fD,ab4,<-List.map_const];rfl
  rw[this]
 ·rintro p ⟨u,n⟩ q _ h ρ e ⟨rfl,J,hJ,V4⟩;have e1:h[H.length]?=some ⟨.m,0,1,fD (cs.map (tX p))⟩:=by rw[hJ];simp
  have h1:H.length<h.length:=by rw[hJ];simp
  have cY:=B0 e;have cE:=congrArg List.length e;simp only[List.length_append,List.length_cons]at cE;obtain⟨A,B,hc⟩:=List.append_of_mem (hm (u,n) (by rw[e];simp));dsimp only at hc;have Ix:=C4 cs A B u hc hs hl hb;rw[aw]at Ix;have On:A.length<cs.length:=by rw[hc];simp
  have oQ:(fD (cs.map (tX p)))[0+A.length]?=some (.int .i64 (tX p u)):=by rw[hc];simp[fD]
  have hlen:(fD (cs.map (tX p))).length=cs.length:=by simp
  have bJ:∀y∈p,aU y.1 u≠0:=λy hy=>by
   rw[e]at hx;have:=(ack.1 hx).2.2 y hy (u,n) (by simp);simp only at this;omega
  refine wXA ?_;refine .p Ix ?_;have kC:(fD (cs.map (tX p))).set (0+A.length) (.int .i64 n)=fD (cs.map (tX (p++[(u,n)]))):=by rw[aan];exact PA hc hs bJ
  refine wXA ?_;rw[kC];refine .nx ⟨rfl,J++[⟨.m,0,5,[.agg [.int .i64 u.k,.str u.s,.int .i64 u.o,.aa false (ae u.l),.int .i64 n]]⟩],?_,?_⟩
  ·rw[hJ,aat,aau,abp _ _ (Z5 _),abO,List.set_cons_zero]
  ·intro o ho
   rcases Z8.1 ho with ho |ho
   ·exact V4 o ho
   ·rw[aav.1 ho];exact⟨rfl,by simp⟩
 ·rintro _ h ρ ⟨rfl,J,hJ,V4⟩;refine wXA ?_;exact⟨by rw[cX];rfl,J,hJ,V4⟩
end Go.Pm
namespace Go.Pm
open Go.Proofs
set_option maxRecDepth 4000
structure Km(u:Tm)(k:ab)(x t p c:Nat):Prop where
 hr:HR k
 ex:∃i,k[x]?=some ⟨.m,0,4,[.agg [.aa false (ae [u]),.aa true [],.ak i 0 0 1,.bool false]]⟩/\k[i]?=some ⟨.m,0,1,[.int .i64 (-1)]⟩
 et:k[t]?=some ⟨.m,0,3,[.agg [.ak p 0 0 1,.ak c 0 0 0,.bool false]]⟩
 ep:k[p]?=some ⟨.m,0,1,[.int .i64 1]⟩
theorem IK(u:Tm):tX [(u,1)] u=1:=J8 (p:=[]) (q:=[]) (by simp) (dI u)
namespace bP
attribute [local irreducible] aE az aI aJ Ev ah ai ax aW
theorem O9(x:Nat)(cv pv:PV)(H:ab)(hR:HR H)(ex:H[x]?=some ⟨.m,0,4,[.agg [cv,.aa true [],pv,.bool false]]⟩):ax C 399 [.ptr x 0 0 0,.int .i64 0] H (λr h'=>r=.cx []/\h'=H):=by
 refine ax.x T6 Tryz.func399 rfl ?_;refine wXA ?_;refine eD.nat T6 (λm L h=>m=0/\L=[(0,.ptr x 0 0 0),(1,.int .i64 0)]/\h=H) 0 (.nx ⟨rfl,rfl,rfl⟩) ?_;rintro m _ h ρ ⟨rfl,rfl,rfl⟩;refine wXA ?_;refine eD.zip T6 ([]:List Nat) (λp q L' h'=>h'=h/\p=[]/\L'=[(0,.ptr x 0 0 0),(1,.int .i64 0),(4,.int .i64 (-1)),(5,.int .i64 0),(18,.aa true []),(19,.int .i64 0),(20,.int .i64 0)]) (.nx ⟨rfl,rfl,rfl⟩) ?_ ?_
 ·rintro p a q L' h' ρ e;simp at e
 ·rintro _ h ρ ⟨rfl,_,rfl⟩;refine wXA ?_;exact⟨rfl,rfl⟩
theorem O'(u:Tm)(H:ab)(x t p c:Nat)(K:Km u H x t p c):ax C 388 [.ptr x 0 0 0,.ptr t 0 0 0] H (λr h'=>r=.int .i64 0/\h'=H):=by
 obtain⟨hR,⟨i,ex,ei⟩,et,ep⟩:=K;have cX:(ae [u]).length=1:=aj [u];refine ax.x T6 Tryz.func388 rfl ?_;refine wXA ?_;rw[cX];refine eD.zip T6 [(0:Nat)] (λp q L h=>L=[(0,.ptr x 0 0 0),(1,.ptr t 0 0 0),(12,.int .i64 1),(13,.int .i64 p.length)]/\h=H/\q≠[]) (.nx ⟨rfl,rfl,by simp⟩) ?_ ?_
 ·rintro p i q _ _ ρ e ⟨rfl,rfl,_⟩
  obtain rfl:p=[]:=by
   cases p with
   |nil=>rfl
   |cons b p=>simp at e
  refine wXA ?_;exact⟨rfl,rfl⟩
 ·rintro _ _ ρ ⟨rfl,rfl,h⟩;exact absurd rfl h
theorem IL(u:Tm)(hu:ay u<10000000)(h:dm u=false)(hv:valid u=0):
  ax C 387 [.aa false [],.aa false (bh [(u,1)])] [] (λr h'=>HR h'/\([]:ab).length<=h'.length/\(∀j,j<([]:ab).length->h'[j]?=([]:ab)[j]?)/\∃x t p c,r=.cx [.ptr x 0 0 0,.ptr t 0 0 0,.int .i64 0]/\Km u h' x t p c):=by
 have hvp:lC [(u,1)]=0:=by
  unfold lC;rw[if_neg (by simp),nR,if_neg (by simpa using hv),if_neg (by simp[h]),if_neg (by simp),if_neg (by simp),uu]
 have TG:∀q∈[(u,(1:Int))],ay q.1<100000000:=by simp;omega
 have UI:=(Fi [(u,1)] TG (by simp)).nine;rw[hvp]at UI;have QO:=Kr [[(u,1)]] ⟨λx hx=>by simp at hx;subst hx;exact⟨TG,by simp⟩,by simp⟩;have hf:HE [[(u,1)]]=[u]:=rfl;rw[hf]at QO;have cX:(ae [u]).length=1:=aj [u];refine ax.x T6 Tryz.func387 rfl ?_;refine wXH ?_;refine eD.zip T6 ([]:List Nat) (λp q L h=>p=[]/\L=[(0,.aa false []),(1,.aa false (bh [(u,1)])),(19,.aa false []),(20,.int .i64 0),(21,.int .i64 0)]/\h=[]) (.nx ⟨rfl,rfl,rfl⟩) ?_ ?_
 ·rintro p x q _ h ρ e;simp at e
 rintro _ h ρ ⟨_,rfl,rfl⟩;refine wXH ?_;refine .p UI ?_;refine wXH ?_;refine ai.cz rfl (show bq 1 [.aa false []] []=some (.aa true [],[])from rfl) ?_
 (repeat' (first |(refine Rn.go ?_;conv=>whnf)|((fail_if_success (show Qn _ _ _ _ _));refine .mk ?_)|refine .lp λv H lp=>?_ |fail))
 have yJ:=lp.hv;have yn:Out 1 H v (il [[(u,1)]]):=lp.out;refine .po yn QO (λh4 hh4=>?_)
 have hv4:HV h4:=by
  rcases hh4 with rfl |⟨_,_,_,rfl⟩
  ·exact yJ
  ·exact yJ.set _ (by simp) (by simp)
 clear hh4 yn yJ lp;have hx5:(h4++[(⟨.m,0,4,[.agg [.aa false (ae [u]),.aa true [],.aa true [],.bool false]]⟩:au)])[h4.length]?=some ⟨.m,0,4,[.agg [.aa false (ae [u]),.aa true [],.aa true [],.bool false]]⟩:=by simp
 have hR5:HR (h4++[(⟨.m,0,4,[.agg [.aa false (ae [u]),.aa true [],.aa true [],.bool false]]⟩:au)]):=hv4.hr.dq (HV.one rfl);refine wXH ?_;generalize h4++[(⟨.m,0,4,[.agg [.aa false (ae [u]),.aa true [],.aa true [],.bool false]]⟩:au)]=h5 at *;generalize h4.length=x at *;clear hv4;refine eD.zip T6 ([]:List Nat) (λp q L k=>p=[]/\L=[(0,.aa false []),(1,.aa false (bh [(u,1)])),(11,.ptr x 0 0 0),(50,.aa false []),(51,.int .i64 0),(52,.int .i64 0)]/\k=h5) (.nx ⟨rfl,rfl,rfl⟩) ?_ ?_
 ·rintro p y q _ k ρ e;simp at e
 rintro _ h5 ρ ⟨_,rfl,rfl⟩;refine wXH ?_;refine eD.nat T6 (λm L2 k=>(m=1/\L2=[(0,.aa false []),(1,.aa false (bh [(u,1)])),(11,.ptr x 0 0 0),(89,.int .i64 (ae [u]).length),(90,.int .i64 0)]/\k=h5)\/(m=0/\L2=[(0,.aa false []),(1,.aa false (bh [(u,1)])),(11,.ptr x 0 0 0),(89,.int .i64 (ae [u]).length),(90,.int .i64 1)]/\HR k/\∃i,k[x]?=some ⟨.m,0,4,[.agg [.aa false (ae [u]),.aa true [],.ak i 0 0 1,.bool false]]⟩/\k[i]?=some ⟨.m,0,1,[.int .i64 (-1)]⟩)) 1 (.nx (.inl ⟨rfl,rfl,rfl⟩)) ?_;rintro m _ k ρ (⟨rfl,rfl,rfl⟩|⟨rfl,rfl,hR,i,ex,ei⟩)
 ·have kx:=ag hx5;refine wXH ?_;refine .sn (es:=[]) ?_ rfl (by simp);have ex:(k++[(⟨.m,0,1,[.int .i64 (-1)]⟩:au)])[x]?=some ⟨.m,0,4,[.agg [.aa false (ae [u]),.aa true [],.aa true [],.bool false]]⟩:=by rw[Z0 kx];exact hx5
  have hR:HR (k++[(⟨.m,0,1,[.int .i64 (-1)]⟩:au)]):=hR5.dq (HV.one rfl);refine wXH ?_;refine .nx ⟨0,by omega,.inr ⟨rfl,rfl,hR.set _ (by simp) (by simp[bz,bt]),k.length,Z6 (by simp;omega),?_⟩⟩;rw[Z7 (by omega)];simp
 refine wXH ?_;refine eD.nat T6 (λm L2 K=>K=k/\((m=1/\L2=[(0,.aa false []),(1,.aa false (bh [(u,1)])),(11,.ptr x 0 0 0),(106,.int .i64 (ae [u]).length),(107,.int .i64 0)])\/(m=0/\L2=[(0,.aa false []),(1,.aa false (bh [(u,1)])),(11,.ptr x 0 0 0),(106,.int .i64 (ae [u]).length),(107,.int .i64 1)]))) 1 (.nx ⟨rfl,.inl ⟨rfl,rfl⟩⟩) ?_;rintro m _ K ρ ⟨rfl,(⟨rfl,rfl⟩|⟨rfl,rfl⟩)⟩
 ·refine wXH ?_;refine .same (O9 x _ _ _ hR ex) λr hr=>?_;subst hr;refine wXH ?_;exact .nx ⟨0,by omega,rfl,.inr ⟨rfl,rfl⟩⟩
 have L9:=(Pa [u] [(u,1)] (K.map bR) (by simp[fO]) (by simp) (by simp;omega) (by simp[As]) (by simp) (by simp)).nine;rw[aa6]at L9;refine wXH ?_;refine .raw λρ=>?_;refine aW.sP T6 ?_
 conv=>whnf
 refine aW.sP T6 ?_
 conv=>whnf
 refine aW.sP T6 ?_
 conv=>whnf
 refine aW.sP T6 ?_
 conv=>whnf
 refine aW.sR T6 ?_ hR.closed ⟨A7 ex (by simp),trivial⟩
 conv=>whnf
 refine wXA ?_;refine aW.sP T6 ?_
 conv=>whnf
 refine aW.Wz (n:=1) (P:=λD=>∃J:ab,D=⟨.m,0,1,[.int .i64 1]⟩::J/\∀o∈J,o.mu=.m/\ao o.es=true) rfl hR.closed rfl rfl rfl rfl (L9.mono λr h' hh=>⟨hh.1,?_⟩) λD hD=>?_
 ·obtain⟨_,J,rfl,hJ⟩:=hh
  exact⟨_,rfl,λo ho=>by
   rcases Z'.1 ho with rfl |ho
   ·simp
   ·rw[(hJ o ho).1];simp,J,by simp[fD,IK],hJ⟩
 obtain⟨J,hDJ,hJ⟩:=hD;refine aW.sP T6 ?_
 conv=>whnf
 refine aW.TH T6 rfl rfl hR.closed rfl rfl ?_;refine aW.Pb T6 (n:=0) rfl rfl hR.closed rfl rfl rfl rfl rfl (by decide) rfl rfl (by omega) ?_;refine aW.sP T6 ?_
 conv=>whnf
 refine aW.sW T6 rfl rfl ?_
 conv=>whnf
 refine wXA ?_;refine aW.sP T6 ?_
 conv=>whnf
 refine aW.sP T6 ?_
 conv=>whnf
 refine aW.sP T6 ?_
 conv=>whnf
 obtain⟨kA,OU⟩:∃kA,kA=K++D++[(⟨.m,0,0+1,List.replicate 0 (.int .i64 0)⟩:au)]++[(⟨.m,0,3,[.agg [.ak K.length 0 0 1,.ak (K.length+D.length) 0 0 0,.bool false]]⟩:au)]:=⟨_,rfl⟩;have hlD:K.length+D.length+1=(K++D++[(⟨.m,0,0+1,List.replicate 0 (.int .i64 0)⟩:au)]).length:=by simp;omega
 have lD:0<D.length:=by rw[hDJ];simp
 have aF:∀j,j<K.length->kA[j]?=K[j]?:=λj hj=>by rw[OU,aat,aat,Z0 hj]
 have a3:kA[K.length]?=some ⟨.m,0,1,[.int .i64 1]⟩:=by rw[OU,hDJ];simp
 have a2:kA[K.length+D.length+1]?=some ⟨.m,0,3,[.agg [.ak K.length 0 0 1,.ak (K.length+D.length) 0 0 0,.bool false]]⟩:=by
  rw[OU,hlD,aac (Z5 _),abO];rfl
 have hRA:HR kA:=by
  rw[OU];refine HR.K6 (HR.K6 (hR.dq λo ho=>?_) (by simp) (by simp[bz])) (by simp) (by simp[bz,bt];omega);rw[hDJ]at ho;rcases Z'.1 ho with rfl |ho
  ·simp
  ·rw[(hJ o ho).1];exact⟨by simp,(hJ o ho).2⟩
 have kx:=ag ex;have ki:=ag ei;rw[<-hlD,<-OU];refine aW.nil ⟨_,_,rfl,?_⟩
 conv=>whnf
 skip
 exact⟨hRA,abm _,λj hj=>absurd hj (Nat.not_lt_zero _),x,_,_,_,rfl,hRA,⟨i,by rw[aF _ kx];exact ex,by rw[aF _ ki];exact ei⟩,a2,a3⟩
theorem IM(u:Tm)(hu:ay u<10000000)(h:dm u=false)(hv:valid u=0):
  ax C 372 [.aa false [],.aa false (bh [(u,1)])] [] (λr h'=>HR h'/\([]:ab).length<=h'.length/\(∀j,j<([]:ab).length->h'[j]?=([]:ab)[j]?)/\∃x t p c,r=.cx [.ptr x 0 0 0,.ptr t 0 0 0,.int .i64 0,.int .i64 0]/\Km u h' x t p c):=by
 have yu:=IL u hu h hv;refine ax.x T6 Tryz.func372 rfl ?_;refine wXA ?_;refine .fr yu (λr h hr hb=>?_) (λr h r1 r2 r3 r4=>?_)
 ·obtain⟨x,t,p,c,rfl,K⟩:=hr;simp[dQ,cH,dP]at hb
 obtain⟨x,t,p,c,rfl,K⟩:=r4;have Nu:=O' u _ x t p c K;obtain⟨i,ex,ei⟩:=K.ex;refine wXA ?_;refine .same Nu λr hr=>?_;subst hr;refine wXA ?_;exact⟨r1,r2,r3,x,t,p,c,rfl,K⟩
theorem CT(u:Tm)(hu:ay u<10000000)(h:dm u=false)(hv:valid u=0):∃x,aO C 328 [.aa false [],.aa false (bh [(u,1)])] (.cx [x,.int .i64 4]):=by
 have WA:=IM u hu h hv;refine⟨.aa false [],?_⟩;refine aO.x T6 Tryz.func328 rfl ?_;refine wXA ?_;refine .fr WA (λr h hr hb=>?_) (λr h r1 r2 r3 r4=>?_)
 ·obtain⟨x,t,p,c,rfl,K⟩:=hr;simp[dQ,cH,dP]at hb
 obtain⟨x,t,p,c,rfl,K⟩:=r4;refine wXA ?_;exact⟨_,rfl,rfl⟩
end bP
end Go.Pm
namespace Go.Pm
set_option maxRecDepth 4000
theorem uo{u:Tm}(h:iP u=true):dm u=false:=by
 obtain⟨h1,h2,_,_,_,h6⟩:=l6 h;obtain⟨k,s,o,l⟩:=u
 have key:∀(n:ByteArray) (m:List UInt8),n.toList=m->eV (.mk k s o l) n=false->(decide (k=3)&&decide (s.toList=m))=false:=λn m e hh=>by
  subst e;simp only[eV,gO,Tm.k,Tm.s]at hh
  cases hk:decide (k=3)with
  |false=>rfl
  |true=>
   have e:k=3:=by simpa using hk
   subst e;simp at hh;simpa using hh
 have a1:=key AZ tQ JR h1;have a2:=key A0 lU JS h2;have a3:=key tE tT JT h6;show(decide (k=3)&& (decide (s.toList=tQ)||decide (s.toList=lU)||decide (s.toList=tT)))=false;rw[Bool.and_or_distrib_left,Bool.and_or_distrib_left,a1,a2,a3]
 rfl
theorem LZ{u:Tm}(h:dm u=false)(hv:valid u=0):GN u=([(u,1)],0):=by
 obtain⟨k,s,o,l⟩:=u;have ha:arity (.mk k s o l)=true:=by rw[arity,if_pos h]
 have hc:fW [] (.mk k s o l) 1=[(.mk k s o l,1)]:=by rw[fW,if_pos h];rfl
 rw[GN,if_neg (by omega),if_neg (by rw[ha];simp),hc,if_neg (by simp)]
namespace bP
open Go.Proofs
attribute [local irreducible] aE az aI aJ Ev ah ai ax aW bZ
theorem CS(u:Tm):bh [(u,1)]=[.agg [.int .i64 u.k,.str u.s,.int .i64 u.o,.aa false (ae u.l),.int .i64 1]]:=by obtain⟨k,s,o,l⟩:=u;rfl
theorem O2(s:List Tm)(hs:j8 s)(u:Tm)(hu:ay u<10000000)(id:Nat)(H:ab)(h0:H[id]?=some ⟨.m,0,1,[.aa false (ae s)]⟩):ax C 371 [.agg [.int .i64 u.k,.str u.s,.int .i64 u.o,.aa false (ae u.l),.int .i64 1],.ptr id 0 0 0] H (λr h'=>r=.bool (cN s u)/\fQ H h'):=by
 have h1:=hs.has hu;have cI:=ag h0;rw[aw]at h1;refine ax.x T6 Tryz.func371 rfl ?_;refine wXA ?_;refine .p h1 ?_;refine wXA ?_;exact⟨rfl,(fQ.refl _).cC (HV.one (by simp[ao,aV]))⟩
theorem A4(s:List Tm)(hs:j8 s)(u:Tm)(hu:ay u<10000000)(hn:cN s u=false):aO C 327 [.aa false (ae s),.aa false (bh [(u,1)])] (.aa false (bh [(u,1)])):=by
 rw[CS];obtain⟨B,hB⟩:∃B:ab,B=[⟨.m,0,1,[.aa false (ae s)]⟩,⟨.m,0,5,[.agg [.int .i64 u.k,.str u.s,.int .i64 u.o,.aa false (ae u.l),.int .i64 1]]⟩]:=⟨_,rfl⟩;have UE:B[0]?=some ⟨.m,0,1,[.aa false (ae s)]⟩:=by rw[hB];rfl
 have V':B[1]?=some ⟨.m,0,5,[.agg [.int .i64 u.k,.str u.s,.int .i64 u.o,.aa false (ae u.l),.int .i64 1]]⟩:=by rw[hB];rfl
 have TD:ax C 381 [.ak 1 0 0 1,.fn 371 [.ptr 0 0 0 0]] B (λr h'=>r=.int .i64 (-1)/\fQ B h'):=by
  have UO:([]:List Tm).length=0:=rfl;have XZ:[u].length=1:=rfl;refine ax.x T6 Tryz.func381 rfl ?_;refine wXA ?_;refine eD.zip T6 [u] (λp q L K=>L=[(0,.ak 1 0 0 1),(1,.fn 371 [.ptr 0 0 0 0]),(7,.int .i64 1),(8,.int .i64 p.length)]/\fQ B K) (.nx ⟨rfl,fQ.refl _⟩) ?_ ?_
  ·rintro p a q _ K ρ e ⟨rfl,hE⟩;obtain⟨rfl,JK,rfl⟩:=vv e;have JK:=JK.symm;subst JK;have NH:=hE.at V';have hk:=O2 s hs u hu 0 K (hE.at UE);rw[hn]at hk;refine wXA ?_;refine .ex hk (λh' NM=>?_);refine wXA ?_;exact .nx ⟨rfl,hE.trans NM⟩
  ·rintro _ K ρ ⟨rfl,hE⟩;refine wXA ?_;exact⟨rfl,hE⟩
 have DT:ax C 369 [.ak 1 0 0 1,.fn 371 [.ptr 0 0 0 0]] B (λr h'=>r=.ak 1 0 0 1/\fQ B h'):=by
  refine ax.x T6 Tryz.func369 rfl ?_;refine wXA ?_;refine .ex TD (λh' hE=>?_);refine wXA ?_;exact⟨rfl,hE⟩
 have Im:bq 5 [.aa false [.agg [.int .i64 u.k,.str u.s,.int .i64 u.o,.aa false (ae u.l),.int .i64 1]]] [⟨.m,0,1,[.aa false (ae s)]⟩]=some (.ak 1 0 0 1,B):=by rw[hB];rfl
 refine aO.x T6 Tryz.func327 rfl ?_;refine wXA ?_;refine ai.cz rfl Im ?_;refine wXA ?_;refine .ex DT (λh' hE=>?_);have h1:=hE.at V';refine wXA ?_;exact gV (tl:=[]) (es:=[.agg [.int .i64 u.k,.str u.s,.int .i64 u.o,.aa false (ae u.l),.int .i64 1]]) h1 rfl (by rw[<-CS];simp) (by rw[<-CS];simp)
theorem xm(s:List Tm)(hs:j8 s)(hf:∀t∈s,iP t=true)(u:Tm)(hu:ay u<10000000)(hn:cN s u=false)(Ff:iP u=true)(hv:valid u=0):aO C 280 [.aa false (ae s),.aa false (bh [(u,1)])] (.bool false):=by
 have cX:=aj s;have QC:=hs.len;have h1:=A4 s hs u hu hn;obtain⟨x,h2⟩:=CT u hu (uo Ff) hv;rw[CS]at h1 h2 ⊢;refine aO.x T6 Tryz.func280 rfl ?_;refine wXA ?_;refine .p h1 ?_;refine wXC (λhc=>?_) λhc=>?_
 ·exfalso;simp at hc
 refine eD.zip T6 s (λp q L H=>L=[(0,.aa false (ae s)),(1,.aa false [.agg [.int .i64 u.k,.str u.s,.int .i64 u.o,.aa false (ae u.l),.int .i64 1]]),(5,.aa true []),(18,.aa false (ae s)),(19,.int .i64 (ae s).length),(20,.int .i64 p.length)]/\HV H) (.nx ⟨rfl,HV.nil⟩) ?_ ?_
 ·rintro p t q _ H ρ e ⟨rfl,hH⟩;have cY:=bW e;have cE:=congrArg List.length e;simp only[Z2,Z4]at cE;have h3:=zQ t;obtain⟨g1,g2,_⟩:=l6 (hf t (by rw[e];simp));rw[show CQ t=false by simp[CQ,g1,g2],aw]at h3;refine wXA ?_;refine .p h3 ?_;refine wXA ?_;exact .nx ⟨rfl,hH.cC (HV.one (by simp))⟩
 ·rintro _ H ρ ⟨rfl,hH⟩;refine wXA ?_;refine .p h2 ?_;refine wXA ?_;exact⟨_,rfl,rfl⟩
theorem uT(s:List Tm)(hs:j8 s)(hf:∀t∈s,iP t=true)(u:Tm)(hu:ay u<10000000)(hn:cN s u=false)(Ff:iP u=true)(hv:valid u=0):aO C 214 [.aa false (ae s),enc u] (.bool false):=by
 have h1:=(TE u (by omega)).nine;rw[LZ (uo Ff) hv]at h1;have h2:=xm s hs hf u hu hn Ff hv;rw[CS]at h1 h2;rw[aw]at h1 ⊢;refine aO.x T6 Tryz.func214 rfl ?_;refine wXA ?_;refine .p h1 ?_;refine wXA ?_;refine .p h2 ?_;refine wXA ?_;exact⟨_,rfl,rfl⟩
theorem CU(u:Tm)(Ff:iP u=true):aO C 277 [enc u] (.cx [enc u,.aa false []]):=by
 have h1:=mT u ⟨#[101,120,112]⟩;rw[show eV u ⟨#[101,120,112]⟩=false from(l6 Ff).2.2.1]at h1;rw[aw]at h1 ⊢;refine aO.x T6 Tryz.func277 rfl ?_;refine wXA ?_;refine .p h1 ?_;refine wXA ?_;exact⟨_,rfl,by simp⟩
theorem Fg(u t:Tm)(hu:ay u<10000000)(ht:ay t<10000000)(hft:iP t=true)(bJ:aU u t≠0)(i1 i2 i3:Nat)(H:ab)(hH:HV H)(h1:H[i1]?=some ⟨.m,0,4,[.agg [.int .i64 u.k,.str u.s,.int .i64 u.o,.aa false (ae u.l)]]⟩):
  ax C 278 [enc t,.ptr i1 0 0 0,.ptr i2 0 0 0,.ptr i3 0 0 0] H (λr h'=>r=.bool false/\fQ H h'):=by
 have g1:=CU t hft;have g2:=mQ u t (by omega) (by omega);have TF:=ag h1;rw[decide_eq_false bJ]at g2;rw[aw]at g1 g2 ⊢;rw[aw t]at g2
 have f1:(H++[(⟨.m,0,4,[.agg [.int .i64 t.k,.str t.s,.int .i64 t.o,.aa false (ae t.l)]]⟩:au)]++[⟨.m,0,4,[.agg [.int .i64 t.k,.str t.s,.int .i64 t.o,.aa false (ae t.l)]]⟩])[i1]?=some ⟨.m,0,4,[.agg [.int .i64 u.k,.str u.s,.int .i64 u.o,.aa false (ae u.l)]]⟩:=by
  rw[Z0 (by simp;omega),Z0 TF];exact h1
 refine ax.x T6 Tryz.func278 rfl ?_;refine wXA ?_;refine .p g1 ?_;refine wXA ?_;refine .p g2 ?_;refine wXA ?_;exact⟨rfl,((fQ.refl _).cC (HV.one (by simp))).cC (HV.one (by simp))⟩
theorem CV(s:List Tm)(hs:j8 s)(hf:∀t∈s,iP t=true)(u:Tm)(hu:ay u<10000000)(hn:cN s u=false)(Ff:iP u=true):aO C 213 [.aa false (ae s),enc u] (.bool false):=by
 have h1:=CU u Ff;have hlen:=hs.len;obtain⟨B,hB⟩:∃B:ab,B=[⟨.m,0,1,[.aa false (ae s)]⟩,⟨.m,0,4,[.agg [.int .i64 u.k,.str u.s,.int .i64 u.o,.aa false (ae u.l)]]⟩,⟨.m,0,4,[.agg [.int .i64 u.k,.str u.s,.int .i64 u.o,.aa false (ae u.l)]]⟩,⟨.m,0,1,[.aa false []]⟩]:=⟨_,rfl⟩;have hB2:B[2]?=some ⟨.m,0,4,[.agg [.int .i64 u.k,.str u.s,.int .i64 u.o,.aa false (ae u.l)]]⟩:=by rw[hB];rfl
 have hBv:HV B:=by
  rw[hB];intro o ho;simp only[Z',aa7,or_false]at ho;rcases ho with rfl |rfl |rfl |rfl <;>simp[ao,aV]
 have hc:=GO s 278 [.ptr 2 0 0 0,.ptr 3 0 0 0,.ptr 0 0 0 0] (λ_=>false) B (by omega) (λx hx=>gM.opened λH' hE=>Fg u x hu (hs.bk x hx) (hf x hx) (λh0=>by
  have:=da.2 ((dx h0)▸hx);rw[hn]at this;cases this) 2 3 0 H' (hE.hv hBv) (hE.at hB2))
 have ha:(s.any λ_=>false)=false:=by simp
 rw[ha]at hc;rw[aw]at h1 ⊢;refine aO.x T6 Tryz.func213 rfl ?_;refine wXA ?_;refine .p h1 ?_;refine wXA ?_;rw[<-hB];refine .ex hc (λh' hE=>?_);refine wXA ?_;exact⟨_,rfl,rfl⟩
end bP
structure Cl(u s r:List Tm):Prop where
 Bx:fO r
 base:∀x∈s,x∈r
 QN:∀x∈r,x∈u/\oq u s x
def nX(u r:List Tm):Nat:=u.countP λt=>!cN r t
theorem Cl.len{u s r:List Tm}(U:EX u)(h:Cl u s r):r.length<=u.length:=by
 have:r=u.filter (cN r):=nF h.Bx (iv U.Bx) λy=>by
  rw[aaM,da];exact⟨λhy=>⟨(h.QN y hy).1,hy⟩,λhy=>hy.2⟩
 rw[this];exact aa4 _ _
theorem L3{p q r:List Tm}{t:Tm}(h:cN r t=false):nX (p++t::q) (eZ t r)<nX (p++t::q) r:=by
 have hm:∀l:List Tm,nX l (eZ t r)<=nX l r:=λl=>by
  refine List.countP_mono_left λx _ hx=>?_;simp only[abh]at hx ⊢
  cases hh:cN r x with
  |false=>rfl
  |true=>
   rw[da.2 ((nE t r x).2 (.inr (da.1 hh)))]at hx
   cases hx
 have ht:cN (eZ t r) t=true:=da.2 ((nE t r t).2 (.inl rfl));have h1:=hm p;have h2:=hm q;unfold nX at *;rw[List.countP_append,List.countP_append,abC,abC,ht,h];simp;omega
theorem Cl.add{u s r:List Tm}(U:EX u)(h:Cl u s r){t:Tm}(ht:t∈u)(hs:mU r t=true):Cl u s (eZ t r):=by
 refine⟨v7 h.Bx,λx hx=>(nE _ _ _).2 (.inr (h.base x hx)),λx hx=>?_⟩;rcases(nE _ _ _).1 hx with rfl |hx
 ·exact⟨ht,oq.step U h.QN ht hs⟩
 ·exact h.QN x hx
namespace bP
open Go.Proofs
attribute [local irreducible] aE az aI aJ Ev ah ai ax aW bZ
theorem Cl.ok{u s r:List Tm}(U:EX u)(h:Cl u s r)(hl:u.length<10000000)(hb:∀b∈u,ay b<10000000):j8 r:=
 ⟨h.Bx,by have:=h.len U;omega,λb dO=>hb b (h.QN b dO).1⟩
theorem CX(s:List Tm)(hs:j8 s)(hf:∀t∈s,iP t=true)(u:Tm)(hu:ay u<10000000)(hn:cN s u=false)(Ff:iP u=true)(hv:valid u=0):aO C 212 [.aa false (ae s),enc u] (.bool false):=by
 have cX:=aj s;have QC:=hs.len;have f1:=(l6 Ff).2.2.2.2.1;have f2:=(l6 Ff).2.2.2.1;have h1:=IH u hv hu f1 f2;have h2:=zS [u] (by simp) (λt ht=>by simp at ht;rw[ht];omega);have h3:=II u hv hu f1 f2;have hsu:jb [u]=[u]:=rfl;have yq:ae [u]=[.agg [.int .i64 u.k,.str u.s,.int .i64 u.o,.aa false (ae u.l)]]:=by rw[ae,aw];rfl
 rw[hsu]at h2;rw[yq]at h1 h2;have fN:j8 [u]:=⟨by simp[fO],by simp,λb hb=>by simp at hb;rw[hb];exact hu⟩;rw[aw]at h1 h3 ⊢;refine aO.x T6 Tryz.func212 rfl ?_;refine wXA ?_;refine .p h1 ?_;refine wXA ?_;refine eD.zip T6 s (λp q L H=>L=[(0,.aa false (ae s)),(3,.ptr 0 0 0 0),(5,.aa false [.agg [.int .i64 u.k,.str u.s,.int .i64 u.o,.aa false (ae u.l)]]),(22,.aa false (ae s)),(23,.int .i64 (ae s).length),(24,.int .i64 p.length)]/\HV H/\H[0]?=some ⟨.m,0,4,[.agg [.int .i64 u.k,.str u.s,.int .i64 u.o,.aa false (ae u.l)]]⟩) (.nx ⟨rfl,HV.one (by simp),rfl⟩) ?_ ?_
 ·rintro p t q _ H ρ e ⟨rfl,hH,h0⟩;have cY:=bW e;have cE:=congrArg List.length e;simp only[Z2,Z4]at cE;have g1:=mT t ⟨#[120,111,114]⟩;rw[show eV t ⟨#[120,111,114]⟩=false from(l6 (hf t (by rw[e];simp))).2.2.2.1,aw]at g1;refine wXA ?_;refine .p g1 ?_;refine wXA ?_;exact .nx ⟨rfl,hH.cC (HV.one (by simp)),by rw[Z0 (ag h0)];exact h0⟩
 ·rintro _ H ρ ⟨rfl,hH,h0⟩;refine wXA ?_;refine .p h2 ?_;refine wXA ?_;refine eD.zip T6 s (λp q L H=>L=[(3,.ptr 0 0 0 0),(11,.aa false [.agg [.int .i64 u.k,.str u.s,.int .i64 u.o,.aa false (ae u.l)]]),(12,.aa true []),(42,.aa false (ae s)),(43,.int .i64 (ae s).length),(44,.int .i64 p.length)]/\HV H/\H[0]?=some ⟨.m,0,4,[.agg [.int .i64 u.k,.str u.s,.int .i64 u.o,.aa false (ae u.l)]]⟩) (.nx ⟨rfl,hH,h0⟩) ?_ ?_
  ·rintro p t q _ H ρ e ⟨rfl,hH,h0⟩;have cY:=bW e;have cE:=congrArg List.length e;simp only[Z2,Z4]at cE;have dT:t∈s:=by rw[e];simp
   have g1:=mT t ⟨#[120,111,114]⟩;have g2:=fN.has (hs.bk t dT)
   have XX:cN [u] t=false:=by
    cases hh:cN [u] t with
    |false=>rfl
    |true=>
     have h4:=da.1 hh;simp at h4;rw[<-h4,da.2 dT]at hn
     cases hn
   rw[XX,yq]at g2;rw[show eV t ⟨#[120,111,114]⟩=false from(l6 (hf t dT)).2.2.2.1]at g1;rw[aw]at g1 g2;refine wXA ?_;refine .p g1 ?_;refine wXA ?_;refine .p g2 ?_;refine wXA ?_;exact .nx ⟨rfl,hH.cC (HV.one (by simp)),by rw[Z0 (ag h0)];exact h0⟩
  ·rintro _ H ρ ⟨rfl,hH,h0⟩;refine wXA ?_;refine .p h3 ?_;refine wXA ?_;exact⟨_,rfl,rfl⟩
theorem L4(s:List Tm)(hs:j8 s)(hf:∀t∈s,iP t=true)(EM:∀t∈s,ky t=0)(u:Tm)(hu:ay u<10000000)(Ff:iP u=true)(hv:valid u=0):aO C 164 [.aa false (ae s),enc u] (.bool (mU s u)):=by
 have Nw:u.l.length<10000000:=by obtain⟨k,n,o,l⟩:=u;have:=bE l;simp only[ay]at hu;simp only[Tm.l];omega
 have h1:=hs.has hu;have h2:=E9 u (by omega) (by omega);have h3:=A5 s hs u hu;have h4:=Fh s hs EM u hu;have h5:=CX s hs hf u hu;have h6:=CV s hs hf u hu;have h7:=uT s hs hf u hu;have hR:mU s u=(cN s u ||ti u ||xn s u ||uq s u):=rfl;rw[hR];rw[aw]at h1 h2 h3 h4 h5 h6 h7 ⊢;refine aO.x T6 Tryz.func164 rfl ?_;refine wXA ?_;refine .p h1 ?_
 cases hn:cN s u
 ·refine wXA ?_;refine .p h2 ?_
  cases ti u
  ·refine wXA ?_;refine .p h3 ?_
   cases xn s u
   ·refine wXA ?_;refine .p h4 ?_
    cases uq s u
    ·refine wXA ?_;refine .p (h5 hn Ff hv) ?_;refine wXA ?_;refine .p (h6 hn Ff) ?_;refine wXA ?_;refine .p (h7 hn Ff hv) ?_;refine wXA ?_;exact⟨_,rfl,rfl⟩
    ·refine wXA ?_;exact⟨_,rfl,rfl⟩
   ·refine wXA ?_;exact⟨_,rfl,rfl⟩
  ·refine wXA ?_;exact⟨_,rfl,rfl⟩
 ·refine wXA ?_;exact⟨_,rfl,rfl⟩
theorem CY(u s:List Tm)(U:EX u)(hs:fO s)(hsu:∀x∈s,x∈u)(hl:u.length<10000000)(hb:∀b∈u,ay b<10000000):aO C 115 [.aa false (ae s),.aa false (ae u)] (.aa false (ae (yM u s))):=by
 have cX:=aj u;refine aO.x T6 Tryz.func115 rfl ?_;refine wXA ?_;refine eD.nat T6 (λn L H=>∃r g,n=nX u r+(if g then 1 else 0)/\L=[(0,.aa false (ae r)),(1,.aa false (ae u)),(5,.bool g)]/\Cl u s r/\(g=false->∀t∈u,mU r t=true->t∈r)/\HV H) (nX u s+1) (.nx ⟨s,true,rfl,rfl,⟨hs,λ_ h=>h,λx hx=>⟨hsu x hx,.base hx⟩⟩,by simp,HV.nil⟩) ?_;rintro n _ H ρ ⟨r,g,rfl,rfl,hc,hg,hH⟩
 cases g with
 |false=>
  have hr:r=yM u s:=O3 U hc.Bx hc.QN λt ht hd=>oq.fix U hc.base (λx hx=>(hc.QN x hx).1) (hg rfl) hd
  refine wXA ?_;exact⟨_,rfl,by rw[<-hr];simp[aY,cf,ba]⟩
 |true=>
  refine wXA ?_;refine eD.zip T6 u (λp q L K=>∃r' g',L=[(0,.aa false (ae r')),(1,.aa false (ae u)),(5,.bool g'),(9,.aa false (ae u)),(10,.int .i64 (ae u).length),(11,.int .i64 p.length)]/\Cl u s r'/\(g'=true->nX u r'<nX u r)/\(g'=false->r'=r/\∀t∈p,mU r t=true->t∈r)/\HV K) (.nx ⟨r,false,rfl,hc,by simp,λ_=>⟨rfl,by simp⟩,hH⟩) ?_ ?_
  ·rintro p t q _ K ρ e ⟨r',g',rfl,sG,Wv,ve,hK⟩;have cY:=bW e;have cE:=congrArg List.length e;simp only[Z2,Z4]at cE;have L8:t∈u:=by rw[e];simp
   have fN:j8 r':=Cl.ok U sG hl hb;have h1:=fN.has (hb t L8);have h2:=L4 r' fN (λx hx=>U.fr x (sG.QN x hx).1) (λx hx=>U.ok x (sG.QN x hx).1) t (hb t L8) (U.fr t L8) (mS.1 (U.ok t L8)).1;have h3:=Iy r' t sG.Bx fN.len (λb dO=>by have:=fN.bk b dO;omega) (by have:=hb t L8;omega);rw[aw]at h1 h2 h3;refine wXA ?_;refine .p h1 ?_
   cases hh:cN r' t
   ·refine wXA ?_;refine .p h2 ?_
    cases yu:mU r' t
    ·refine wXA ?_;refine .nx ⟨r',g',rfl,sG,Wv,λh=>⟨(ve h).1,λx hx CZ=>?_⟩,hK.cC (HV.one (by simp))⟩;rcases Z8.1 hx with hx |hx
     ·exact(ve h).2 x hx CZ
     ·simp at hx;rw[hx,<-(ve h).1,yu]at CZ
      cases CZ
    ·refine wXA ?_;refine .p h3 ?_;refine wXA ?_;refine .nx ⟨eZ t r',true,rfl,sG.add U L8 yu,λ_=>?_,by simp,hK.cC (HV.one (by simp))⟩;have cI:nX u (eZ t r')<nX u r':=by rw[e];exact L3 hh
     cases hg':g' with
     |true=>have:=Wv hg';omega
     |false=>rw[(ve hg').1]at cI;rw[(ve hg').1];exact cI
   ·refine wXA ?_;refine .nx ⟨r',g',rfl,sG,Wv,λh=>⟨(ve h).1,λx hx CZ=>?_⟩,hK.cC (HV.one (by simp))⟩;rcases Z8.1 hx with hx |hx
    ·exact(ve h).2 x hx CZ
    ·simp at hx;rw[hx,<-(ve h).1];exact da.1 hh
  ·rintro _ K ρ ⟨r',g',rfl,sG,Wv,ve,hK⟩;refine wXA ?_;refine .nx ⟨nX u r'+(if g' then 1 else 0),?_,r',g',rfl,rfl,sG,λh=>?_,hK⟩
   ·cases g' with
    |true=>have:=Wv rfl;simp;omega
    |false=>rw[(ve rfl).1];simp
   ·obtain⟨rfl,h2⟩:=ve h;exact h2
theorem qz(k:List Tm)(t:Tm)(hf:∀u∈k++[t],iP u=true)(hl:bF (k++[t])<10000000):
  aO C 58 [.aa false (ae k),enc t] (.cx [.bool (lP k t),.int .i64 (gW k t)]):=by
 have yk:=bE (k++[t]);simp only[Z2,Z4,aaE]at yk;have NN:∀u∈k++[t],ay u<10000000:=λu hu=>by have:=bS hu;omega
 have hUb:=tn NN;have hUl:=pp (k++[t]);have h1:=A6 k t hf hl;have yq:ae [t]=[.agg [.int .i64 t.k,.str t.s,.int .i64 t.o,.aa false (ae t.l)]]:=by rw[ae,aw];rfl
 rw[yq]at h1
 by_cases hE:gW k t=0
 ·rw[if_neg (by omega),hE]at h1
  have hrk:lB (k++[t])=0:=by
   unfold gW at hE
   split at hE
   ·omega
   ·split at hE
    ·omega
    ·omega
  have U:EX (fi (k++[t])):=Ln λx hx=>⟨(zH (q9 hrk x hx)).1,hf x hx⟩
  have hks:∀x∈jb k,x∈fi (k++[t]):=λx hx=>(db _ _).2 (bT.2 ⟨x,by simp[(db _ _).1 hx],gf x⟩)
  have h2:=zS k (by omega) (λx hx=>by have:=NN x (by simp[hx]);omega);have h3:=CY _ _ U (j0 k) hks (by omega) hUb;have hd:j8 (yM (fi (k++[t])) (jb k)):=⟨iv U.Bx,by have:=aa4 (λx=>@decide (oq (fi (k++[t])) (jb k) x) (Classical.propDecidable _)) (fi (k++[t]));unfold yM;omega,λb hb=>hUb b (AV.1 hb).1⟩;have h4:=hd.has (NN t (by simp));have hR:lP k t=cN (yM (fi (k++[t])) (jb k)) t:=by rw[lP,decide_eq_true hE,abd]
  rw[hR,hE];rw[aw]at h4 ⊢;refine aO.x T6 Tryz.func58 rfl ?_;refine wXA ?_;refine .p h1 ?_;refine wXA ?_;refine .p h2 ?_;refine wXA ?_;refine .p h3 ?_;refine wXA ?_;refine .p h4 ?_;refine wXA ?_;exact⟨_,rfl,rfl⟩
 ·rw[if_pos hE]at h1;have hR:lP k t=false:=by rw[lP,decide_eq_false hE,Bool.false_and]
  rw[hR,aw];refine aO.x T6 Tryz.func58 rfl ?_;refine wXA ?_;refine .p h1 ?_;refine wXA ?_;exact⟨_,rfl,rfl⟩
end bP
theorem Qo{C:cP}(T:lL C.P){H:ab}{st xt el ql:TypeId}{sz fZ:Nat}{z v:PV}{full:Bool}{es ys:List PV}(hk:T.kd st=some (.sl el))(fB:T.kd xt=some (.sl ql))(hs:T.ts el=some (sz+1))(hb:T.tb el=some fZ)(hz:T.tz el=some z)(jn:fZ<=1000)(hl:(cells z).length=sz+1)(ho:(cells z).all bI=true)
  (o:Out (sz+1) H v es) (hy:dB (sz+1) ys) (hn:es.length+ys.length<1000000000) (iU:ao es=true) (oh:ao ys=true) (hH:HV H):
  ∃r H',bQ C.P 2 H st xt v (.aa full ys)=some (r,H')/\Out (sz+1) H' r (es++ys)/\HV H'/\H.length<=H'.length/\(∀(j:Nat) (o:au),H[j]?=some o->o.mu≠.m->H'[j]?=some o)/\∀(j:Nat) (o:au),H'[j]?=some o->o.mu≠.l\/H[j]?=some o:=by
 by_cases bJ:ys=[]
 ·subst bJ;refine⟨v,H,?_,by simpa using o,hH,Z5 _,λ_ _ h _=>h,λ_ _ h=>.inr h⟩;unfold dB at hy;unfold bQ;rw[bp (T.cU _ _ hk)];simp only[T.dT _ _ hs,T.rI _ _ hb,T.na _ _ hz,cG,bp (T.cU _ _ fB),cw];rw[if_pos ⟨by omega,by omega,⟨hl,ho⟩,hy⟩];rcases o with⟨rfl,_⟩|⟨id,ep,rfl,e⟩
  ·simp
  ·simp only[bg e rfl (by simp:Mu.m≠Mu.x)];rw[if_pos ⟨by simp,trivial⟩];simp
 ·have AD:ys.isEmpty=false:=by cases ys with |nil=>exact absurd rfl bJ |cons=>rfl
  rcases o with⟨rfl,rfl⟩|⟨id,ep,rfl,e⟩
  ·refine⟨_,_,gb T (h:=H) (lv:=2) (full:=full) (by omega) hk fB hs hb hz jn hl ho hy AD (by simpa using hn),.inr ⟨H.length,0,by simp,by simp⟩,hH.cC (HV.one oh),by simp,λj o h _=>by rw[Z0 (ag h)];exact h,λj o h=>?_⟩
   by_cases hj:j<H.length
   ·rw[Z0 hj]at h;exact .inr h
   ·have cI:=ag h;simp at cI;have:j=H.length:=by omega
    subst this;simp at h;subst h;exact .inl (by simp)
  ·have cI:=ag e;have:=kK T (h:=H) (full:=full) (len:=es.length) hk fB hs hb hz jn hl ho hy AD hn (bg e rfl (by simp)) rfl rfl (Z5 _);rw[aaW]at this;refine⟨_,_,this,.inr ⟨id,ep+1,by simp,Z6 cI⟩,hH.set id (by simp) (by simp[bu]at iU oh ⊢;exact⟨iU,oh⟩),by simp,λj o h hm=>?_,λj o h=>?_⟩
   ·by_cases hj:j=id
    ·subst hj;rw[e]at h;cases h;exact absurd rfl hm
    ·rw[Z7 (by omega)];exact h
   ·by_cases hj:j=id
    ·subst hj;rw[Z6 cI]at h;cases h;exact .inl (by simp)
    ·rw[Z7 (by omega)]at h;exact .inr h
section
variable{C:cP}(T:lL C.P){run:hZ}{ops:Array Oper}{b:List Nat}{h0:ab}{i:Nat}{L:Al}{ρ:Nat->PV}{h:ab}
theorem ym{o:Oper}{r:List Oper}{s s':St}(e:cT C run ops b h0 i o s=some s'):cm C run ops b h0 i (o::r) s=cm C run ops b h0 (i+1) r s':=by rw[cm,e]
theorem kP{d:Nat}{op:Op}{v:PV}{y:TypeId}{s:String}{a:Array Edge}(hs:wh T op L (λx=>x=v)):cT C run ops b h0 i ⟨some d,op,y,s,a,none⟩ ⟨al L ρ,h⟩=some ⟨al ((d,v)::L) ρ,h⟩:=by
 obtain⟨hh,v',e,rfl⟩:=pU T hs;unfold cT;simp only[bm,hh,if_true,e,ck]
theorem kR{d:Nat}{op:Op}{v:PV}{y:TypeId}{s:String}{a:Array Edge}(hs:tZ T op L h (λx=>x=v))(hg:rB op (al L ρ)=none)(hr:gE op=true:=by rfl):cT C run ops b h0 i ⟨some d,op,y,s,a,none⟩ ⟨al L ρ,h⟩=some ⟨al ((d,v)::L) ρ,h⟩:=by
 obtain⟨hh,v',e,rfl⟩:=kL T hs;refine Vk hh hr (by simp only[kO,hg]) ?_;have:=e run 1 ρ
 cases op <;>first |exact this |(cases hr)
end
theorem RC{C:cP}(T:lL C.P){L:Al}{ρ:Nat->PV}{M:ab}{t:TypeId}{n:Nat}{ps:Array (Nat×Operand)}{vs:List PV}(x:yD T t n ps.toList L (λ_ es=>es=vs))(hv:ao vs=true):aC C.P 1 (.buildSlice t n ps) (al L ρ) M=some (.aa true vs,M):=by
 obtain⟨sz,es,rfl,e⟩:=mG T x;have:=e ρ M 1;rw[if_pos hv]at this;simpa only[aC]using this
theorem Eh{C:cP}{ops:Array Oper}{L L':Al}{H h':ab}(yk:∀ρ,gq ops (before ops) (al L ρ)=[])(yC:sinks ops (before ops)=none)(Az:∀(j:Nat) (o:au),h'[j]?=some o->o.mu≠.l\/H[j]?=some o)
  (pT:∀run ρ,cm C run ops (before ops) H 0 ops.toList ⟨al L ρ,H⟩=some ⟨al L' ρ,h'⟩):∀run ρ,iS C run ops ⟨al L ρ,H⟩=some ⟨al L' ρ,h'⟩:=by
 intro run ρ
 have h1:∀x:ab,cA [] x=x:=λx=>by
  apply aa2
  intro i
  rw[kJ];simp
 have h2:dW [] H h'=h':=by
  apply aa2
  intro i
  rw[mF];simp
 unfold iS;rw[yk,h1,pT];dsimp only
 have hn:qH [] H h'=true:=sN λj o h=>by
  rcases Az j o h with h |h
  ·exact .inl h
  ·exact .inr (.inr h)
 rw[if_pos ⟨hn,by simp only[qI,yC]⟩,h2]
namespace bP
open Go.Proofs
attribute [local irreducible] aE az aI aJ Ev ah ai ax aW bZ
theorem atM{l p q:List Tm}{u:Tm}{tl:List PV}(e:l=p++u::q):(ae l++tl)[0+p.length]?=some (.agg [.int .i64 u.k,.str u.s,.int .i64 u.o,.aa false (ae u.l)]):=by
 rw[aan,Z0 (by have:=congrArg List.length e;simp at this;rw[aj];omega)];exact bW e
theorem O4(l:List Tm)(tl:List PV)(g:FuncId)(p:Tm->Bool)(id ep:Nat)(H:ab)(e0:H[id]?=some ⟨.m,ep,4,ae l++tl⟩)(hl:l.length<1000000000)(hp:∀x∈l,aO C g [enc x] (.bool (p x)))(hm:C.mode g=.pure):
  ax C 142 [.ak id ep 0 l.length,.fn g []] H (λr h'=>r=.int .i64 (uQ p l)/\fQ H h'):=by
 have cX:=aj l;refine ax.x T6 Tryz.func142 rfl ?_;refine wXA ?_;refine eD.zip T6 l (λa q L K=>L=[(0,.ak id ep 0 l.length),(1,.fn g []),(7,.int .i64 l.length),(8,.int .i64 a.length)]/\fQ H K/\∀y∈a,p y=false) (.nx ⟨rfl,fQ.refl _,by simp⟩) ?_ ?_
 ·rintro a x q _ K ρ e ⟨rfl,hE,ha⟩;have cY:=atM (tl:=tl) e;have hK:=hE.at e0;have cE:=congrArg List.length e;simp only[Z2,Z4]at cE;have AO:=hp x (by rw[e];simp);have hla:(ae l++tl).length=l.length+tl.length:=by rw[Z2,cX]
  rw[aw]at AO;refine wXA ?_;refine ai.pure hm rfl (by simpa using AO) ?_
  cases hb:p x
  ·refine wXA ?_;exact .nx ⟨rfl,hE,λy hy=>by rcases Z8.1 hy with h |h;exact ha y h;simp at h;rw[h];exact hb⟩
  ·refine wXA ?_;exact⟨by rw[e,p8 ha hb];rfl,hE⟩
 ·rintro _ K ρ ⟨rfl,hE,ha⟩;refine wXA ?_;exact⟨by rw[kM ha];rfl,hE⟩
theorem _root_.Go.Pm.Ww{C:cP}(T:lL C.P){run:hZ}{lv:Nat}{L:Al}{ρ:Nat->PV}{h:ab}{t el:TypeId}{x lo:Operand}{k:IntKind}{id ep len sz a:Nat}{o:au}(hx:cM L x=some (.ak id ep 0 len))(yn:cM L lo=some (.int k a))(hk:T.kd t=some (.sl el))(hs:T.ts el=some sz)(hg:getM h id ep=some o)(gv:sz=o.bC)(hl:len<=o.es.length)(ha:a<len):ar C run lv (.slice t x (some lo) none none) (al L ρ) h=some (.ak id ep a (len - a),h):=by
 have h1:cF (some (.int k a)) 0 len=some a:=by simp[cF];omega
 have h2:cg C.P h t (.ak id ep 0 len) (some (.int k a)) none none=some (.ak id ep a (len - a)):=by
  unfold cg;rw[bp (T.cU _ _ hk)];simp only[T.dT _ _ hs,hg];rw[if_pos ⟨gv,by omega⟩];simp only[beyond,cF];rw[if_pos ⟨by omega,by omega⟩]
  by_cases h0:a=0
  ·subst h0;simp
  ·simp[h0];omega
 simp[ar,aC,an hx,an yn,h2]
theorem _root_.Go.Pm.Wx{C:cP}(T:lL C.P){run:hZ}{lv:Nat}{L:Al}{ρ:Nat->PV}{h:ab}{t el:TypeId}{x hi:Operand}{k:IntKind}{id ep len sz b:Nat}{o:au}(hx:cM L x=some (.ak id ep 0 len))(yo:cM L hi=some (.int k b))(hk:T.kd t=some (.sl el))(hs:T.ts el=some sz)(hg:getM h id ep=some o)(gv:sz=o.bC)(hl:len<=o.es.length)(hb:b<=len):ar C run lv (.slice t x none (some hi) none) (al L ρ) h=some (.ak id ep 0 b,h):=by
 have h2:cg C.P h t (.ak id ep 0 len) none (some (.int k b)) none=some (.ak id ep 0 b):=by
  unfold cg;rw[bp (T.cU _ _ hk)];simp only[T.dT _ _ hs,hg];rw[if_pos ⟨gv,by omega⟩];simp only[beyond,cF];rw[if_neg (by omega)];simp;rw[if_pos hb]
 simp[ar,aC,an hx,an yo,h2]
theorem _root_.Go.Pm.Wy{C:cP}(T:lL C.P){run:hZ}{L:Al}{ρ:Nat->PV}{h:ab}{t el:TypeId}{x:Operand}{id ep off len:Nat}{o:au}{z:PV}(hx:cM L x=some (.ak id ep off len))(hk:T.kd t=some (.sl el))(hs:T.ts el=some o.bC)(hz:T.tz el=some z)(hg:getM h id ep=some o)(hm:o.mu=.m)(hl:off+len<=o.es.length)(h1:(cells z).length=o.bC)(h2:(cells z).all bI=true):ar C run 2 (.call ⟨.builtin .clear,#[x],#[t]⟩) (al L ρ) h=some (.cx [],h.set id {o with es:=o.es.take off++List.replicate len z++o.es.drop (off+len)}):=by
 have h3:mf C.P 2 h t (.ak id ep off len)=some (.cx [],h.set id {o with es:=o.es.take off++List.replicate len z++o.es.drop (off+len)}):=by
  unfold mf;rw[bp (T.cU _ _ hk)];simp only[T.dT _ _ hs,T.na _ _ hz,hg];rw[if_pos (by simp only[hm,h1,h2,hl,and_self,Z5])]
 simp[ar,bo,an hx,h3]
theorem O5(l:List Tm)(tl:List PV)(ht:ao tl=true)(g:FuncId)(p:Tm->Bool)(id ep:Nat)(H:ab)(hH:HR H)(e0:H[id]?=some ⟨.m,ep,4,ae l++tl⟩)(hl:l.length<1000000000)(hp:∀x∈l,aO C g [enc x] (.bool (p x)))(hm:C.mode g=.pure):
  ax C 104 [.ak id ep 0 l.length,.fn g []] H (λr h'=>(HR h'/\H.length<=h'.length/\∀j,j<H.length->j≠id->h'[j]?=H[j]?)/\r=.ak id ep 0 (l.filter λx=>!p x).length/\yN h' r (l.filter λx=>!p x)):=by
 have TD:=O4 l tl g p id ep H e0 hl hp hm;have cX:=aj l
 by_cases qp:∀y∈l,p y=false
 ·rw[kM qp]at TD
  have JI:(l.filter λx=>!p x)=l:=by
   rw[List.filter_eq_self]
   intro x hx
   rw[qp x hx];rfl
  rw[JI];refine ax.x T6 Tryz.func104 rfl ?_;refine wXA ?_;refine .ex TD (λh' hE=>?_);obtain⟨J,hJ,rfl⟩:=hE;refine wXA ?_;exact⟨⟨hH.dq hJ,by simp,λj hj _=>Z0 hj⟩,rfl,id,ep,tl,rfl,by rw[Z0 (ag e0)];exact e0,ht⟩
 ·obtain⟨a,x,b,e,ha,hx⟩:∃a x b,l=a++x::b/\(∀y∈a,p y=false)/\p x=true:=by
   clear TD hp e0 cX hl
   induction l with
   |nil=>exact absurd (by simp) qp
   |cons y l ih=>
    cases hy:p y with
    |true=>exact⟨[],y,l,rfl,by simp,hy⟩
    |false=>
     obtain⟨a,x,b,rfl,h1,h2⟩:=ih (λh=>qp λz hz=>by rcases Z'.1 hz with rfl |hz;exact hy;exact h z hz);exact⟨y::a,x,b,rfl,λz hz=>by rcases Z'.1 hz with rfl |hz;exact hy;exact h1 z hz,h2⟩
  have hi:uQ p l=a.length:=by rw[e];exact p8 ha hx
  rw[hi]at TD
  have UJ:(a.filter λx=>!p x)=a:=by
   rw[List.filter_eq_self]
   intro y hy
   rw[ha y hy];rfl
  have ua:=congrArg List.length e;simp only[Z2,Z4]at ua;refine ax.x T6 Tryz.func104 rfl ?_;refine wXA ?_;refine .ex TD (λh' hE=>?_);obtain⟨J,hJ,rfl⟩:=hE;have Y7:=ag e0;have e1:(H++J)[id]?=some ⟨.m,ep,4,ae l++tl⟩:=by rw[Z0 Y7];exact e0
  refine wXA ?_;refine eD.zip T6 b (λc q L K=>L=[(0,.ak id ep 0 l.length),(1,.fn g []),(5,.int .i64 (a++c.filter λx=>!p x).length),(6,.int .i64 (a.length+1+c.length))]/\(HR K/\H.length<=K.length/\∀j,j<H.length->j≠id->K[j]?=H[j]?)/\∃N,0<N.length/\K[id]?=some ⟨.m,ep,4,ae (a++c.filter λx=>!p x)++ae N++(ae q++tl)⟩/\(a++c.filter λx=>!p x).length+N.length+q.length=l.length) (.nx ⟨rfl,⟨hH.dq hJ,by simp,λj hj _=>Z0 hj⟩,[x],by simp,?_,?_⟩) ?_ ?_
  ·rw[e1,e,cc,ae];simp[ae]
  ·simp;omega
  ·rintro c u q _ K ρ e2 ⟨rfl,⟨hK,QE,Lu⟩,N,hM,hA,hn⟩;have AO:=hp u (by rw[e,e2];simp);rw[aw]at AO
   have hFs:a++(c++[u]).filter (λx=>!p x)=(a++c.filter λx=>!p x)++if p u then[]else[u]:=by
    rw[abH,aat]
    cases hb:p u <;>simp[hb]
   rw[hFs];obtain⟨F,hF⟩:∃F,F=a++c.filter λx=>!p x:=⟨_,rfl⟩
   rw[<-hF]at hA hn ⊢;have hFl:=aj F;have hNl:=aj N;have cE:=congrArg List.length e2;simp only[Z2,Z4]at cE hn;have dp:F.length+N.length=a.length+1+c.length:=by omega
   obtain⟨A,NO⟩:∃A,A=ae F++ae N++(ae (u::q)++tl):=⟨_,rfl⟩;rw[<-NO]at hA
   have cY:A[0+(a.length+1+c.length)]?=some (.agg [.int .i64 u.k,.str u.s,.int .i64 u.o,.aa false (ae u.l)]):=by
    rw[NO,aan,aac (by simp;omega)];simp only[Z2];rw[show a.length+1+c.length - ((ae F).length+(ae N).length)=0 by omega,ae,aw]
    rfl
   have D9:A.length=l.length+tl.length:=by
    rw[NO];simp only[Z2,Z4,aj];omega
   have Y8:=ag hA;have f0:(K++[(⟨.m,0,4,[.agg [.int .i64 u.k,.str u.s,.int .i64 u.o,.aa false (ae u.l)]]⟩:au)])[id]?=some ⟨.m,ep,4,A⟩:=by rw[Z0 Y8];exact hA
   have fb:(K++[(⟨.m,0,4,[.agg [.int .i64 u.k,.str u.s,.int .i64 u.o,.aa false (ae u.l)]]⟩:au)])[K.length]?=some ⟨.m,0,4,[.agg [.int .i64 u.k,.str u.s,.int .i64 u.o,.aa false (ae u.l)]]⟩:=by simp
   have yq:ae (u::q)=.agg [.int .i64 u.k,.str u.s,.int .i64 u.o,.aa false (ae u.l)]::ae q:=by rw[ae,aw]
   have ND:ae [u]=[.agg [.int .i64 u.k,.str u.s,.int .i64 u.o,.aa false (ae u.l)]]:=by rw[ae,aw];rfl
   refine wXA ?_;refine ai.pure hm rfl (by simpa using AO) ?_
   cases hb:p u
   ·obtain⟨y,N2,rfl⟩:∃y N2,N=y::N2:=by
     cases N with
     |nil=>simp at hM
     |cons y M2=>exact⟨y,M2,rfl⟩
    have ey:A[0+F.length]?=some (.agg [.int .i64 y.k,.str y.s,.int .i64 y.o,.aa false (ae y.l)]):=by
     rw[NO,aan,aat,aac (by omega),hFl,abO,ae,aw];rfl
    have kC:A.set (0+F.length) (.agg [.int .i64 u.k,.str u.s,.int .i64 u.o,.aa false (ae u.l)])=ae (F++[u])++ae (N2++[u])++(ae q++tl):=by
     rw[NO,aan,aat,abp _ _ (by omega),hFl,abO,yq,cc,cc,ND,ae];simp
    simp only[Z4]at dp hn;rw[if_neg (by simp)];refine wXA ?_;refine .nx ⟨rfl,⟨(hK.dq (HV.one (by simp))).set id (by simp) ?_,by simp;omega,λj h1 h2=>by rw[Z7 (by omega),Z0 (by omega)];exact Lu j h1 h2⟩,N2++[u],by simp,?_,by simp at hn ⊢;omega⟩
    ·rw[kC];exact br _ _ (by rw[du,du,du,ht];simp)
    ·rw[<-kC];exact Z6 (ag f0)
   ·rw[if_pos rfl,aao];refine wXA ?_;refine .nx ⟨rfl,⟨hK.dq (HV.one (by simp)),by simp;omega,λj h1 h2=>by rw[Z0 (by omega)];exact Lu j h1 h2⟩,N++[u],by simp,?_,by simp at hn ⊢;omega⟩;rw[f0,NO,yq,cc,ND];simp
  ·rintro _ K ρ ⟨rfl,⟨hK,QE,Lu⟩,N,hM,hA,hn⟩;have qn:(l.filter λx=>!p x)=a++b.filter λx=>!p x:=by rw[e,abH,UJ,List.filter_cons,if_neg (by simp[hx])]
   rw[qn];have hFl:=aj (a++b.filter λx=>!p x);have hNl:=aj N;generalize(a++b.filter λx=>!p x)=F at *;simp only[aaE,abx]at hn;obtain⟨A,NO⟩:∃A,A=ae F++ae N++(ae []++tl):=⟨_,rfl⟩;rw[<-NO]at hA
   have D9:A.length=l.length+tl.length:=by
    rw[NO];simp only[Z2,ae,aaE];omega
   have hg:getM K id ep=some ⟨.m,ep,4,A⟩:=bg hA rfl (by simp)
   have kC:A.take F.length++List.replicate (l.length - F.length) (PV.agg [.int .i64 0,.str ByteArray.empty,.int .i64 0,.aa true []])++A.drop (F.length+(l.length - F.length))=ae F++(List.replicate (l.length - F.length) (PV.agg [.int .i64 0,.str ByteArray.empty,.int .i64 0,.aa true []])++tl):=by
    rw[NO,aaA (by simp <;>omega),aaA (by omega),aar (by omega),aat]
    congr 2
    rw[show ae F++ae N++(ae []++tl)=(ae F++ae N)++tl by simp[ae],aa1 (by simp <;>omega),List.drop_of_length_le (by simp <;>omega),aaL]
   have rN:ao (List.replicate (l.length - F.length) (PV.agg [.int .i64 0,.str ByteArray.empty,.int .i64 0,.aa true []])++tl)=true:=by
    rw[du,ht,abv,bu,Z1]
    intro y hy
    rw[aaT hy];rfl
   refine wXA ?_;refine .mk (λrun lv ρ=>Ww T6 (o:=⟨.m,ep,4,A⟩) rfl rfl rfl rfl hg rfl (by show _<=A.length;omega) (by omega)) ?_;refine wXA ?_;refine .mk (λrun ρ=>Wy T6 (o:=⟨.m,ep,4,A⟩) rfl rfl rfl rfl hg rfl (by show _<=A.length;omega) rfl rfl) ?_;rw[show(⟨.m,ep,4,A.take F.length++List.replicate (l.length - F.length) (PV.agg [.int .i64 0,.str ByteArray.empty,.int .i64 0,.aa true []])++A.drop (F.length+(l.length - F.length))⟩:au)=⟨.m,ep,4,ae F++(List.replicate (l.length - F.length) (PV.agg [.int .i64 0,.str ByteArray.empty,.int .i64 0,.aa true []])++tl)⟩ by rw[kC]];have f1:(K.set id (⟨.m,ep,4,ae F++(List.replicate (l.length - F.length) (PV.agg [.int .i64 0,.str ByteArray.empty,.int .i64 0,.aa true []])++tl)⟩:au))[id]?=some ⟨.m,ep,4,ae F++(List.replicate (l.length - F.length) (PV.agg [.int .i64 0,.str ByteArray.empty,.int .i64 0,.aa true []])++tl)⟩:=Z6 (ag hA);have Rz:(ae F++(List.replicate (l.length - F.length) (PV.agg [.int .i64 0,.str ByteArray.empty,.int .i64 0,.aa true []])++tl)).length=l.length+tl.length:=by simp only[Z2,abo];omega
   have ve:=bg f1 rfl (by simp);refine wXA ?_;refine .mk (λrun lv ρ=>Wx T6 (o:=⟨.m,ep,4,ae F++(List.replicate (l.length - F.length) (PV.agg [.int .i64 0,.str ByteArray.empty,.int .i64 0,.aa true []])++tl)⟩) rfl rfl rfl rfl ve rfl (by rw[show(⟨.m,ep,4,ae F++(List.replicate (l.length - F.length) (PV.agg [.int .i64 0,.str ByteArray.empty,.int .i64 0,.aa true []])++tl)⟩:au).es.length=_ from Rz];omega) (by omega)) ?_;refine wXA ?_;exact⟨⟨hK.set id (by simp) (br _ _ (by rw[du,rN];simp)),by simp;omega,λj h1 h2=>by rw[Z7 (by omega)];exact Lu j h1 h2⟩,rfl,id,ep,_,rfl,f1,rN⟩
theorem ai.del{f:FuncId}{args:List PV}{H:ab}{id ep:Nat}{F:List Tm}{Q:PV->ab->Prop}{X:ab->Prop}(bU:id<H.length)
  (a:ax C f args H (λr h'=>(HR h'/\H.length<=h'.length/\X h')/\r=.ak id ep 0 F.length/\yN h' r F))
  (q:∀k,HR k->yN k (.ak id ep 0 F.length) F->Q (.ak id ep 0 F.length) k) (hm:C.mode f=.opened:=by rfl):ai C 2 f args H Q:=by
 refine ai.sm a (λr h' p=>⟨p.1.1,p.1.2.1⟩) (λr h' p=>?_) (λr h' p hr=>?_) hm
 ·obtain⟨⟨h1,_⟩,rfl,h3⟩:=p;exact q _ h1 h3
 ·obtain⟨⟨h1,h2,_⟩,rfl,dY,h9,tl,e1,e2,e3⟩:=p
  cases e1
  exact q _ hr ⟨id,ep,tl,rfl,by rw[aaF bU];exact e2,e3⟩
theorem yN.HJ{h:ab}{r:PV}{l:List Tm}(o:yN h r l):∃r1,rb h (aY [r])=some r1/\cf r1=.aa false (ae l):=by
 obtain⟨id,ep,tl,rfl,e,ht⟩:=o;exact gV e (by rw[aj]) (by simp) (by simp)
theorem O6(H:ab)(hH:HR H):ax C 72 [.aa true []] H (λr h'=>r=.aa true []/\h'=H++[⟨.m,0,1,[.aa true []]⟩]):=by
 refine ax.x T6 Tryz.func72 rfl ?_;refine wXA ?_;refine eD.zip T6 ([]:List Tm) (λp q L K=>L=[(3,.ptr H.length 0 0 0),(6,.aa true []),(7,.int .i64 0),(8,.int .i64 p.length)]/\K=H++[⟨.m,0,1,[.aa true []]⟩]) (.nx ⟨rfl,rfl⟩) ?_ ?_
 ·rintro p u q _ K ρ e _
  cases p <;>cases e
 ·rintro _ _ ρ ⟨rfl,rfl⟩;have e1:(H++[(⟨.m,0,1,[.aa true []]⟩:au)])[H.length]?=some ⟨.m,0,1,[.aa true []]⟩:=by simp
  refine wXA ?_;refine .ln (ur _) (λr h' hr=>by rw[hr.2]) (λr h' hr=>?_);obtain⟨rfl,rfl⟩:=hr;refine wXA ?_;exact⟨rfl,rfl⟩
theorem O7(g:FuncId)(H:ab):ax C 142 [.aa true [],.fn g []] H (λr h'=>r=.int .i64 (-1)/\h'=H):=by
 refine ax.x T6 Tryz.func142 rfl ?_;refine wXA ?_;refine eD.zip T6 ([]:List Tm) (λp q L K=>L=[(0,.aa true []),(1,.fn g []),(7,.int .i64 0),(8,.int .i64 p.length)]/\K=H) (.nx ⟨rfl,rfl⟩) ?_ ?_
 ·rintro p u q _ K ρ e _
  cases p <;>cases e
 ·rintro _ _ ρ ⟨rfl,rfl⟩;refine wXA ?_;exact⟨rfl,rfl⟩
theorem O8(g:FuncId)(H:ab):ax C 104 [.aa true [],.fn g []] H (λr h'=>r=.aa true []/\h'=H):=by
 refine ax.x T6 Tryz.func104 rfl ?_;refine wXA ?_;refine .ln (O7 g H) (λr h' hr=>by rw[hr.2]) (λr h' hr=>?_);obtain⟨rfl,rfl⟩:=hr;refine wXA ?_;exact⟨rfl,rfl⟩
theorem IJ(t:Tm):aO C 105 [enc t] (.bool (decide (t.k≠1))):=by
 rw[aw];refine aO.x T6 Tryz.func105 rfl ?_;refine wXC (λhc=>?_) λhc=>?_
 all_goals exact⟨_,rfl,by simp[aY, *]⟩
def cd(l:List eE):List Tm:=l.flatMap λd=>d.kn++[d.tm]
theorem qy(l:List eE)(hl:l.length<1000000)(hb:bF (cd l)<10000000):aO C 53 [.aa false (bA l)] (.aa false (ae (bH l))):=by
 have cX:=fL l
 have hR:bH l=(fi (cd l)).filter λx=>!(decide (x.k≠1)):=by
  unfold bH cd
  congr 1
  funext x
  simp
 rw[hR];have cI:=bE (cd l);refine aO.x T6 Tryz.func53 rfl ?_;refine wXA ?_;refine eD.zip T6 l (λp q L H=>∃v,L=[(3,v),(6,.aa false (bA l)),(7,.int .i64 (bA l).length),(8,.int .i64 p.length)]/\HV H/\Out 4 H v (ae (cd p))/\(p=[]->v=.aa true [])) (.nx ⟨_,rfl,HV.nil,.inl ⟨rfl,rfl⟩,λ_=>rfl⟩) ?_ ?_
 ·rintro p d q _ H ρ e ⟨v,rfl,hH,ho,_⟩;have cY:=jZ e;have cE:=congrArg List.length e;simp only[Z2,Z4]at cE;have oJ:cd (p++[d])=cd p++(d.kn++[d.tm]):=by simp[cd]
  have QC:(cd p).length+(d.kn++[d.tm]).length<=(cd l).length:=by rw[e];simp[cd]
  have hle:=aj (cd p);have hlu:=aj (d.kn++[d.tm]);have EV:=tq d (by simp at QC;omega);rw[rP]at EV;have kY:=hH.cC (HV.one (ep:=0) (n:=5) (es:=[PV.agg [.aa false (ae d.kn),.int .i64 d.tm.k,.str d.tm.s,.int .i64 d.tm.o,.aa false (ae d.tm.l)]]) (by simp));have Ig:=ho.cC [⟨.m,0,5,[PV.agg [.aa false (ae d.kn),.int .i64 d.tm.k,.str d.tm.s,.int .i64 d.tm.o,.aa false (ae d.tm.l)]]⟩];refine wXA ?_;refine .p EV ?_;refine wXG λv H lp=>?_;refine .nx ⟨_,rfl,lp.hv,?_,by simp⟩;have:=lp.out;rw[oJ,cc];exact this
 ·rintro _ H ρ ⟨v,rfl,hH,ho,Bw⟩;rcases ho with⟨rfl,e0⟩|⟨id,ep,rfl,e1⟩
  ·have e4:cd l=[]:=aaf (by rw[<-aj,e0];rfl);rw[e4];refine wXA ?_;refine ai.ex ((O6 H hH.hr).mono λr h' hr=>⟨hr.1,_,HV.one rfl,hr.2⟩) (λh' hE=>?_);refine wXA ?_;refine .ln (O8 _ h') (λr h' hr=>by rw[hr.2]) (λr h' hr=>?_);obtain⟨rfl,rfl⟩:=hr;refine wXA ?_;exact⟨_,rfl,rfl⟩
  by_cases h0:cd l=[]
  ·have:l=[]:=by
    cases l with
    |nil=>rfl
    |cons d l=>simp[cd]at h0
   cases Bw this
  ·have yu:=nP (cd l) h0 H hH.hr id ep e1 hb;rw[aj]at *;refine wXA ?_;refine .fr yu (λr h' hr hb=>?_) (λr h' r1 r2 r3 r4=>?_)
   ·obtain⟨_,id,ep,n,rfl,bU⟩:=hr;simp[dQ,cH,dP]at hb;omega
   obtain⟨⟨id2,Rm,tl,rfl,e2,e3⟩,id3,ep3,n,e4,bU⟩:=r4;have hd:=O5 (fi (cd l)) tl e3 105 (λx=>decide (x.k≠1)) id2 Rm h' r1 e2 (by have:=pp (cd l);omega) (λx _=>IJ x) rfl;refine wXA ?_;refine ai.del (ag e2) hd (λk hk ho=>?_);refine wXA ?_;exact ho.HJ
theorem tu{S:List c9}:∀{l:List Tm},js S l=0->∀t∈l,(b8 S t).2=0
 |[],_,t,h=>by cases h
 |u::l,e,t,h=>by
  rw[js]at e
  split at e
  ·rename_i hn;exact absurd e hn
  ·rcases Z'.1 h with rfl |h
   ·omega
   ·exact tu e t h
theorem IR{S:List c9}{d:eE}(h:qU S d=0):js S d.kn=0/\(b8 S d.tm).2=0/\∀t∈(RT S d).kn++[(RT S d).tm],ay t<=10000:=by
 unfold qU at h
 split at h
 ·rename_i h1;exact absurd h h1
 ·rename_i h1
  have h2:js S d.kn=0:=by omega
  refine⟨h2,h,λt ht=>?_⟩;simp only[RT,Z8,aav,bN,aak]at ht;rcases ht with⟨u,hu,rfl⟩|rfl
  ·exact eL (ls (tu h2 u hu)).2.2
  ·exact eL (ls h).2.2
theorem IS(a b:List eE):bA (a++b)=bA a++bA b:=by simp[bA]
end bP
def xq(p:c9->Bool):List c9->Nat->Int
 |[],_=>-1
 |b::l,n=>if p b then n else xq p l (n+1)
theorem GR{p:c9->Bool}{b:c9}{q:List c9}(hb:p b=true):∀{a:List c9} {n:Nat},(∀y∈a,p y=false)->xq p (a++b::q) n=((n+a.length:Nat):Int)
 |[],n,_=>by rw[aaL,xq,if_pos hb];rfl
 |c::a,n,h=>by
  rw[aau,xq,if_neg (by rw[h c (by simp)];simp),GR hb λy hy=>h y (by simp[hy])];simp only[Z4]
  congr 1
  omega
theorem zT{p:c9->Bool}:∀{a:List c9} {n:Nat},(∀y∈a,p y=false)->xq p a n=-1
 |[],n,_=>rfl
 |c::a,n,h=>by rw[xq,if_neg (by rw[h c (by simp)];simp),zT λy hy=>h y (by simp[hy])]
theorem C2(p:c9->Bool):∀(l:List c9) (n:Nat),decide (xq p l n>=0)=l.any p
 |[],n=>by simp[xq]
 |b::l,n=>by
  rw[xq,acd]
  cases hb:p b with
  |true=>rw[if_pos rfl,decide_eq_true (by omega)];rfl
  |false=>rw[if_neg (by simp),C2 p l (n+1)];rfl
theorem GS{α:Type}{l p q:List α}{x:α}{f:α->Bool}(e:l=p++x::q)(h:f x=true):l.any f=true:=by rw[e];simp[h]
namespace bP
open Go.Proofs
attribute [local irreducible] aE az aI aJ Ev ah ai ax aW bZ
theorem TK(b:c9)(x:Tm)(hb:ay b.v<1000000000)(hx:ay x<1000000000)(id:Nat)(H:ab)(hH:HV H)(h0:H[id]?=some ⟨.m,0,4,[enc x]⟩):ax C 51 [sT b,.ptr id 0 0 0] H (λr h'=>r=.bool (decide (aU b.v x=0))/\fQ H h'):=by
 have h1:=(dZ b.v x hb hx).nine;have cI:=ag h0;rw[aw b.v,aw x]at h1;rw[aw x]at h0;rw[sT];refine ax.x T6 Tryz.func51 rfl ?_;refine wXA ?_;refine .p h1 ?_;refine wXC (λhc=>?_) λhc=>?_
 all_goals exact⟨by simp[aY, *],(fQ.refl _).cC (HV.one (by simp))⟩
theorem Pf(S:List c9)(x:Tm)(hS:S.length<1000000000)(hb:∀b∈S,ay b.v<1000000000)(hx:ay x<1000000000)(id:Nat)(H:ab)(hH:HV H)(h0:H[id]?=some ⟨.m,0,4,[enc x]⟩):ax C 100 [.aa false (bM S),.fn 51 [.ptr id 0 0 0]] H (λr h'=>r=.int .i64 (xq (λb=>decide (aU b.v x=0)) S 0)/\fQ H h'):=by
 have cX:=jF S;refine ax.x T6 Tryz.func100 rfl ?_;refine wXA ?_;refine eD.zip T6 S (λa q L K=>L=[(0,.aa false (bM S)),(1,.fn 51 [.ptr id 0 0 0]),(7,.int .i64 (bM S).length),(8,.int .i64 a.length)]/\fQ H K/\∀y∈a,decide (aU y.v x=0)=false) (.nx ⟨rfl,fQ.refl _,by simp⟩) ?_ ?_
 ·rintro a b q _ K ρ e ⟨rfl,hE,ha⟩;have cY:=oT e;have cE:=congrArg List.length e;simp only[Z2,Z4]at cE;have AO:=TK b x (hb b (by rw[e];simp)) hx id K (hE.hv hH) (hE.at h0);rw[sT]at AO;refine wXA ?_;refine .ex AO (λh' NM=>?_)
  cases DX:decide (aU b.v x=0)
  ·refine wXA ?_;exact .nx ⟨rfl,hE.trans NM,λy hy=>by rcases Z8.1 hy with h |h;exact ha y h;simp at h;rw[h];exact DX⟩
  ·refine wXA ?_;exact⟨by rw[e,GR (p:=λb:c9=>decide (aU b.v x=0)) DX ha];simp[aY],hE.trans NM⟩
 ·rintro _ K ρ ⟨rfl,hE,ha⟩;refine wXA ?_;exact⟨by rw[zT (p:=λb:c9=>decide (aU b.v x=0)) ha];rfl,hE⟩
theorem Pg(S:List c9)(x:Tm)(hS:S.length<1000000000)(hb:∀b∈S,ay b.v<1000000000)(hx:ay x<1000000000)(id:Nat)(H:ab)(hH:HV H)(h0:H[id]?=some ⟨.m,0,4,[enc x]⟩):ax C 50 [.aa false (bM S),.fn 51 [.ptr id 0 0 0]] H (λr h'=>r=.bool (QM S x)/\fQ H h'):=by
 have hi:=Pf S x hS hb hx id H hH h0;have ha:decide (xq (λb=>decide (aU b.v x=0)) S 0>=0)=QM S x:=C2 _ S 0;refine ax.x T6 Tryz.func50 rfl ?_;refine wXA ?_;refine .ex hi (λh' hE=>?_);refine wXC (λhc=>?_) λhc=>?_
 all_goals exact⟨by rw[<-ha];simp[aY, *],hE⟩
theorem Mc(S:List c9)(x:Tm)(hS:S.length<1000000000)(hb:∀b∈S,ay b.v<1000000000)(hx:ay x<1000000000)(id:Nat)(H:ab)(hH:HV H)(h0:H[id]?=some ⟨.m,0,1,[.aa false (bM S)]⟩):ax C 49 [enc x,.ptr id 0 0 0] H (λr h'=>r=.bool (QM S x)/\fQ H h'):=by
 have cI:=ag h0;have hc:=Pg S x hS hb hx H.length (H++[⟨.m,0,4,[enc x]⟩]) (hH.cC (HV.one (by simp))) (by simp);rw[aw]at hc ⊢;refine ax.x T6 Tryz.func49 rfl ?_;refine wXA ?_;refine .ex hc (λh' hE=>?_);refine wXA ?_;exact⟨rfl,fQ.trans ((fQ.refl _).cC (HV.one (by simp))) hE⟩
end bP
theorem wV{S:List c9}{n:Bool×Int}{d:eE}{q:List eE}(h1:gh S (d::q)=n):∀{p:List eE},(∀u∈p,qU S u=0/\gW (bG S u.kn) (bw S u.tm)=0/\lP (bG S u.kn) (bw S u.tm)=true)->gh S (p++d::q)=n
 |[],_=>h1
 |u::p,h=>by
  obtain⟨a,b,c⟩:=h u (by simp);rw[aau,gh,if_neg (by omega),if_neg (by omega),if_neg (by rw[c];simp)];exact wV h1 λx hx=>h x (by simp[hx])
theorem zU{S:List c9}:∀{p:List eE},(∀u∈p,qU S u=0/\gW (bG S u.kn) (bw S u.tm)=0/\lP (bG S u.kn) (bw S u.tm)=true)->gh S p=(true,0)
 |[],_=>rfl
 |u::p,h=>by
  obtain⟨a,b,c⟩:=h u (by simp);rw[gh,if_neg (by omega),if_neg (by omega),if_neg (by rw[c];simp)];exact zU λx hx=>h x (by simp[hx])
namespace bP
open Go.Proofs
attribute [local irreducible] aE az aI aJ Ev ah ai ax aW bZ
theorem Ik(l:List eE)(S:List c9)(hl:l.length<1000000)(hb:bF (cd l)<10000000)(hls:S.length<1000000)(HA:∀b∈S,ay b.v<10000000/\ay b.t<10000000)(Cm:∀b∈S,iP b.t=true):
  aO C 14 [.aa false (bA l),.aa false (bM S)] (.cx [.bool (jd l S).1,.int .i64 (jd l S).2]):=by
 have cX:=fL l;have iU:=jF S;have ez:∀d∈l,∀t∈d.kn++[d.tm],t∈cd l:=λd hd t ht=>aaU.2 ⟨d,hd,ht⟩
 have JJ:∀t∈cd l,ay t<10000000:=λt ht=>by have:=bS ht;omega
 have AE:∀d∈l,d.kn.length<10000000:=λd hd=>by
  obtain⟨p,q,e⟩:=acs hd;have h1:=bE (cd l);have h2:d.kn.length<=(cd l).length:=by rw[e];simp[cd];omega
  omega
 have h1:=wX l (by omega) (λd hd=>⟨AE d hd,λt ht=>JJ t (ez d hd t ht)⟩);have h2:=xv S (by omega) (λb hb=>by have:=HA b hb;omega);have h3:=qy l hl hb;have XK:∀x∈bH l,ay x<10000000:=λx hx=>tn JJ x (aaM.1 hx).1
 have OE:(bH l).length<10000000:=by have:=pp (cd l);have:=aa4 (λt=>decide (t.k=1)) (fi (cd l));unfold bH;unfold cd at *;omega
 have pT:=aj (bH l);refine aO.x T6 Tryz.func14 rfl ?_;refine wXA ?_;refine .p h1 ?_;refine wXC (λhc=>?_) λhc=>?_
 ·have F5:nL l=0:=by omega
  obtain⟨yi,Uw⟩:=zp F5;refine .p h2 ?_;refine wXC (λhc=>?_) λhc=>?_
  ·have hS:lN S=0:=by omega
   refine .p h3 ?_;refine wXA ?_;refine eD.zip T6 (bH l) (λp q L H=>L=[(0,.aa false (bA l)),(3,.ptr 0 0 0 0),(8,.fn 49 [.ptr 0 0 0 0]),(34,.aa false (ae (bH l))),(35,.int .i64 (ae (bH l)).length),(36,.int .i64 p.length)]/\HV H/\H[0]?=some ⟨.m,0,1,[.aa false (bM S)]⟩/\∀x∈p,QM S x=true) (.nx ⟨rfl,HV.one (by simp),rfl,by simp⟩) ?_ ?_
   ·rintro p x q _ H ρ e ⟨rfl,hH,h0,hp⟩;have cY:=bW e;have cE:=congrArg List.length e;simp only[Z2,Z4]at cE;have hx:=Mc S x (by omega) (λb hb=>by have:=HA b hb;omega) (by have:=XK x (by rw[e];simp);omega) 0 (H++[⟨.m,0,4,[enc x]⟩]) (hH.cC (HV.one (by simp))) (by rw[Z0 (ag h0)];exact h0);rw[aw]at hx;refine wXA ?_;refine .ex hx (λh' hE=>?_)
    cases DX:QM S x
    ·have hM:jd l S=(false,13):=by
      have:(bH l).all (QM S)=false:=by rw[e];simp[DX]
      have hs:uU l S=13:=by rw[uU,if_neg (by omega),if_pos this]
      rw[jd,if_neg (by omega),if_pos (by omega),hs]
     refine wXA ?_;exact⟨_,rfl,by rw[hM];rfl⟩
    ·obtain⟨J,hJ,rfl⟩:=hE;refine wXA ?_;refine .nx ⟨rfl,(hH.cC (HV.one (by simp))).cC hJ,by rw[aat,Z0 (ag h0)];exact h0,λy hy=>?_⟩;rcases Z8.1 hy with h |h
     ·exact hp y h
     ·simp at h;rw[h];exact DX
   ·rintro _ H ρ ⟨rfl,hH,h0,hp⟩;have HB:(bH l).all (QM S)=true:=Z1.2 hp;refine wXA ?_;refine eD.zip T6 S (λp q L H=>L=[(0,.aa false (bA l)),(3,.ptr 0 0 0 0),(45,.aa false (bM S)),(46,.int .i64 (bM S).length),(47,.int .i64 p.length)]/\HV H/\H[0]?=some ⟨.m,0,1,[.aa false (bM S)]⟩/\∀b∈p,bV b.t=[]) (.nx ⟨rfl,hH,h0,by simp⟩) ?_ ?_
    ·rintro p b q _ H ρ e ⟨rfl,hH,h0,hp⟩;have cY:=oT e;have cE:=congrArg List.length e;simp only[Z2,Z4]at cE;have hv:=lA b.t (HA b (by rw[e];simp)).2;have hvn:=aj (bV b.t);rw[aw]at hv;refine wXA ?_;refine .p hv ?_;refine wXC (λhc=>?_) λhc=>?_
     ·have hM:jd l S=(false,13):=by
       have h5:bV b.t≠[]:=λhh=>by
        have h0:(ae (bV b.t)).length=0:=by rw[hh];rfl
        omega
       have h6:S.any (λb=>decide (bV b.t≠[]))=true:=GS e (decide_eq_true h5);have hs:uU l S=13:=by rw[uU,if_neg (by omega),if_neg (by rw[HB];simp),if_pos h6]
       rw[jd,if_neg (by omega),if_pos (by omega),hs]
      exact⟨_,rfl,by rw[hM];rfl⟩
     ·have h5:bV b.t=[]:=aaf (by omega);refine .nx ⟨rfl,hH.cC (HV.one (by simp)),by rw[Z0 (ag h0)];exact h0,λy hy=>?_⟩;rcases Z8.1 hy with h |h
      ·exact hp y h
      ·simp at h;rw[h];exact h5
    ·rintro _ H ρ ⟨rfl,hH,h0,hp⟩
     have Up:¬S.any (λb=>decide (bV b.t≠[]))=true:=by
      rw[aa8];rintro⟨b,hb,h⟩;exact of_decide_eq_true h (hp b hb)
     refine wXA ?_;refine eD.zip T6 S (λp q L H=>L=[(0,.aa false (bA l)),(3,.ptr 0 0 0 0),(57,.aa false (bM S)),(58,.int .i64 (bM S).length),(59,.int .i64 p.length)]/\HV H/\H[0]?=some ⟨.m,0,1,[.aa false (bM S)]⟩/\∀b∈p,ky b.t=0) (.nx ⟨rfl,hH,h0,by simp⟩) ?_ ?_
     ·rintro p b q _ H ρ e ⟨rfl,hH,h0,hp⟩;have cY:=oT e;have cE:=congrArg List.length e;simp only[Z2,Z4]at cE;have hbS:b∈S:=by rw[e];simp
      have hv:=zP b.t (Cm b hbS) (by have:=(HA b hbS).2;omega);rw[aw]at hv;refine wXA ?_;refine .p hv ?_
      by_cases ht:ky b.t=0
      ·rw[decide_eq_true ht];refine wXA ?_;refine .nx ⟨rfl,hH.cC (HV.one (by simp)),by rw[Z0 (ag h0)];exact h0,λy hy=>?_⟩;rcases Z8.1 hy with h |h
       ·exact hp y h
       ·simp at h;rw[h];exact ht
      ·rw[decide_eq_false ht]
       have hM:jd l S=(false,10):=by
        have h6:S.any (λb=>decide (ky b.t≠0))=true:=GS e (decide_eq_true ht);have hs:uU l S=10:=by rw[uU,if_neg (by omega),if_neg (by rw[HB];simp),if_neg Up,if_pos h6]
        rw[jd,if_neg (by omega),if_pos (by omega),hs]
       refine wXA ?_;exact⟨_,rfl,by rw[hM];rfl⟩
     ·rintro _ H ρ ⟨rfl,hH,h0,hp⟩
      have hs3:¬S.any (λb=>decide (ky b.t≠0))=true:=by
       rw[aa8];rintro⟨b,hb,h⟩;exact of_decide_eq_true h (hp b hb)
      have ZT:uU l S=0:=by rw[uU,if_neg (by omega),if_neg (by rw[HB];simp),if_neg Up,if_neg hs3]
      have hMM:jd l S=gh S l:=by rw[jd,if_neg (by omega),if_neg (by omega)]
      rw[hMM];refine wXA ?_;refine eD.zip T6 l (λp q L H=>L=[(3,.ptr 0 0 0 0),(68,.aa false (bA l)),(69,.int .i64 (bA l).length),(70,.int .i64 p.length)]/\HV H/\H[0]?=some ⟨.m,0,1,[.aa false (bM S)]⟩/\∀u∈p,qU S u=0/\gW (bG S u.kn) (bw S u.tm)=0/\lP (bG S u.kn) (bw S u.tm)=true) (.nx ⟨rfl,hH,h0,by simp⟩) ?_ ?_
      ·rintro p u q _ H ρ e ⟨rfl,hH,h0,hp⟩;have cY:=jZ e;have cE:=congrArg List.length e;simp only[Z2,Z4]at cE;obtain⟨NI,zF⟩:=Uw u (by rw[e];simp);have D9:=CC S hS u.kn (by omega) (λt ht=>by have:=gj (zF t (by simp[ht]));omega);have mq:=wY S hS u.tm (by have:=gj (zF u.tm (by simp));omega);have Xx:qU S u=if js S u.kn≠0 then js S u.kn else(b8 S u.tm).2:=rfl;have hG:∀n,gh S (u::q)=n->gh S l=n:=λn h=>by rw[e];exact wV h hp
       have WH:qU S u≠0->gh S l=(false,qU S u):=λh=>hG _ (by rw[gh,if_pos h])
       rw[aw u.tm]at mq;obtain⟨w,hw⟩:∃w,w=(b8 S u.tm).1:=⟨_,rfl⟩;have Wg:(b8 S u.tm).2=0->w=bw S u.tm:=λh=>by rw[hw,(ls h).1]
       rw[<-hw]at mq;rw[aw w]at mq;refine wXA ?_;refine .p D9 ?_;refine wXC (λhc=>?_) λhc=>?_
       ·have QF:js S u.kn=0:=by omega
        rw[if_neg (by omega)]
        skip
        refine .p mq ?_;refine wXC (λhc=>?_) λhc=>?_
        ·have NG:qU S u=0:=by rw[Xx,if_neg (by omega)];omega
         have OS:=Wg (by omega);obtain⟨_,_,hdb⟩:=IR NG;have Un:(bG S u.kn++[w]).length<=41:=by rw[Z2,gy];simp;omega
         have DX:bF (bG S u.kn++[w])<10000000:=by
          have:=rV (B:=10000) (l:=bG S u.kn++[w]) (by rw[OS];exact hdb);have:=aaC 10000 Un;omega
         have hfw:∀t∈bG S u.kn++[w],iP t=true:=λt ht=>by
          rcases Z8.1 ht with h |h
          ·rw[bN]at h;obtain⟨y,hy,rfl⟩:=aak.1 h;exact vu Cm y (zR (zF y (by simp[hy])))
          ·simp at h;rw[h,OS];exact vu Cm u.tm (zR (zF u.tm (by simp)))
         have vY:=qz (bG S u.kn) w hfw DX;rw[aw w]at vY;have Zg:gW (bG S u.kn) w≠0->gh S l=(false,gW (bG S u.kn) w):=λh=>hG _ (by rw[gh,if_neg (by omega),<-OS,if_pos h])
         have Tj:gW (bG S u.kn) w=0->lP (bG S u.kn) w=false->gh S l=(false,0):=λh h'=>hG _ (by rw[gh,if_neg (by omega),<-OS,if_neg (by omega),if_pos h'])
         refine .p vY ?_
         cases WI:lP (bG S u.kn) w
         ·refine wXA ?_
          by_cases hu:gW (bG S u.kn) w=0
          ·exact⟨_,rfl,by rw[Tj hu WI,hu];rfl⟩
          ·exact⟨_,rfl,by rw[Zg hu];rfl⟩
         ·have hu0:gW (bG S u.kn) w=0:=by
           unfold lP at WI;simp at WI;exact WI.1
          rw[hu0];refine wXA ?_;refine .nx ⟨rfl,?_,?_,λy hy=>?_⟩
          ·exact(hH.cC (HV.one (by simp))).cC (HV.one (by simp))
          ·rw[aat,Z0 (ag h0)];exact h0
          ·rcases Z8.1 hy with h |h
           ·exact hp y h
           ·simp at h;rw[h,<-OS];exact⟨NG,hu0,WI⟩
        ·have hde:qU S u=(b8 S u.tm).2:=by rw[Xx,if_neg (by omega)]
         exact⟨_,rfl,by rw[WH (by omega),hde];rfl⟩
       ·have hde:qU S u=js S u.kn:=by rw[Xx,if_pos (by omega)]
        exact⟨_,rfl,by rw[WH (by omega),hde];rfl⟩
      ·rintro _ H ρ ⟨rfl,hH,h0,hp⟩;refine wXA ?_;exact⟨_,rfl,by rw[zU hp];rfl⟩
  ·have hM:jd l S=(false,lN S):=by
    have hs:uU l S=lN S:=by rw[uU,if_pos (by omega)]
    rw[jd,if_neg (by omega),if_pos (by omega),hs]
   exact⟨_,rfl,by rw[hM];rfl⟩
 ·have hM:jd l S=(false,nL l):=by rw[jd,if_pos (by omega)]
  exact⟨_,rfl,by rw[hM];rfl⟩
end bP
def pn(n:Nat)(o:Int):Tm:=.mk 2 ⟨#[113,UInt8.ofNat (48+n)]⟩ o []
def fA:Nat->List Tm->List c9
 |_,[]=>[]
 |n,v::l=>⟨v,pn n v.o⟩::fA (n+1) l
def jg(l:List eE):List Tm:=(l.filter λd=>decide (d.tm.k=1)).map (·.tm)
theorem GC:∀{l:List Tm} {n:Nat} {b:c9},b∈fA n l->∃i,l[i]?=some b.v/\b.t=pn (n+i) b.v.o
 |[],_,b,h=>by cases h
 |v::l,n,b,h=>by
  rw[fA]at h;rcases Z'.1 h with rfl |h
  ·exact⟨0,rfl,rfl⟩
  ·obtain⟨i,h1,h2⟩:=GC h;exact⟨i+1,by simpa using h1,by rw[h2,show n+(i+1)=n+1+i by omega]⟩
theorem GD:∀{l:List Tm} {n:Nat} {v:Tm},v∈l->∃b∈fA n l,b.v=v
 |[],_,v,h=>by cases h
 |u::l,n,v,h=>by
  rw[fA];rcases Z'.1 h with rfl |h
  ·exact⟨_,List.mem_cons_self,rfl⟩
  ·obtain⟨b,h1,h2⟩:=GD (n:=n+1) h;exact⟨b,abf _ h1,h2⟩
theorem Cv:∀(l:List Tm) (n:Nat),(fA n l).length=l.length
 |[],_=>rfl
 |v::l,n=>by rw[fA,Z4,Z4,Cv l]
def Lj(n:Nat)(v:Tm):Bool:=decide (By ⟨v,pn n v.o⟩=0)&& !(ti (pn n v.o))&&iP (pn n v.o)&&decide ((pn n v.o).s.toList.head?=some 113)&&decide (ay (pn n v.o)<=20)
theorem EY:((List.range 4).all λn=>pY.all (Lj n))=true:=by kernel_rfl
theorem r8{n:Nat}{v:Tm}(hn:n<4)(hv:v∈pY):By ⟨v,pn n v.o⟩=0/\ti (pn n v.o)=false/\iP (pn n v.o)=true/\(pn n v.o).s.toList.head?=some 113/\ay (pn n v.o)<=20:=by
 have h:=Z1.1 (Z1.1 EY n (abN.2 hn)) v hv;simp only[Lj,Z9,decide_eq_true_eq,abh]at h;exact⟨h.1.1.1.1,h.1.1.1.2,h.1.1.2,h.1.2,h.2⟩
theorem ON:(pY.all λv=>v.l.isEmpty)=true:=by kernel_rfl
theorem vrL{v:Tm}(h:v∈pY):v.l=[]:=by simpa using Z1.1 ON v h
theorem Lk{a c:Nat}{o o':Int}(ha:a<4)(hc:c<4)(e:pn a o=pn c o'):a=c:=by
 have h:=congrArg (λt:Tm=>t.s.data[1]?) e;simp only[pn,Tm.s]at h;have h:UInt8.ofNat (48+a)=UInt8.ofNat (48+c):=by simpa using h
 have:=congrArg UInt8.toNat h;simp at this;omega
structure UH(l:List eE):Prop where
 f:∀d∈l,∀t∈d.kn++[d.tm],yp t=true
 v:∀y∈bH l,y∈pY
 n:(bH l).length<=4
theorem qa{l:List eE}(D:UH l){b:c9}(hb:b∈fA 0 (bH l)):∃i,i<4/\(bH l)[i]?=some b.v/\b.v∈pY/\b.t=pn i b.v.o:=by
 obtain⟨i,h1,h2⟩:=GC hb;rw[aan]at h2;have h3:=(abZ.1 h1).1;have h4:=D.n;exact⟨i,by omega,h1,D.v _ (aae h1),h2⟩
theorem Th{l p q:List eE}{d:eE}(e:l=p++d::q)(D:UH l):Lh (fA 0 (bH l)) ((d.kn++jg p)++[d.tm]):=by
 have hz:∀z∈ch ((d.kn++jg p)++[d.tm]),∃u∈l,∃t∈u.kn++[u.tm],z∈pre t:=λz hz=>by
  obtain⟨t,ht,hz⟩:=bT.1 hz;rcases Z8.1 ht with ht |ht
  ·rcases Z8.1 ht with ht |ht
   ·exact⟨d,by rw[e];simp,t,aaH _ ht,hz⟩
   ·obtain⟨u,hu,rfl⟩:=aak.1 ht;exact⟨u,by rw[e];exact aaH _ (aaM.1 hu).1,u.tm,by simp,hz⟩
  ·simp at ht;subst ht;exact⟨d,by rw[e];simp,d.tm,by simp,hz⟩
 have fN:∀z∈ch ((d.kn++jg p)++[d.tm]),(z.k=1->z∈pY)/\z.s.toList.head?≠some 113:=λz h=>by
  obtain⟨u,hu,t,ht,hp⟩:=hz z h;exact KQ (ic.1 (D.f u hu t ht)).2 hp
 refine⟨λz h hk=>vrL ((fN z h).1 hk),λb hb=>?_,λb hb h=>?_,λb hb c hc h=>?_,λz h hk=>?_⟩
 ·obtain⟨i,h1,h2,h3,h4⟩:=qa D hb;have h5:=r8 h1 h3;rw[h4];exact⟨rfl,rfl,h5.2.1⟩
 ·obtain⟨i,h1,h2,h3,h4⟩:=qa D hb;have h5:=r8 h1 h3;rw[<-h4]at h5;exact(fN _ h).2 h5.2.2.2.1
 ·obtain⟨i,h1,h2,h3,h4⟩:=qa D hb;obtain⟨j,g1,g2,g3,g4⟩:=qa D hc;have Kz:=Lk h1 g1 (by rw[<-h4,<-g4,h]);rw[Kz]at h2;exact ZZ (h2.symm.trans g2)
 ·obtain⟨u,hu,t,ht,hp⟩:=hz z h;exact GD (Lg.2 ⟨u,hu,t,ht,(oV _ _).2 ⟨hp,hk⟩⟩)
theorem lq{prev:Option (List Tm)}{bound:List Tm}{d:eE}{l:List eE}(h:lX prev bound (d::l)=0):kept prev d.kn=true/\lX (some d.kn) (bound++bV d.tm) l=0:=by
 rw[lX]at h
 split at h
 ·omega
 ·split at h
  ·rename_i hn;exact absurd h hn
  ·split at h
   ·omega
   ·split at h
    ·omega
    ·rename_i h3 _
     exact⟨by simpa using h3,h⟩
theorem Cw{k k':List Tm}(h:kept (some k) k'=true):∀t∈k,t∈k':=λt ht=>da.1 (Z1.1 h t ht)
theorem wS{d:eE}{q:List eE}:∀{p:List eE} {k bound:List Tm},lX (some k) bound (p++d::q)=0->∀t∈k,t∈d.kn
 |[],k,bound,h,t,ht=>Cw (lq h).1 t ht
 |u::p,k,bound,h,t,ht=>wS (lq h).2 t (Cw (lq h).1 t ht)
theorem wT{d u:eE}{q:List eE}:∀{p:List eE} {prev:Option (List Tm)} {bound:List Tm},lX prev bound (p++d::q)=0->u∈p->∀t∈u.kn,t∈d.kn
 |c::p,prev,bound,h,hu,t,ht=>by
  rcases Z'.1 hu with rfl |hu
  ·exact wS (lq h).2 t ht
  ·exact wT (lq h).2 hu t ht
theorem GF{l:List eE}(h:nL l=0):lX none [] l=0:=by
 unfold nL at h
 split at h
 ·omega
 ·exact h
theorem zG{S:List c9}:∀{p:List eE},(gh S p).1=true->∀u∈p,qU S u=0/\gW (bG S u.kn) (bw S u.tm)=0/\lP (bG S u.kn) (bw S u.tm)=true
 |[],_,u,h=>by cases h
 |d::p,h,u,hu=>by
  rw[gh]at h
  split at h
  ·cases h
  ·split at h
   ·cases h
   ·split at h
    ·cases h
    ·rename_i h1 h2 h3
     rcases Z'.1 hu with rfl |hu
     ·exact⟨by omega,by omega,by simpa using h3⟩
     ·exact zG h u hu
theorem OO{S:List c9}{l:List eE}(h:(jd l S).1=true):jd l S=gh S l:=by
 unfold jd at h ⊢
 split
 ·rename_i h1;rw[if_pos h1]at h;cases h
 ·rename_i h1
  rw[if_neg h1]at h
  split
  ·rename_i h2;rw[if_pos h2]at h;cases h
  ·rfl
theorem Ll{S:List c9}{l:List eE}(h:(jd l S).2=0):jd l S=gh S l:=by
 unfold jd at h ⊢
 split
 ·rename_i h1;rw[if_pos h1]at h;exact absurd h h1
 ·rename_i h1
  rw[if_neg h1]at h
  split
  ·rename_i h2;rw[if_pos h2]at h;exact absurd h h2
  ·rfl
theorem Cx{k:List Tm}{t:Tm}(h:lP k t=true):gW k t=0/\oq (fi (k++[t])) (jb k) t:=by
 unfold lP at h;simp only[Z9,decide_eq_true_eq]at h;exact⟨h.1,(AV.1 (da.1 h.2)).2⟩
theorem Lm{k:List Tm}{t:Tm}(h:gW k t=0)(hd:oq (fi (k++[t])) (jb k) t):lP k t=true:=by
 unfold lP;simp only[Z9,decide_eq_true_eq];exact⟨h,da.2 (AV.2 ⟨(db _ _).2 (mL (by simp)),hd⟩)⟩
theorem Cy{k:List Tm}{t:Tm}(h:gW k t=0)(hf:∀x∈k++[t],iP x=true):EX (fi (k++[t])):=by
 refine Ln λx hx=>⟨?_,hf x hx⟩;unfold gW at h
 split at h
 ·omega
 ·split at h
  ·rename_i hn;exact absurd h hn
  ·rename_i hn;exact(zH (q9 (by omega) x hx)).1
theorem wU{S:List c9}(hS:∀b∈S,iP b.t=true){k:List Tm}{t:Tm}(h:∀x∈k++[t],iP x=true):∀x∈bG S k++[bw S t],iP x=true:=λx hx=>by
 rcases Z8.1 hx with hx |hx
 ·rw[bN]at hx;obtain⟨y,hy,rfl⟩:=aak.1 hx;exact vu hS y (h y (aaH _ hy))
 ·simp at hx;rw[hx];exact vu hS t (h t (by simp))
theorem Wc{l p q:List eE}{d:eE}{S:List c9}(e:l=p++d::q)(D:UH l)(hS:∀b∈S,iP b.t=true)(hz:nL l=0)
  (ht:lP (bG (fA 0 (bH l)) (d.kn++jg p)) (bw (fA 0 (bH l)) d.tm)=true) (hb:(jd p S).1=true) (hg:(jd (p++[d]) S).2=0):(jd (p++[d]) S).1=true:=by
 have hp:∀u∈p,qU S u=0/\gW (bG S u.kn) (bw S u.tm)=0/\lP (bG S u.kn) (bw S u.tm)=true:=zG (by rw[<-OO hb];exact hb);have Ti:=Ll hg;rw[Ti]at hg ⊢;have Tj:gh S (p++[d])=gh S [d]:=wV (q:=[]) rfl hp;rw[Tj]at hg ⊢;rw[gh]at hg ⊢
 split
 ·rename_i h;rw[if_pos h]at hg;exact absurd hg h
 ·rename_i h1
  rw[if_neg h1]at hg
  split
  ·rename_i h;rw[if_pos h]at hg;exact absurd hg h
  ·rename_i h2
   have h2:gW (bG S d.kn) (bw S d.tm)=0:=by omega
   obtain⟨t1,t2⟩:=Cx ht;have F:=Th e D;have XT:∀u∈l,∀x∈u.kn++[u.tm],iP x=true:=λu hu x hx=>(ic.1 (D.f u hu x hx)).1
   have DT:d∈l:=by rw[e];simp
   have nI:∀u∈p,u∈l:=λu hu=>by rw[e];exact aaH _ hu
   have hQ:∀b∈fA 0 (bH l),iP b.t=true:=λb hb=>by
    obtain⟨i,h1,_,h3,h4⟩:=qa D hb;rw[h4];exact(r8 h1 h3).2.2.1
   have hex:∀x∈jg p,∃u∈p,u.tm=x/\x.k=1:=λx hx=>by
    obtain⟨u,hu,rfl⟩:=aak.1 hx;exact⟨u,(aaM.1 hu).1,rfl,by simpa using(aaM.1 hu).2⟩
   have U':=Cy t1 (wU hQ λx hx=>by
    rcases Z8.1 hx with hx |hx
    ·rcases Z8.1 hx with hx |hx
     ·exact XT d DT x (aaH _ hx)
     ·obtain⟨u,hu,rfl,_⟩:=hex x hx;exact XT u (nI u hu) u.tm (by simp)
    ·simp at hx;exact XT d DT x (by simp[hx]))
   have U:=Cy h2 (wU hS (XT d DT));have key:=OM (S:=S) F U' U (λx hx=>?_) t2 d.tm (mL (by simp)) rfl
   ·rw[if_neg (by rw[Lm h2 key];simp)]
    rfl
   ·obtain⟨u,hu,rfl,hk⟩:=hex x hx;refine⟨hk,λjr=>?_⟩;obtain⟨_,_,g3⟩:=hp u hu;refine oq.mono (λy hy=>?_) (λy hy=>?_) (Cx g3).2
    ·have hy:=(db _ _).1 hy;have q8:∀t∈u.kn,t∈d.kn:=wT (e▸GF hz) hu;refine(db _ _).2 ?_;obtain⟨t,ht,hy⟩:=bT.1 hy;rcases Z8.1 ht with ht |ht
     ·rw[bN]at ht;obtain⟨c,hc,rfl⟩:=aak.1 ht;exact bT.2 ⟨bw S c,aaH _ (by rw[bN];exact aak.2 ⟨c,q8 c hc,rfl⟩),hy⟩
     ·simp at ht;subst ht;obtain⟨c,hc,jr⟩:=bT.1 jr
      have yJ:∀z∈pre c,z.k=1->z.l=[]:=λz hz=>F.lv z (bT.2 ⟨c,by
       rcases Z8.1 hc with h |h
       ·exact aaH _ (aaH _ h)
       ·exact abK _ h,hz⟩)
      have Im:=GA (S:=S) c yJ u.tm jr;refine bT.2 ⟨bw S c,?_,jH _ _ Im y hy⟩;rcases Z8.1 hc with h |h
      ·exact aaH _ (by rw[bN];exact aak.2 ⟨c,h,rfl⟩)
      ·simp at h;rw[h];simp
    ·have hy:=(db _ _).1 hy;have q8:∀t∈u.kn,t∈d.kn:=wT (e▸GF hz) hu;rw[bN]at hy;obtain⟨c,hc,rfl⟩:=aak.1 hy;exact .base ((db _ _).2 (by rw[bN];exact aak.2 ⟨c,q8 c hc,rfl⟩))
theorem Io(b:List (List Nat)):UH (eN b):=by
 obtain⟨h1,h2⟩:=lj b;refine⟨λd hd t ht=>?_,h2,h1⟩;obtain⟨_,q1,q2,_⟩:=(wG b).2 d hd;rcases Z8.1 ht with h |h
 ·exact(q1 t h).1
 ·simp at h;rw[h];exact q2
theorem zI:∀{l:List Tm} {n:Nat} {prev:Option Tm},fO l->(∀v∈l,v∈pY)->n+l.length<=4->(∀p,prev=some p->∀v∈l,aU p v<0)->nV prev (fA n l)=0
 |[],n,prev,_,_,_,_=>rfl
 |v::l,n,prev,hs,hv,hn,hp=>by
  have h1:=(r8 (n:=n) (by simp at hn;omega) (hv v (by simp))).1
  have h2:behind prev v=true:=by
   cases prev with
   |none=>rfl
   |some p=>exact decide_eq_true (hp p rfl v (by simp))
  rw[fA,nV,if_neg (by omega),if_neg (by rw[h2];simp)];have DQ:=aal.1 hs
  exact zI DQ.2 (λu hu=>hv u (by simp[hu])) (by simp at hn ⊢;omega) λp Tf u hu=>by
   obtain rfl:=ZZ Tf;exact DQ.1 u hu
theorem Lo{l:List eE}(D:UH l):lN (fA 0 (bH l))=0:=by
 have h1:=D.n;have h2:=Cv (bH l) 0;unfold lN;rw[if_neg (by omega)];exact zI (iv (j0 _)) D.v (by omega) (λp h=>by cases h)
structure KX(ids:List Nat)(h h':ab):Prop where
 len:h'.length=h.length
 same:∀j,j∉ids->h'[j]?=h[j]?
 nj:∀(j:Nat) (o:au),h[j]?=some o->∃mu:Mu,h'[j]?=some ⟨mu,o.ep,o.bC,o.es⟩/\(mu=o.mu\/mu=.f)
theorem KX.refl(ids:List Nat)(h:ab):KX ids h h:=⟨rfl,λ_ _=>rfl,λj o e=>⟨o.mu,e,.inl rfl⟩⟩
theorem KX.hr{ids:List Nat}{h h':ab}(z:KX ids h h')(H:HR h):HR h':=by
 intro o ho
 obtain⟨j,hj,rfl⟩:=acm ho;have DR:j<h.length:=by rw[<-z.len];exact hj
 obtain⟨mu,e,hm⟩:=z.nj j h[j] (Z3 DR);rw[Z3 hj]at e;have e:=ZZ e;obtain⟨h1,h2⟩:=H h[j] (aay DR);rw[e,z.len];refine⟨?_,h2⟩;rcases hm with rfl |rfl
 ·exact h1
 ·simp
theorem wH:∀{ids:List Nat} {h h':ab},fk h ids=some h'->KX ids h h'
 |[],h,h',e=>by
  simp only[fk,aax]at e;subst e;exact .refl _ _
 |id::r,h,h',e=>by
  unfold fk at e
  split at e
  ·rename_i h1 e1
   have a:=wH e;unfold kz at e1
   split at e1
   ·rename_i o ho
    split at e1
    ·obtain rfl:=ZZ e1;refine⟨by rw[a.len,ach],λj hj=>?_,λj o' hj=>?_⟩
     ·rw[Z',not_or]at hj;rw[a.same j hj.2,Z7 (λhh=>hj.1 hh.symm)]
     ·by_cases yz:id=j
      ·subst yz;obtain rfl:=ZZ (ho.symm.trans hj);obtain⟨mu,q1,q2⟩:=a.nj id _ (Z6 (ag ho));exact⟨mu,q1,.inr (by rcases q2 with rfl |rfl <;>rfl)⟩
      ·exact a.nj j o' (by rw[Z7 yz];exact hj)
    ·cases e1
   ·cases e1
  ·cases e
theorem ai.VW{C:cP}{f:FuncId}{args args':List PV}{h:ab}{rv:PV}{Q:PV->ab->Prop}(hb:gI h args=some args')(NC:ao args=false)(Ay:∀id∈iD args,∃o:au,h[id]?=some o/\ao o.es=true/\(o.mu=.m\/o.mu=.f))(a:aO C f (aQ args') rv)(q:∀h',KX (iD args) h h'->Q rv h')(hm:C.mode f=.pure:=by rfl):ai C 2 f args h Q:=by
 obtain⟨n0,hn⟩:=a;obtain⟨hf,ef⟩:=KY _ _ Ay;refine⟨rv,if(dU rv ||mv h (iD args))=true then h else hf,q _ ?_,n0,λn h1=>?_⟩
 ·split
  ·exact .refl _ _
  ·exact wH ef
 obtain⟨r0,hc,r1,e1,e3,e4⟩:=hn n h1;have yZ:dU r1=dU rv:=by have:=jI r1;rw[e4]at this;exact this.symm
 unfold dg;rw[hm];simp only[dD,NC,aad,if_false,hb,e1,e3,yZ,e4]
 split
 ·rfl
 ·simp[ef]
inductive yI(h:ab):List Nat->List PV->List eE->Prop
 |nil:yI h [] [] []
 |snoc {ids:List Nat} {es:List PV} {ds:List eE} {w:PV} {d:eE}:yI h ids es ds->Out 4 h w (ae d.kn)->yI h (ids++cq w) (es++[.agg [w,.int .i64 d.tm.k,.str d.tm.s,.int .i64 d.tm.o,.aa false (ae d.tm.l)]]) (ds++[d])
theorem yI.len{h:ab}{ids:List Nat}{es:List PV}{ds:List eE}(n:yI h ids es ds):es.length=ds.length:=by
 induction n with
 |nil=>rfl
 |snoc _ _ ih=>simp[ih]
theorem yI.of_eq{h h':ab}{ids:List Nat}{es:List PV}{ds:List eE}(n:yI h ids es ds):(∀i∈ids,h'[i]?=h[i]?)->yI h' ids es ds:=by
 induction n with
 |nil=>exact λ_=>.nil
 |snoc _ o ih=>exact λhe=>.snoc (ih λi hi=>he i (by simp[hi])) (o.of_eq λi hi=>he i (by simp[hi]))
theorem yI.lt{h:ab}{ids:List Nat}{es:List PV}{ds:List eE}(n:yI h ids es ds):∀i∈ids,i<h.length:=by
 induction n with
 |nil=>intro i hi;cases hi
 |snoc _ o ih=>
  intro i hi
  rcases Z8.1 hi with hi |hi
  ·exact ih i hi
  ·exact o.mI i hi
theorem yI.Qz{h:ab}{ids:List Nat}{es:List PV}{ds:List eE}(n:yI h ids es ds):bz (λi=>decide (i<h.length)) es=true:=by
 induction n with
 |nil=>rfl
 |snoc _ o ih=>
  rw[fw,abj,<-fw,ih];simp[bt,bz,o.bt]
theorem yI.ok{h:ab}{ids:List Nat}{es:List PV}{ds:List eE}(n:yI h ids es ds):∀e∈es,(cells e).length=5:=by
 induction n with
 |nil=>intro e he;cases he
 |snoc _ o ih=>
  intro e he
  rcases Z8.1 he with he |he
  ·exact ih e he
  ·simp at he;rw[he];rfl
theorem zz{f:PV->Option PV}:∀{a b a' b':List PV},fV f a=some a'->fV f b=some b'->fV f (a++b)=some (a'++b')
 |[],b,a',b',h1,h2=>by
  simp only[fV,aax]at h1;subst h1;exact h2
 |c::a,b,a',b',h1,h2=>by
  simp only[fV]at h1
  split at h1
  ·rename_i c' r' e1 e2
   obtain rfl:=ZZ h1;simp[fV,e1,zz e2 h2]
  ·cases h1
theorem QA{n:Nat}{h:ab}{id ep len:Nat}{o:au}{r:List PV}(hg:getM h id ep=some o)(hl:len<=o.es.length)(hm:o.mu=.m\/o.mu=.f)(hr:fV (pQ n h) (o.es.take len)=some r):pQ (n+1) h (.ak id ep 0 len)=some (.aa false r):=by
 rw[pQ];simp only[hg];rw[if_pos ⟨by omega,hm⟩,aaV,hr]
 rfl
theorem KZ{n:Nat}{h:ab}{cs r:List PV}(hr:fV (pQ n h) cs=some r):pQ (n+1) h (.agg cs)=some (.agg r):=by
 rw[pQ,hr]
 rfl
theorem fG{f:PV->Option PV}{c c':PV}{r r':List PV}(h1:f c=some c')(h2:fV f r=some r'):fV f (c::r)=some (c'::r'):=by
 simp only[fV,h1,h2]
theorem zA{n:Nat}{h:ab}{k:IntKind}{i:Int}:pQ n h (.int k i)=some (.int k i):=by cases n <;>rfl
theorem K5{n:Nat}{h:ab}{s:ByteArray}:pQ n h (.str s)=some (.str s):=by cases n <;>rfl
theorem Gp{n:Nat}{h:ab}{f:Bool}{es:List PV}:pQ n h (.aa f es)=some (.aa f es):=by cases n <;>rfl
theorem OA(n:Nat)(h:ab)(t:Tm):pQ (n+1) h (enc t)=some (enc t):=by
 rw[aw];exact KZ (fG zA (fG K5 (fG zA (fG Gp rfl))))
theorem Ci(n:Nat)(h:ab):∀l:List Tm,fV (pQ (n+1) h) (ae l)=some (ae l)
 |[]=>rfl
 |t::l=>by rw[ae];exact fG (OA n h t) (Ci n h l)
theorem SJ{n:Nat}{h:ab}{w:PV}{d:eE}(o:Out 4 h w (ae d.kn)):∃r,pQ (n+3) h (.agg [w,.int .i64 d.tm.k,.str d.tm.s,.int .i64 d.tm.o,.aa false (ae d.tm.l)])=some r/\cf r=rP d:=by
 rcases o with⟨rfl,e⟩|⟨id,ep,rfl,e⟩
 ·exact⟨.agg [.aa true [],.int .i64 d.tm.k,.str d.tm.s,.int .i64 d.tm.o,.aa false (ae d.tm.l)],KZ (fG Gp (fG zA (fG K5 (fG zA (fG Gp rfl))))),by simp[cf,aQ,ba,qS,e]⟩
 ·refine⟨.agg [.aa false (ae d.kn),.int .i64 d.tm.k,.str d.tm.s,.int .i64 d.tm.o,.aa false (ae d.tm.l)],?_,by simp[cf,aQ,ba,qS]⟩;have hg:=bg e rfl (by simp);have hm:=Ci n h d.kn;have h1:pQ (n+2) h (.ak id ep 0 (ae d.kn).length)=some (.aa false (ae d.kn)):=QA hg (Z5 _) (.inl rfl) (by rw[aaW];exact hm);exact KZ (fG h1 (fG zA (fG K5 (fG zA (fG Gp rfl)))))
theorem yI.pQ{h:ab}{ids:List Nat}{es:List PV}{ds:List eE}(n:yI h ids es ds)(k:Nat):∃eT,fV (pQ (k+3) h) es=some eT/\aQ eT=bA ds:=by
 induction n with
 |nil=>exact⟨[],rfl,rfl⟩
 |snoc _ o ih=>
  obtain⟨a,h1,h2⟩:=ih;obtain⟨r,h3,h4⟩:=SJ (n:=k) o;refine⟨a++[r],zz h1 (by simp[fV,h3]),?_⟩;rw[cL,aaS,<-cL,h2];simp[bA,h4]
theorem yI.YT{h:ab}{ids:List Nat}{es:List PV}{ds:List eE}(n:yI h ids es ds):ao es=true->aQ es=bA ds:=by
 induction n with
 |nil=>exact λ_=>rfl
 | @snoc ids es ds w d _ o ih=>
  intro hv
  rw[bu,abj,Z9,<-bu,<-bu]at hv;rw[cL,aaS,<-cL,ih hv.1]
  have hw:aV w=true:=by
   have:=hv.2;simp[ao,aV]at this;exact this
  rcases o with⟨rfl,e⟩|⟨id,ep,rfl,e⟩
  ·simp[cf,aQ,ba,bA,qS,e]
  ·simp[aV]at hw
theorem yI.ret{h:ab}{v:PV}{ids:List Nat}{es:List PV}{ds:List eE}(o:Out 5 h v es)(n:yI h ids es ds):∃r1,yU h (aY [v])=some r1/\cf r1=.aa false (bA ds):=by
 show∃r1,yU h v=some r1/\cf r1=.aa false (bA ds);rcases o with⟨rfl,rfl⟩|⟨id,ep,rfl,e⟩
 ·have:=n.len;obtain rfl:=aaf (show ds.length=0 by simpa using this.symm);exact⟨_,rfl,rfl⟩
 ·have hg:=bg e rfl (by simp)
  by_cases hv:ao es=true
  ·refine⟨.aa false es,?_,by simp[cf,n.YT hv]⟩;simp[yU,rb,j',qs,hg,hv]
  ·obtain⟨eT,h1,h2⟩:=n.pQ 4;refine⟨.aa false eT,?_,by simp[cf,h2]⟩;have h3:rb h (.ak id ep 0 es.length)=none:=by simp[rb,j',qs,hg,hv]
   simp only[yU,h3];exact QA hg (Z5 _) (.inl rfl) (by rw[aaW];exact h1)
structure H8(H:ab)(v:PV)(sz:Nat)(es ys:List PV)(r:PV)(H':ab):Prop where
 out:Out sz H' r (es++ys)
 cs:(H'=H/\r=v/\ys=[])\/(H'=H++[⟨.m,0,sz,ys⟩]/\r=.ak H.length 0 0 ys.length/\es=[])\/∃id ep,v=.ak id ep 0 es.length/\H[id]?=some ⟨.m,ep,sz,es⟩/\H'=H.set id ⟨.m,ep+1,sz,es++ys⟩/\r=.ak id (ep+1) 0 (es.length+ys.length)
section
variable{H H':ab}{v r:PV}{sz:Nat}{es ys:List PV}
theorem H8.len(a:H8 H v sz es ys r H'):H.length<=H'.length:=by
 rcases a.cs with⟨rfl,_⟩|⟨rfl,_⟩|⟨id,ep,_,_,rfl,_⟩ <;>simp
theorem H8.fr(a:H8 H v sz es ys r H')(j:Nat)(hj:j<H.length)(hv:j∉cq v):H'[j]?=H[j]?:=by
 rcases a.cs with⟨rfl,_⟩|⟨rfl,_⟩|⟨id,ep,rfl,_,rfl,_⟩
 ·rfl
 ·exact Z0 hj
 ·exact Z7 (λh=>hv (by simp[cq,h]))
theorem H8.cq(a:H8 H v sz es ys r H'):∀i∈Pm.cq r,i∈Pm.cq v\/H.length<=i:=by
 intro i hi
 rcases a.cs with⟨_,rfl,_⟩|⟨_,rfl,_⟩|⟨id,ep,rfl,_,_,rfl⟩
 ·exact .inl hi
 ·simp[Pm.cq]at hi;exact .inr (by omega)
 ·exact .inl (by simpa[Pm.cq]using hi)
theorem H8.hr(a:H8 H v sz es ys r H')(hR:HR H)(EM:bz (λi=>decide (i<H.length)) (es++ys)=true):HR H':=by
 rcases a.cs with⟨rfl,_⟩|⟨rfl,_,rfl⟩|⟨id,ep,_,_,rfl,_⟩
 ·exact hR
 ·exact hR.K6 (by simp) (eG (f:=λi=>decide (i<H.length)) (λi hi=>by have:=of_decide_eq_true hi;exact decide_eq_true (by omega)) _ (by simpa using EM))
 ·exact hR.set id (by simp) EM
theorem H8.aR(a:H8 H v sz es ys r H'):∀(j:Nat) (o:au),H[j]?=some o->o.mu≠.m->H'[j]?=some o:=by
 intro j o h hm
 rcases a.cs with⟨rfl,_⟩|⟨rfl,_⟩|⟨id,ep,_,e,rfl,_⟩
 ·exact h
 ·rw[Z0 (ag h)];exact h
 ·by_cases hj:id=j
  ·subst hj;rw[e]at h;cases h;exact absurd rfl hm
  ·rw[Z7 hj];exact h
theorem H8.K7(a:H8 H v sz es ys r H'):∀(j:Nat) (o:au),H'[j]?=some o->o.mu≠.l\/H[j]?=some o:=by
 intro j o h
 rcases a.cs with⟨rfl,_⟩|⟨rfl,_⟩|⟨id,ep,_,e,rfl,_⟩
 ·exact .inr h
 ·by_cases hj:j<H.length
  ·rw[Z0 hj]at h;exact .inr h
  ·have cI:=ag h;simp at cI;obtain rfl:j=H.length:=by omega
   simp at h;subst h;exact .inl (by simp)
 ·by_cases hj:id=j
  ·subst hj;rw[Z6 (ag e)]at h;cases h;exact .inl (by simp)
  ·rw[Z7 hj]at h;exact .inr h
end
theorem EN{C:cP}(T:lL C.P){H:ab}{st xt el ql:TypeId}{sz fZ:Nat}{z v u:PV}{es ys:List PV}(hk:T.kd st=some (.sl el))(fB:T.kd xt=some (.sl ql))(hs:T.ts el=some (sz+1))(hb:T.tb el=some fZ)(hz:T.tz el=some z)(jn:fZ<=1000)(hl:(cells z).length=sz+1)(ho:(cells z).all bI=true)
  (o:Out (sz+1) H v es) (hu:cw H u=some ys) (SK:∀i∈cq v,i∉cq u) (hy:dB (sz+1) ys) (hn:es.length+ys.length<1000000000):∃r H',bQ C.P 2 H st xt v u=some (r,H')/\H8 H v (sz+1) es ys r H':=by
 unfold dB at hy
 have hA:bQ C.P 2 H st xt v u=match(generalizing:=false) v with
   | .aa full es=>if ys.isEmpty then some (v,H)else if full=true/\1<=2/\roomy (es.length+ys.length) fZ=true/\es.all (λv=>decide ((cells v).length=sz+1)&& (cells v).all bI)=true then some (.ak H.length 0 0 (es.length+ys.length),newObj H (sz+1) (es++ys))else none
   | .ak id ep off len=>match getM H id ep with
    |some o=>if off+len<=o.es.length/\sz+1=o.bC then
      if ys.isEmpty then some (v,H)
      else if off=0/\2<=2/\o.mu=.m/\jQ id u=true/\len+ys.length<=o.es.length then some (.ak id ep 0 (len+ys.length),H.set id {o with es:=o.es.take len++ys++o.es.drop (len+ys.length)})
      else if off=0/\2<=2/\o.mu=.m/\roomy (len+ys.length) fZ=true then some (.ak id (ep+1) 0 (len+ys.length),H.set id {o with ep:=ep+1,es:=o.es.take len++ys})else none
     else none
    |none=>none
   |_=>none:=by
  unfold bQ;rw[bp (T.cU _ _ hk)];simp only[T.dT _ _ hs,T.rI _ _ hb,T.na _ _ hz,cG,bp (T.cU _ _ fB),hu];rw[if_pos ⟨by omega,by omega,⟨hl,ho⟩,hy⟩]
  rfl
 rw[hA]
 by_cases bJ:ys=[]
 ·subst bJ;rcases o with⟨rfl,rfl⟩|⟨id,ep,rfl,e⟩
  ·exact⟨_,_,rfl,.inl ⟨rfl,rfl⟩,.inl ⟨rfl,rfl,rfl⟩⟩
  ·refine⟨.ak id ep 0 es.length,H,?_,.inr ⟨id,ep,by simp,by simpa using e⟩,.inl ⟨rfl,rfl,rfl⟩⟩;simp[bg e rfl (by simp:Mu.m≠Mu.x)]
 ·have AD:ys.isEmpty=false:=by cases ys with |nil=>exact absurd rfl bJ |cons=>rfl
  rcases o with⟨rfl,rfl⟩|⟨id,ep,rfl,e⟩
  ·refine⟨.ak H.length 0 0 ys.length,H++[⟨.m,0,sz+1,ys⟩],?_,.inr ⟨H.length,0,by simp,by simp⟩,.inr (.inl ⟨rfl,rfl,rfl⟩)⟩;have hr:roomy ys.length fZ=true:=iX (by simpa using hn) jn
   simp[AD,hr,newObj]
  ·refine⟨.ak id (ep+1) 0 (es.length+ys.length),H.set id ⟨.m,ep+1,sz+1,es++ys⟩,?_,.inr ⟨id,ep+1,by simp,Z6 (ag e)⟩,.inr (.inr ⟨id,ep,rfl,e,rfl,rfl⟩)⟩;have hr:roomy (es.length+ys.length) fZ=true:=iX hn jn
   have N':jQ id u=false:=by
    have:=SK id (by simp[cq])
    cases u <;>simp_all[jQ,cq]
    omega
   simp[bg e rfl (by simp:Mu.m≠Mu.x),AD,hr,N']
theorem K8{C:cP}(T:lL C.P){lv:Nat}(yJ:1<=lv){H:ab}{st xt el ql:TypeId}{sz fZ:Nat}{z u:PV}{es ys:List PV}(hk:T.kd st=some (.sl el))(fB:T.kd xt=some (.sl ql))(hs:T.ts el=some (sz+1))(hb:T.tb el=some fZ)(hz:T.tz el=some z)(jn:fZ<=1000)(hl:(cells z).length=sz+1)(ho:(cells z).all bI=true)
  (hu:cw H u=some ys) (iU:dB (sz+1) es) (hy:dB (sz+1) ys) (hn:es.length+ys.length<1000000000):∃r J,bQ C.P lv H st xt (.aa true es) u=some (r,H++J)/\Ls (sz+1) (H++J) r (es++ys)/\(J=[]\/J=[⟨.m,0,sz+1,es++ys⟩])/\(∀i∈cq r,H.length<=i)/\(es=[]->Out (sz+1) (H++J) r ys):=by
 unfold dB at hy iU
 have hA:bQ C.P lv H st xt (.aa true es) u=if ys.isEmpty then some (.aa true es,H)else if true=true/\1<=lv/\roomy (es.length+ys.length) fZ=true/\es.all (λv=>decide ((cells v).length=sz+1)&& (cells v).all bI)=true then some (.ak H.length 0 0 (es.length+ys.length),newObj H (sz+1) (es++ys))else none:=by
  unfold bQ;rw[bp (T.cU _ _ hk)];simp only[T.dT _ _ hs,T.rI _ _ hb,T.na _ _ hz,cG,bp (T.cU _ _ fB),hu];rw[if_pos ⟨by omega,by omega,⟨hl,ho⟩,hy⟩]
 rw[hA]
 by_cases bJ:ys=[]
 ·subst bJ;exact⟨.aa true es,[],by simp,.inr ⟨true,by simp⟩,.inl rfl,by simp[cq],λh=>.inl ⟨by rw[h],rfl⟩⟩
 ·have AD:ys.isEmpty=false:=by cases ys with |nil=>exact absurd rfl bJ |cons=>rfl
  have hr:roomy (es.length+ys.length) fZ=true:=iX hn jn
  refine⟨.ak H.length 0 0 (es.length+ys.length),[⟨.m,0,sz+1,es++ys⟩],by rw[AD,if_neg (by simp),if_pos ⟨rfl,by omega,hr,iU⟩];rfl,.inl (.inr ⟨H.length,0,by simp,by simp⟩),.inr rfl,by simp[cq],λh=>.inr ⟨H.length,0,by simp[h],by simp[h]⟩⟩
theorem OB{C:cP}{ops:Array Oper}{L L':Al}{H h':ab}{c:Nat}(yk:∀ρ,gq ops (before ops) (al L ρ)=[c])(yC:sinks ops (before ops)=none)(hc:c<H.length)(Az:∀(j:Nat) (o:au),h'[j]?=some o->o.mu≠.l\/(cA [c] H)[j]?=some o)
  (pT:∀run ρ,cm C run ops (before ops) (cA [c] H) 0 ops.toList ⟨al L ρ,cA [c] H⟩=some ⟨al L' ρ,h'⟩):∀run ρ,iS C run ops ⟨al L ρ,H⟩=some ⟨al L' ρ,dW [c] H h'⟩:=by
 intro run ρ
 unfold iS;rw[yk,pT];dsimp only
 have hn:qH [c] H h'=true:=sN λj o h=>by
  rcases Az j o h with h |h
  ·exact .inl h
  ·by_cases hj:j=c
   ·subst hj;exact .inr (.inl ⟨by simp,hc⟩)
   ·rw[kJ]at h;have:([c].contains j)=false:=by simp;exact hj
    simp only[this,aad,if_false,ab7]at h;exact .inr (.inr h)
 rw[if_pos ⟨hn,by simp only[qI,yC]⟩]
theorem SL{H:ab}{c j:Nat}(h:j≠c):(cA [c] H)[j]?=H[j]?:=by
 rw[kJ];have:([c].contains j)=false:=by simp;exact h
 simp only[this,aad,if_false,ab7]
theorem K9{H:ab}{c ep sz:Nat}{es:List PV}(h:H[c]?=some ⟨.m,ep,sz,es⟩):(cA [c] H)[c]?=some ⟨.l,ep,sz,es⟩:=by
 rw[kJ,h];simp[bR]
theorem AL{H:ab}{c:Nat}:(cA [c] H).length=H.length:=by simp[cA]
theorem EO{H h:ab}{c j:Nat}(hj:j≠c):(dW [c] H h)[j]?=h[j]?:=by
 rw[mF];have:([c].contains j)=false:=by simp;exact hj
 simp only[this,aad,if_false,ab7]
theorem K'{H h:ab}{c:Nat}{o:au}(h0:H[c]?=some o)(hc:c<h.length):(dW [c] H h)[c]?=some o:=by
 rw[mF,h0,Z3 hc];simp
theorem Gq{H h:ab}{c:Nat}:(dW [c] H h).length=h.length:=by simp[dW]
theorem HR.OC{H:ab}{c:Nat}(hR:HR H):HR (cA [c] H):=by
 intro o ho
 obtain⟨j,hj,rfl⟩:=acm ho;have tY:j<H.length:=by rw[<-AL (c:=c)];exact hj
 have e:=kJ [c] H j;rw[Z3 hj,Z3 tY]at e;simp only[aab,aax]at e;obtain⟨h1,h2⟩:=hR _ (aay tY);rw[e,AL]
 split
 ·unfold bR
  split
  ·exact⟨by simp,h2⟩
  ·exact⟨h1,h2⟩
 ·exact⟨h1,h2⟩
theorem HR.OD{H h:ab}{c:Nat}(hR:HR h)(hR0:HR H)(hle:H.length<=h.length):HR (dW [c] H h):=by
 intro o ho
 obtain⟨j,hj,rfl⟩:=acm ho;have tY:j<h.length:=by rw[<-Gq (H:=H) (c:=c)];exact hj
 rw[Gq]
 by_cases Vt:j=c
 ·subst Vt
  by_cases h0:j<H.length
  ·have e:=K' (h:=h) (Z3 h0) tY;rw[Z3 hj]at e;rw[ZZ e];obtain⟨h1,h2⟩:=hR0 _ (aay h0);exact⟨h1,eG (λi hi=>by have:=of_decide_eq_true hi;exact decide_eq_true (by omega)) _ h2⟩
  ·have e:=mF [j] H h j;rw[Z3 hj,Z3 tY,aag (Nat.not_lt.1 h0)]at e;simp at e;rw[e];exact hR _ (aay tY)
 ·have e:=EO (H:=H) (h:=h) Vt;rw[Z3 hj,Z3 tY]at e;rw[ZZ e];exact hR _ (aay tY)
theorem kLd{C:cP}(T:lL C.P){run:hZ}{ops:Array Oper}{b:List Nat}{h0:ab}{i:Nat}{L:Al}{ρ:Nat->PV}{h:ab}{d x c:Nat}{o:au}{t:TypeId}{v:PV}{y:TypeId}{s:String}{a:Array Edge}
  (hx:lk L x=some (.ptr c 0 0 0)) (hc:h0[c]?=some o) (hm:o.mu≠.m) (hs:tZ T (.load t (.tmp x)) L h (λy=>y=v)):cT C run ops b h0 i ⟨some d,.load t (.tmp x),y,s,a,none⟩ ⟨al L ρ,h⟩=some ⟨al ((d,v)::L) ρ,h⟩:=by
 obtain⟨hh,v',e,rfl⟩:=kL T hs;have hp:al L ρ x=.ptr c 0 0 0:=dz hx ρ;refine Vk hh rfl ?_ (by have:=e run 1 ρ;exact this);have:rB (.load t (.tmp x)) (al L ρ)=some c:=by simp only[rB,ev,hp]
 simp only[kO,this,oA,hc];simp[hm]
theorem VX{C:cP}(T:lL C.P){run:hZ}{L:Al}{ρ:Nat->PV}{M G3:ab}{t:TypeId}{n z:Nat}{ps:Array (Nat×Operand)}{vs:List PV}{u:PV}(x:yD T t n ps.toList L (λsz es=>es=vs/\sz=z))(h:(ao vs=true/\u=.aa true vs/\G3=M)\/(ao vs=false/\u=.ak M.length 0 0 n/\G3=newObj M z vs)):ar C run 2 (.buildSlice t n ps) (al L ρ) M=some (u,G3):=by
 obtain⟨sz,es,⟨rfl,rfl⟩,e⟩:=mG T x;have:=e ρ M 2;rcases h with⟨hv,rfl,rfl⟩|⟨hv,rfl,rfl⟩
 ·rw[hv,if_pos rfl]at this;simpa only[ar,aC]using this
 ·rw[hv,if_neg (by simp),if_pos (by omega)]at this;simpa only[ar,aC]using this
namespace bP
open Go.Proofs
attribute [local irreducible] aE az aI aJ Ev ah ai ax aW bZ
theorem Ju(p a:List Tm)(u:Tm):qm (p++[u]) a=eZ u (qm p a):=by simp[qm]
theorem DJ(l:List Tm)(hl:l.length<1000000)(hb:∀t∈l,ay t<100000000):aO C 70 [.aa false (ae l)] (.aa false (ae (jb l))):=by
 have cX:=aj l;refine aO.x T6 Tryz.func70 rfl ?_;refine wXA ?_;refine eD.zip T6 l (λp q L H=>∃f,L=[(0,.aa false (ae l)),(3,.aa f (ae (qm p []))),(4,.int .i64 p.length)]/\H=[]) (.nx ⟨true,rfl,rfl⟩) ?_ ?_
 ·rintro p u q _ _ ρ e ⟨f,rfl,rfl⟩;have cY:=bW e;have cE:=congrArg List.length e;simp only[Z2,Z4]at cE;have h1:=vZ p [];simp only[aaE]at h1
  have had:=(J9 u (qm p []) (by have:=hb u (by rw[e];simp);omega) (λx hx=>by
   rcases BU hx with h |h
   ·have:=hb x (by rw[e];simp[h]);omega
   ·cases h) (by omega)).nine
  rw[aw]at had;refine wXA ?_;refine .p had ?_;refine wXA ?_;exact .nx ⟨_,by rw[Ju],rfl⟩
 ·rintro _ _ ρ ⟨f,rfl,rfl⟩;refine wXA ?_;exact⟨_,rfl,by simp[aY,cf,jb]⟩
theorem Jv(t:Tm)(n:Int)(hb:ay t<1000000):aO C 124 [enc t,.int .i64 n] (.aa false (ae (qw n t))):=by
 have h1:=MW t (by omega);have nI:=vf t;have cX:=aj (pre t);have hse:=DJ (uW n (pre t)) (by have:=vD n (pre t);omega) (λu hu=>by have:=oW t u (aaM.1 hu).1;omega);rw[aw]at h1 ⊢;refine aO.x T6 Tryz.func124 rfl ?_;refine wXA ?_;refine .p h1 ?_;refine wXA ?_;refine eD.zip T6 (pre t) (λp q L H=>∃v,L=[(1,.int .i64 n),(5,v),(6,.aa false (ae (pre t))),(7,.int .i64 p.length)]/\HV H/\Out 4 H v (ae (uW n p))) (.nx ⟨_,rfl,HV.one (by simp),.inl ⟨rfl,rfl⟩⟩) ?_ ?_
 ·rintro p u q _ H ρ e ⟨v,rfl,hH,ho⟩;have cY:=bW e;have cE:=congrArg List.length e;simp only[Z2,Z4]at cE;have XS:=vD n p;have hle:=aj (uW n p);have e9:ae (uW n p)++[.agg [.int .i64 u.k,.str u.s,.int .i64 u.o,.aa false (ae u.l)]]=ae (uW n p++[u]):=by rw[cc,<-aw];rfl
  have oJ:=Hh n p [u];rw[DK]at oJ;refine wXM (λhc v H lp=>?_) λhc=>?_
  ·rw[if_pos (by assumption)]at oJ;refine .nx ⟨_,rfl,lp.hv,?_⟩;have:=lp.out;rw[e9]at this;rw[oJ];exact this
  ·rw[if_neg (by assumption)]at oJ;refine .nx ⟨_,rfl,hH,?_⟩;rw[oJ];simpa[uW]using ho
 ·rintro _ H ρ ⟨v,rfl,hH,ho⟩;refine wXA ?_;refine .pl (.inl ho) hse (λh' fz=>?_);refine wXA ?_;exact⟨_,rfl,by simp[aY,cf,qw,uW]⟩
theorem zC(t:Tm)(hb:ay t<1000000):aO C 67 [enc t] (.aa false (ae (bV t))):=by
 have h1:=Jv t 1 hb;rw[aw]at h1 ⊢;refine aO.x T6 Tryz.func67 rfl ?_;refine wXA ?_;refine .p h1 ?_;refine wXA ?_;exact⟨_,rfl,by simp[aY,bV]⟩
theorem Ct(l:List Tm)(hl:(l.flatMap bV).length<1000000)(ua:l.length<1000000)(hb:∀t∈l,ay t<1000000):aO C 21 [.aa false (ae l)] (.aa false (ae (jb (l.flatMap bV)))):=by
 have cX:=aj l
 have hse:=DJ (l.flatMap bV) hl (λu hu=>by
  obtain⟨t,ht,hu⟩:=aaU.1 hu;have:=lf hu;have:=hb t ht;omega)
 refine aO.x T6 Tryz.func21 rfl ?_;refine wXA ?_;refine eD.zip T6 l (λp q L H=>∃v,L=[(0,.aa false (ae l)),(3,v),(4,.int .i64 p.length)]/\HV H/\Out 4 H v (ae (p.flatMap bV))) (.nx ⟨_,rfl,HV.nil,.inl ⟨rfl,rfl⟩⟩) ?_ ?_
 ·rintro p u q _ H ρ e ⟨v,rfl,hH,ho⟩;have cY:=bW e;have cE:=congrArg List.length e;simp only[Z2,Z4]at cE;have EV:=zC u (hb u (by rw[e];simp));have oJ:(p++[u]).flatMap bV=p.flatMap bV++bV u:=by simp
  have QC:(p.flatMap bV).length+(bV u).length<=(l.flatMap bV).length:=by rw[e];simp
  have hle:=aj (p.flatMap bV);have hlu:=aj (bV u);rw[aw]at EV;refine wXA ?_;refine .p EV ?_;refine wXG λv H lp=>?_;refine .nx ⟨_,rfl,lp.hv,?_⟩;have:=lp.out;rw[oJ,cc];exact this
 ·rintro _ H ρ ⟨v,rfl,hH,ho⟩;refine wXA ?_;refine .pl (.inl ho) hse (λh' fz=>?_);refine wXA ?_;exact⟨_,rfl,by simp[aY,cf]⟩
def bI(d:eE):Int:=if 40<d.kn.length then 3 else ia (d.kn++[d.tm])
theorem iI(s:ByteArray)(n:Int):aO C 44 [.str s,.int .i64 n] (enc (.mk 2 s n [])):=by
 rw[bj];refine aO.x T6 Tryz.func44 rfl ?_;refine wXA ?_;exact⟨_,rfl,by simp[aY,cf,aQ]⟩
theorem H9:aO C 66 [] (.aa false (ae pY)):=aO.kb (n:=40) (by kernel_rfl)
theorem Cj(n:Nat)(h:n<2):aO C 68 [.int .i64 n] (.str ⟨#[UInt8.ofNat (48+n)]⟩):=by
 match n,h with
 |0,_=>exact aO.kb (n:=40) (by kernel_rfl)
 |1,_=>exact aO.kb (n:=40) (by kernel_rfl)
theorem EP(x:List Nat):aO C 63 [.aa false (eO x)] (.bool (decide (20<x.length))):=by
 have cX:=ll x;refine aO.x T6 Tryz.func63 rfl ?_;refine wXC (λhc=>?_) λhc=>?_
 ·exact⟨_,rfl,by rw[decide_eq_true (by omega)];rfl⟩
 ·exact⟨_,rfl,by rw[decide_eq_false (by omega)];rfl⟩
theorem Gs{h:ab}{k o:Int}{n:ByteArray}{es:List PV}{x:PV}(hv:ao es=true:=by simp)(hm:aQ es=es:=by simp)(hx:j' h x=some x:=by rfl)(hn:cf x=x:=by rfl):∃r1,rb h (aY [.agg (List.take (3+1) (List.drop 0 (cells (.agg [.int .i64 k,.str n,.int .i64 o,.aa false es])))),x])=some r1/\cf r1=.cx [.agg [.int .i64 k,.str n,.int .i64 o,.aa false es],x]:=by
 refine⟨.cx [.agg [.int .i64 k,.str n,.int .i64 o,.aa false es],x],?_,by simp[cf,aQ,hn,hm]⟩;simp only[aY,rb,gI,hx];simp[j',oz,qs,cells,aV]
theorem Uy:enc EE=.agg [.int .i64 2,.str ⟨#[97]⟩,.int .i64 1,.aa false []]:=by rw[EE,bj,o8]
theorem XI:enc Qx=.agg [.int .i64 2,.str ⟨#[98]⟩,.int .i64 1,.aa false []]:=by rw[Qx,bj,o8]
theorem Gt(s:ByteArray)(t:Tm){v:PV}(h:enc t=v):aO C 43 [.str s,.aa false [v]] (.agg [.int .i64 3,.str s,.int .i64 0,.aa false [v]]):=by
 have a:=(o9 s [t] (by simp)).nine;rw[bj,ae,h]at a;exact a
theorem QB(s:ByteArray)(t u:Tm){v w:PV}(h:enc t=v)(h2:enc u=w):aO C 43 [.str s,.aa false [v,w]] (.agg [.int .i64 3,.str s,.int .i64 0,.aa false [v,w]]):=by
 have a:=(o9 s [t,u] (by simp)).nine;rw[bj,ae,ae,h,h2]at a;exact a
theorem exS(a:Tm){v:PV}(h:enc a=v):enc (.mk 3 EJ 0 [a])=.agg [.int .i64 3,.str ⟨#[115,107]⟩,.int .i64 0,.aa false [v]]:=by
 rw[bj,show ae [a]=[enc a] by simp[ae],h]
 rfl
theorem exP(a:Tm){v:PV}(h:enc a=v):enc (.mk 3 H6 0 [.mk 3 EJ 0 [a]])=.agg [.int .i64 3,.str ⟨#[112,107]⟩,.int .i64 0,.aa false [.agg [.int .i64 3,.str ⟨#[115,107]⟩,.int .i64 0,.aa false [v]]]]:=by
 rw[bj,show ae [Tm.mk 3 EJ 0 [a]]=[enc (.mk 3 EJ 0 [a])] by simp[ae],exS a h]
 rfl
theorem yq(t:Tm):ae [t]=[.agg [.int .i64 t.k,.str t.s,.int .i64 t.o,.aa false (ae t.l)]]:=by rw[ae,aw];rfl
theorem ND(t u:Tm):ae [t,u]=[.agg [.int .i64 t.k,.str t.s,.int .i64 t.o,.aa false (ae t.l)],.agg [.int .i64 u.k,.str u.s,.int .i64 u.o,.aa false (ae u.l)]]:=by rw[ae,ae,aw,aw];rfl
theorem qX(H:ab)(hH:HR H):ax C 65 [] H (λr h'=>r=.aa true (ae nf)/\fQ H h'):=by
 have aA:=iI ⟨#[97]⟩ 1;have aB:=iI ⟨#[98]⟩ 1;have aN:=iI ⟨#[110,35,48]⟩ 2;have aM:=iI ⟨#[109,35,49]⟩ 2;have aK:=iI ⟨#[107,35,48]⟩ 3;have aH:=iI ⟨#[104,105]⟩ 5;have aS:=QB ⟨#[115,104,107]⟩ EE Qx Uy XI;have aX:=Gt ⟨#[115,107]⟩ Qx XI;have aP:=Gt ⟨#[112,107]⟩ (.mk 3 EJ 0 [Qx]) (exS Qx XI);rw[bj,o8]at aA aB aN aM aK aH;refine ax.x T6 Tryz.func65 rfl ?_;refine wXA ?_;refine .p aA ?_;refine wXA ?_;refine .p aB ?_;have hJ:List.set (List.set (H++[(⟨.m,0,4,[.agg [.int .i64 0,.str ByteArray.empty,.int .i64 0,.aa true []]]⟩:au)]++[(⟨.m,0,4,[.agg [.int .i64 0,.str ByteArray.empty,.int .i64 0,.aa true []]]⟩:au)]) H.length ⟨.m,0,4,[.agg [.int .i64 2,.str ⟨#[97]⟩,.int .i64 1,.aa false []]]⟩) (H++[(⟨.m,0,4,[.agg [.int .i64 0,.str ByteArray.empty,.int .i64 0,.aa true []]]⟩:au)]).length ⟨.m,0,4,[.agg [.int .i64 2,.str ⟨#[98]⟩,.int .i64 1,.aa false []]]⟩=H++[⟨.m,0,4,[.agg [.int .i64 2,.str ⟨#[97]⟩,.int .i64 1,.aa false []]]⟩,⟨.m,0,4,[.agg [.int .i64 2,.str ⟨#[98]⟩,.int .i64 1,.aa false []]]⟩]:=by simp
 refine wXA ?_;refine .mk ?_ (bg (o:=(⟨.m,0,4,[.agg [.int .i64 0,.str ByteArray.empty,.int .i64 0,.aa true []]]⟩:au)) (by simp) rfl (by simp));refine wXA ?_;rw[hJ];clear hJ;have hA:(H++[(⟨.m,0,4,[.agg [.int .i64 2,.str ⟨#[97]⟩,.int .i64 1,.aa false []]]⟩:au),⟨.m,0,4,[.agg [.int .i64 2,.str ⟨#[98]⟩,.int .i64 1,.aa false []]]⟩])[H.length]?=some ⟨.m,0,4,[.agg [.int .i64 2,.str ⟨#[97]⟩,.int .i64 1,.aa false []]]⟩:=by simp
 have hB:(H++[(⟨.m,0,4,[.agg [.int .i64 2,.str ⟨#[97]⟩,.int .i64 1,.aa false []]]⟩:au),⟨.m,0,4,[.agg [.int .i64 2,.str ⟨#[98]⟩,.int .i64 1,.aa false []]]⟩])[(H++[(⟨.m,0,4,[.agg [.int .i64 0,.str ByteArray.empty,.int .i64 0,.aa true []]]⟩:au)]).length]?=some ⟨.m,0,4,[.agg [.int .i64 2,.str ⟨#[98]⟩,.int .i64 1,.aa false []]]⟩:=by simp
 have oa:HR (H++[(⟨.m,0,4,[.agg [.int .i64 2,.str ⟨#[97]⟩,.int .i64 1,.aa false []]]⟩:au),⟨.m,0,4,[.agg [.int .i64 2,.str ⟨#[98]⟩,.int .i64 1,.aa false []]]⟩]):=hH.dq (HV.wI ⟨by simp,by simp⟩ ⟨by simp,by simp⟩);refine .mk _ (by simpa[aQ,cf]using aN) ?_;refine wXA ?_;refine .mk _ (by simpa[aQ,cf]using aM) ?_;refine wXA ?_;refine .mk _ (by simpa[aQ,cf]using aK) ?_;refine wXA ?_;refine .mk _ (by simpa[aQ,cf]using aS) ?_;refine wXA ?_;refine .mk _ (by simpa[aQ,cf]using aX) ?_;refine wXA ?_;refine .mk _ (by simpa[aQ,cf]using aP) ?_;refine wXA ?_;refine .mk _ (by simpa[aQ,cf]using aH) ?_;refine wXA ?_;exact⟨by simp[aY,nf,ae,lfN,lfM,lfK,lfS,lfP,lfH,Uy,XI,bj];exact⟨rfl,rfl,rfl⟩,_,HV.wI ⟨by simp,by simp⟩ ⟨by simp,by simp⟩,rfl⟩
theorem pZ(b:List Nat)(l:List Tm)(B:Nat)(hb:DV b)(Nv:b.length<100000000)(h0:0<l.length)(ua:l.length<100000000)(hF:yH B l):∀(f d i:Nat),d+f=3->i<=100000 * d->
  aO C 64 [.aa false (eO b),.int .i64 i,.int .i64 d,.aa false (ae l)] (.cx [enc (gN b l f i).1,.int .i64 (gN b l f i).2])
 |0,d,i,hd,hi=>by
  have cX:=aj l;have heu:=ll b;have hn:=wJ hb i;have hq:((fm b i:Nat):Int).tdiv 2=((fm b i / 2:Nat):Int):=Oq (fm b i) 2;have ht:((fm b i:Nat):Int).tmod 2=((fm b i % 2:Nat):Int):=EG (fm b i) 2;have oQ:=rT (l:=l) (i:=fm b i / 2 % (ae l).length) (by rw[cX];exact abT _ h0);have hR:gN b l 0 i=(l.getD (fm b i / 2 % (ae l).length) eU,i+1):=by rw[cX];rfl
  rw[hR];dsimp only;generalize l.getD (fm b i / 2 % (ae l).length) eU=g at *;rw[aw]at oQ;rw[aw]
  by_cases AM:i<b.length
  ·have cY:=mK AM;refine aO.x T6 Tryz.func64 rfl ?_;refine wXA ?_;exact lY
  ·have hz:=vp AM;rw[hz,Nat.zero_div,Nat.zero_mod]at oQ;refine aO.x T6 Tryz.func64 rfl ?_;refine wXA ?_;refine .raw 0 rfl ?_;refine wXA ?_;exact lY
 |f+1,d,i,hd,hi=>by
  have cX:=aj l;have heu:=ll b;have hn:=wJ hb i;have hq:((fm b i:Nat):Int).tdiv 2=((fm b i / 2:Nat):Int):=Oq (fm b i) 2;have ht:((fm b i:Nat):Int).tmod 2=((fm b i % 2:Nat):Int):=EG (fm b i) 2;have h6:(((fm b i:Nat):Int).tdiv 2).tmod 6=((fm b i / 2 % 6:Nat):Int):=by rw[hq];exact EG (fm b i / 2) 6
  have oQ:=rT (l:=l) (i:=fm b i / 2 % (ae l).length) (by rw[cX];exact abT _ h0);have hgl:KO b l i=l.getD (fm b i / 2 % (ae l).length) eU:=by rw[cX];rfl
  by_cases pT:fm b i % 2=0
  ·have hR:gN b l (f+1) i=(KO b l i,i+1):=by rw[gN,if_pos pT]
   rw[hR,hgl];dsimp only;generalize l.getD (fm b i / 2 % (ae l).length) eU=g at *;rw[aw]at oQ;rw[aw]
   by_cases AM:i<b.length
   ·have cY:=mK AM;refine aO.x T6 Tryz.func64 rfl ?_;refine wXA ?_;exact lY
   ·have hz:=vp AM;rw[hz,Nat.zero_div,Nat.zero_mod]at oQ;refine aO.x T6 Tryz.func64 rfl ?_;refine wXA ?_;refine .raw 0 rfl ?_;refine wXA ?_;exact lY
  ·have AM:i<b.length:=by
    by_cases h:i<b.length
    ·exact h
    ·rw[vp h]at pT;omega
   have cY:=mK AM;have fN:=wF (b:=b) h0 hF f (i+1);have h2f:2^ (f+1)<=8:=Nat.pow_le_pow_right (by omega) (show f+1<=3 by omega);have hX:=pZ b l B hb Nv h0 ua hF f (d+1) (i+1) (by omega) (by omega);have hY:=pZ b l B hb Nv h0 ua hF f (d+1) (gN b l f (i+1)).2 (by omega) (by omega);have XJ:fm b i / 2 % 6=0->gN b l (f+1) i=(.mk 3 wB 0 [(gN b l f (i+1)).1],(gN b l f (i+1)).2):=λh=>by rw[gN,if_neg pT,if_pos h]
   have Uz:fm b i / 2 % 6≠0->fm b i / 2 % 6<=2->gN b l (f+1) i=(.mk 3 jG 0 [(gN b l f (i+1)).1,(gN b l f (gN b l f (i+1)).2).1],(gN b l f (gN b l f (i+1)).2).2):=λh h'=>by rw[gN,if_neg pT,if_neg h,if_pos h']
   have hR3:fm b i / 2 % 6=3->gN b l (f+1) i=(.mk 3 fK 0 [(gN b l f (i+1)).1,KM],(gN b l f (gN b l f (i+1)).2).2):=λh=>by rw[gN,if_neg pT,if_neg (by omega),if_neg (by omega),if_pos h]
   have hR4:¬fm b i / 2 % 6<=2->fm b i / 2 % 6≠3->gN b l (f+1) i=(.mk 3 j3 0 [(gN b l f (i+1)).1,(gN b l f (gN b l f (i+1)).2).1],(gN b l f (gN b l f (i+1)).2).2):=λh h'=>by rw[gN,if_neg pT,if_neg (by omega),if_neg h,if_neg h']
   generalize gN b l (f+1) i=R at *;generalize gN b l f (gN b l f (i+1)).2=Y at *;generalize gN b l f (i+1)=X at *;obtain⟨x,nx⟩:=X;obtain⟨y,ny⟩:=Y;simp only at hX hY XJ Uz hR3 hR4
   push_cast at hX hY
   have a1:=(o9 ⟨#[104,97,115,104]⟩ [x] (by simp)).nine;have a2:=(o9 ⟨#[101,110,99]⟩ [x,y] (by simp)).nine;have a4:=(o9 ⟨#[112,97,105,114]⟩ [x,y] (by simp)).nine;rw[aw]at hX hY;rw[bj,yq]at a1;rw[bj,ND]at a2 a4;refine aO.x T6 Tryz.func64 rfl ?_;refine wXA ?_;refine .p hX ?_;refine wXC (λhc=>?_) λhc=>?_
   ·rw[XJ (by omega),bj,yq];refine .p a1 ?_;refine wXA ?_;exact Gs
   ·refine .p hY ?_;refine wXI (λhc=>?_) (λhc hc=>?_) λhc hc=>?_
    ·rw[Uz (by omega) (by omega),bj,ND];refine .p a2 ?_;refine wXA ?_;exact Gs
    ·rw[hR3 (by omega)]
     have e3:enc (.mk 3 fK 0 [x,KM])=.agg [.int .i64 3,.str ⟨#[97,101,110,99]⟩,.int .i64 0,.aa false [.agg [.int .i64 x.k,.str x.s,.int .i64 x.o,.aa false (ae x.l)],.agg [.int .i64 3,.str ⟨#[112,107]⟩,.int .i64 0,.aa false [.agg [.int .i64 3,.str ⟨#[115,107]⟩,.int .i64 0,.aa false [.agg [.int .i64 2,.str ⟨#[97]⟩,.int .i64 1,.aa false []]]]]]]]:=by
      rw[bj,show ae [x,KM]=[enc x,enc KM] by simp[ae],KM,exP EE Uy,aw]
      rfl
     have b1:=iI ⟨#[97]⟩ 1;have b2:=Gt ⟨#[115,107]⟩ EE Uy;have b3:=Gt ⟨#[112,107]⟩ (.mk 3 EJ 0 [EE]) (exS EE Uy);have b4:=QB ⟨#[97,101,110,99]⟩ x KM (aw x) (exP EE Uy);rw[bj,o8]at b1;rw[e3]
     skip
     refine .mk _ (by simpa[aQ,cf]using b1) ?_;refine wXA ?_;refine .mk _ (by simpa[aQ,cf]using b2) ?_;refine wXA ?_;refine .mk _ (by simpa[aQ,cf]using b3) ?_;refine wXA ?_;refine .p b4 ?_;refine wXA ?_;exact Gs
    ·rw[hR4 (by omega) (by omega),bj,ND];refine .p a4 ?_;refine wXA ?_;exact Gs
theorem FX{t:Tm}(h:valid t=0):t.k=1\/t.k=2\/t.k=3:=by
 obtain⟨k,n,o,l⟩:=t;have h1:=(oU (fX.1 h).1).1;simp only[node]at h1
 split at h1
 ·cases h1
 ·show k=1\/k=2\/k=3;omega
theorem Jw(t:Tm)(n:Int):aO C 126 [enc t,.int .i64 n] (.bool (decide ((t.k=1\/t.k=2)/\t.o=n))):=by
 rw[aw];refine aO.x T6 Tryz.func126 rfl ?_
 (repeat' (first |(refine Rn.go ?_;conv=>whnf)|refine .mk ?_ |refine .mk (λhc=>?_) λhc=>?_ |fail))
 all_goals exact⟨_,rfl,by simp[aY, *]⟩
theorem Ib(x t:Tm)(hx:ay x<100000000)(ht:ay t<100000000):aO C 69 [enc x,enc t] (.bool (lc x t)):=by
 have h1:=(x5 x (by omega)).nine;have h2:=(x5 t (by omega)).nine;have h3:=Jw t x.o;have hk:=FX (t:=t);rw[aw]at h1 h2 h3 ⊢;rw[aw t];refine aO.x T6 Tryz.func69 rfl ?_;refine wXA ?_;refine .p h1 ?_;refine wXK (λhc hc=>?_) (λhc hc=>?_) λhc=>?_
 ·refine .p h2 ?_;refine wXK (λhc hc=>?_) (λhc hc=>?_) λhc=>?_
  ·exact⟨_,rfl,by simp[aY,lc, *]⟩
  ·have hk:=hk (by omega)
   have h8:lc x t=decide ((t.k=1\/t.k=2)/\t.o=x.o):=by
    unfold lc
    congr 1
    rw[eq_iff_iff]
    constructor
    ·rintro⟨_,_,_,h |h⟩ <;>omega
    ·intro h;exact⟨by omega,by omega,by omega,by omega⟩
   refine .p h3 ?_;rw[h8]
   cases decide ((t.k=1\/t.k=2)/\t.o=x.o)
   all_goals
    refine wXA ?_;exact⟨_,rfl,rfl⟩
  ·exact⟨_,rfl,by simp[aY,lc, *]⟩
 all_goals exact⟨_,rfl,by simp[aY,lc, *]⟩
end bP
end Go.Pm
