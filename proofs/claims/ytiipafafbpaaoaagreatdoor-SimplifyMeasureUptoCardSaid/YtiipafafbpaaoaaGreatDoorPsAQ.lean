/-
  Pm, a part. Conditions: none.
-/
import Derived.Test.YtiipafafbpaaoaaGreatDoorPsAO
import Derived.Test.YtiipafafbpaaoaaGreatDoorPsAP
set_option linter.unusedVariables false
set_option linter.unusedSimpArgs false
set_option linter.unnecessarySimpa false
set_option linter.unusedSectionVars false
namespace Go.Pm
variable{k:fC}{a b r:Int}{d:List cg}
open Go.Proofs
set_option maxRecDepth 4000
theorem IH(h:rE k):∀a∈(rF k).1,gB a.ds=0:=by
 unfold rF
 split
 intro a j;cases j
 exact h
theorem Fx{e:Int}:rE ⟨[],e⟩:=λa j=>by cases j
theorem Ux(l:List cg):∀a∈(fB l).1,gB a.ds=0:=by
 unfold fB
 split
 intro a j;cases j
 ·split
  ·intro a j;cases j
  ·split
   ·intro a j;cases j
   ·split
    ·exact IH Fx.U2
    ·unfold DO
     split
     intro a j;cases j
     ·refine IH ?_
      split
      exact rE.U2 (rE.eqs _ (rE.kn _ Fx));exact rE.eqs _ (rE.kn _ Fx)
theorem II{l:List cg}{t u:Tm}:(oJ l r t u k).out.length<=k.out.length+1:=by
 unfold oJ
 repeat' split
 all_goals first |exact ahz _ |simp
theorem IJ:(tU r d k).out.length<=k.out.length+1:=by
 unfold tU
 repeat' split
 all_goals first |exact ahz _ |simp
theorem Nk{l:List cg}{tm:Tm}:∀(F:List Tm) {k:fC},(F.foldl (Bt l tm) k).out.length<=k.out.length+F.length
 |[],k=>by simp
 |t::F,k=>by
  have O:=Nk (l:=l) (tm:=tm) F (k:=Bt l tm k t)
  have X:(Bt l tm k t).out.length<=k.out.length+1:=by
   unfold Bt
   split
   exact ahz _;exact II
  rw[aht,agj];omega
theorem IK{l:List cg}{t:Tm}:∀(F:List Tm) {k:fC},(F.foldl (λc u=>oJ l 3 t u c) k).out.length<=k.out.length+F.length
 |[],k=>by simp
 |u::F,k=>by
  have O:=IK (l:=l) (t:=t) F (k:=oJ l 3 t u k);have X:(oJ l 3 t u k).out.length<=k.out.length+1:=II;rw[aht,agj];omega
theorem Nl{l:List cg}:∀(F:List Tm) {k:fC} {n:Nat},F.length<=n->(KJ l F k).out.length<=k.out.length+F.length * n
 |[],k,n,_=>by simp[KJ]
 |t::F,k,n,z=>by
  rw[agj]at z;have O:=Nl (l:=l) F (k:=F.foldl (λc u=>oJ l 3 t u c) k) (n:=n) yxa;have X:=IK (l:=l) (t:=t) F (k:=k);rw[KJ,agj,Nat.succ_mul];omega
theorem IL:(rF k).1.length<=k.out.length:=by
 unfold rF
 split
 simp;exact agb _
theorem Uy(l:List cg):(fB l).1.length<10000:=by
 unfold fB
 split
 simp
 ·split
  ·simp
  ·split
   ·simp
   ·split
    ·rename_i p d q _ _ _
     have O:=IL (k:=tU 1 (p++q) ⟨[],0⟩);have X:=IJ (r:=1) (d:=p++q) (k:=⟨[],0⟩);exact Nat.lt_of_le_of_lt (agI O X) yxe
    ·unfold DO
     split
     simp
     ·rename_i p d q _ _ _ h
      have O:=Nk (l:=l) (tm:=d.tm) (qt d.kn) (k:=⟨[],0⟩);have X:=Nl (l:=l) (qt d.kn) (k:=(qt d.kn).foldl (Bt l d.tm) ⟨[],0⟩) (n:=80) yxa;have Q:(qt d.kn).length * 80<=80 * 80:=agR _ yxa;simp only[agH]at O;refine Nat.lt_of_le_of_lt IL ?_
      split
      ·have G:=IJ (r:=4) (d:=p++xX d++q) (k:=KJ l (qt d.kn) ((qt d.kn).foldl (Bt l d.tm) ⟨[],0⟩));omega
      omega
theorem Ee{B:Nat}:∀{l:List Tm},(∀t∈l,aC t<=B)->bm l<=l.length * B
 |[],_=>by simp[bm]
 |t::l,h=>by
  have O:=h t yxb;have X:=Ee (l:=l) λu y=>h u yxj
  simp only[bm,agj,Nat.succ_mul];omega
theorem IM{B:Nat}:∀{l:List cg},(∀d∈l,bm d.kn+aC d.tm+2<=B)->aI.qR l<=l.length * B
 |[],_=>by simp[aI.qR]
 |d::l,h=>by
  have O:=h d yxb;have X:=IM (l:=l) λu y=>h u yxj
  rw[aI.nf];simp only[agj,Nat.succ_mul];omega
theorem XK(h:gB d=0):aI.qR d<5000000:=by
 obtain⟨a,z⟩:=mZ h
 have W:∀x∈d,bm x.kn+aC x.tm+2<=61502:=λx U=>by
  obtain⟨f,A⟩:=z x U
  have V:∀t∈x.kn++[x.tm],aC t<=1500:=λt Z=>by
   obtain⟨b,_,_,_,R⟩:=lB (A t Z);have:=Ah t (dS.1 b).1;omega
  have O:=Ee (l:=x.kn) λt Z=>V t (by simp[Z])
  have X:=V x.tm yxb;have Q:x.kn.length * 1500<=40 * 1500:=agR _ f;omega
 have O:=IM W;have Q:d.length * 61502<=40 * 61502:=agR _ a;omega
def IN(b:List (List Nat)):Bool:=!(b.any λx=>decide (20<x.length))&&decide (b.length<=4)
theorem XL{a b:Int}(ha:0<=a/\a<10000000)(hb:0<=b/\b<10000000):rL aI.C.P 31 (.agg [.int .i64 a,.int .i64 b])=true:=by
 have hu:aI.C.P.underlying 31=_:=Tryz.underlying31;have h3:aI.C.P.underlying 3=some (.int .i64):=by kernel_rfl
 have c3:aI.C.P.cellsOf 3=1:=by kernel_rfl
 have cu:aI.C.P.cellsOf 31=2:=by kernel_rfl
 have k1:aI.C.P.keyTypeAt 3 31=true:=by kernel_rfl
 have k2:aI.C.P.tiled 3 31=true:=by kernel_rfl
 have k3:aI.C.P.keyType 31=true:=by kernel_rfl
 have hw:∀x:Int,0<=x/\x<10000000->(Lit.int .i64 x).wf=true:=λx hx=>by
  have h1:IntKind.min .i64=-9223372036854775808:=rfl;have h2:IntKind.max .i64=9223372036854775807:=rfl;simp only[Lit.wf,h1,h2,age,decide_eq_true_eq];omega
 obtain⟨d,hd⟩:∃d,aI.C.P.types.size+1=d+2:=⟨aI.C.P.types.size - 1,by
  have:0<aI.C.P.types.size:=of_decide_eq_true (by kernel_rfl);omega⟩
 have hf:(Value.agg #[.int .i64 a,.int .i64 b]).formed aI.C.P 31=true:=by simp[Value.formed,hu,cu]
 have hi:∀x:Int,0<=x/\x<10000000->aI.C.P.keyLits (d+1) 3 [.int .i64 x]=some [.int .i64 x]:=λx hx=>by
  unfold Program.keyLits;simp[h3,c3,hw x hx]
 have hl:aI.C.P.keyLits (d+2) 31 [.int .i64 a,.int .i64 b]=some [.int .i64 a,.int .i64 b]:=by
  unfold Program.keyLits;simp only[hu,cu,c3];simp[List.range,List.range.loop,hi a ha,hi b hb]
 have hk:keyOf aI.C.P 31 (.agg #[.int .i64 a,.int .i64 b])=some (.string (keyBytes [.int .i64 a,.int .i64 b])):=by
  unfold keyOf;rw[hu];simp only[k3,hf,hd,ahd,if_true];rw[show(Value.agg #[Value.int .i64 a,.int .i64 b]).cells.toList=[.int .i64 a,.int .i64 b]from rfl,hl]
  rfl
 simp only[rL,oN,rJ,k1,k2,FG,hu,hk]
 rfl
theorem abY(j:0<=a/\a<10000000)(W:0<=b/\b<10000000):fS aI.C.P .eql 31 (.agg [.I a,.I b]) (.agg [.I a,.I b])=some (.bool true)/\fS aI.C.P .neq 31 (.agg [.I a,.I b]) (.agg [.I a,.I b])=some (.bool false):=by
 have g:=XL j W;have N:aI.C.P.eqGuardType aI.C.P.depth 31=false:=by kernel_rfl
 have S:nr [.I a,.I b] [.I a,.I b]=true:=by simp[nr,FH,kQ]
 have q:XM aI.C.P 31 (.agg [.I a,.I b]) (.agg [.I a,.I b])=some true:=by
  unfold XM;simp only[g,N,S,aic,ahd,if_true]
 simp[fS,q]
end Go.Pm
namespace Go.Pm
variable{f:FuncId}{args:List PV}{r:PV}
namespace Wu
open Go.Proofs
variable[iD:Inhabited Prop]
set_option maxRecDepth 4000
open Classical in
noncomputable def IP:List PV->ab->Option (PV×ab)
 |[.aa _ S],h=>if U:∃D,S=fA D/\CfD.okB D then some (.aa false (aR (nQ (Classical.choose U))),h)else none
 |_,_=>none
theorem Uz{D:List (List Nat)}(W:CfD.okB D)(f:Bool)(h:ab):IP [.aa f (fA D)] h=some (.aa false (aR (nQ D)),h):=by
 have U:∃b,fA D=fA b/\CfD.okB b:=⟨D,rfl,W⟩;have G:Classical.choose U=D:=(CfD.Dy (ahT U).1).symm;simp only[IP,dif_pos U,G]
theorem PO:ez aI.C.P 6 IP:=by
 intro V h r y e w F Z q H a
 unfold IP at e
 split at e
 ·rename_i v S
  split at e
  ·rename_i U
   obtain⟨X,W⟩:=ahT U;generalize Classical.choose U=D at *;subst X;obtain⟨rfl,rfl⟩:=agk (af7 e);obtain⟨R,G,⟨K,J,t,g,M⟩,n,z⟩:=aI.Rt D W.1 W.2;have b:=z (n+1) yxa;have u:aw [PV.aa false (fA D)]=true:=by simp[aw,aW]
   have f:L2 (aG w (Av F h Z) Z h) q [.aa false (fA D)]:=⟨a.1,λj i=>by
    obtain rfl:j=0:=by simpa using i
    have B:=a.2 0 yxb;exact .val (VI (B.CN (by simp[aW])))⟩
   obtain⟨A,N,d⟩:=M.EQ.ret M.oo;have:=Re aI.jd aI.ku CfD.OH u b N H f;rw[d]at this;exact this
  cases e
 cases e
noncomputable def ps:List (FuncId× (List PV->ab->Option (PV×ab))):=[(6,IP)]
noncomputable def C:cA:=Nt tW.C ps
noncomputable def T6:li C.P:=aI.T6
theorem zW(x)(h:x∈ps):tW.C.mode x.1=.no:=by
 simp only[ps,agi,ag3,or_false]at h;subst h
 rfl
theorem TR(i:¬NE):dn tW.C:=ze (XX.ok i) (λx h=>by
 simp only[tW.ps,agi,ag3,or_false]at h;rcases h with rfl |rfl |rfl;exact WM 400;exact Pb
 ·exact Jp) (λx h=>by
 simp only[tW.ps,agi,ag3,or_false]at h;rcases h with rfl |rfl |rfl;exact⟨_,Tryz.func215,by kernel_rfl,by kernel_rfl⟩;exact⟨_,Tryz.func171,by kernel_rfl,by kernel_rfl⟩;exact⟨_,Tryz.func216,by kernel_rfl,by kernel_rfl⟩)
theorem ok(i:¬NE):dn C:=ze (TR i) (λx h=>by
 simp only[ps,agi,ag3,or_false]at h;subst h;exact PO) (λx h=>by
 simp only[ps,agi,ag3,or_false]at h;subst h;exact⟨_,Tryz.func6,by kernel_rfl,by kernel_rfl⟩)
theorem rU:ic C:=qI (qI XX.rU)
theorem upS(a:aT tW.C f args r):aT C f args r:=aT.up (lu zW) a
theorem up(a:aT aI.C f args r):aT C f args r:=upS (tW.up a)
attribute [local irreducible] aE az aO aL Ev ai ah ay bh
theorem IQ(b:List (List Nat))(W:b.length<1000000000):aT C 5 [.aa false (fA b)] (.bool (IN b)):=by
 have D:=Db b;refine aT.x T6 Tryz.func5 rfl ?_;refine wA ?_;refine dU.zip T6 b (λp q L H=>L=[(0,.aa false (fA b)),(5,.aa false (fA b)),(6,.I (fA b).length),(7,.I p.length)]/\H=[]/\(p.any λx=>decide (20<x.length))=false) (.nx ⟨rfl,rfl,rfl⟩) ?_ ?_
 ·rintro p x q _ _ Y e ⟨rfl,rfl,K⟩;have Q:=Gw e;have a:=lenE e;have f:=ss x;refine wC (λG=>?_) λG=>?_;exact⟨_,rfl,by rw[IN,e,List.any_append,ahU,decide_eq_true (p:=20<x.length) yxa];simp[bo]⟩;exact .nx ⟨rfl,rfl,by rw[List.any_append,K,ahU,decide_eq_false (p:=20<x.length) yxa];rfl⟩
 ·rintro _ _ Y ⟨rfl,rfl,K⟩;refine wC (λG=>?_) λG=>?_
  all_goals exact⟨_,rfl,by rw[IN,K];simp[bo,b9];omega⟩
theorem xj:aT C 4 [] (.bool true):=upS tW.xj
theorem Hq(M:aT C 4 [] (.bool true))(b:List (List Nat))(hb:∀y∈b,NZ y)(PW:b.length<100000000):aT C 3 [.aa false (fA b)] (.bool true):=by
 have O:=IQ b yxa
 cases z:IN b
 ·rw[z]at O;refine aT.x T6 Tryz.func3 rfl ?_;refine wA ?_;refine .p M ?_;refine wA ?_;refine .p O ?_;refine wA ?_;refine .p M ?_;refine wA ?_;exact⟨_,rfl,rfl⟩
 ·rw[z]at O;simp only[IN,age,decide_eq_true_eq,ahg]at z;obtain⟨od,hb4⟩:=z
  have ig:CfD.okB b:=⟨λy U=>⟨hb y U,by
   have:=ahL.1 od y U;simp only[decide_eq_true_eq]at this;omega⟩,by omega⟩
  have h2:=Uz ig false;have hd:=aI.Rx b;have D:=N6 b;generalize nQ b=l at *;have tP:=aI.sZ l
  have G:yY l:=⟨by omega,λx hx=>by
   have h3:=aI.wW hx;have h4:=bF x.kn;refine⟨by omega,λt Z=>?_⟩;rcases agh.1 Z with Z |Z;have:=cc Z;omega;simp only[agu]at Z;subst Z;omega⟩
  have V:=upS (tW.AN l G D (by rw[show aI.cD l=aI.bX l from rfl];have:=aI.jV l;omega) yxa);have K:=up (aI.Ed l yxa);have j:=up (aI.PN l yxa);have hms:=aI.ya l;have Q:=@Ps l;have f:=Ux l;have P:=Uy l;have FF:(bN l).length<=4:=D.n;obtain⟨u,w⟩:=abY (a:=(bN l).length) (b:=iM l) yxa yxa;generalize fB l=R at *;obtain⟨A,e⟩:=R;dsimp only at Q f V P;have CW:=Pp A;refine aT.x T6 Tryz.func3 rfl ?_;refine wA ?_;refine .p M ?_;refine wA ?_;refine .p O ?_;refine wA ?_;refine .Vd (h2 _) ?_;refine wA ?_;refine .p V ?_;refine wA ?_;refine .p K ?_
  by_cases he:e=0
  ·refine wA ?_;refine .p j ?_;refine wA ?_;refine .mk (v:=.bool false) (λX lv Y h=>congrArg (Option.map λx=>(x,h)) w) ?_;refine wA ?_;refine dU.zip T6 A (λp q L H=>L=[(6,.ptr 0 0 0 0),(39,.aa false (gD A)),(40,.I (gD A).length),(41,.I p.length)]/\H[0]?=some ⟨.m,0,2,[.agg [.I (bN l).length,.I (iM l)]]⟩) (.nx ⟨rfl,rfl⟩) ?_ ?_
   ·rintro p a q _ H Y N ⟨rfl,F⟩;have dm:=T2 N;have eR:=lenE N;have g:a∈A:=by rw[N];simp
    have i:=up (aI.Ed a.ds (XK (f a g)));have d:wV a.ds l:=Q he a g;have W:A.length<10000:=P;have S:∀J:ab,(H++J)[0]?=some ⟨.m,0,2,[.agg [.I (bN l).length,.I (iM l)]]⟩:=λJ=>by rw[af8 (ag F)];exact F
    have g1:=S [⟨.m,0,3,[.agg [.I a.r,.aa false (aU a.bs),.aa false (aR a.ds)]]⟩];have B:=S ([⟨.m,0,3,[.agg [.I a.r,.aa false (aU a.bs),.aa false (aR a.ds)]]⟩]++[⟨.m,0,2,[.agg [.I (bN a.ds).length,.I (iM a.ds)]]⟩]);rw[<-ags]at B;unfold wV at d;generalize(bN a.ds).length=va at *;generalize iM a.ds=ma at *;generalize(bN l).length=vl at *;rcases d with d |⟨d,af6⟩
    ·refine wA ?_;refine .p i ?_;refine wA ?_
     all_goals exact .nx ⟨rfl,B⟩
    ·refine wA ?_;refine .p i ?_;refine wC (λhc=>?_) λhc=>?_
     all_goals exact .nx ⟨rfl,B⟩
   ·rintro _ H Y ⟨rfl,F⟩;refine wA ?_;exact⟨_,rfl,rfl⟩
  ·refine wA ?_;refine .p j ?_;refine wA ?_;refine .mk (v:=.bool true) (λX lv Y h=>congrArg (Option.map λx=>(x,h)) u) ?_;refine wA ?_;exact⟨_,rfl,rfl⟩
end Wu
end Go.Pm
