/-
  Pm, a part. Conditions: none.
-/
import Derived.Shelf.Strings.Search3
import Derived.Test.YtimogkojklpdnaaGreatDoorPyAM
import Derived.Lib.Join
set_option linter.unusedVariables false
set_option linter.unusedSimpArgs false
set_option linter.unnecessarySimpa false
set_option linter.unusedSectionVars false
namespace Go.Pm
open Go.Proofs Go.Shelf Go.RowKit
def OR:Go.Shelf.Ren:=⟨λ|143=>190 |144=>146 |217=>304 |219=>243 |224=>306 |225=>305 |266=>347 |267=>307 |314=>348 |n=>n,λ|3=>3 |4=>4 |5=>5 |9=>9 |46=>190 |51=>223 |146=>276 |n=>n,λ|n=>n⟩
theorem RX:Lays.n144 Tryz.prog OR:={
 mixed:=by kernel_rfl
 f143:=Tryz.func190.trans (congrArg some (by kernel_rfl))
 f144:=Tryz.func146.trans (congrArg some (by kernel_rfl))
 f217:=Tryz.func304.trans (congrArg some (by kernel_rfl))
 f219:=Tryz.func243.trans (congrArg some (by kernel_rfl))
 f224:=Tryz.func306.trans (congrArg some (by kernel_rfl))
 f225:=Tryz.func305.trans (congrArg some (by kernel_rfl))
 f266:=Tryz.func347.trans (congrArg some (by kernel_rfl))
 f267:=Tryz.func307.trans (congrArg some (by kernel_rfl))
 f314:=Tryz.func348.trans (congrArg some (by kernel_rfl))
 t3:=Tryz.underlying3
 a3:=Tryz.isAgg3
 z3:=Tryz.sizeOf3
 v3:=Tryz.zeroValue3
 t4:=Tryz.underlying4
 a4:=Tryz.isAgg4
 z4:=Tryz.sizeOf4
 v4:=Tryz.zeroValue4
 t5:=Tryz.underlying5
 a5:=Tryz.isAgg5
 z5:=Tryz.sizeOf5
 v5:=Tryz.zeroValue5
 t9:=Tryz.underlying9
 a9:=Tryz.isAgg9
 z9:=Tryz.sizeOf9
 v9:=Tryz.zeroValue9
 t46:=Tryz.underlying190
 a46:=Tryz.isAgg190
 z46:=Tryz.sizeOf190
 v46:=Tryz.zeroValue190
 t51:=Tryz.underlying223
 a51:=Tryz.isAgg223
 z51:=Tryz.sizeOf223
 v51:=Tryz.zeroValue223
 t146:=Tryz.underlying276
 a146:=Tryz.isAgg276
 z146:=Tryz.sizeOf276
 v146:=Tryz.zeroValue276
 g1:=by kernel_rfl}
theorem OS(s:ByteArray)(c:UInt8)(w:World):Calls Tryz.prog 146 #[.string s,.string ⟨#[c]⟩] w λe w'=>e=.returned (.bool (decide (0<=Lib.indexByte s.data.toList c)))/\w'=w:=
 Any.strings_Contains_one RX s c w
theorem KK(l:List UInt8)(c:UInt8):decide (0<=Lib.indexByte l c)=l.any (·==c):=by
 induction l with
 |nil=>rfl
 |cons b l ih=>
  rw[acL,<-ih,Lib.indexByte];have h1:=Lib.indexByte_ge l c
  cases hb:b==c
  ·simp only[abi,if_false,acG,beq_iff_eq]
   split <;>simp <;>omega
  simp
def By:List PV->ab->Option (PV×ab)
 |[.str s,.str t],h=>match t.data.toList with
  |[c]=>some (.bool (s.data.toList.any (·==c)),h)
  |_=>none
 |_,_=>none
theorem Uo[iD:Inhabited Prop]:eE Tryz.prog 146 By:=by
 intro args h r h' e w F Z vs H ha
 unfold By at e
 split at e
 ·rename_i s t
  obtain⟨v0,v1,rfl,h0,h1⟩:=ha.two;have h0:=h0.j9;have h1:=h1.j9;subst h0 h1
  split at e
  ·rename_i c hc
   obtain⟨rfl,rfl⟩:=abe (aa2 e)
   obtain rfl:t=⟨#[c]⟩:=by
    cases t with
    |mk d=>cases d with
     |mk d=>simp at hc;rw[hc]
   refine(OS s c w).mono ?_;rintro en w' ⟨rfl,rfl⟩;rw[KK];exact⟨_,Z,rfl,.val (.bool _),H,dU.refl _ _ _,λhh=>by omega⟩
  cases e
 cases e
end Go.Pm
namespace Go.Pm
namespace bh
open Go.Proofs
attribute [local irreducible] aD ay aJ aG Ev ah ai ax aZ bE
set_option maxRecDepth 4000
def nj(l:List cW):Nat:=(l.map λd=>bF d.kn+az d.tm+2).sum
def zz(s:List dp):Nat:=(s.map λb=>az b.v+az b.t+1).sum
def eO(l:List cW):List Tm:=l.flatMap λd=>d.kn++[d.tm]
theorem iP(d:cW)(l:List cW):nj (d::l)=bF d.kn+az d.tm+2+nj l:=by simp[nj]
theorem Bi(b:dp)(s:List dp):zz (b::s)=az b.v+az b.t+1+zz s:=by simp[zz]
theorem Dw{d:cW}:∀{l:List cW},d∈l->bF d.kn+az d.tm+2<=nj l
 |u::l,h=>by
  rw[iP];rcases abc.1 h with rfl |h;omega;have:=Dw h;omega
theorem DD{b:dp}:∀{l:List dp},b∈l->az b.v+az b.t+1<=zz l
 |u::l,h=>by
  rw[Bi];rcases abc.1 h with rfl |h;omega;have:=DD h;omega
theorem lG:∀(l:List cW),l.length<=nj l
 |[]=>by simp
 |d::l=>by have:=lG l;rw[iP,abg];omega
theorem DC:∀(l:List dp),l.length<=zz l
 |[]=>by simp
 |d::l=>by have:=DC l;rw[Bi,abg];omega
theorem Le(t:Tm):bF [t]=az t:=by simp[bF]
theorem ms:∀(l:List cW),bF (eO l)<=nj l
 |[]=>by simp[eO,bF]
 |d::l=>by
  have:=ms l;rw[iP];simp only[eO,acM,nk,Le]at this ⊢;omega
theorem F8(l:List cW)(hl:nj l<100000000):aL C 22 [.aa false (aQ l)] (.aa false (ae (eO l))):=by
 have cz:=cj l;have Fy:=lG l;refine aL.x T6 Tryz.func22 rfl ?_;refine wA ?_;refine dw.zip T6 l (λp q L H=>∃v,L=[(0,.aa false (aQ l)),(3,v),(4,.int .i64 p.length)]/\HV H/\Out 4 H v (ae (eO p))) (.nx ⟨_,rfl,HV.nil,.inl ⟨rfl,rfl⟩⟩) ?_ ?_
 ·rintro p d q _ H Y e ⟨v,rfl,hH,ho⟩;have cC:=ir e;have dO:=lenE e;have lW:eO l=eO p++(d.kn++[d.tm])++eO q:=by rw[e];simp[eO]
  have PH:=ms l;have LZ:=bH (eO l);have zm:=congrArg List.length lW;simp only[aba,abg,abH]at zm;have hle:=ak (eO p);have tO:=ak d.kn;have hvd:ao [PV.agg [.int .i64 d.tm.k,.str d.tm.s,.int .i64 d.tm.o,.aa false (ae d.tm.l)]]=true:=by simp
  have e9:[.agg [.int .i64 d.tm.k,.str d.tm.s,.int .i64 d.tm.o,.aa false (ae d.tm.l)]]=ae [d.tm]:=by rw[ae,<-aw];rfl
  obtain⟨r1,H1,a1,o1,v1,l1,k1,n1⟩:=SZ T6 (st:=31) (xt:=31) (full:=false) (es:=ae (eO p)) (ys:=ae d.kn) rfl rfl rfl rfl rfl (by decide) rfl rfl ho (iS _) (by omega) (by simp) (by simp) hH;have yY:(ae (eO p)++ae d.kn).length=(eO p).length+d.kn.length:=by rw[aba];omega
  obtain⟨r2,H2,a2,o2,v2,l2,k2,n2⟩:=SZ T6 (st:=31) (xt:=31) (full:=true) (es:=ae (eO p)++ae d.kn) (ys:=[.agg [.int .i64 d.tm.k,.str d.tm.s,.int .i64 d.tm.o,.aa false (ae d.tm.l)]]) rfl rfl rfl rfl rfl (by decide) rfl rfl o1 rfl (by rw[yY];simp;omega) (by rw[ck];simp) hvd v1;refine wA ?_;refine .calm ?_ H2 (Fv (λ_=>rfl) rfl (λj o h=>?_) (λrun Y=>?_)) ?_
  rotate_left
  ·rcases n2 j o h with h |h
   ·exact .inl h
   ·exact n1 j o h
  ·refine(rT (kP T6 (by exact rfl))).trans ?_;refine(rT (kP T6 (by exact rfl))).trans ?_;refine(rT (kP T6 (by exact rfl))).trans ?_;refine(rT (kR T6 (by(conv=>whnf);exact .mk (n:=p.length) ⟨rfl⟩ rfl cC rfl) rfl)).trans ?_;refine(rT (kP T6 (by exact rfl))).trans ?_;refine(rT (kR T6 (by exact rfl) rfl)).trans ?_;refine(rT (SX rfl rfl rfl rfl (vE rfl rfl a1) l1 k1)).trans ?_;refine(rT (kP T6 (by exact rfl))).trans ?_;refine(rT (kP T6 (by exact rfl))).trans ?_;refine(rT (kR T6 (by(conv=>whnf);exact .mk (n:=p.length) ⟨rfl⟩ rfl cC rfl) rfl)).trans ?_;refine(rT (kP T6 (by exact rfl))).trans ?_;refine(rT (kR T6 (by exact rfl) rfl)).trans ?_;refine(rT (Xu rfl rfl rfl (Qf T6 (by exact rfl) hvd))).trans ?_;refine(rT (SX rfl rfl rfl rfl (vE rfl rfl a2) l2 k2)).trans ?_;refine(rT (kP T6 (by exact rfl))).trans ?_;exact rfl
  ·refine wA ?_;refine .nx ⟨_,rfl,v2,?_⟩;rw[e9,<-cc,<-cc]at o2;rw[show eO (p++[d])=eO p++d.kn++[d.tm] by simp[eO]];exact o2
 ·rintro _ H Y ⟨v,rfl,hH,ho⟩;refine wA ?_;exact Ls.Jf (.inl ho) (by simp) (by simp)
end bh
namespace vD
open Go.Proofs
variable[iD:Inhabited Prop]
attribute [local irreducible] aD ay aJ aG Ev ah ai ax aZ
set_option maxRecDepth 4000
noncomputable def ps:List (FuncId× (List PV->ab->Option (PV×ab))):=[(146,By),(19,Wz.pC)]
noncomputable def C:cG:=T4 bh.C ps
noncomputable def T6:kJ C.P:=bh.T6
theorem Tc(x)(h:x∈ps):bh.Ab x.1=.no:=by
 simp only[ps,abc,acP,or_false]at h;rcases h with rfl |rfl <;>rfl
theorem up{f:FuncId}{args:List PV}{r:PV}(a:aL bh.C f args r):aL C f args r:=aL.up (wz Tc) a
theorem upE{f:FuncId}{args:List PV}{h:ab}{Q:PV->ab->Prop}(a:ax bh.C f args h Q):ax C f args h Q:=ax.up (wz Tc) a
theorem ok:eY C:=PQ bh.FH (λx h=>by
 simp only[ps,abc,acP,or_false]at h;rcases h with rfl |rfl;exact Uo
 ·exact Wz.Mp) (λx h=>by
 simp only[ps,abc,acP,or_false]at h;rcases h with rfl |rfl;exact⟨_,Tryz.func146,by kernel_rfl,by kernel_rfl⟩;exact⟨_,Tryz.func19,by kernel_rfl,by kernel_rfl⟩)
theorem sa:iB C:=Fc bh.xe
def bP(l:List ByteArray):List PV:=l.map .str
@[simp] theorem jn(l:List ByteArray):(bP l).length=l.length:=by simp[bP]
@[simp] theorem WA(l:List ByteArray):ao (bP l)=true:=by rw[bj];simp[bP]
@[simp] theorem WB(l:List ByteArray):aU (bP l)=bP l:=by
 induction l with
 |nil=>rfl
 |cons a l ih=>rw[bP,abk];simp only[aU,bW];rw[show aU (List.map PV.str l)=List.map PV.str l from ih]
theorem od{l p q:List ByteArray}{a:ByteArray}(e:l=p++a::q):(bP l)[p.length]?=some (.str a):=by rw[bP,e];simp
def CE(a:ByteArray)(l:List ByteArray):Int:=qM (λx=>decide (x=a)) l
def xf(a:ByteArray):Bool:=!du a ||a.data.toList.any (·==35)
def cU:List ByteArray->List ByteArray->Int
 |_,[]=>0
 |p,a::r=>if xf a=true then 2 else if 0<=CE a p then 5 else cU (p++[a]) r
def mE(A:List ByteArray):Int->List ByteArray->Int
 |_,[]=>0
 |n,a::r=>if CE a A<0 then 4 else if CE a A<=n then 5 else mE A (CE a A) r
def eU(A B:List ByteArray):Int:=if A.length=0 then 8 else if 6<A.length then 3 else if cU [] A≠0 then cU [] A else mE A (-1) B
theorem Mq(a:ByteArray)(l:List ByteArray): -1<=CE a l/\CE a l<l.length:=by
 unfold CE qM
 cases h:l.findIdx? (λx=>decide (x=a))with
 |none=>simp;omega
 |some i=>
  obtain⟨h1,_⟩:=ado.1 h;simp only;omega
theorem Df(l:List ByteArray)(a:ByteArray)(hl:l.length<1000000000):aL C 148 [.aa false (bP l),.str a] (.int .i64 (CE a l)):=by
 have cz:=jn l;refine aL.x T6 Tryz.func148 rfl ?_;refine wA ?_;refine dw.zip T6 l (λp _ L H=>L=[(0,.aa false (bP l)),(1,.str a),(7,.int .i64 (bP l).length),(8,.int .i64 p.length)]/\H=[]/\∀y∈p,decide (y=a)=false) (.nx ⟨rfl,rfl,by simp⟩) ?_ ?_
 ·rintro p x q _ _ Y e ⟨rfl,rfl,hp⟩;have cC:=od e;have dO:=lenE e;refine wC (λhc=>?_) λhc=>?_;exact⟨_,rfl,by rw[CE,e,j4 hp (by rw[vU hc];simp)];rfl⟩
  ·refine .nx ⟨rfl,rfl,λy hy=>?_⟩;rcases aa9.1 hy with h |h;exact hp y h
   ·simp at h;rw[h];exact decide_eq_false λhh=>hc (by rw[hh])
 ·rintro _ _ Y ⟨rfl,rfl,hp⟩;refine wA ?_;exact⟨_,rfl,by rw[CE,gi hp];rfl⟩
theorem qs(l:List ByteArray)(a:ByteArray)(hl:l.length<1000000000):aL C 151 [.aa false (bP l),.str a] (.int .i64 (CE a l)):=by
 have cz:=jn l;refine aL.x T6 Tryz.func151 rfl ?_;refine wA ?_;refine dw.zip T6 l (λp _ L H=>L=[(0,.aa false (bP l)),(1,.str a),(5,.int .i64 p.length)]/\H=[]/\∀y∈p,decide (y=a)=false) (.nx ⟨rfl,rfl,by simp⟩) ?_ ?_
 ·rintro p x q _ _ Y e ⟨rfl,rfl,hp⟩;have cC:=od e;have dO:=lenE e;refine wC (λhc=>?_) λhc=>?_;exact⟨_,rfl,by rw[CE,e,j4 hp (by rw[vU hc];simp)];rfl⟩
  ·refine .nx ⟨rfl,rfl,λy hy=>?_⟩;rcases aa9.1 hy with h |h;exact hp y h
   ·simp at h;rw[h];exact decide_eq_false λhh=>hc (by rw[hh])
 ·rintro _ _ Y ⟨rfl,rfl,hp⟩;refine wA ?_;exact⟨_,rfl,by rw[CE,gi hp];rfl⟩
theorem Mr(l:List ByteArray)(a:ByteArray)(hl:l.length<1000000000):aL C 147 [.aa false (bP l),.str a] (.bool (decide (0<=CE a l))):=by
 have h1:=Df l a hl;refine aL.x T6 Tryz.func147 rfl ?_;refine wA ?_;refine .p h1 ?_;refine wC (λhc=>?_) λhc=>?_
 all_goals exact⟨_,rfl,by simp[aT,bW, *]⟩
theorem Ms(s:ByteArray)(hs:s.size<1000000000):aL C 150 [.str s] (.bool (s.data.toList.any (·==35))):=by
 have hl:=bsize s;have hL:s.data.toList=s.toList:=(ByteArray.toList_eq (bs:=s)).symm;rw[hL];refine aL.x T6 Tryz.func150 rfl ?_;refine wA ?_;refine dw.zip T6 s.toList (λp q L H=>L=[(0,.str s),(3,.int .i64 p.length)]/\H=[]/\p.any (·==35)=false) (.nx ⟨rfl,rfl,rfl⟩) ?_ ?_
 ·rintro p c q _ _ Y e ⟨rfl,rfl,hp⟩;have dO:=lenE e;have hg:s[p.length]?=some c:=Jj (by rw[e];simp);refine wC (λhc=>?_) λhc=>?_
  ·have h35:c=35:=UInt8.toNat_inj.1 (by have:(35:UInt8).toNat=35:=rfl;omega);exact⟨_,rfl,by rw[e,List.any_append,acL,h35];simp[aT,bW]⟩
  ·have h35:(c==35)=false:=by
    rw[beq_eq_false_iff_ne]
    intro hh
    exact hc (by rw[hh];rfl)
   exact .nx ⟨rfl,rfl,by rw[List.any_append,hp,acL,h35];rfl⟩
 ·rintro _ _ Y ⟨rfl,rfl,hp⟩;refine wA ?_;exact⟨_,rfl,by rw[hp];rfl⟩
theorem Jk(a:ByteArray):aL C 145 [.str a] (enc (.mk 2 a 1 [])):=by
 rw[aw];refine aL.x T6 Tryz.func145 rfl ?_;refine wA ?_;exact⟨_,rfl,rfl⟩
theorem Dh(a:ByteArray):valid (.mk 2 a 1 [])=if du a=true then 0 else 2:=by
 cases h:du a <;>simp[valid,nodes,gy,node,size,dx,depth,fe,h]
theorem tU{A p q:List ByteArray}(e:A=p++q)(h:cU [] p=0):cU [] A=cU p q:=by
 have go:∀(p q a:List ByteArray),cU a p=0->cU a (p++q)=cU (a++p) q:=by
  intro p
  induction p with
  |nil=>intro q a _;simp
  |cons x p ih=>
   intro q a h
   rw[cU]at h;rw[abz,cU]
   by_cases h1:xf x=true
   rw[if_pos h1]at h;cases h
   ·rw[if_neg h1]at h ⊢
    by_cases h2:0<=CE x a
    rw[if_pos h2]at h;cases h
    ·rw[if_neg h2]at h ⊢;rw[ih q (a++[x]) h];simp
 rw[e,go p q [] h];simp
theorem uN{p:List ByteArray}{x:ByteArray}(h:cU [] p=0)(h1:xf x=false)(h2:CE x p<0):cU [] (p++[x])=0:=by
 rw[tU rfl h,cU,if_neg (by simp[h1]),if_neg (by omega)]
 rfl
theorem Jl(A B:List ByteArray)(hA:∀a∈A,a.size<10000000)(hl:A.length<2000000)(dO:B.length<2000000):aL C 94 [.agg [.aa false (bP A),.aa false (bP B)]] (.int .i64 (eU A B)):=by
 have cz:=jn A;have CA:=jn B;have r0:A.length=0->eU A B=8:=λh=>by rw[eU,if_pos h]
 have r1:A.length≠0->6<A.length->eU A B=3:=λh h'=>by rw[eU,if_neg h,if_pos h']
 have r2:A.length≠0->¬6<A.length->cU [] A≠0->eU A B=cU [] A:=λh h' h2=>by rw[eU,if_neg h,if_neg h',if_pos h2]
 have r3:A.length≠0->¬6<A.length->cU [] A=0->eU A B=mE A (-1) B:=λh h' h2=>by rw[eU,if_neg h,if_neg h',if_neg (by simp[h2])]
 generalize eU A B=R at *;refine aL.x T6 Tryz.func94 rfl ?_;refine wI (λhc=>?_) (λhc hc=>?_) λhc hc=>?_;exact⟨_,rfl,by rw[r0 (by omega)];rfl⟩;exact⟨_,rfl,by rw[r1 (by omega) (by omega)];rfl⟩;have FI:A.length≠0:=by omega
 have Qj:¬6<A.length:=by omega
 refine dw.zip T6 A (λp q L H=>L=[(1,.ptr 0 0 0 0),(20,.aa false (bP A)),(21,.int .i64 (bP A).length),(22,.int .i64 p.length)]/\H=[⟨.m,0,2,[PV.agg [PV.aa false (bP A),PV.aa false (bP B)]]⟩]/\cU [] p=0) (.nx ⟨rfl,rfl,rfl⟩) ?_ ?_
 ·rintro p x q _ _ Y e ⟨rfl,rfl,hp⟩;have cC:=od e;have CB:=lenE e;have hg:=Jk x;have hv:=up (fi (.mk 2 x 1 []) (by have:=hA x (by rw[e];simp);simp[az,bF];omega)).nine;rw[Dh]at hv;have Jh:=Mr p x (by omega);have Jm:=tU e hp;have CF:xf x=(!du x ||x.data.toList.any (·==35)):=rfl;have Di:(bP A).take p.length=bP p:=by rw[e,bP,bP,abT,abq (by simp),abo (by simp)]
  refine wA ?_;refine .p hg ?_;refine wA ?_;refine .p hv ?_
  cases hn:du x
  ·refine wA ?_;have xg:xf x=true:=by rw[CF,hn];rfl
   have:cU [] A=2:=by rw[Jm,cU,if_pos xg]
   exact⟨_,rfl,by rw[r2 FI Qj (by omega),this];rfl⟩
  ·refine wA ?_;refine ai.prL (g:=By) rfl ?_
   cases hh:x.data.toList.any (·==35)
   ·have xg:xf x=false:=by rw[CF,hn,hh];rfl
    have Wt:Option.all (λv=>(cells v).length==1) (bP A)[0]?=true:=by
     cases A with
     |nil=>rfl
     |cons a A=>rfl
    have HE:(0<=p.length/\p.length<=(bP A).length)/\Option.all (λv=>(cells v).length==1) (bP A)[0]?=true:=⟨⟨by omega,by omega⟩,Wt⟩;rw[<-Di]at Jh;refine wA ?_;refine .p Jh ?_ (hn:=by show aU [.aa false ((bP A).take p.length),.str x]=_;simp[aU,bW,Di])
    by_cases h0:0<=CE x p
    ·rw[decide_eq_true h0];have:cU [] A=5:=by rw[Jm,cU,if_neg (by simp[xg]),if_pos h0]
     refine wA ?_;exact⟨_,rfl,by rw[r2 FI Qj (by omega),this];rfl⟩
    ·rw[decide_eq_false h0];refine wA ?_;exact .nx ⟨rfl,rfl,uN hp xg (by omega)⟩
   ·have xg:xf x=true:=by rw[CF,hh];simp
    have:cU [] A=2:=by rw[Jm,cU,if_pos xg]
    refine wA ?_;exact⟨_,rfl,by rw[r2 FI Qj (by omega),this];rfl⟩
 ·rintro _ _ Y ⟨rfl,rfl,hp⟩;have r4:=r3 FI Qj hp;refine wA ?_;refine dw.zip T6 B (λp q L H=>∃n:Int,L=[(1,.ptr 0 0 0 0),(5,.int .i64 n),(43,.aa false (bP B)),(44,.int .i64 (bP B).length),(45,.int .i64 p.length)]/\H=[⟨.m,0,2,[PV.agg [PV.aa false (bP A),PV.aa false (bP B)]]⟩]/\mE A (-1) B=mE A n q/\-1<=n/\n<A.length) (.nx ⟨-1,rfl,rfl,rfl,by omega,by omega⟩) ?_ ?_
  ·rintro p x q _ _ Y e ⟨n,rfl,rfl,hb,CZ,Qk⟩;have cC:=od e;have CB:=lenE e;have hi:=Df A x (by omega);obtain⟨g1,g2⟩:=Mq x A;rw[mE]at hb;refine wA ?_;refine .p hi ?_;refine wI (λhc=>?_) (λhc hc=>?_) λhc hc=>?_;exact⟨_,rfl,by rw[r4,hb,if_pos (by omega)];rfl⟩;exact⟨_,rfl,by rw[r4,hb,if_neg (by omega),if_pos (by omega)];rfl⟩
   ·rw[if_neg (by omega),if_neg (by omega)]at hb;exact .nx ⟨_,rfl,rfl,hb,by omega,by omega⟩
  ·rintro _ _ Y ⟨n,rfl,rfl,hb,CZ,Qk⟩;refine wA ?_;exact⟨_,rfl,by rw[r4,hb];rfl⟩
theorem FJ(A B:List ByteArray)(hA:∀a∈A,a.size<10000000)(hl:A.length<2000000)(dO:B.length<2000000):aL C 95 [.agg [.aa false (bP A),.aa false (bP B)]] (.int .i64 (eU A B)):=by
 have cz:=jn A;have CA:=jn B;have r0:A.length=0->eU A B=8:=λh=>by rw[eU,if_pos h]
 have r1:A.length≠0->6<A.length->eU A B=3:=λh h'=>by rw[eU,if_neg h,if_pos h']
 have r2:A.length≠0->¬6<A.length->cU [] A≠0->eU A B=cU [] A:=λh h' h2=>by rw[eU,if_neg h,if_neg h',if_pos h2]
 have r3:A.length≠0->¬6<A.length->cU [] A=0->eU A B=mE A (-1) B:=λh h' h2=>by rw[eU,if_neg h,if_neg h',if_neg (by simp[h2])]
 generalize eU A B=R at *;refine aL.x T6 Tryz.func95 rfl ?_;refine wI (λhc=>?_) (λhc hc=>?_) λhc hc=>?_;exact⟨_,rfl,by rw[r0 (by omega)];rfl⟩;exact⟨_,rfl,by rw[r1 (by omega) (by omega)];rfl⟩;have FI:A.length≠0:=by omega
 have Qj:¬6<A.length:=by omega
 refine dw.zip T6 A (λp q L H=>L=[(1,.ptr 0 0 0 0),(3,.int .i64 p.length)]/\H=[⟨.m,0,2,[PV.agg [PV.aa false (bP A),PV.aa false (bP B)]]⟩]/\cU [] p=0) (.nx ⟨rfl,rfl,rfl⟩) ?_ ?_
 ·rintro p x q _ _ Y e ⟨rfl,rfl,hp⟩;have cC:=od e;have CB:=lenE e;have hxs:=hA x (by rw[e];simp);have Mm:=up (uO x (by omega)).nine;have hhs:=Ms x (by omega);have Jh:=qs p x (by omega);have Jm:=tU e hp;have CF:xf x=(!du x ||x.data.toList.any (·==35)):=rfl;have Di:(bP A).take p.length=bP p:=by rw[e,bP,bP,abT,abq (by simp),abo (by simp)]
  refine wA ?_;refine .p Mm ?_
  cases hn:du x
  ·refine wA ?_;have xg:xf x=true:=by rw[CF,hn];rfl
   have:cU [] A=2:=by rw[Jm,cU,if_pos xg]
   exact⟨_,rfl,by rw[r2 FI Qj (by omega),this];rfl⟩
  ·refine wA ?_;refine .p hhs ?_
   cases hh:x.data.toList.any (·==35)
   ·have xg:xf x=false:=by rw[CF,hn,hh];rfl
    have Wt:Option.all (λv=>(cells v).length==1) (bP A)[0]?=true:=by
     cases A with
     |nil=>rfl
     |cons a A=>rfl
    have HE:(0<=p.length/\p.length<=(bP A).length)/\Option.all (λv=>(cells v).length==1) (bP A)[0]?=true:=⟨⟨by omega,by omega⟩,Wt⟩;rw[<-Di]at Jh;refine wA ?_;refine .p Jh ?_ (hn:=by show aU [.aa false ((bP A).take p.length),.str x]=_;simp[aU,bW,Di])
    by_cases h0:0<=CE x p
    ·have:cU [] A=5:=by rw[Jm,cU,if_neg (by simp[xg]),if_pos h0]
     refine wA ?_;exact⟨_,rfl,by rw[r2 FI Qj (by omega),this];rfl⟩
    ·refine wA ?_;exact .nx ⟨rfl,rfl,uN hp xg (by omega)⟩
   ·have xg:xf x=true:=by rw[CF,hh];simp
    have:cU [] A=2:=by rw[Jm,cU,if_pos xg]
    refine wA ?_;exact⟨_,rfl,by rw[r2 FI Qj (by omega),this];rfl⟩
 ·rintro _ _ Y ⟨rfl,rfl,hp⟩;have r4:=r3 FI Qj hp;refine wA ?_;refine dw.zip T6 B (λp q L H=>∃n:Int,L=[(1,.ptr 0 0 0 0),(4,.int .i64 n),(5,.int .i64 p.length)]/\H=[⟨.m,0,2,[PV.agg [PV.aa false (bP A),PV.aa false (bP B)]]⟩]/\mE A (-1) B=mE A n q/\-1<=n/\n<A.length) (.nx ⟨-1,rfl,rfl,rfl,by omega,by omega⟩) ?_ ?_
  ·rintro p x q _ _ Y e ⟨n,rfl,rfl,hb,CZ,Qk⟩;have cC:=od e;have CB:=lenE e;have hi:=qs A x (by omega);obtain⟨g1,g2⟩:=Mq x A;rw[mE]at hb;refine wA ?_;refine .p hi ?_;refine wI (λhc=>?_) (λhc hc=>?_) λhc hc=>?_;exact⟨_,rfl,by rw[r4,hb,if_pos (by omega)];rfl⟩;exact⟨_,rfl,by rw[r4,hb,if_neg (by omega),if_pos (by omega)];rfl⟩
   ·rw[if_neg (by omega),if_neg (by omega)]at hb;exact .nx ⟨_,rfl,rfl,hb,by omega,by omega⟩
  ·rintro _ _ Y ⟨n,rfl,rfl,hb,CZ,Qk⟩;refine wA ?_;exact⟨_,rfl,by rw[r4,hb];rfl⟩
end vD
open Go.Proofs Go.ChangeShapes Go.WideShapes
set_option maxRecDepth 100000
set_option maxHeartbeats 2000000
instance:Inhabited ByteArray:=⟨ByteArray.empty⟩
theorem iE:C.P.cellsOf 9=1:=by kernel_rfl
theorem On:C.P.cellsOf 59=1:=by kernel_rfl
theorem VX:C.P.cellsOf 61=2:=by kernel_rfl
theorem Oo:∃fs,C.P.underlying 61=some (.struct fs)/\fs.toList.map (λf=>(f.offset,f.type))=[(0,59),(1,59)]:=IA (T6.cQ 61 _ rfl)
open Go.Proofs.YtimogkojklpdnaaGreatDoor in
theorem AP{H:Type}{ec:TypeId×Value->H}{w:World}{sp:Nat->Bool}{held:Bool}{n:Nat}{cs:List Value}{x:DataW H×List MemPlace}(h:DataW.trod ec C.P w 0 sp held n 59 cs=some x):
  ∃(c:Value) (l:List ByteArray),cs=[c]/\bZ w Lp c (.aa false (vD.bP l))/\(∀a∈l,a.size<Rows.uptoBulk x.1)/\l.length<Rows.uptoBulk x.1:=by
 obtain⟨c,l,hc,h1,h2⟩:=rG (E:=ByteArray) (λs=>.str s) (λs=>s.size+1) (bp (T6.cQ 59 _ rfl)) iE (by decide) (λ_=>rfl) (λn cs x hx=>by
  obtain⟨s,rfl,rfl,_⟩:=DataW.trod_string (oC (T6.cQ 9 _ rfl)) hx;exact⟨s,rfl,λj hj=>(by obtain rfl:j=0:=(by omega);exact .str _),by show s.size+1<=s.data.toList.length+1;rw[ach];exact aa5 _⟩) h
 refine⟨c,l,hc,h1,λa ha=>?_,?_⟩
 ·have:=yf (λs:ByteArray=>s.size+1) ha;omega
 ·have:=yg (λs:ByteArray=>s.size+1) (λx=>by omega) l;omega
open Go.Proofs.YtimogkojklpdnaaGreatDoor in
theorem Ks{H:Type}{ec:TypeId×Value->H}{w:World}{sp:Nat->Bool}{held:Bool}{n:Nat}{cs:List Value}{x:DataW H×List MemPlace}(h:DataW.trod ec C.P w 0 sp held n 61 cs=some x):
  ∃(A B:List ByteArray),bZ w Lp (.agg cs.toArray) (.agg [.aa false (vD.bP A),.aa false (vD.bP B)])/\(∀a∈A,a.size<Rows.uptoBulk x.1)/\A.length<Rows.uptoBulk x.1/\B.length<Rows.uptoBulk x.1:=by
 obtain⟨fs,hu,W1⟩:=Oo;obtain⟨xs,m,rfl,rfl,hlen,PB,hf⟩:=DataW.trod_struct hu h;rw[VX]at hlen;have gC:fs.size=2:=by have:=congrArg List.length W1;simpa using this
 rw[gC]at PB
 match cs,hlen,xs,PB with
 |[c0,c1],_,[x0,x1],_=>
  obtain⟨f0,g0,a0,b0⟩:=Oq W1 (i:=0) rfl;obtain⟨f1,g1,a1,b1⟩:=Oq W1 (i:=1) rfl;have h0:=hf 0 f0 g0;have h1:=hf 1 f1 g1;rw[a0,b0,On]at h0;rw[a1,b1,On]at h1;simp only[acb,acS,adk,List.drop_succ_cons,ab0,acf]at h0 h1;obtain⟨d0,A,e0,s0,p0,q0⟩:=AP h0;obtain⟨d1,B,e1,s1,p1,q1⟩:=AP h1;obtain rfl:c0=d0:=by simpa using e0
  obtain rfl:c1=d1:=by simpa using e1
  have hb:Rows.uptoBulk x0.1<=Rows.uptoBulk (DataW.agg (List.map (·.1) [x0,x1]))/\Rows.uptoBulk x1.1<=Rows.uptoBulk (DataW.agg (List.map (·.1) [x0,x1])):=by
   simp only[abk,abx,Rows.uptoBulk,Rows.uptoBulkAll];omega
  refine⟨A,B,.agg _ _ rfl (λj hj=>by
   match j,hj with
   |0,_=>exact s0
   |1,_=>exact s1),λa ha=>?_,?_,?_⟩
  have:=p0 a ha;dsimp only;omega
  ·dsimp only;omega
  ·dsimp only;omega
open Go.Proofs.YtimogkojklpdnaaGreatDoor in
theorem GJ{H:Type}{ec:TypeId×Value->H}{w:World}{base:Nat}{sp:Nat->Bool}{v:Value}{d:DataW H}{p:List MemPlace}(gh:Value.okWide C.P w .any base 61 v)(h:DataW.Trod ec C.P w 0 sp true 61 v d p):
  ∃(A B:List ByteArray),bZ w Lp v (.agg [.aa false (vD.bP A),.aa false (vD.bP B)])/\(∀a∈A,a.size<Rows.uptoBulk d)/\A.length<Rows.uptoBulk d/\B.length<Rows.uptoBulk d:=by
 obtain⟨n,hn⟩:=h;obtain⟨fs,hu,W1⟩:=Oo;obtain⟨cs,rfl,_⟩:=okWide_struct hu gh;have:=Ks hn;simpa[Value.cells]using this
end Go.Pm
namespace Go.Pm
theorem oq:∀{S:List dp} {x:Tm},(∃b∈S,b.v=x/\lE S x=b.t)\/((∀b∈S,b.v≠x)/\lE S x=x)
 |[],x=>.inr ⟨λb h=>(by cases h),rfl⟩
 |b::S,x=>by
  rw[lE]
  by_cases h:aW b.v x=0
  ·rw[if_pos h];exact .inl ⟨b,by simp,dm h,rfl⟩
  ·rw[if_neg h];rcases oq (S:=S) (x:=x)with⟨c,h1,h2,h3⟩|⟨h1,h2⟩;exact .inl ⟨c,by simp[h1],h2,h3⟩
   ·refine .inr ⟨λc hc=>?_,h2⟩;rcases abc.1 hc with rfl |hc
    ·rintro rfl;exact h (cH _)
    exact h1 c hc
theorem Nu{S:List dp}{t:Tm}(h:t.k≠1):(cx S t).k=t.k/\(cx S t).s=t.s/\(cx S t).o=t.o/\(cx S t).l=b9 S t.l:=by
 obtain⟨k,s,o,l⟩:=t;have h:k≠1:=h;rw[cx,if_neg h];exact⟨rfl,rfl,rfl,rfl⟩
theorem Dt{t:Tm}(h:t.l=[]):∀z∈pre t,z=t:=by
 obtain⟨k,s,o,l⟩:=t;obtain rfl:l=[]:=h
 intro z hz
 simpa[pre,cV]using hz
def Lvs(ts:List Tm):Prop:=∀z∈cV ts,z.k=1->z.l=[]
structure Fro(Q:List dp)(ts:List Tm):Prop where
 lv:Lvs ts
 at_:∀b∈Q,b.t.k=2/\b.t.l=[]/\xq b.t=false
 fr:∀b∈Q,b.t∉cV ts
 inj:∀b∈Q,∀c∈Q,b.t=c.t->b.v=c.v
 bd:∀z∈cV ts,z.k=1->∃b∈Q,b.v=z
theorem Fro.var{Q:List dp}{ts:List Tm}(F:Fro Q ts){z:Tm}(hz:z∈cV ts)(hk:z.k=1):∃b∈Q,b.v=z/\cx Q z=b.t:=by
 rcases oq (S:=Q) (x:=z)with⟨b,h1,h2,h3⟩|⟨h1,_⟩;exact⟨b,h1,h2,by obtain⟨k,s,o,l⟩:=z;have hk:k=1:=hk;rw[cx,if_pos hk,h3]⟩
 ·obtain⟨b,hb,e⟩:=F.bd z hz hk;exact absurd e (h1 b hb)
theorem Fro.k1{Q:List dp}{ts:List Tm}(F:Fro Q ts){z:Tm}(hz:z∈cV ts)(h:(cx Q z).k=3):z.k≠1:=λhk=>by
 obtain⟨b,hb,_,hp⟩:=F.var hz hk;rw[hp,(F.at_ b hb).1]at h;omega
def Yz(n:Nat)(o:Int):Tm:=.mk 2 ⟨#[113,UInt8.ofNat (48+n)]⟩ o []
def Vp:Nat->List Tm->List dp
 |_,[]=>[]
 |n,v::l=>⟨v,Yz n v.o⟩::Vp (n+1) l
structure HZ(l:List cW):Prop where
 f:∀d∈l,∀t∈d.kn++[d.tm],Aw t=true
 v:∀y∈bQ l,y∈rB
 n:(bQ l).length<=4
theorem JM(b:List (List Nat)):HZ (fM b):=by
 obtain⟨h1,h2⟩:=F' b;refine⟨λd hd t ht=>?_,h2,h1⟩;obtain⟨_,q1,q2,_⟩:=(xB b).2 d hd;rcases aa9.1 ht with h |h;exact(q1 t h).1;simp at h;rw[h];exact q2
namespace bh
open Go.Proofs
attribute [local irreducible] aD ay aJ aG Ev ah ai ax aZ bE
set_option maxRecDepth 4000
def pP(x:List Nat):Bool:=decide (20<x.length)
theorem No(l:List (List Nat))(hl:l.length<1000000000):aL C 123 [.aa false (dZ l),.fn 63 []] (.int .i64 (qM pP l)):=by
 have cz:=qz l;refine aL.x T6 Tryz.func123 rfl ?_;refine wA ?_;refine dw.zip T6 l (λa q L K=>L=[(0,.aa false (dZ l)),(1,.fn 63 []),(7,.int .i64 (dZ l).length),(8,.int .i64 a.length)]/\HV K/\∀y∈a,pP y=false) (.nx ⟨rfl,HV.nil,by simp⟩) ?_ ?_
 ·rintro a x q _ K Y e ⟨rfl,hK,ha⟩;have cC:=DB e;have dO:=lenE e;have vF:aL C 63 [.aa false (eN x)] (.bool (pP x)):=Gb x;refine wA ?_;refine .p vF ?_
  cases hb:pP x
  ·refine wA ?_;exact .nx ⟨rfl,hK,λy hy=>by rcases aa9.1 hy with h |h;exact ha y h;simp at h;rw[h];exact hb⟩
  ·refine wA ?_;exact⟨_,rfl,by rw[e,j4 ha hb];rfl⟩
 ·rintro _ K Y ⟨rfl,hK,ha⟩;refine wA ?_;exact⟨_,rfl,by rw[gi ha];rfl⟩
theorem Np(l:List (List Nat))(hl:l.length<1000000000):aL C 62 [.aa false (dZ l),.fn 63 []] (.bool (l.any pP)):=by
 have hi:=No l hl;have ha:=sN pP l;refine aL.x T6 Tryz.func62 rfl ?_;refine wA ?_;refine .p hi ?_;refine wC (λhc=>?_) λhc=>?_
 all_goals exact⟨_,rfl,by rw[<-ha];simp[aT, *]⟩
def BN(b:List (List Nat))(s:List Nat):Bool:=decide (b.length<=5)&&decide (s.length<=10)&& !(b.any pP)
theorem JH(b:List (List Nat))(s:List Nat)(hb:b.length<1000000000)(hs:s.length<1000000000):aL C 18 [.aa false (dZ b),.aa false (eN s)] (.bool (BN b s)):=by
 have h1:=Np b hb;have e1:=qz b;have e2:=lH s;have hS:BN b s=(decide (b.length<=5)&&decide (s.length<=10)&& !(b.any pP)):=rfl;generalize b.any pP=W at *;refine aL.x T6 Tryz.func18 rfl ?_;refine wJ (λhc hc=>?_) (λhc hc=>?_) λhc=>?_
 ·refine .p h1 ?_
  cases W
  ·refine wA ?_;exact⟨_,rfl,by rw[hS,decide_eq_true (by omega),decide_eq_true (by omega)];rfl⟩
  ·refine wA ?_;exact⟨_,rfl,by rw[hS];simp[aT]⟩
 exact⟨_,rfl,by rw[hS,decide_eq_false (p:=s.length<=10) (by omega)];simp[aT]⟩;exact⟨_,rfl,by rw[hS,decide_eq_false (p:=b.length<=5) (by omega)];simp[aT]⟩
theorem QE{C:cG}(T:kJ C.P){run:gW}{L:Al}{Y:Nat->PV}{M:ab}{t:TypeId}{z:PV}{n:Nat}(hz:T.tz t=some z)(ho:(cells z).all Pm.bC=true)(hn:(cells z).length=n+1):ar C run 1 (.alloc t) (al L Y) M=some (.ptr M.length 0 0 0,M++[⟨.m,0,n+1,[z]⟩]):=by
 simp only[ar,aC,T.mM _ _ hz];rw[if_pos ⟨by omega,ho,by omega⟩,hn]
 rfl
theorem F7(a b:List dp):bO (a++b)=bO a++bO b:=by simp[bO]
theorem Ik{B:Nat}:∀{l:List cW},(∀d∈l,bF d.kn+az d.tm+2<=B)->nj l<=l.length * B
 |[],_=>by simp[nj]
 |d::l,h=>by
  have h1:=h d (by simp);have h2:=Ik (l:=l) λx hx=>h x (by simp[hx])
  rw[iP,abg,abX];omega
theorem Nt(b:List (List Nat)):nj (fM b)<=40000:=by
 obtain⟨h1,h2⟩:=xB b
 have h3:=Ik (B:=7900) (l:=fM b) λd hd=>by
  obtain⟨q1,q2,_,q4⟩:=h2 d hd;have:=xI (B:=770) (l:=d.kn) λt ht=>(q2 t ht).2
  have:=abN 770 q1;omega
 have:=abN 7900 h1;omega
def pL(b:List (List Nat))(s:List Nat):List dp:=ZY (bQ (fM b)) s
theorem Gd(l:List cW):eI l=eO l:=rfl
theorem Ge(l:List cW)(S:List dp)(hl:nj l<900000)(hS:zz S<900000)(E7:∀b∈S,kV b.t=true):
  aL C 14 [.aa false (aQ l),.aa false (bO S)] (.cy [.bool (ot l S).1,.int .i64 (ot l S).2]):=by
 have h1:=lG l;have h2:=ms l;have h3:=DC S;exact JL l S (by omega) (by rw[Gd];omega) (by omega) (λb hb=>by have:=DD hb;omega) E7
end bh
open Go.MapKept
set_option maxRecDepth 4000
def Nv:Nat->List Tm->List PV
 |_,[]=>[]
 |n,v::l=>.agg [.int .i64 v.k,.str v.s,.int .i64 v.o,.aa false (ae v.l),.int .i64 2,.str (⟨#[113]⟩++⟨#[UInt8.ofNat (48+n)]⟩),.int .i64 v.o,.aa true []]::Nv (n+1) l
@[simp] theorem JN:∀(l:List Tm) (n:Nat),ao (Nv n l)=true
 |[],_=>rfl
 |v::l,n=>by simp[Nv,ao,aV,JN l]
@[simp] theorem Nw:∀(l:List Tm) (n:Nat),aU (Nv n l)=bO (Vp n l)
 |[],_=>rfl
 |v::l,n=>by
  have h:Yz n v.o=.mk 2 (⟨#[113]⟩++⟨#[UInt8.ofNat (48+n)]⟩) v.o []:=rfl;rw[Nv,Vp,aU,Nw l,h];simp[bO,rr,bW,aU,Tm.k,Tm.s,Tm.o,Tm.l]
end Go.Pm
namespace Go.Pm
namespace bh
open Go.Proofs
attribute [local irreducible] aD ay aJ aG Ev ah ai ax aZ bE
set_option maxRecDepth 4000
theorem MY(n:Nat)(h:n<4):aL C 73 [.int .i64 n] (.str ⟨#[UInt8.ofNat (48+n)]⟩):=by
 match n,h with
 |0,_=>exact aL.iE (n:=40) (by kernel_rfl)
 |1,_=>exact aL.iE (n:=40) (by kernel_rfl)
 |2,_=>exact aL.iE (n:=40) (by kernel_rfl)
 |3,_=>exact aL.iE (n:=40) (by kernel_rfl)
end bh
theorem AA{Q:List dp}:∀{l:List Tm},(∀t∈l,size (cx Q t)<=size t/\depth (cx Q t)<=depth t)->dx (b9 Q l)<=dx l/\fe (b9 Q l)<=fe l
 |[],_=>by simp[b9,dx,fe]
 |t::l,h=>by
  have h1:=h t (by simp);have h2:=AA (l:=l) λu hu=>h u (by simp[hu])
  simp only[b9,dx,fe];omega
theorem size_leaf{t:Tm}(h:t.l=[]):size t=1/\depth t=1:=by
 obtain⟨k,s,o,l⟩:=t;obtain rfl:l=[]:=h;simp[size,dx,depth,fe]
theorem JO{Q:List dp}(hQ:∀b∈Q,b.t.l=[])(t:Tm):size (cx Q t)<=size t/\depth (cx Q t)<=depth t:=by
 induction t using Tm.ind with
 |h k s o l ih=>
  have hs:=AA ih;rw[cx]
  split
  ·rcases oq (S:=Q) (x:=.mk k s o l)with⟨b,h1,_,h3⟩|⟨_,h2⟩
   ·rw[h3];have:=size_leaf (hQ b h1);have:=cX l;have:=gP l;simp only[size,depth];omega
   ·rw[h2];exact⟨Int.le_refl _,Int.le_refl _⟩
  ·simp only[size,depth];omega
theorem JP{Q:List dp}(hQ:∀b∈Q,nodes b.t=0)(t:Tm):nodes t=0->nodes (cx Q t)=0:=by
 induction t using Tm.ind with
 |h k s o l ih=>
  intro h
  obtain⟨h1,h2⟩:=pF h;rw[cx]
  split
  ·rcases oq (S:=Q) (x:=.mk k s o l)with⟨b,hb,_,h3⟩|⟨_,h3⟩
   ·rw[h3];exact hQ b hb
   ·rw[h3];exact h
  ·have hn:node (.mk k s o (b9 Q l))=0:=by
    simp only[node]at h1 ⊢;rw[lf];exact h1
   rw[nodes,if_neg (by omega)];refine uH λt ht=>?_;rw[eC]at ht;obtain⟨u,hu,rfl⟩:=abB.1 ht;exact ih u hu (lu h2 u hu)
structure X'(Q:List dp):Prop where
 v:∀b∈Q,valid b.t=0
 k:∀b∈Q,b.t.k=2
 l:∀b∈Q,b.t.l=[]
theorem Ap{Q:List dp}(A:X' Q){t:Tm}(h:valid t=0):valid (cx Q t)=0:=by
 obtain⟨h1,h2,h3⟩:=fw.1 h;have h4:=JO A.l t;exact fw.2 ⟨JP (λb hb=>(fw.1 (A.v b hb)).1) t h1,by omega,by omega⟩
theorem JQ{Q:List dp}{u:Tm}(h:u.k≠1):dB (cx Q u)=dB u:=by
 obtain⟨h1,_,h3,_⟩:=Nu (S:=Q) h;unfold dB;rw[h1,h3]
theorem QP{Q:List dp}(A:X' Q)(t:Tm):j8 t=0->(∀y∈pre t,y.k=1->y.o≠1)->j8 (cx Q t)=0:=by
 induction t using Tm.ind with
 |h k s o l ih=>
  intro h ho
  by_cases hk:k=1
  ·rw[cx,if_pos hk];rcases oq (S:=Q) (x:=.mk k s o l)with⟨b,hb,_,h3⟩|⟨_,h3⟩
   ·rw[h3];have h2:=A.k b hb;generalize b.t=u at h2;obtain⟨k',s',o',l'⟩:=u;have h2:k'=2:=h2;rw[j8,if_pos (by omega)]
   rw[h3];exact h
  ·rw[cx,if_neg hk]
   by_cases hk3:k=3
   ·subst hk3;obtain⟨c1,c2,c3,c4,c5⟩:=BP h;have YA:∀u∈l,∀y∈pre u,y.k=1->y.o≠1:=λu hu y hy=>ho y (by rw[pre];exact acC _ (dR.2 ⟨u,hu,hy⟩))
    have BQ:eV s (b9 Q l)=true:=by
     unfold eV at c4 ⊢;rw[eC]
     split
     ·rename_i hs
      rw[if_pos hs]at c4;rw[List.all_map,aa4]
      intro u hu
      have Gf:=aa4.1 c4 u hu;have mW:=Gf;simp only[dB,decide_eq_true_eq]at Gf;have hk1:u.k≠1:=λhk=>YA u hu u (ko u) hk Gf.2
      show dB (cx Q u)=true;rw[JQ hk1];exact mW
     ·rename_i hs
      rw[if_neg hs]at c4
      split
      ·rename_i hn
       rw[if_pos hn]at c4
       cases l with
       |nil=>rfl
       |cons u l=>
        have h2:u.k=2:=by simpa using c4
        have:=(Nu (S:=Q) (t:=u) (by omega)).1;simp[this,h2]
      rfl
    have ze:qO (b9 Q l)=0:=bh.fk λt ht=>by
     rw[eC]at ht;obtain⟨u,hu,rfl⟩:=abB.1 ht;exact ih u hu (fk c5 u hu) (YA u hu)
    rw[j8,if_neg (by simp),if_neg c1,lf,if_neg (by omega),if_neg (by rw[BQ];simp),ze]
   rw[j8,if_pos hk3]
theorem QA{Q:List dp}(A:X' Q){t:Tm}(h:jc t=0)(ho:∀y∈pre t,y.k=1->y.o≠1):jc (cx Q t)=0:=by
 obtain⟨h1,h2⟩:=iy.1 h;exact iy.2 ⟨Ap A h1,QP A t h2 ho⟩
theorem MU{Q:List dp}(A:X' Q)(t:Tm):(∀y∈pre t,y.k=1->∃b∈Q,b.v=y)->bz (cx Q t)=[]:=by
 intro hb
 refine acB.2 λy hy=>?_
 have hg:∀b∈Q,bz b.t=[]:=λb hb=>by
  refine acB.2 λy hy=>?_;obtain⟨h1,h2⟩:=(kq _ _).1 hy;rw[Dt (A.l b hb) y h1,A.k b hb]at h2;omega
 induction t using Tm.ind with
 |h k s o l ih=>
  by_cases hk:k=1
  ·rw[cx,if_pos hk]at hy;rcases oq (S:=Q) (x:=.mk k s o l)with⟨b,h1,_,h3⟩|⟨h1,_⟩;rw[h3,hg b h1]at hy;cases hy
   ·obtain⟨b,h2,h3⟩:=hb _ (ko _) hk;exact h1 b h2 h3
  ·rw[cx,if_neg hk]at hy;obtain⟨h1,h2⟩:=(kq _ _).1 hy;rw[pre]at h1;rcases abc.1 h1 with rfl |h1;exact hk h2
   ·rw[eC]at h1;obtain⟨u,hu,h1⟩:=dR.1 h1;obtain⟨w,hw,rfl⟩:=abB.1 hu;exact ih w hw (λz hz=>hb z (by rw[pre];exact acC _ (dR.2 ⟨w,hw,hz⟩))) ((kq _ _).2 ⟨h1,h2⟩)
theorem JR{l:List Tm}(h:fZ l):l.Nodup:=List.Pairwise.imp (λh e=>by rw[e,cH]at h;omega) h
theorem Ny{a:List Tm}:∀{b:List Tm},a.Nodup->(∀x∈a,x∈b)->a.length<=b.length:=by
 induction a with
 |nil=>intro b _ _;simp
 |cons x a ih=>
  intro b hd hs
  have hx:=hs x (by simp);obtain⟨p,q,rfl⟩:=adH hx;have CW:=List.nodup_cons.1 hd
  have:=ih (b:=p++q) CW.2 λy hy=>by
   have h1:=hs y (by simp[hy]);have h2:y≠x:=λe=>CW.1 (e▸hy)
   simp only[aa9,abc]at h1 ⊢;rcases h1 with h |h |h;exact .inl h;exact absurd h h2;exact .inr h
  simp only[aba,abg]at this ⊢;omega
theorem MT(Q:List dp)(kn:List Tm)(tm:Tm):b9 Q (kn++[tm])=b9 Q kn++[cx Q tm]:=by simp[eC]
theorem Ds:∀{l:List Tm},(∀t∈l,sG t=0)->jD l=0
 |[],_=>rfl
 |t::l,h=>by
  have h1:=h t (by simp);rw[jD,if_neg (by omega)];exact Ds λu hu=>h u (by simp[hu])
def ku(o:Int)(p:List Tm):Nat:=(p.filter λy=>decide (y.o=o)).length
def dS:List Tm->List Tm->List dp
 |_,[]=>[]
 |p,x::q=>⟨x,pK (ku x.o p) x.o⟩::dS (p++[x]) q
theorem sA(o:Int)(p:List Tm):ku o p<=p.length:=acm _ _
theorem Qy:(rB.all λx=>[0,1,2,3].all λn=>decide (CJ ⟨x,pK n x.o⟩=0)&&xq (pK n x.o)&&decide (x.o≠1)&&kV (pK n x.o))=true:=by kernel_rfl
theorem sB{x:Tm}{n:Nat}(hn:n<4)(hx:x∈rB):CJ ⟨x,pK n x.o⟩=0/\xq (pK n x.o)=true/\x.o≠1/\kV (pK n x.o)=true:=by
 have h1:=aa4.1 Qy x hx
 have hm:n∈[0,1,2,3]:=by
  match n,hn with
  |0,_ |1,_ |2,_ |3,_=>simp
 have h2:=aa4.1 h1 n hm;simp only[abb,decide_eq_true_eq]at h2;exact⟨h2.1.1.1,h2.1.1.2,h2.1.2,h2.2⟩
theorem HY:∀{q p:List Tm} {b:dp},b∈dS p q->b.v∈q/\∃n,n<p.length+q.length/\b.t=pK n b.v.o
 |x::q,p,b,h=>by
  rw[dS]at h;rcases abc.1 h with rfl |h
  ·have:=sA x.o p;exact⟨by simp,_,by simp;omega,rfl⟩
  ·obtain⟨h1,n,h2,h3⟩:=HY h;exact⟨by simp[h1],n,by simp at h2 ⊢;omega,h3⟩
theorem sC:∀{q p:List Tm} {x:Tm},x∈q->∃b∈dS p q,b.v=x
 |y::q,p,x,h=>by
  rcases abc.1 h with rfl |h;exact⟨_,List.mem_cons_self,rfl⟩
  ·obtain⟨b,h1,h2⟩:=sC (p:=p++[y]) h;exact⟨b,by rw[dS];exact acC _ h1,h2⟩
theorem sD:∀(q p:List Tm),(dS p q).length=q.length
 |[],_=>rfl
 |x::q,p=>by rw[dS,abg,sD q,abg]
theorem An(x:Tm):∀(q p:List Tm),dS p (q++[x])=dS p q++[⟨x,pK (ku x.o (p++q)) x.o⟩]
 |[],p=>by simp[dS]
 |y::q,p=>by rw[abz,dS,An x q,dS,abz,abu];rfl
theorem xr{l:List cW}(D:HZ l){b:dp}(hb:b∈dS [] (bQ l)):b.v∈rB/\∃n,n<4/\b.t=pK n b.v.o:=by
 obtain⟨h1,n,h2,h3⟩:=HY hb;have:=D.n;exact⟨D.v _ h1,n,by simp at h2;omega,h3⟩
theorem Ao:∀{q p:List Tm} {prev:Option Tm},fZ q->(∀v∈q,v∈rB)->p.length+q.length<=4->(∀y,prev=some y->∀v∈q,aW y v<0)->oI prev (dS p q)=0
 |[],p,prev,_,_,_,_=>rfl
 |v::q,p,prev,hs,hv,hn,hp=>by
  have hc:=sA v.o p;have h1:=(sB (n:=ku v.o p) (by simp at hn;omega) (hv v (by simp))).1
  have h2:behind prev v=true:=by
   cases prev with
   |none=>rfl
   |some p=>exact decide_eq_true (hp p rfl v (by simp))
  rw[dS,oI,if_neg (by omega),if_neg (by rw[h2];simp)];have Jb:=abr.1 hs
  exact Ao Jb.2 (λu hu=>hv u (by simp[hu])) (by simp at hn ⊢;omega) λy hy u hu=>by
   obtain rfl:=aa2 hy;exact Jb.1 u hu
theorem MR{l:List cW}(D:HZ l):lY (dS [] (bQ l))=0:=by
 have h1:=D.n;have h2:=sD (bQ l) [];unfold lY;rw[if_neg (by omega)];exact Ao (gH (jo _)) D.v (by simp;omega) (λp h=>by cases h)
theorem H0{l:List cW}(D:HZ l):X' (dS [] (bQ l)):=by
 refine⟨λb hb=>?_,λb hb=>?_,λb hb=>?_⟩ <;>obtain⟨h1,n,h2,h3⟩:=xr D hb
 ·have:=(sB h2 h1).1;rw[<-h3]at this;exact(nh this).2.2.1
 rw[h3];rfl;rw[h3];rfl
theorem Qz{l:List cW}{d:cW}(hd:d∈l){t y:Tm}(ht:t∈d.kn++[d.tm])(hy:y∈pre t)(hk:y.k=1):y∈bQ l:=by
 simp only[bQ,abV,decide_eq_true_eq,jQ];exact⟨(fq _ _).2 (dR.2 ⟨t,abY.2 ⟨d,hd,ht⟩,hy⟩),hk⟩
theorem U7{S:List dp}{t:Tm}(h:t.k=1):cx S t=lE S t:=by
 obtain⟨k,s,o,l⟩:=t;rw[cx,if_pos (show k=1 from h)]
theorem MS{l:List cW}(D:HZ l)(hz:iv l=0){d:cW}(hd:d∈l)(hk:d.tm.k=1):
  ru (dS [] (bQ l)) d=0/\(jR (b9 (dS [] (bQ l)) d.kn) (cx (dS [] (bQ l)) d.tm)=0\/jR (b9 (dS [] (bQ l)) d.kn) (cx (dS [] (bQ l)) d.tm)=3)/\
  (jR (b9 (dS [] (bQ l)) d.kn) (cx (dS [] (bQ l)) d.tm)=0->sF (b9 (dS [] (bQ l)) d.kn) (cx (dS [] (bQ l)) d.tm)=true):=by
 have A:=H0 D;have ek:=((Af hz).2 d hd).2;have hv:∀t∈d.kn++[d.tm],valid t=0/\jc t=0:=λt ht=>⟨(lF (ek t ht)).1,iy.2 ⟨(lF (ek t ht)).1,(lF (ek t ht)).2.1⟩⟩
 have kF:∀t∈d.kn++[d.tm],∀y∈pre t,y.k=1->y∈bQ l:=λt ht y hy hk=>Qz hd ht hy hk
 have lW:∀t∈d.kn++[d.tm],(cu (dS [] (bQ l)) t).2=0:=λt ht=>by
  unfold cu;rw[if_neg (by have:=(hv t ht).1;omega),if_neg (by have:=Ap A (hv t ht).1;omega)]
 have Ya:∀k:List Tm,(∀t∈k,t∈d.kn++[d.tm])->mG (dS [] (bQ l)) k=0:=by
  intro k
  induction k with
  |nil=>intro _;rfl
  |cons t k ih=>
   intro h
   rw[mG,if_neg (by rw[lW t (h t (by simp))];simp)];exact ih λu hu=>h u (by simp[hu])
 have hr:jD (b9 (dS [] (bQ l)) d.kn++[cx (dS [] (bQ l)) d.tm])=0:=by
  refine Ds λt ht=>?_;rw[<-MT,eC]at ht;obtain⟨u,hu,rfl⟩:=abB.1 ht
  have h1:=QA A (hv u hu).2 λy hy hk=>by
   have:=D.v y (kF u hu y hy hk);exact(sB (n:=0) (by omega) this).2.2.1
  have h2:=MU A u λy hy hk=>sC (kF u hu y hy hk)
  rw[sG,if_neg (by omega),if_neg (by simp[h2])]
 refine⟨?_,?_,λhu=>?_⟩
 ·unfold ru;rw[Ya d.kn (λt ht=>by simp[ht]),if_neg (by simp),lW d.tm (by simp)]
 ·unfold jR;rw[hr]
  split
  exact .inr rfl
  ·rw[if_neg (by simp)]
   split
   exact .inr rfl;exact .inl rfl
 ·have hx:=kF d.tm (by simp) d.tm (ko _) hk
  have hp:xq (cx (dS [] (bQ l)) d.tm)=true:=by
   rw[U7 hk];rcases oq (S:=dS [] (bQ l)) (x:=d.tm)with⟨b,h1,h2,h3⟩|⟨h1,_⟩
   ·rw[h3];obtain⟨q1,n,q2,q3⟩:=xr D h1;rw[q3];exact(sB q2 q1).2.1
   ·obtain⟨b,h2,h3⟩:=sC (p:=[]) hx;exact absurd h3 (h1 b h2)
  unfold sF;rw[abb];refine⟨decide_eq_true hu,dq.2 (H4.2 ⟨?_,.pub ?_ hp⟩)⟩ <;>exact(fq _ _).2 (dR.2 ⟨_,by simp,ko _⟩)
theorem MV{l:List cW}(D:HZ l)(hz:iv l=0)(hs:∀d∈l,d.tm.k=1):ot l (dS [] (bQ l))=(true,0)\/ot l (dS [] (bQ l))=(false,3):=by
 have A:=H0 D
 have h1:sH l (dS [] (bQ l))=0:=by
  unfold sH;rw[MR D,if_neg (by simp)]
  have h2:(bQ l).all (QB (dS [] (bQ l)))=true:=aa4.2 λx hx=>by
   obtain⟨b,q1,q2⟩:=sC (p:=[]) hx;exact ab3.2 ⟨b,q1,by rw[q2,cH];rfl⟩
  rw[h2,if_neg (by simp)]
  have h3:(dS [] (bQ l)).any (λb=>decide (bz b.t≠[]))=false:=ab9.2 λb hb=>by
   have:bz b.t=[]:=acB.2 λy hy=>by
    obtain⟨q1,q2⟩:=(kq _ _).1 hy;rw[Dt (A.l b hb) y q1,A.k b hb]at q2;omega
   simp[this]
  have h4:(dS [] (bQ l)).any (λb=>decide (jc b.t≠0))=false:=ab9.2 λb hb=>by
   have:jc b.t=0:=iy.2 ⟨A.v b hb,by
    have:=A.k b hb;generalize b.t=u at *;obtain⟨k,s,o,tl⟩:=u;simp only[Tm.k]at this;rw[j8,if_pos (by omega)]⟩
   simp[this]
  rw[h3,h4];simp
 have go:∀k:List cW,(∀d∈k,d∈l)->jq (dS [] (bQ l)) k=(true,0)\/jq (dS [] (bQ l)) k=(false,3):=by
  intro k
  induction k with
  |nil=>intro _;exact .inl rfl
  |cons d k ih=>
   intro h
   obtain⟨e1,e2,e3⟩:=MS D hz (h d (by simp)) (hs d (h d (by simp)));rw[jq,if_neg (by omega)];rcases e2 with e2 |e2
   ·rw[if_neg (by omega),if_neg (by rw[e3 e2];simp)];exact ih λu hu=>h u (by simp[hu])
   ·rw[e2,if_pos (by simp)];exact .inr rfl
 unfold ot;rw[if_neg (by omega),if_neg (by omega)];exact go l λd hd=>hd
namespace bh
open Go.Proofs
attribute [local irreducible] aD ay aJ aG Ev ah ai ax aZ bE
set_option maxRecDepth 4000
def lZ:List cW->Nat->Int
 |[],_=>-1
 |d::l,n=>if d.tm.k≠1 then n else lZ l (n+1)
theorem Cn{d:cW}{q:List cW}:∀{p:List cW} {n:Nat},(∀y∈p,y.tm.k=1)->lZ (p++d::q) n=if d.tm.k≠1 then((n+p.length:Nat):Int)else lZ q (n+p.length+1)
 |[],n,_=>by simp[lZ]
 |x::p,n,h=>by
  rw[abz,lZ,if_neg (by simp[h x (by simp)]),Cn (λy hy=>h y (by simp[hy]))];simp only[abg];rw[show n+1+p.length=n+(p.length+1) by omega]
theorem uy:∀{l:List cW} {n:Nat},(∀y∈l,y.tm.k=1)->lZ l n=-1
 |[],_,_=>rfl
 |x::l,n,h=>by rw[lZ,if_neg (by simp[h x (by simp)]),uy (λy hy=>h y (by simp[hy]))]
theorem GW(l:List cW)(hl:l.length<1000000000):aL C 35 [.aa false (aQ l)] (.int .i64 (lZ l 0)):=by
 have cz:=cj l;refine aL.x T6 Tryz.func35 rfl ?_;refine wA ?_;refine dw.zip T6 l (λp _ L H=>L=[(0,.aa false (aQ l)),(3,.int .i64 p.length)]/\H=[]/\∀y∈p,y.tm.k=1) (.nx ⟨rfl,rfl,by simp⟩) ?_ ?_
 ·rintro p d q _ _ Y e ⟨rfl,rfl,hp⟩;have cC:=ir e;have dO:=lenE e;refine wC (λhc=>?_) λhc=>?_
  ·refine .nx ⟨rfl,rfl,λy hy=>?_⟩;rcases aa9.1 hy with h |h;exact hp y h;simp at h;rw[h];assumption
  ·refine⟨_,rfl,?_⟩;rw[e,Cn hp,if_pos (by assumption)];simp[aT,bW]
 ·rintro _ _ Y ⟨rfl,rfl,hp⟩;refine wA ?_;exact⟨_,rfl,by rw[uy hp];rfl⟩
theorem Dz(l:List cW)(hl:l.length<1000000000):aL C 33 [.aa false (aQ l)] (.bool (decide (lZ l 0<0))):=by
 have h1:=GW l hl;refine aL.x T6 Tryz.func33 rfl ?_;refine wA ?_;refine .p h1 ?_;refine wC (λhc=>?_) λhc=>?_
 all_goals exact⟨_,rfl,by simp[aT,bW, *]⟩
theorem GX(d:cW):aL C 93 [jz d] (.bool (decide (d.tm.k≠1))):=by
 rw[jz];refine aL.x T6 Tryz.func93 rfl ?_;refine wC (λhc=>?_) λhc=>?_
 all_goals exact⟨_,rfl,by simp[aT,bW, *]⟩
theorem RV(l:List cW)(hl:l.length<1000000000):ax C 92 [.aa false (aQ l),.fn 93 []] [] (λr h'=>r=.int .i64 (lZ l 0)/\h'=[]):=by
 have cz:=cj l;refine ax.x T6 Tryz.func92 rfl ?_;refine wA ?_;refine dw.zip T6 l (λp _ L H=>L=[(0,.aa false (aQ l)),(1,.fn 93 []),(7,.int .i64 (aQ l).length),(8,.int .i64 p.length)]/\H=[]/\∀y∈p,y.tm.k=1) (.nx ⟨rfl,rfl,by simp⟩) ?_ ?_
 ·rintro p d q _ _ Y e ⟨rfl,rfl,hp⟩;have cC:=ir e;have dO:=lenE e;have h1:=GX d;rw[jz]at h1;refine wA ?_;refine .p h1 ?_
  by_cases hk:d.tm.k=1
  ·rw[show decide (d.tm.k≠1)=false by simp[hk]];refine wA ?_;refine .nx ⟨rfl,rfl,λy hy=>?_⟩;rcases aa9.1 hy with h |h;exact hp y h;simp at h;rw[h];exact hk
  ·rw[show decide (d.tm.k≠1)=true by simp[hk]];refine wA ?_;refine⟨?_,rfl⟩;rw[e,Cn hp,if_pos hk];simp[aT]
 ·rintro _ _ Y ⟨rfl,rfl,hp⟩;refine wA ?_;exact⟨by rw[uy hp];rfl,rfl⟩
theorem KI(l:List cW)(hl:l.length<1000000000):aL C 34 [.aa false (aQ l)] (.int .i64 (lZ l 0)):=by
 have h1:=RV l hl;refine aL.x T6 Tryz.func34 rfl ?_;refine wA ?_;refine .ln h1 (λr h' hr=>by rw[hr.2]) (λr h' hr=>?_);obtain⟨rfl,rfl⟩:=hr;refine wA ?_;exact⟨_,rfl,rfl⟩
theorem F4(l:List cW)(hl:l.length<1000000000):aL C 32 [.aa false (aQ l)] (.bool (decide (lZ l 0<0))):=by
 have h1:=KI l hl;refine aL.x T6 Tryz.func32 rfl ?_;refine wA ?_;refine .p h1 ?_;refine wC (λhc=>?_) λhc=>?_
 all_goals exact⟨_,rfl,by simp[aT,bW, *]⟩
end bh
end Go.Pm
section
open Go.MapKept
namespace Go.Pm
def ixT:List Tm->Tm->Nat
 |[],_=>0
 |u::l,t=>if aW u t=0 then 0 else ixT l t+1
def ixs(u l:List Tm):List PV:=l.map λt=>.int .i64 (ixT u t)
end Go.Pm
end
namespace Go.Pm
namespace bh
open Go.Proofs
attribute [local irreducible] aD ay aJ aG Ev ah ai ax aZ bE
set_option maxRecDepth 4000
def vJ(H:ab)(u l:List Tm)(r:PV):Prop:=(l=[]/\r=.aa true [])\/∃a ep tl,r=.aj a ep 0 l.length/\H[a]?=some ⟨.m,ep,1,ixs u l++tl⟩
@[simp] theorem TO(v:PV)(b:Bool):gd false v b=v:=rfl
@[simp] theorem V5(u l:List Tm):ao (ixs u l)=true:=by rw[bj,aa4];intro y hy;obtain⟨t,_,rfl⟩:=abB.1 hy;rfl
end bh
set_option maxRecDepth 4000
def strs(l:List ByteArray):List PV:=l.map PV.str
namespace bh
@[simp] theorem WR(l:List ByteArray):ao (strs l)=true:=by rw[bj];simp[strs,aV]
@[simp] theorem YB(l:List ByteArray):aU (strs l)=strs l:=by rw[cJ];simp[strs,bW]
open Go.Proofs
attribute [local irreducible] aD ay aJ aG Ev ah ai ax aZ bE
theorem F6(n:Nat)(h:n<4):aL C 68 [.int .i64 n] (.str ⟨#[UInt8.ofNat (48+n)]⟩):=by
 match n,h with
 |0,_=>exact aL.iE (n:=40) (by kernel_rfl)
 |1,_=>exact aL.iE (n:=40) (by kernel_rfl)
 |2,_=>exact aL.iE (n:=40) (by kernel_rfl)
 |3,_=>exact aL.iE (n:=40) (by kernel_rfl)
@[simp] theorem WS(l:List ByteArray):dj 1 (strs l):=by
 unfold dj;rw[aa4]
 intro v hv
 obtain⟨t,_,rfl⟩:=abB.1 hv
 rfl
end bh
namespace bh
open Go.Proofs
attribute [local irreducible] aD ay aJ aG Ev ah ai ax aZ bE
theorem F9(l:List cW)(hd:nj l<900000):aL C 21 [.aa false (ae (eO l))] (.aa false (ae (bQ l))):=by
 have rS:=ms l;have FQ:=bH (eO l);have hvq:jd ((eO l).flatMap bz)=bQ l:=NA l;rw[<-hvq];refine uT (eO l) ?_ (by omega) (λt ht=>by have:=bU ht;omega)
 have key:∀l:List Tm,(l.flatMap bz).length<=bF l:=by
  intro l
  induction l with
  |nil=>simp[bF]
  |cons t l ih=>
   have:=fj t;simp only[acM,aba,bF];omega
 have:=key (eO l);omega
end bh
def ni(m:List (Int×Int)):List PV:=m.map λx=>.agg [.int .i64 x.1,.int .i64 x.2]
def pL(o:Int):List (Int×Int)->Int
 |[]=>0
 |(a,c)::m=>if a=o then c else pL o m
def pM(o v:Int):List (Int×Int)->List (Int×Int)
 |[]=>[(o,v)]
 |(a,c)::m=>if a=o then(o,v)::m else(a,c)::pM o v m
theorem Du(o v o':Int):∀m,pL o' (pM o v m)=if o'=o then v else pL o' m
 |[]=>by
  by_cases h:o'=o
  simp[pM,pL,h]
  ·have h2:¬o=o':=λe=>h e.symm
   simp[pM,pL,h,h2]
 |(a,c)::m=>by
  rw[pM]
  by_cases h:a=o
  ·rw[if_pos h,pL,pL];subst h
   by_cases h2:a=o'
   rw[if_pos h2,if_pos h2.symm];rw[if_neg h2,if_neg (λe=>h2 e.symm),if_neg h2]
  ·rw[if_neg h,pL,pL,Du o v o' m]
   by_cases h2:a=o'
   rw[if_pos h2,if_pos h2,if_neg (λe=>h (h2.trans e))];rw[if_neg h2,if_neg h2]
theorem xu(o:Int):∀(m:List (Int×Int)) (i:Nat),(mN (.int .i64 o) (ni m) i=some none/\pL o m=0/\∀v,pM o v m=m++[(o,v)])\/∃j,mN (.int .i64 o) (ni m) i=some (some (i+j,.int .i64 (pL o m)))/\∀v,ni (pM o v m)=(ni m).set j (.agg [.int .i64 o,.int .i64 v])
 |[],i=>.inl ⟨rfl,rfl,λv=>rfl⟩
 |(a,c)::m,i=>by
  have he:ni ((a,c)::m)=.agg [.int .i64 a,.int .i64 c]::ni m:=rfl;rw[he]
  by_cases h:a=o
  ·subst h;refine .inr ⟨0,?_,λv=>?_⟩;simp[mN,rW,pL];rw[pM,if_pos rfl];rfl
  ·have hs:rW (.int .i64 o) (.int .i64 a)=some false:=by
    simp only[rW];simp;exact λe=>h e.symm
   rcases xu o m (i+1)with⟨h1,h2,h3⟩|⟨j,h1,h2⟩
   ·refine .inl ⟨?_,?_,λv=>?_⟩
    ·simp only[mN,hs,h1]
    ·rw[pL,if_neg h,h2]
    ·rw[pM,if_neg h,h3];rfl
   ·refine .inr ⟨j+1,?_,λv=>?_⟩
    ·simp only[mN,hs,h1];rw[pL,if_neg h,show i+1+j=i+(j+1) by omega]
    ·rw[pM,if_neg h];show _::ni (pM o v m)=_;rw[h2];rfl
theorem QC(o v:Int)(m:List (Int×Int)):Lv (.int .i64 o) (.int .i64 v) (ni m)=some (ni (pM o v m)):=by
 unfold Lv;rcases xu o m 0 with⟨h1,_,h3⟩|⟨j,h1,h2⟩;rw[h1,h3];simp[ni];rw[h1,h2,abp]
theorem MW(f:Nat->Bool)(m:List (Int×Int)):bL f (ni m)=true:=bt f _ (by rw[bj];simp[ni,aV,ao])
theorem Aq(o:Int)(p:List Tm)(x:Tm):(ku o (p++[x]):Int)=if o=x.o then(ku o p:Int)+1 else ku o p:=by
 unfold ku;rw[acw,aba]
 by_cases h:o=x.o
 rw[if_pos h];simp[h]
 ·have h2:decide (x.o=o)=false:=decide_eq_false λe=>h e.symm
  rw[if_neg h];simp[h2]
def sI:List Tm->List Tm->List PV
 |_,[]=>[]
 |p,x::q=>.agg [.int .i64 x.k,.str x.s,.int .i64 x.o,.aa false (ae x.l),.int .i64 2,.str (⟨#[101,35]⟩++⟨#[UInt8.ofNat (48+ku x.o p)]⟩),.int .i64 x.o,.aa true []]::sI (p++[x]) q
theorem Dv:∀(q p:List Tm),(sI p q).length=q.length
 |[],_=>rfl
 |x::q,p=>by rw[sI,abg,abg,Dv q]
theorem Ar(x:Tm):∀(q p:List Tm),sI p (q++[x])=sI p q++[.agg [.int .i64 x.k,.str x.s,.int .i64 x.o,.aa false (ae x.l),.int .i64 2,.str (⟨#[101,35]⟩++⟨#[UInt8.ofNat (48+ku x.o (p++q))]⟩),.int .i64 x.o,.aa true []]]
 |[],p=>by simp[sI]
 |y::q,p=>by rw[abz,sI,Ar x q,sI,abz,abu];rfl
@[simp] theorem As:∀(q p:List Tm),ao (sI p q)=true
 |[],_=>rfl
 |x::q,p=>by rw[sI,ao,As q];simp[aV,ao]
theorem Au:∀(q p:List Tm),aU (sI p q)=bO (dS p q)
 |[],_=>rfl
 |x::q,p=>by
  rw[sI,aU,Au q,dS];have he:bO (⟨x,pK (ku x.o p) x.o⟩::dS (p++[x]) q)=rr ⟨x,pK (ku x.o p) x.o⟩::bO (dS (p++[x]) q):=rfl;rw[he]
  congr 1
  simp[bW,aU,bg,rr,pK,ae];exact⟨rfl,rfl,rfl,rfl⟩
def oV(l:List cW)(A B:List ByteArray):Int:=if vD.eU A B≠0 then vD.eU A B else if iv l≠0 then iv l else if 0<=bh.lZ l 0 then 9 else 0
def oW(l:List cW)(A B:List ByteArray):List dp:=if oV l A B≠0 then[]else dS [] (bQ l)
namespace vD
open Go.Proofs Go.Pm.bh
variable[iD:Inhabited Prop]
attribute [local irreducible] aD ay aJ aG Ev ah ai ax aZ
theorem Tn{l:List cW}(hd:nj l<900000):∀d∈l,d.kn.length<10000000/\∀t∈d.kn++[d.tm],az t<10000000:=λd CW=>by
 have h1:=Dw CW;have h2:=bH d.kn;refine⟨by omega,λt ht=>?_⟩;rcases aa9.1 ht with ht |ht;have:=bU ht;omega;simp at ht;subst ht;omega
theorem Dx:∀l:List cW,bF (eI l)<=nj l
 |[]=>by simp[eI,bF]
 |d::l=>by
  have h1:=Dx l;have h2:eI (d::l)=d.kn++[d.tm]++eI l:=by simp[eI]
  rw[h2,iP];simp only[nk,bF];omega
theorem MX(l:List cW)(A B:List ByteArray)(Dr:HZ l)(hd:nj l<900000)(hA:∀a∈A,a.size<10000000)(vT:A.length<2000000)(CA:B.length<2000000):
  aL C 39 [.aa false (aQ l),.agg [.aa false (bP A),.aa false (bP B)]] (.cy [.aa false (bO (oW l A B)),.int .i64 (oV l A B)]):=by
 have cz:=cj l;have Fy:=lG l;have h1:=Jl A B hA vT CA;have h2:=up (xv l (by omega) (Tn hd));have h3:=up (bh.F4 l (by omega));have hE:oV l A B=if eU A B≠0 then eU A B else if iv l≠0 then iv l else if 0<=bh.lZ l 0 then 9 else 0:=rfl;have hS:oW l A B=if oV l A B≠0 then[]else dS [] (bQ l):=rfl;rw[hS];refine aL.x T6 Tryz.func39 rfl ?_;refine wA ?_;refine .p h1 ?_;refine wC (λhc=>?_) λhc=>?_
 ·refine .p h2 ?_;refine wC (λhc=>?_) λhc=>?_
  ·refine .p h3 ?_
   by_cases hf:bh.lZ l 0<0
   ·rw[decide_eq_true hf];have h4:=up (qU l (by omega) (by have:=Dx l;omega));have hE0:oV l A B=0:=by rw[hE,if_neg (by omega),if_neg (by omega),if_neg (by omega)]
    rw[hE0,if_neg (by omega)];refine wA ?_;refine .p h4 ?_;refine wA ?_;have hK0:HR ([(⟨.m,0,2,[PV.agg [PV.aa false (bP A),PV.aa false (bP B)]]⟩:au)]++[(⟨.m,0,0,[]⟩:au)]):=((HV.one (by simp)).c8 (HV.one rfl)).hr;refine dw.zip T6 (bQ l) (λp q L K=>∃v m,L=[(8,.cM 1),(9,v),(28,.aa false (ae (bQ l))),(29,.int .i64 (ae (bQ l)).length),(30,.int .i64 p.length)]/\HR K/\K[1]?=some ⟨.m,0,0,ni m⟩/\(∀o,pL o m=ku o p)/\(∀i∈cg v,i≠1)/\Out 8 K v (sI [] p)) (.nx ⟨_,[],rfl,hK0,rfl,λo=>rfl,by simp[cg],.inl ⟨rfl,rfl⟩⟩) ?_ ?_
    ·rintro p x q _ K Y e ⟨v,m,rfl,hK,hKm,hm,WI,ho⟩;have cC:=bD e;have qn:=ak (bQ l);have dO:=lenE e;have hDn:=Dr.n;have Yb:=sA x.o p;have hit:=up (MY (ku x.o p) (by omega));have tK:=Ar x p [];rw[abK]at tK;have hDs:(⟨#[UInt8.ofNat (48+ku x.o p)]⟩:ByteArray).size=1:=rfl;have hEs:(⟨#[101,35]⟩:ByteArray).size=2:=rfl;have QD:=hm x.o;have To:HR (K++[(⟨.m,0,4,[PV.agg [.int .i64 x.k,.str x.s,.int .i64 x.o,.aa false (ae x.l)]]⟩:au)]):=hK.dg (HV.one (by simp));have U8:(K++[(⟨.m,0,4,[PV.agg [.int .i64 x.k,.str x.s,.int .i64 x.o,.aa false (ae x.l)]]⟩:au)])[1]?=some ⟨.m,0,0,ni m⟩:=by rw[aa3 (ag hKm)];exact hKm
     have HP:=ho.c8 [(⟨.m,0,4,[PV.agg [.int .i64 x.k,.str x.s,.int .i64 x.o,.aa false (ae x.l)]]⟩:au)];have Jm:(K++[(⟨.m,0,4,[PV.agg [.int .i64 x.k,.str x.s,.int .i64 x.o,.aa false (ae x.l)]]⟩:au)])[K.length]?=some (⟨.m,0,4,[PV.agg [.int .i64 x.k,.str x.s,.int .i64 x.o,.aa false (ae x.l)]]⟩:au):=by simp
     have hlf:=Dv p [];have hfc:=xu x.o m 0;have hpc:=QC x.o ((ku x.o p:Int)+1) m;rw[QD]at hfc;generalize(⟨#[UInt8.ofNat (48+ku x.o p)]⟩:ByteArray)=Dg at *;generalize ZT:((ku x.o p:Nat):Int)=cn at *;have dG:=To.closed;refine wG ?_;refine .raw (λY'=>?_);refine D.move rfl ?_;refine aZ.sP T6 ?_
     conv=>whnf
     refine aZ.sR T6 ?_ dG (by repeat' (first |exact trivial |exact jS Jm (by simp)|exact jS U8 (by simp)|refine⟨?_,?_⟩|rfl))
     conv=>whnf
     refine wA ?_;refine aZ.sR T6 ?_ dG (by repeat' (first |exact trivial |exact jS Jm (by simp)|exact jS U8 (by simp)|refine⟨?_,?_⟩|rfl))
     conv=>whnf
     rcases hfc with⟨Yc,hf2,_⟩|⟨j,Yc,_⟩
     case' inl=>
      subst hf2;refine .JC Yc (.go ?_) U8
     case' inr=>
      refine .hit Yc (.go ?_) U8
     all_goals
      refine D.mh dG rfl rfl rfl (by simp) (by simp[bL,bw]) rfl (by simpa[aU,bW]using hit) ?_;refine aZ.sP T6 ?_
      conv=>whnf
      refine wA ?_;refine aZ.sP T6 ?_
      conv=>whnf
      refine aZ.sR T6 ?_ dG (by repeat' (first |exact trivial |exact jS Jm (by simp)|exact jS U8 (by simp)|refine⟨?_,?_⟩|rfl))
      conv=>whnf
      refine wA ?_;refine aZ.sP T6 ?_
      conv=>whnf
      refine .Dy (K++[(⟨.m,0,4,[PV.agg [.int .i64 x.k,.str x.s,.int .i64 x.o,.aa false (ae x.l)]]⟩:au)]) [(⟨.m,0,4,[PV.agg [.int .i64 0,.str ByteArray.empty,.int .i64 0,.aa true []]]⟩:au)] ⟨0,λn _=>QE T6 (z:=.agg [.int .i64 0,.str ByteArray.empty,.int .i64 0,.aa true []]) rfl rfl rfl⟩ ?_ (qw _ _) (by simp) dG rfl rfl;refine D.jj T6 (o:=(⟨.m,0,4,[PV.agg [.int .i64 0,.str ByteArray.empty,.int .i64 0,.aa true []]]⟩:au)) (j:=0) rfl rfl rfl rfl (bm (by simp) rfl (by simp)) rfl rfl rfl rfl (aa5 4) ?_;refine aZ.heap (h':=K++[(⟨.m,0,4,[PV.agg [.int .i64 x.k,.str x.s,.int .i64 x.o,.aa false (ae x.l)]]⟩:au)]++[(⟨.m,0,4,[PV.agg [.int .i64 2,.str (⟨#[101,35]⟩++Dg),.int .i64 x.o,.aa true []]]⟩:au)]) (by simp[eZ,cells]) ?_;refine aZ.nil ⟨_,_,rfl,?_⟩
      conv=>whnf
      have hK2:HR (K++[(⟨.m,0,4,[PV.agg [.int .i64 x.k,.str x.s,.int .i64 x.o,.aa false (ae x.l)]]⟩:au)]++[(⟨.m,0,4,[PV.agg [.int .i64 2,.str (⟨#[101,35]⟩++Dg),.int .i64 x.o,.aa true []]]⟩:au)]):=To.dg (HV.one (by simp));have Ps:(K++[(⟨.m,0,4,[PV.agg [.int .i64 x.k,.str x.s,.int .i64 x.o,.aa false (ae x.l)]]⟩:au)]++[(⟨.m,0,4,[PV.agg [.int .i64 2,.str (⟨#[101,35]⟩++Dg),.int .i64 x.o,.aa true []]]⟩:au)])[1]?=some ⟨.m,0,0,ni m⟩:=by rw[aa3 (ag U8)];exact U8
      have FP:(K++[(⟨.m,0,4,[PV.agg [.int .i64 x.k,.str x.s,.int .i64 x.o,.aa false (ae x.l)]]⟩:au)]++[(⟨.m,0,4,[PV.agg [.int .i64 2,.str (⟨#[101,35]⟩++Dg),.int .i64 x.o,.aa true []]]⟩:au)])[K.length]?=some (⟨.m,0,4,[PV.agg [.int .i64 x.k,.str x.s,.int .i64 x.o,.aa false (ae x.l)]]⟩:au):=by rw[aa3 (ag Jm)];exact Jm
      have Aa:=HP.c8 [(⟨.m,0,4,[PV.agg [.int .i64 2,.str (⟨#[101,35]⟩++Dg),.int .i64 x.o,.aa true []]]⟩:au)];refine wA ?_;refine .lr (λv' Yd lr=>?_) Aa
      have MZ:∀i∈cg v',i≠1:=λi hi=>by
       rcases lr.cg i hi with h |h;exact WI i h;have:=ag Ps;omega
      have hm3:Yd[1]?=some ⟨.m,0,0,ni m⟩:=by
       rw[lr.fr _ (ag Ps) (λep n h=>WI 1 (by rw[h];simp[cg]) rfl)];exact Ps
      have hc3:Yd[K.length]?=some (⟨.m,0,4,[PV.agg [.int .i64 x.k,.str x.s,.int .i64 x.o,.aa false (ae x.l)]]⟩:au):=by
       rw[lr.fr _ (ag FP) (λep n h=>by have:=ho.oU K.length (by rw[h];simp[cg]);omega)];exact FP
      have hK3:=lr.hr
      have fin:∀c:Int,((ku x.o p:Nat):Int)=c->HR (Yd.set 1 ⟨.m,0,0,ni (pM x.o (c+1) m)⟩)/\(Yd.set 1 ⟨.m,0,0,ni (pM x.o (c+1) m)⟩)[1]?=some ⟨.m,0,0,ni (pM x.o (c+1) m)⟩/\(∀o,pL o (pM x.o (c+1) m)=ku o (p++[x]))/\(∀i∈cg v',i≠1)/\Out 8 (Yd.set 1 ⟨.m,0,0,ni (pM x.o (c+1) m)⟩) v' (sI [] (p++[x])):=λc hc=>by
       refine⟨hK3.set 1 (by simp) (MW _ _),aa7 (ag hm3),λo=>?_,MZ,?_⟩
       ·rw[Du,Aq,hm o,<-hc]
        by_cases h:o=x.o
        rw[if_pos h,if_pos h,h];rw[if_neg h,if_neg h]
       ·rw[tK];exact lr.out.of_eq λi hi=>aa8 (by have:=MZ i hi;omega)
      refine wA ?_
     case' inl=>refine .JC Yc ?_ hm3
     case' inr=>refine .hit Yc ?_ hm3
     all_goals
      refine wA ?_;refine .mk hpc ?_ hm3;refine wA ?_;exact .nx ⟨v',_,rfl,fin _ ZT⟩
    ·rintro _ K Y ⟨v,m,rfl,hK,hKm,hm,WI,ho⟩;have qn:=ak (bQ l);refine wA ?_;exact Ls.QF (.inl ho) (As _ _) (Au _ _)
   ·rw[decide_eq_false hf];have HB:oV l A B=9:=by rw[hE,if_neg (by omega),if_neg (by omega),if_pos (by omega)]
    refine wA ?_;exact⟨_,rfl,by rw[HB,if_pos (by omega)];simp[aT,bW,aU,bO]⟩
  ·have HB:oV l A B=iv l:=by rw[hE,if_neg (by omega),if_pos (by omega)]
   exact⟨_,rfl,by rw[HB,if_pos (by omega)];simp[aT,bW,aU,bO]⟩
 ·have HB:oV l A B=eU A B:=by rw[hE,if_pos (by omega)]
  exact⟨_,rfl,by rw[HB,if_pos (by omega)];simp[aT,bW,aU,bO]⟩
theorem F5(vs:List Tm)(hl:vs.length<=4):aL C 96 [.aa false (ae vs)] (.aa false (bO (dS [] vs))):=by
 have cz:=ak vs;refine aL.x T6 Tryz.func96 rfl ?_;refine wA ?_;refine dw.zip T6 vs (λp q L H=>∃v,L=[(0,.aa false (ae vs)),(3,v),(4,.int .i64 p.length)]/\HV H/\Out 8 H v (bO (dS [] p))) (.nx ⟨_,rfl,HV.nil,.inl ⟨rfl,rfl⟩⟩) ?_ ?_
 ·rintro p x q _ H Y e ⟨v,rfl,hH,ho⟩;have cC:=bD e;have dO:=lenE e;refine wA ?_;refine dw.zip T6 p (λa b L J=>L=[(0,.aa false (ae vs)),(3,v),(4,.int .i64 p.length),(5,.int .i64 (ku x.o a)),(6,.int .i64 a.length)]/\J=H) (.nx ⟨rfl,rfl⟩) ?_ ?_
  ·rintro a y b _ _ Y e3 ⟨rfl,rfl⟩;have e4:vs=a++y::(b++x::q):=by rw[e,e3];simp
   have na:=bD e4;have CB:=lenE e3;have Ye:=Aq x.o a y;have hca:=sA x.o a;refine wC (λhc=>?_) λhc=>?_
   ·rw[Ye,if_pos (by omega)];exact .nx ⟨rfl,rfl⟩
   ·rw[Ye,if_neg (by omega)];exact .nx ⟨rfl,rfl⟩
  ·rintro _ _ Y ⟨rfl,rfl⟩;have hca:=sA x.o p;have QG:=up (F6 (ku x.o p) (by omega));have hDs:(⟨#[UInt8.ofNat (48+ku x.o p)]⟩:ByteArray).size=1:=rfl;have hEs:(⟨#[101,35]⟩:ByteArray).size=2:=rfl;have tK:=An x p [];rw[abK]at tK;have z7:=sD p [];have hbe:=jO (dS [] p)
   have hwn:bO (dS [] p++[⟨x,pK (ku x.o p) x.o⟩])=bO (dS [] p)++[.agg [.int .i64 x.k,.str x.s,.int .i64 x.o,.aa false (ae x.l),.int .i64 2,.str (⟨#[101,35]⟩++⟨#[UInt8.ofNat (48+ku x.o p)]⟩),.int .i64 x.o,.aa false []]]:=by
    rw[F7];rfl
   generalize(⟨#[UInt8.ofNat (48+ku x.o p)]⟩:ByteArray)=Dg at *;have Yf:=up (iQ (⟨#[101,35]⟩++Dg) x.o);rw[aw]at Yf;refine wA ?_;refine .mk (.str Dg) (by simpa[aU,bW]using QG) ?_;refine wA ?_;refine .mk _ (by simpa[aU,bW]using Yf) ?_;refine wH λv H lp=>?_;refine .nx ⟨_,rfl,lp.hv,?_⟩;rw[tK,hwn];exact lp.out
 ·rintro _ H Y ⟨v,rfl,hH,ho⟩;refine wA ?_;exact Ls.Jf (.inl ho) (by simp) (by simp)
theorem M9(l:List cW)(A B:List ByteArray)(Dr:HZ l)(hd:nj l<900000)(hA:∀a∈A,a.size<10000000)(vT:A.length<2000000)(CA:B.length<2000000):
  aL C 40 [.aa false (aQ l),.agg [.aa false (bP A),.aa false (bP B)]] (.cy [.aa false (bO (oW l A B)),.int .i64 (oV l A B)]):=by
 have cz:=cj l;have Fy:=lG l;have h1:=FJ A B hA vT CA;have h2:=up (M' l (by omega) (Tn hd));have h3:=up (bh.Dz l (by omega));have hE:oV l A B=if eU A B≠0 then eU A B else if iv l≠0 then iv l else if 0<=bh.lZ l 0 then 9 else 0:=rfl;have hS:oW l A B=if oV l A B≠0 then[]else dS [] (bQ l):=rfl;rw[hS];refine aL.x T6 Tryz.func40 rfl ?_;refine wA ?_;refine .p h1 ?_;refine wC (λhc=>?_) λhc=>?_
 ·refine .p h2 ?_;refine wC (λhc=>?_) λhc=>?_
  ·refine .p h3 ?_
   by_cases hf:bh.lZ l 0<0
   ·rw[decide_eq_true hf];have h4:=up (F8 l (by omega));have hE0:oV l A B=0:=by rw[hE,if_neg (by omega),if_neg (by omega),if_neg (by omega)]
    rw[hE0,if_neg (by omega)];refine wA ?_;refine .p h4 ?_;refine wA ?_;refine .p (up (F9 l hd)) ?_;refine wA ?_;refine .p (F5 (bQ l) Dr.n) ?_;refine wA ?_;exact⟨_,rfl,by simp[aT,bW,aU]⟩
   ·rw[decide_eq_false hf];have HB:oV l A B=9:=by rw[hE,if_neg (by omega),if_neg (by omega),if_pos (by omega)]
    refine wA ?_;exact⟨_,rfl,by rw[HB,if_pos (by omega)];simp[aT,bW,aU,bO]⟩
  ·have HB:oV l A B=iv l:=by rw[hE,if_neg (by omega),if_pos (by omega)]
   exact⟨_,rfl,by rw[HB,if_pos (by omega)];simp[aT,bW,aU,bO]⟩
 ·have HB:oV l A B=eU A B:=by rw[hE,if_pos (by omega)]
  exact⟨_,rfl,by rw[HB,if_pos (by omega)];simp[aT,bW,aU,bO]⟩
end vD
namespace bh
open Go.Proofs
attribute [local irreducible] aD ay aJ aG Ev ah ai ax aZ bE
theorem vV(a b:List cW):aQ (a++b)=aQ a++aQ b:=by simp[aQ]
theorem qt(d:cW)(l:List cW):aQ (d::l)=jz d::aQ l:=rfl
def ZN(h:ab)(r:PV)(l:List cW):Prop:=∃id ep tl,r=.aj id ep 0 l.length/\h[id]?=some ⟨.m,ep,5,aQ l++tl⟩/\ao tl=true
theorem ZO{l p q:List cW}{u:cW}{tl:List PV}(e:l=p++u::q):(aQ l++tl)[0+p.length]?=some (.agg [.aa false (ae u.kn),.int .i64 u.tm.k,.str u.tm.s,.int .i64 u.tm.o,.aa false (ae u.tm.l)]):=by
 rw[abp,aa3 (by have:=congrArg List.length e;simp at this;rw[cj];omega)];exact ir e
theorem Mw(l:List cW)(tl:List PV)(g:FuncId)(p:cW->Bool)(id ep:Nat)(H:ab)(e0:H[id]?=some ⟨.m,ep,5,aQ l++tl⟩)(hl:l.length<1000000000)(hp:∀x∈l,aL C g [jz x] (.bool (p x)))(hm:C.mode g=.pure):
  ax C 92 [.aj id ep 0 l.length,.fn g []] H (λr h'=>r=.int .i64 (qM p l)/\fW H h'):=by
 have cz:=cj l;refine ax.x T6 Tryz.func92 rfl ?_;refine wA ?_;refine dw.zip T6 l (λa q L K=>L=[(0,.aj id ep 0 l.length),(1,.fn g []),(7,.int .i64 l.length),(8,.int .i64 a.length)]/\fW H K/\∀y∈a,p y=false) (.nx ⟨rfl,fW.refl _,by simp⟩) ?_ ?_
 ·rintro a x q _ K Y e ⟨rfl,hE,ha⟩;have cC:=ZO (tl:=tl) e;have hK:=hE.at e0;have dO:=lenE e;have vF:=hp x (by rw[e];simp);have hla:(aQ l++tl).length=l.length+tl.length:=by rw[aba,cz]
  rw[jz]at vF;refine wA ?_;refine ai.pure hm rfl (by simpa using vF) ?_
  cases hb:p x
  ·refine wA ?_;exact .nx ⟨rfl,hE,λy hy=>by rcases aa9.1 hy with h |h;exact ha y h;simp at h;rw[h];exact hb⟩
  ·refine wA ?_;exact⟨by rw[e,j4 ha hb];rfl,hE⟩
 ·rintro _ K Y ⟨rfl,hE,ha⟩;refine wA ?_;exact⟨by rw[gi ha];rfl,hE⟩
theorem Qn(l:List cW)(tl:List PV)(ht:ao tl=true)(g:FuncId)(p:cW->Bool)(id ep:Nat)(H:ab)(hH:HR H)(e0:H[id]?=some ⟨.m,ep,5,aQ l++tl⟩)(hl:l.length<1000000000)(hp:∀x∈l,aL C g [jz x] (.bool (p x)))(hm:C.mode g=.pure):
  ax C 37 [.aj id ep 0 l.length,.fn g []] H (λr h'=>(HR h'/\H.length<=h'.length/\∀j,j<H.length->j≠id->h'[j]?=H[j]?)/\r=.aj id ep 0 (l.filter λx=>!p x).length/\ZN h' r (l.filter λx=>!p x)):=by
 have Jp:=Mw l tl g p id ep H e0 hl hp hm;have cz:=cj l
 by_cases mF:∀y∈l,p y=false
 ·rw[gi mF]at Jp
  have FR:(l.filter λx=>!p x)=l:=by
   rw[ac5]
   intro x hx
   rw[mF x hx];rfl
  rw[FR];refine ax.x T6 Tryz.func37 rfl ?_;refine wA ?_;refine .ex Jp (λh' hE=>?_);obtain⟨J,hJ,rfl⟩:=hE;refine wA ?_;exact⟨⟨hH.dg hJ,by simp,λj hj _=>aa3 hj⟩,rfl,id,ep,tl,rfl,by rw[aa3 (ag e0)];exact e0,ht⟩
 ·obtain⟨a,x,b,e,ha,hx⟩:∃a x b,l=a++x::b/\(∀y∈a,p y=false)/\p x=true:=by
   clear Jp hp e0 cz hl
   induction l with
   |nil=>exact absurd (by simp) mF
   |cons y l ih=>
    cases hy:p y with
    |true=>exact⟨[],y,l,rfl,by simp,hy⟩
    |false=>
     obtain⟨a,x,b,rfl,h1,h2⟩:=ih (λh=>mF λz hz=>by rcases abc.1 hz with rfl |hz;exact hy;exact h z hz);exact⟨y::a,x,b,rfl,λz hz=>by rcases abc.1 hz with rfl |hz;exact hy;exact h1 z hz,h2⟩
  have hi:qM p l=a.length:=by rw[e];exact j4 ha hx
  rw[hi]at Jp
  have XJ:(a.filter λx=>!p x)=a:=by
   rw[ac5]
   intro y hy
   rw[ha y hy];rfl
  have o8:=lenE e;refine ax.x T6 Tryz.func37 rfl ?_;refine wA ?_;refine .ex Jp (λh' hE=>?_);obtain⟨J,hJ,rfl⟩:=hE;have Jq:=ag e0;have e1:(H++J)[id]?=some ⟨.m,ep,5,aQ l++tl⟩:=by rw[aa3 Jq];exact e0
  refine wA ?_;refine dw.zip T6 b (λc q L K=>L=[(0,.aj id ep 0 l.length),(1,.fn g []),(5,.int .i64 (a++c.filter λx=>!p x).length),(6,.int .i64 (a.length+1+c.length))]/\(HR K/\H.length<=K.length/\∀j,j<H.length->j≠id->K[j]?=H[j]?)/\∃N,0<N.length/\K[id]?=some ⟨.m,ep,5,aQ (a++c.filter λx=>!p x)++aQ N++(aQ q++tl)⟩/\(a++c.filter λx=>!p x).length+N.length+q.length=l.length) (.nx ⟨rfl,⟨hH.dg hJ,by simp,λj hj _=>aa3 hj⟩,[x],by simp,?_,?_⟩) ?_ ?_;rw[e1,e,vV,qt];simp[aQ];simp;omega
  ·rintro c u q _ K Y e2 ⟨rfl,⟨hK,Qo,HT⟩,N,hM,hA,hn⟩;have vF:=hp u (by rw[e,e2];simp);rw[jz]at vF
   have hFs:a++(c++[u]).filter (λx=>!p x)=(a++c.filter λx=>!p x)++if p u then[]else[u]:=by
    rw[acw,abu]
    cases hb:p u <;>simp[hb]
   rw[hFs];obtain⟨F,hF⟩:∃F,F=a++c.filter λx=>!p x:=⟨_,rfl⟩
   rw[<-hF]at hA hn ⊢;have Ur:=cj F;have hNl:=cj N;have dO:=congrArg List.length e2;simp only[aba,abg]at dO hn;have dG:F.length+N.length=a.length+1+c.length:=by omega
   obtain⟨A,zr⟩:∃A,A=aQ F++aQ N++(aQ (u::q)++tl):=⟨_,rfl⟩;rw[<-zr]at hA
   have cC:A[0+(a.length+1+c.length)]?=some (.agg [.aa false (ae u.kn),.int .i64 u.tm.k,.str u.tm.s,.int .i64 u.tm.o,.aa false (ae u.tm.l)]):=by
    rw[zr,abp,abd (by simp;omega)];simp only[aba];rw[show a.length+1+c.length - ((aQ F).length+(aQ N).length)=0 by omega,qt,jz]
    rfl
   have vT:A.length=l.length+tl.length:=by
    rw[zr];simp only[aba,abg,cj];omega
   have Us:=ag hA;have f0:(K++[(⟨.m,0,5,[.agg [.aa false (ae u.kn),.int .i64 u.tm.k,.str u.tm.s,.int .i64 u.tm.o,.aa false (ae u.tm.l)]]⟩:au)])[id]?=some ⟨.m,ep,5,A⟩:=by rw[aa3 Us];exact hA
   have fb:(K++[(⟨.m,0,5,[.agg [.aa false (ae u.kn),.int .i64 u.tm.k,.str u.tm.s,.int .i64 u.tm.o,.aa false (ae u.tm.l)]]⟩:au)])[K.length]?=some ⟨.m,0,5,[.agg [.aa false (ae u.kn),.int .i64 u.tm.k,.str u.tm.s,.int .i64 u.tm.o,.aa false (ae u.tm.l)]]⟩:=by simp
   have vW:aQ (u::q)=.agg [.aa false (ae u.kn),.int .i64 u.tm.k,.str u.tm.s,.int .i64 u.tm.o,.aa false (ae u.tm.l)]::aQ q:=by rw[qt,jz]
   have Jr:aQ [u]=[.agg [.aa false (ae u.kn),.int .i64 u.tm.k,.str u.tm.s,.int .i64 u.tm.o,.aa false (ae u.tm.l)]]:=by rw[qt,jz];rfl
   refine wA ?_;refine ai.pure hm rfl (by simpa using vF) ?_
   cases hb:p u
   ·obtain⟨y,N2,rfl⟩:∃y N2,N=y::N2:=by
     cases N with
     |nil=>simp at hM
     |cons y M2=>exact⟨y,M2,rfl⟩
    have ey:A[0+F.length]?=some (.agg [.aa false (ae y.kn),.int .i64 y.tm.k,.str y.tm.s,.int .i64 y.tm.o,.aa false (ae y.tm.l)]):=by
     rw[zr,abp,abu,abd (by omega),Ur,acz,qt,jz];rfl
    have jm:A.set (0+F.length) (.agg [.aa false (ae u.kn),.int .i64 u.tm.k,.str u.tm.s,.int .i64 u.tm.o,.aa false (ae u.tm.l)])=aQ (F++[u])++aQ (N2++[u])++(aQ q++tl):=by
     rw[zr,abp,abu,ack _ _ (by omega),Ur,acz,vW,vV,vV,Jr,qt];simp
    simp only[abg]at dG hn;rw[if_neg (by simp)];refine wA ?_;refine .nx ⟨rfl,⟨(hK.dg (HV.one (by simp))).set id (by simp) ?_,by simp;omega,λj h1 h2=>by rw[aa8 (by omega),aa3 (by omega)];exact HT j h1 h2⟩,N2++[u],by simp,?_,by simp at hn ⊢;omega⟩
    ·rw[jm];exact bt _ _ (by rw[ck,ck,ck,ht];simp)
    ·rw[<-jm];exact aa7 (ag f0)
   ·rw[if_pos rfl,abv];refine wA ?_;refine .nx ⟨rfl,⟨hK.dg (HV.one (by simp)),by simp;omega,λj h1 h2=>by rw[aa3 (by omega)];exact HT j h1 h2⟩,N++[u],by simp,?_,by simp at hn ⊢;omega⟩;rw[f0,zr,vW,vV,Jr];simp
  ·rintro _ K Y ⟨rfl,⟨hK,Qo,HT⟩,N,hM,hA,hn⟩;have oS:(l.filter λx=>!p x)=a++b.filter λx=>!p x:=by rw[e,acw,XJ,ads,if_neg (by simp[hx])]
   rw[oS];have Ur:=cj (a++b.filter λx=>!p x);have hNl:=cj N;generalize(a++b.filter λx=>!p x)=F at *;simp only[abH,acA]at hn;obtain⟨A,zr⟩:∃A,A=aQ F++aQ N++(aQ []++tl):=⟨_,rfl⟩;rw[<-zr]at hA
   have vT:A.length=l.length+tl.length:=by
    rw[zr];simp only[aba,cj,abH];omega
   have hg:getM K id ep=some ⟨.m,ep,5,A⟩:=bm hA rfl (by simp)
   have jm:A.take F.length++List.replicate (l.length - F.length) (PV.agg [.aa true [],.int .i64 0,.str ByteArray.empty,.int .i64 0,.aa true []])++A.drop (F.length+(l.length - F.length))=aQ F++(List.replicate (l.length - F.length) (PV.agg [.aa true [],.int .i64 0,.str ByteArray.empty,.int .i64 0,.aa true []])++tl):=by
    rw[zr,abq (by simp <;>omega),abq (by omega),abo (by omega),abu]
    congr 2
    rw[show aQ F++aQ N++(aQ []++tl)=(aQ F++aQ N)++tl by simp[aQ],ab1 (by simp <;>omega),List.drop_of_length_le (by simp <;>omega),abK]
   have vC:ao (List.replicate (l.length - F.length) (PV.agg [.aa true [],.int .i64 0,.str ByteArray.empty,.int .i64 0,.aa true []])++tl)=true:=by
    rw[ck,ht,acU,bj,aa4]
    intro y hy
    rw[abU hy];rfl
   refine wA ?_;refine .mk (λrun lv Y=>Td T6 (o:=⟨.m,ep,5,A⟩) rfl rfl rfl rfl hg rfl (by show _<=A.length;omega) (by omega)) ?_;refine wA ?_;refine .mk (λrun Y=>Te T6 (o:=⟨.m,ep,5,A⟩) rfl rfl rfl rfl hg rfl (by show _<=A.length;omega) rfl rfl) ?_;rw[show(⟨.m,ep,5,A.take F.length++List.replicate (l.length - F.length) (PV.agg [.aa true [],.int .i64 0,.str ByteArray.empty,.int .i64 0,.aa true []])++A.drop (F.length+(l.length - F.length))⟩:au)=⟨.m,ep,5,aQ F++(List.replicate (l.length - F.length) (PV.agg [.aa true [],.int .i64 0,.str ByteArray.empty,.int .i64 0,.aa true []])++tl)⟩ by rw[jm]];have f1:(K.set id (⟨.m,ep,5,aQ F++(List.replicate (l.length - F.length) (PV.agg [.aa true [],.int .i64 0,.str ByteArray.empty,.int .i64 0,.aa true []])++tl)⟩:au))[id]?=some ⟨.m,ep,5,aQ F++(List.replicate (l.length - F.length) (PV.agg [.aa true [],.int .i64 0,.str ByteArray.empty,.int .i64 0,.aa true []])++tl)⟩:=aa7 (ag hA);have LW:(aQ F++(List.replicate (l.length - F.length) (PV.agg [.aa true [],.int .i64 0,.str ByteArray.empty,.int .i64 0,.aa true []])++tl)).length=l.length+tl.length:=by simp only[aba,acj];omega
   have tH:=bm f1 rfl (by simp);refine wA ?_;refine .mk (λrun lv Y=>Tf T6 (o:=⟨.m,ep,5,aQ F++(List.replicate (l.length - F.length) (PV.agg [.aa true [],.int .i64 0,.str ByteArray.empty,.int .i64 0,.aa true []])++tl)⟩) rfl rfl rfl rfl tH rfl (by rw[show(⟨.m,ep,5,aQ F++(List.replicate (l.length - F.length) (PV.agg [.aa true [],.int .i64 0,.str ByteArray.empty,.int .i64 0,.aa true []])++tl)⟩:au).es.length=_ from LW];omega) (by omega)) ?_;refine wA ?_;exact⟨⟨hK.set id (by simp) (bt _ _ (by rw[ck,vC];simp)),by simp;omega,λj h1 h2=>by rw[aa8 (by omega)];exact HT j h1 h2⟩,rfl,id,ep,_,rfl,f1,vC⟩
theorem Mx(d:cW):aL C 38 [jz d] (.bool (decide (d.tm.k≠1))):=by
 rw[jz];refine aL.x T6 Tryz.func38 rfl ?_;refine wC (λhc=>?_) λhc=>?_
 all_goals exact⟨_,rfl,by simp[aT,bW, *]⟩
end bh
namespace vD
open Go.Proofs Go.Pm.bh
variable[iD:Inhabited Prop]
attribute [local irreducible] aD ay aJ aG Ev ah ai ax aZ
theorem XG{C:cG}(T:kJ C.P){run:gW}{ops:Array Oper}{b:List Nat}{h0:ab}{i:Nat}{L:Al}{Y:Nat->PV}{h:ab}{d x c off:Nat}{o:au}{t:TypeId}{v:PV}{y:TypeId}{s:String}{a:Array Edge}
  (hx:lk L x=some (.ptr c 0 0 off)) (hc:h0[c]?=some o) (hm:o.mu≠.m) (hs:so T (.load t (.tmp x)) L h (λy=>y=v)):cT C run ops b h0 i ⟨some d,.load t (.tmp x),y,s,a,none⟩ ⟨al L Y,h⟩=some ⟨al ((d,v)::L) Y,h⟩:=by
 obtain⟨hh,v',e,rfl⟩:=jN T hs;have hp:al L Y x=.ptr c 0 0 off:=dn hx Y;refine Wx hh rfl ?_ (by have:=e run 1 Y;exact this);have:qJ (.load t (.tmp x)) (al L Y)=some c:=by simp only[qJ,ev,hp]
 simp only[kG,this,nQ,hc];simp[hm]
def Up(l:List ByteArray):Bool:=l.all (λa=>decide (a.size<=60))&&decide (l.length<=20)
theorem Mt(A B:List ByteArray)(hl:A.length<2000000)(dO:B.length<2000000):aL C 36 [.agg [.aa false (bP A),.aa false (bP B)]] (.bool (Up (A++B))):=by
 have cz:=jn A;have CA:=jn B;refine aL.x T6 Tryz.func36 rfl ?_;refine wA ?_
 have gK:∀l:List ByteArray,dj 1 (bP l):=λl=>by
  unfold dj;rw[aa4]
  intro v hv
  obtain⟨n,_,rfl⟩:=abB.1 hv
  rfl
 obtain⟨w,J1,Ql,_,hJ,zq,HP⟩:=FK T6 (lv:=2) (by omega) (H:=[(⟨.l,0,2,[PV.agg [PV.aa false (bP A),PV.aa false (bP B)]]⟩:au)]) (st:=59) (xt:=59) (u:=.aa false (bP A)) (es:=[]) (ys:=bP A) rfl rfl rfl rfl rfl (by decide) rfl rfl rfl rfl (gK A) (by simp;omega);have HP:=HP rfl;obtain⟨r,G2,Qm,a2⟩:=Bz T6 (H:=[(⟨.l,0,2,[PV.agg [PV.aa false (bP A),PV.aa false (bP B)]]⟩:au)]++J1) (st:=59) (xt:=59) (v:=w) (u:=.aa false (bP B)) (es:=bP A) (ys:=bP B) rfl rfl rfl rfl rfl (by decide) rfl rfl HP rfl (by simp[cg]) (gK B) (by simp;omega);have Hx:([(⟨.l,0,2,[PV.agg [PV.aa false (bP A),PV.aa false (bP B)]]⟩:au)]:ab).length<=([(⟨.l,0,2,[PV.agg [PV.aa false (bP A),PV.aa false (bP B)]]⟩:au)]++J1).length:=by simp
 have Pu:∀(j:Nat) (o:au),([(⟨.l,0,2,[PV.agg [PV.aa false (bP A),PV.aa false (bP B)]]⟩:au)]:ab)[j]?=some o->o.mu≠.m->([(⟨.l,0,2,[PV.agg [PV.aa false (bP A),PV.aa false (bP B)]]⟩:au)]++J1)[j]?=some o:=λj o h _=>by rw[aa3 (ag h)];exact h
 have zU:∀(j:Nat) (o:au),G2[j]?=some o->o.mu≠.l\/(cE [0] [(⟨.m,0,2,[PV.agg [PV.aa false (bP A),PV.aa false (bP B)]]⟩:au)])[j]?=some o:=λj o hj=>by
  rcases a2.FM j o hj with h |h;exact .inl h
  ·by_cases h0:j=0
   ·subst h0;have h2:some (⟨.l,0,2,[PV.agg [PV.aa false (bP A),PV.aa false (bP B)]]⟩:au)=some o:=by simpa using h
    exact .inr h2
   ·left
    rw[abd (by simp;omega)]at h;rcases hJ with rfl |rfl;simp at h
    ·have:=abh h;simp at this;rw[this];simp
 refine .calm ?_ _ (HQ (c:=0) (λ_=>rfl) rfl (by simp) zU (λrun Y=>?_)) ?_
 rotate_left
 ·refine(rT (Xu rfl rfl rfl (Qf T6 (by exact rfl) rfl))).trans ?_;refine(rT (kP T6 (by exact rfl))).trans ?_;refine(rT (XG T6 (c:=0) (off:=0+0) (o:=(⟨.l,0,2,[PV.agg [PV.aa false (bP A),PV.aa false (bP B)]]⟩:au)) (v:=.aa false (bP A)) rfl rfl (by simp) (by(conv=>whnf);exact .mk (o:=(⟨.l,0,2,[PV.agg [PV.aa false (bP A),PV.aa false (bP B)]]⟩:au)) (.go (.mk (.go (by conv=>whnf)) rfl)) rfl))).trans ?_;refine(rT (SX rfl rfl rfl rfl (vE rfl rfl Ql) Hx Pu)).trans ?_;refine(rT (kP T6 (by exact rfl))).trans ?_;refine(rT (XG T6 (c:=0) (off:=0+1) (o:=(⟨.l,0,2,[PV.agg [PV.aa false (bP A),PV.aa false (bP B)]]⟩:au)) (v:=.aa false (bP B)) rfl rfl (by simp) (by(conv=>whnf);exact .mk (o:=(⟨.l,0,2,[PV.agg [PV.aa false (bP A),PV.aa false (bP B)]]⟩:au)) (.go (.mk (.go (by conv=>whnf)) rfl)) rfl))).trans ?_;refine(rT (SX rfl rfl rfl rfl (vE rfl rfl Qm) a2.len a2.aR)).trans ?_;refine(rT (kP T6 (by exact rfl))).trans ?_;exact rfl
 ·have E0:∀i∈cg r,i≠0:=λi hi=>by
   rcases a2.cg i hi with h |h;have:=zq i h;simp at this;omega;simp at h;omega
  have o3:Out 1 (dW [0] [(⟨.m,0,2,[PV.agg [PV.aa false (bP A),PV.aa false (bP B)]]⟩:au)] G2) r (bP A++bP B):=a2.out.of_eq λi hi=>BA (E0 i hi)
  rw[show bP A++bP B=bP (A++B) by simp[bP]]at o3;have o8:(A++B).length=A.length+B.length:=aba;generalize dW [0] [(⟨.m,0,2,[PV.agg [PV.aa false (bP A),PV.aa false (bP B)]]⟩:au)] G2=G at *;generalize A++B=l at *;have pB:=jn l;have hF:Up l=(l.all (λa=>decide (a.size<=60))&&decide (l.length<=20)):=rfl;rcases o3 with⟨rfl,e0⟩|⟨id,ep,rfl,hid⟩
  ·have:l=[]:=abj (by rw[<-pB,e0];rfl);subst this;refine wA ?_;refine dw.zip T6 ([]:List ByteArray) (λa b L J=>L=[(3,.aa true []),(4,.int .i64 a.length)]/\J=G) (.nx ⟨rfl,rfl⟩) ?_ ?_
   ·rintro a u b _ J Y e _
    cases a <;>cases e
   ·rintro _ _ Y ⟨rfl,rfl⟩;refine wA ?_;exact⟨_,rfl,rfl⟩
  ·refine wA ?_;refine dw.zip T6 l (λa b L J=>L=[(3,.aj id ep 0 (bP l).length),(4,.int .i64 a.length)]/\J=G/\a.all (λa=>decide (a.size<=60))=true) (.nx ⟨rfl,rfl,rfl⟩) ?_ ?_
   ·rintro a u b _ _ Y e ⟨rfl,rfl,ha⟩;have cC:(bP l)[0+a.length]?=some (.str u):=by rw[abp];exact od e
    have CB:=lenE e;refine wC (λhc=>?_) λhc=>?_;exact⟨_,rfl,by rw[hF,e,ab5,abZ,decide_eq_false (p:=u.size<=60) (by omega)];simp[aT,bW]⟩;exact .nx ⟨rfl,rfl,by rw[ab5,ha,abZ,decide_eq_true (p:=u.size<=60) (by omega)];rfl⟩
   ·rintro _ _ Y ⟨rfl,rfl,ha⟩;refine wC (λhc=>?_) λhc=>?_;exact⟨_,rfl,by rw[hF,ha,decide_eq_true (p:=l.length<=20) (by omega)];rfl⟩;exact⟨_,rfl,by rw[hF,ha,decide_eq_false (p:=l.length<=20) (by omega)];rfl⟩
def LD(h:ab)(v:PV)(l:List cW):Prop:=(∃f,v=.aa f (aQ l))\/∃id ep mu tl,v=.aj id ep 0 l.length/\h[id]?=some ⟨mu,ep,5,aQ l++tl⟩/\(mu=.m\/mu=.f)/\ao tl=true
def Of(h h':ab):Prop:=h.length<=h'.length/\(∀(j:Nat) (o:au),h[j]?=some o->∃mu:Mu,h'[j]?=some ⟨mu,o.ep,o.bA,o.es⟩/\(mu=o.mu\/mu=.f))/\(HR h->HR h')
theorem Of.refl(h:ab):Of h h:=⟨aa5 _,λ_ o e=>⟨o.mu,e,.inl rfl⟩,λh=>h⟩
theorem Of.Pz{ids:List Nat}{h h':ab}(z:Py ids h h'):Of h h':=⟨by rw[z.len];exact aa5 _,z.nL,z.hr⟩
theorem Of.c8{h:ab}(J:ab)(hr:HR h->HR (h++J)):Of h (h++J):=⟨by simp,λj o e=>⟨o.mu,by rw[aa3 (ag e)];exact e,.inl rfl⟩,hr⟩
theorem LD.kp{h h':ab}{v:PV}{l:List cW}(k:Of h h')(x:LD h v l):LD h' v l:=by
 rcases x with x |⟨id,ep,mu,tl,rfl,e,hm,ht⟩;exact .inl x
 ·obtain⟨QM,e',JJ⟩:=k.2.1 id _ e;exact .inr ⟨id,ep,QM,tl,rfl,e',by rcases JJ with rfl |rfl;exact hm;exact .inr rfl,ht⟩
theorem LD.PA{h:ab}{v:PV}{l:List cW}(x:LD h v l):bw (aO h) v=true:=by
 rcases x with⟨f,rfl⟩|⟨id,ep,mu,tl,rfl,e,hm,ht⟩;exact sy _ _ (by simp[aV]);exact jS e (by rcases hm with rfl |rfl <;>simp)
def Bx(h:ab)(b:PV):Prop:=∃mu:Mu,h[0]?=some ⟨mu,0,2,[b]⟩/\(mu=.m\/mu=.f)
theorem Bx.kp{h h':ab}{b:PV}(k:Of h h')(x:Bx h b):Bx h' b:=by
 obtain⟨mu,e,hm⟩:=x;obtain⟨QM,e',JJ⟩:=k.2.1 0 _ e;exact⟨QM,e',by rcases JJ with rfl |rfl;exact hm;exact .inr rfl⟩
theorem jX(h:ab):∀l:List PV,ao l=true->ie h l=some l
 |[],_=>rfl
 |c::l,hl=>by
  simp only[ao,abb]at hl;have h1:∀p:PV,aV p=true->oE h p=some p:=λp hp=>by cases p <;>first |(simp only[oE];exact if_pos hp)|(exfalso;simp at hp;done)
  have h2:∀cs:List PV,ao cs=true->nP h cs=some cs:=by
   intro cs
   induction cs with
   |nil=>intro _;rfl
   |cons d cs ih=>
    intro hc
    simp only[ao,abb]at hc;simp only[nP,h1 d hc.1,ih hc.2]
  have h3:kY h c=some c:=by
   cases c with
   |agg cs=>simp only[kY,h2 cs (by simpa[aV]using hl.1)];rfl
   |_=>exact h1 _ hl.1
  simp only[ie,h3,jX h l hl.2]
theorem LD.call{f:FuncId}{h:ab}{v x R:PV}{l:List cW}{Q:PV->ab->Prop}(hx:aV x=true)(hxn:bW x=x)(hxi:jA [x]=[])(k:LD h v l)(a:aL C f [.aa false (aQ l),x] R)(q:∀h',Of h h'->Q R h')(hm:C.mode f=.pure:=by rfl):ai C 2 f [v,x] h Q:=by
 rcases k with⟨fl,rfl⟩|⟨id,ep,mu,tl,rfl,e,oZ,ht⟩
 ·refine ai.pure hm (by simp[ao,aV,hx]) ?_ (q h (.refl h));simpa[aU,bW,hxn]using a
 ·have Az:mu≠.x:=by rcases oZ with rfl |rfl <;>simp
  have Di:List.take l.length (aQ l++tl)=aQ l:=by rw[abq (by simp),abo (by simp)]
  have xg:kY h (.aj id ep 0 l.length)=some (.aa false (aQ l)):=by simp[kY,oE,bm e rfl Az,oZ,Di]
  have Ud:ie h [x]=some [x]:=jX h [x] (by simp[ao,hx])
  have rp:jA [.aj id ep 0 l.length,x]=[id]:=by
   have:jA [.aj id ep 0 l.length,x]=[id]++jA [x]:=rfl;rw[this,hxi];rfl
  refine ai.Yj (hm:=hm) (args':=[.aa false (aQ l),x]) (by rw[ie,xg,Ud]) (by simp[ao,aV]) (λi hi=>?_) (by simpa[aU,bW,hxn]using a) (λh' z=>q h' (.Pz z));rw[rp]at hi;simp at hi;subst hi;exact⟨_,e,by rw[ck,ht];simp,oZ⟩
theorem yd(l:List cW)(hl:l.length<1000000000)(f:Bool)(G:ab):fB 5 [.aa f (aQ l)] G=if l=[]then some (.aa true [],G)else some (.aj G.length 0 0 l.length,newObj G 5 (aQ l)):=by
 cases l with
 |nil=>rfl
 |cons d l=>
  rw[if_neg (by simp)];have ho:=yb (d::l);unfold dj at ho;have hn:(aQ (d::l)).length<1000000000:=by rw[cj];exact hl
  have he:(aQ (d::l)).isEmpty=false:=rfl;show bB 5 [.aa f (aQ (d::l))] G=_;unfold bB;simp only[he,abi,if_false];rw[if_pos ⟨ho,hn⟩,cj]
theorem ye(l:List cW)(hl:l.length<1000000000){G:ab}{id ep:Nat}{mu:Mu}{tl:List PV}(e:G[id]?=some ⟨mu,ep,5,aQ l++tl⟩)(hm:mu≠.x):fB 5 [.aj id ep 0 l.length] G=if l=[]then some (.aa true [],G)else some (.aj G.length 0 0 l.length,newObj G 5 (aQ l)):=by
 have Di:List.take l.length (aQ l++tl)=aQ l:=by rw[abq (by simp),abo (by simp)]
 have ho:=yb l;unfold dj at ho;unfold fB;simp only[e,Di];rw[if_pos ⟨hm,by simp,by simp,by simp,by simp,ho,hl⟩]
 cases l with
 |nil=>rfl
 |cons d l=>rw[if_neg (by simp),if_neg (by simp)]
theorem LD.clone{h:ab}{v:PV}{l:List cW}(k:LD h v l)(hl:l.length<1000000000):∃r J,fB 5 [v] (h.map bI)=some (r,h.map bI++J)/\fB 5 [v] h=some (r,h++J)/\LD (h++J) r l/\HV J/\(J.all λo=>decide (o.mu≠.l))=true/\bw (aO (h++J)) r=true:=by
 have h1:fB 5 [v] (h.map bI)=(if l=[]then some (.aa true [],h.map bI)else some (.aj h.length 0 0 l.length,newObj (h.map bI) 5 (aQ l)))/\fB 5 [v] h=(if l=[]then some (.aa true [],h)else some (.aj h.length 0 0 l.length,newObj h 5 (aQ l))):=by
  rcases k with⟨fl,rfl⟩|⟨id,ep,mu,tl,rfl,e,oZ,ht⟩;exact⟨by rw[yd l hl,ace],yd l hl fl h⟩
  ·have e2:∃QM:Mu,(h.map bI)[id]?=some ⟨QM,ep,5,aQ l++tl⟩/\QM≠.x:=by
    rw[abm,e];rcases oZ with rfl |rfl;exact⟨.l,rfl,by simp⟩;exact⟨.f,rfl,by simp⟩
   obtain⟨QM,e2,Ps⟩:=e2;exact⟨by rw[ye l hl e2 Ps,ace],ye l hl e (by rcases oZ with rfl |rfl <;>simp)⟩
 obtain⟨h1,h2⟩:=h1
 by_cases h0:l=[]
 ·rw[if_pos h0]at h1 h2;refine⟨_,[],by rw[h1,abv],by rw[h2,abv],.inl ⟨true,by rw[h0];rfl⟩,HV.nil,rfl,rfl⟩
 ·rw[if_neg h0]at h1 h2;refine⟨_,[⟨.m,0,5,aQ l⟩],h1,h2,.inr ⟨h.length,0,.m,[],rfl,by simp,.inl rfl,rfl⟩,HV.one (by simp),by simp,?_⟩;show aO _ h.length=true;exact jS (o:=⟨.m,0,5,aQ l⟩) (by simp) (by simp)
def Mk(h:ab)(v:PV)(l:List cW):Prop:=(v=.aa false []/\l=[])\/∃id,id≠0/\v=.aj id 0 0 l.length/\h[id]?=some ⟨.m,0,5,aQ l++[]⟩
theorem Mk.ld{h:ab}{v:PV}{l:List cW}(k:Mk h v l):LD h v l:=by
 rcases k with⟨rfl,rfl⟩|⟨id,_,rfl,e⟩;exact .inl ⟨false,rfl⟩;exact .inr ⟨id,0,.m,[],rfl,e,.inl rfl,rfl⟩
theorem Ko{bs:List (List Nat)}(gh:Wz.okB bs){c:PV}{Q:PV->ab->Prop}(hc:aV c=true)
  (q:∀v h,Mk h v (fM bs)->Bx h c->HR h->Q v h):ai C 2 19 [.aa false (dZ bs)] [⟨.m,0,2,[c]⟩] Q:=by
 have hm:=Wz.RA gh false [⟨.m,0,2,[c]⟩];have hr:HV ([⟨.m,0,2,[c]⟩]:ab):=HV.one (by simp[ao,hc])
 by_cases h0:fM bs=[]
 ·rw[if_pos h0]at hm;exact ai.prL hm (q _ _ (.inl ⟨rfl,h0⟩) ⟨.m,rfl,.inl rfl⟩ hr.hr)
 ·rw[if_neg h0]at hm;exact ai.prL hm (q _ _ (.inr ⟨1,by simp,by rw[cj];rfl,by rw[abv];rfl⟩) ⟨.m,rfl,.inl rfl⟩ (hr.c8 (HV.one (by simp))).hr)
theorem RB(g:FuncId)(H:ab):ax C 92 [.aa false [],.fn g []] H (λr h'=>r=.int .i64 (-1)/\h'=H):=by
 refine ax.x T6 Tryz.func92 rfl ?_;refine wA ?_;refine dw.zip T6 ([]:List Tm) (λp q L K=>L=[(0,.aa false []),(1,.fn g []),(7,.int .i64 0),(8,.int .i64 p.length)]/\K=H) (.nx ⟨rfl,rfl⟩) ?_ ?_
 ·rintro p u q _ K Y e _
  cases p <;>cases e
 ·rintro _ _ Y ⟨rfl,rfl⟩;refine wA ?_;exact⟨rfl,rfl⟩
theorem RC(g:FuncId)(H:ab):ax C 37 [.aa false [],.fn g []] H (λr h'=>r=.aa false []/\h'=H):=by
 refine ax.x T6 Tryz.func37 rfl ?_;refine wA ?_;refine .ln (RB g H) (λr h' hr=>by rw[hr.2]) (λr h' hr=>?_);obtain⟨rfl,rfl⟩:=hr;refine wA ?_;exact⟨rfl,rfl⟩
def B8(l:List cW):List cW:=l.filter λd=>!(decide (d.tm.k≠1))
theorem Og{h:ab}{v c:PV}{l:List cW}{Q:PV->ab->Prop}(k:Mk h v l)(bx:Bx h c)(hr:HR h)(hl:l.length<1000000000)(q:∀v' h',LD h' v' (B8 l)->Bx h' c->HR h'->Q v' h'):
  ai C 2 37 [v,.fn 38 []] h Q:=by
 rcases k with⟨rfl,rfl⟩|⟨id,Jq,rfl,e⟩
 ·refine ai.ln (RC _ h) (λr h' hr=>by rw[hr.2]) (λr h' hp=>?_);obtain⟨rfl,rfl⟩:=hp;exact q _ _ (.inl ⟨false,rfl⟩) bx hr
 ·have a:=upE (Qn l [] rfl 38 (λd=>decide (d.tm.k≠1)) id 0 h hr e hl (λd _=>Mx d) rfl);obtain⟨mu,b1,b2⟩:=bx;have h0:=ag b1;have mR:=ag e;refine ai.sm a (λr h' p=>⟨p.1.1,p.1.2.1⟩) (λr h' p=>?_) (λr h' p QN=>?_)
  ·obtain⟨⟨h1,h2,h3⟩,rfl,dF,h9,tl,e1,e2,e3⟩:=p
   cases e1
   exact q _ _ (.inr ⟨id,0,.m,tl,rfl,e2,.inl rfl,e3⟩) ⟨mu,by rw[h3 0 h0 (λhh=>Jq hh.symm)];exact b1,b2⟩ h1
  ·obtain⟨⟨h1,h2,h3⟩,rfl,dF,h9,tl,e1,e2,e3⟩:=p
   cases e1
   exact q _ _ (.inr ⟨id,0,.m,tl,rfl,by rw[abE mR];exact e2,.inl rfl,e3⟩) ⟨mu,by rw[abE h0,h3 0 h0 (λhh=>Jq hh.symm)];exact b1,b2⟩ QN
theorem Oh{l:List cW}{d:cW}(h:d∈B8 l):d∈l:=(abV.1 h).1
theorem Ix:∀l:List cW,nj (B8 l)<=nj l
 |[]=>by simp[B8]
 |d::l=>by
  have h1:=Ix l;unfold B8 at h1 ⊢;rw[ads]
  split
  rw[iP,iP];omega;rw[iP];omega
theorem D7{l:List cW}:∀y∈bQ (B8 l),y∈bQ l:=λy hy=>by
 simp only[bQ,abV,decide_eq_true_eq,jQ]at hy ⊢;obtain⟨hy,hk⟩:=hy;obtain⟨t,ht,hp⟩:=dR.1 ((fq _ _).1 hy);obtain⟨d,hd,ht⟩:=abY.1 ht;exact⟨(fq _ _).2 (dR.2 ⟨t,abY.2 ⟨d,Oh hd,ht⟩,hp⟩),hk⟩
theorem RD{l:List cW}(D:HZ l):HZ (B8 l):=by
 refine⟨λd hd t ht=>D.f d (Oh hd) t ht,λy hy=>D.v y (D7 y hy),?_⟩;have h1:(bQ (B8 l)).Nodup:=JR (gH (jo _));exact abQ (Ny h1 D7) D.n
theorem YX{run:gW}{L:Al}{Y:Nat->PV}{h J:ab}{x:Operand}{xs:List Operand}{zf:Array TypeId}{f:FuncId}{g:List PV->ab->Option (PV×ab)}{args:List PV}{r:PV}(hf:cO L x=some (.fn f []))(ha:vI L xs=some args)(hm:C.mode f=.cD g)
  (hg:g args (h.map bI)=some (r,h.map bI++J)) (tO:(J.all λo=>decide (o.mu≠.l))=true):ar C run 1 (.call ⟨.value x,xs.toArray,zf⟩) (al L Y) h=some (r,h++J):=by
 have he:=gq (Y:=Y) ha;have hd:(h.map bI++J).drop h.length=J:=List.drop_left' (by simp);simp only[ar,fQ,an hf,he,abv,di,hm,dI,hg,hd,tO];simp
theorem Kp(S:List dp)(hl:S.length<1000000000)(hb:∀b∈S,az b.v<1000000000/\az b.t<1000000000):aL C 41 [.aa false (bO S),.aa false (bO S)] (.bool true):=by
 have cz:=jO S;refine aL.x T6 Tryz.func41 rfl ?_;refine wA ?_;refine dw.zip T6 S (λp q L H=>L=[(0,.aa false (bO S)),(1,.aa false (bO S)),(5,.int .i64 p.length)]/\H=[]) (.nx ⟨rfl,rfl⟩) ?_ ?_
 ·rintro p b q _ _ Y e ⟨rfl,rfl⟩;have cC:=nf e;have dO:=lenE e;obtain⟨hd1,FO⟩:=hb b (by rw[e];simp);have h1:=up (ur b.v b.v hd1 hd1).nine;have h2:=up (ur b.t b.t FO FO).nine;rw[aw,decide_eq_true (cH b.v)]at h1;rw[aw,decide_eq_true (cH b.t)]at h2;refine wA ?_;refine .p h1 ?_;refine wA ?_;refine .p h2 ?_;refine wA ?_;exact .nx ⟨rfl,rfl⟩
 ·rintro _ _ Y ⟨rfl,rfl⟩;refine wA ?_;exact⟨_,rfl,rfl⟩
theorem B9{l:List cW}{A B:List ByteArray}{b:dp}(h:b∈oW l A B):b∈dS [] (bQ l):=by
 unfold oW at h
 split at h
 cases h
 exact h
theorem Iy(l:List cW)(A B:List ByteArray)(Dr:HZ l):(oW l A B).length<=4:=by
 have h1:=sD (bQ l) [];have h2:=Dr.n;unfold oW
 split
 simp;omega
theorem Oi{l:List cW}{A B:List ByteArray}(Dr:HZ l):∀b∈oW l A B,az b.v<1000000000/\az b.t<1000000000:=λb hb=>by
 obtain⟨h1,n,h2,h3⟩:=xr Dr (B9 hb);have h4:=(xz _ h1).2;rw[h3];refine⟨by omega,?_⟩;have h5:(⟨#[101,35,UInt8.ofNat (48+n)]⟩:ByteArray).size=3:=rfl;simp only[pK,az,bF];omega
theorem RE{l:List cW}{A B:List ByteArray}(Dr:HZ l):zz (oW l A B)<=4 * 30:=by
 have h0:∀S:List dp,(∀b∈S,az b.v<=20/\az b.t<=9)->zz S<=S.length * 30:=by
  intro S
  induction S with
  |nil=>intro _;simp[zz]
  |cons b S ih=>
   intro h
   have h1:=ih λc hc=>h c (by simp[hc])
   have h2:=h b (by simp);unfold zz at h1 ⊢;rw[abk,adq,abg];omega
 have h1:=h0 (oW l A B) λb hb=>by
  obtain⟨h1,n,h2,h3⟩:=xr Dr (B9 hb);have h4:=(xz _ h1).2;rw[h3];have h5:(⟨#[101,35,UInt8.ofNat (48+n)]⟩:ByteArray).size=3:=rfl;refine⟨by omega,?_⟩;simp only[pK,az,bF];omega
 have h2:=Iy l A B Dr;omega
theorem Iz:∀{l:List cW} {n:Nat},bh.lZ l n<0->∀d∈l,d.tm.k=1
 |d::l,n,h,u,hu=>by
  rw[bh.lZ]at h
  split at h
  omega
  ·rename_i hk
   rcases abc.1 hu with rfl |hu;simpa using hk;exact Iz h u hu
theorem Kq{l:List cW}{A B:List ByteArray}(Dr:HZ l)(hd:nj l<=40000)(hz:oV l A B=0):
  (aL C 14 [.aa false (aQ l),.aa false (bO (oW l A B))] (.cy [.bool true,.int .i64 0]))\/aL C 14 [.aa false (aQ l),.aa false (bO (oW l A B))] (.cy [.bool false,.int .i64 3]):=by
 have hS:oW l A B=dS [] (bQ l):=by unfold oW;rw[if_neg (by omega)]
 have hE:oV l A B=if eU A B≠0 then eU A B else if iv l≠0 then iv l else if 0<=bh.lZ l 0 then 9 else 0:=rfl
 have h1:iv l=0/\bh.lZ l 0<0:=by
  rw[hE]at hz
  by_cases c1:eU A B=0
  ·rw[if_neg (by simp[c1])]at hz
   by_cases c2:iv l=0
   ·rw[if_neg (by simp[c2])]at hz
    by_cases c3:0<=bh.lZ l 0
    rw[if_pos c3]at hz;omega;exact⟨c2,by omega⟩
   rw[if_pos c2]at hz;exact absurd hz c2
  rw[if_pos c1]at hz;exact absurd hz c1
 have E7:∀b∈oW l A B,kV b.t=true:=λb hb=>by
  obtain⟨q1,n,q2,q3⟩:=xr Dr (B9 hb);rw[q3];exact(sB q2 q1).2.2.2
 have hh:=up (Ge l (oW l A B) (by omega) (by have:=RE (A:=A) (B:=B) Dr;omega) E7);have hg:=MV Dr h1.1 (Iz h1.2);rw[<-hS]at hg;rcases hg with hg |hg;rw[hg]at hh;exact .inl hh;rw[hg]at hh;exact .inr hh
theorem GI(b:List (List Nat))(A B:List ByteArray)(hb:∀y∈b,JG y)(CA:b.length<100000000)(hA:∀a∈A,a.size<10000000)(vT:A.length<2000000)(BU:B.length<2000000):
  aL C 10 [.aa false (dZ b),PV.agg [PV.aa false (bP A),PV.aa false (bP B)]] (.bool true):=by
 have haw:=up IZ;have h1:=up (JH b [] (by omega) (by simp));have hF:=Mt A B vT BU;have hS:BN b []=(decide (b.length<=5)&&decide (([]:List Nat).length<=10)&& !(b.any pP)):=rfl;have hE:eN []=[]:=rfl;rw[hE]at h1;have aaW:=qz b
 cases hsh:BN b []
 ·rw[hsh]at h1;refine aL.x T6 Tryz.func10 rfl ?_;refine wA ?_;refine .p haw ?_;refine wA ?_;refine .p h1 ?_;refine wA ?_;refine .p haw ?_;refine wA ?_;exact⟨_,rfl,rfl⟩
 ·cases hfw:Up (A++B)
  ·rw[hsh]at h1;rw[hfw]at hF;refine aL.x T6 Tryz.func10 rfl ?_;refine wA ?_;refine .p haw ?_;refine wA ?_;refine .p h1 ?_;refine wA ?_;refine .p hF ?_;refine wA ?_;refine .p haw ?_;refine wA ?_;exact⟨_,rfl,rfl⟩
  ·rw[hsh]at h1 hS;rw[hfw]at hF;have hS:=hS.symm;simp only[abb,decide_eq_true_eq,acD]at hS;obtain⟨⟨hb5,_⟩,YY⟩:=hS
   have gh:Wz.okB b:=⟨λy hy=>by
    have:=ab9.1 YY y hy;simp only[pP,decide_eq_true_eq]at this;exact⟨hb y hy,by omega⟩,by omega⟩
   have hd:=Nt b;have D0:=JM b;have Fy:=lG (fM b);refine aL.x T6 Tryz.func10 rfl ?_;refine wA ?_;refine .p haw ?_;refine wA ?_;refine .p h1 ?_;refine wA ?_;refine .p hF ?_;refine wA ?_;refine Ko gh (by simp[aV]) (λv h k bx hr=>?_);have kd:=k.ld;generalize fM b=l0 at *
   by_cases ME:b.length=0
   case' pos=>
    refine wG ?_;obtain⟨l,o8⟩:∃l,l=l0:=⟨_,rfl⟩;rw[<-o8]at hd D0 kd;clear k o8
   case' neg=>
    obtain⟨y,ys,rfl⟩:∃y ys,b=y::ys:=by
     cases b with
     |nil=>exact absurd rfl ME
     |cons y ys=>exact⟨y,ys,rfl⟩
    have cC:(dZ (y::ys))[0]?=some (.aa false (eN y)):=rfl;have WC:=lH y
    by_cases hy2:y.length<=2
    case' pos=>
     refine wG ?_;obtain⟨l,o8⟩:∃l,l=l0:=⟨_,rfl⟩;rw[<-o8]at hd D0 kd;clear k o8
    case' neg=>
     have na:(eN y)[2]?=some (.int .u8 (gr y 2:Int)):=np (by omega);have ht2:((gr y 2:Nat):Int).tmod 2=((gr y 2 % 2:Nat):Int):=Jy _ 2
     by_cases Kr:gr y 2 % 2=0
     case' pos=>
      refine wG ?_;refine Og k bx hr (by omega) (λv h kd bx hr=>?_);have hds:=Ix l0;have D1:=RD D0;clear k D0;have D0:=D1;generalize B8 l0=l at *
      replace hd:nj l<=40000:=by omega
      clear D1;refine wG ?_
     case' neg=>
      refine wG ?_;obtain⟨l,o8⟩:∃l,l=l0:=⟨_,rfl⟩;rw[<-o8]at hd D0 kd;clear k o8
   all_goals
    have Fy:=lG l;have VD:=MX l A B D0 (by omega) hA vT BU;have tH:=M9 l A B D0 (by omega) hA vT BU;obtain⟨r,J,e1,e2,kr,hJ,tO,Yr⟩:=kd.clone (by omega);have kd1:=kd.kp (Of.c8 J λhr=>hr.dg hJ);have bx1:=bx.kp (Of.c8 J λhr=>hr.dg hJ);have hr1:=hr.dg hJ;obtain⟨mu,b1,b2⟩:=bx;refine .raw (λY'=>?_);refine D.move rfl ?_;have vC:=kd.PA;have b3:(h++J.map ez)[0]?=some ⟨mu,0,2,[PV.agg [PV.aa false (bP A),PV.aa false (bP B)]]⟩:=by rw[aa3 (ag b1)];exact b1
    have Az:mu≠.x:=by rcases b2 with rfl |rfl <;>simp
    refine .Nq h J (h++J) (List.replicate J.length 1) ⟨0,λn _=>YX rfl rfl rfl e1 tO⟩ ?_ rfl (by simp) (qw _ _) (by simp) hr.closed (by show(true&& (bw (aO h) v&&true))=true;rw[vC];rfl) tO;refine .Nq (h++J.map ez) [] (h++J) (List.replicate J.length 1) ⟨0,λn _=>Gc T6 (v:=PV.agg [PV.aa false (bP A),PV.aa false (bP B)]) rfl (Ii b3 Az rfl rfl rfl)⟩ ?_ (by simp) (by simp) (ug rfl) (by simp) (pQ hr.closed) (by show(aO (h++J.map ez) 0&&true)=true;rw[jS b3 Az];rfl) rfl;refine D.call rfl rfl rfl (LD.call (by simp[aV]) (by simp[bW,aU]) rfl kr VD (λh2 kp=>?_));refine D.move rfl ?_;refine aZ.sP T6 ?_
    conv=>whnf
    refine aZ.sP T6 ?_
    conv=>whnf
    refine D.assign rfl ?_;refine D.assign rfl ?_;refine aZ.nil ⟨_,_,rfl,?_⟩
    conv=>whnf
    have kd2:=kd1.kp kp;have bx2:=bx1.kp kp;have hr2:=kp.2.2 hr1;obtain⟨mu2,c1,c2⟩:=bx2;have Ps:mu2≠.x:=by rcases c2 with rfl |rfl <;>simp
    have hsm:=Kp (oW l A B) (by have:=Iy l A B D0;omega) (Oi D0);refine wA ?_;refine LD.call (by simp[aV]) (by simp[bW,aU]) rfl kd2 tH (λh3 kp3=>?_);have kd3:=kd2.kp kp3;have hr3:=kp3.2.2 hr2;refine wA ?_;refine .p hsm ?_
    by_cases hz:oV l A B=0
    case' neg=>
     refine wA ?_;refine .p hsm ?_;refine wA ?_;exact⟨_,rfl,rfl⟩
    case' pos=>
     refine wA ?_;obtain⟨r4,J4,_,e4,kr4,hJ4,_,_⟩:=kd3.clone (by omega);refine ai.prL e4 ?_;refine wA ?_;rcases Kq D0 hd hz with hh |hh
     all_goals
      refine LD.call (by simp[aV]) (by simp[bW,aU]) rfl kr4 hh (λh5 kp5=>?_);refine wA ?_;exact⟨_,rfl,rfl⟩
end vD
end Go.Pm
