/-
  Pm, a part. Conditions: none.
-/
import Derived.Test.YtimogkojklpdnaaGreatDoorPxAH
set_option linter.unusedVariables false
set_option linter.unusedSimpArgs false
set_option linter.unnecessarySimpa false
set_option linter.unusedSectionVars false
namespace Go.Pm
namespace bu
open Go.Proofs
variable[iD:Inhabited Prop]
set_option maxRecDepth 4000
theorem S9:∀n,ch C (cN C n):=lj fw gW
theorem cR.run{N B b i:Nat}{c:Code}{L:Al}{V:Nat->PV}{h:aa}{t:ByteArray}{M:Ex->St->ByteArray->Prop}(k:Rn (hS T6 N B b i 10000 (.c c) (.top M) L V h t))(hc:codeOk N c=true):cR C N B b i c ⟨al L V,h⟩ t M:=
 cE (N:=N) (B:=B) (b:=b) (i:=i) T6 fw gW.mixed S9 k.out rfl hc
attribute [local irreducible] aA az aH aF Ev ag ai aD bw cR tH kc jD
theorem EN(b x:Nat):¬Mb [dC] [(b,1)] x:=by
 rintro⟨id,o,bc,e1,_,e3,_⟩
 match id,e1 with
 |0,e1=>simp[dC]at e1;subst e1;cases e3
 |id+1,e1=>simp at e1
theorem AK{w:World}{A:Nat->Prop}{Y:List (Nat×Nat)}{h:aa}{B b:Nat}{t:ByteArray}(hb:vZ B b t w):gq w A Y h dC (b,1):=by
 obtain⟨cs,k1,k2⟩:=hb.cs;refine .inl ⟨_,cs,k1,TI _,by show 1 * 2<=_;omega,by simp[dC],λi e he=>?_⟩
 match i,he with
 |0,he=>
  simp[dC]at he;subst he;refine⟨rfl,λj p hp=>?_⟩;have hj:=ae hp;have qd:j<2:=hj;refine⟨cs[j]'(by omega),?_,?_⟩;simp[dC]
  ·have:p=.any:=by
    match j,qd,hp with
    |0,_,hp=>simp[cells]at hp;exact hp.symm
    |1,_,hp=>simp[cells]at hp;exact hp.symm
   rw[this];exact .any _
 |i+1,he=>simp[dC]at he
theorem Ci{f:FuncId}{fn:Func}{c:Code}(CB:C.P.funcs[f]?=some fn)(hc:fn.body=some c)(hr:fn.results.toList=[]){args:List PV}{vs:List Value}{w:World}{F:Nat->Prop}{B b:Nat}{t t':ByteArray}
  (ha:L2 (ar w (Av F [dC] [(b,1)]) [(b,1)] [dC]) vs args) (hf:∀x,F x->x<w.heap.size) (hG:cp w F) (I:GI 0 w F [(b,1)] B b t)
  (g:cR C fn.ntmps B b 0 c ⟨al (s9 0 args) (λ_=>.undef),[dC]⟩ t (λex _ t2=>(ex=.normal\/ex=.ret)/\t2=t')):
  Calls C.P f vs.toArray w λe w'=>e=.returned (.tuple #[])/\∃F',GI 0 w' F' [(b,1)] B b t'/\GS B w F [dC] [(b,1)] w' F' [dC] [(b,1)]/\∀x,F' x->x<w'.heap.size:=by
 refine calls_of_wp CB hc ?_;have hlen:=ha.1
 have H:aG w F [(b,1)] [dC]:=by
  refine⟨rfl,hf,λid o bc e1 e2 _=>?_,λid cz o o' bc bW aU e1 e2=>?_,λid o bc e1 e2 e3=>?_,hG.ia λx hx=>hx.elim _root_.id (λm=>absurd m (EN b x))⟩
  ·match id,e1,e2 with
   |0,e1,e2=>
    simp at e1 e2;subst e1 e2;exact AK I.bl
   |id+1,e1,_=>simp at e1
  ·have h1:=ae e1;have h2:=ae e2;simp at h1 h2;omega
  ·match id,e1 with
   |0,e1=>simp at e1;subst e1;rcases e3 with h |h <;>cases h
   |id+1,e1=>simp at e1
 have R:SR fn.ntmps w F [(b,1)] ⟨jm args,[dC]⟩ {tmps:=vs.toArray++Array.replicate (fn.ntmps - vs.toArray.size) undef,defers:=[]}:=by
  refine⟨H,λt=>?_,rfl,by simp;omega⟩;show ar w (Av F [dC] [(b,1)]) [(b,1)] [dC] ((vs.toArray++Array.replicate (fn.ntmps - vs.toArray.size) undef).getD t Go.undef) (args.getD t .undef)
  by_cases ht:t<args.length
  ·have e1:(vs.toArray++Array.replicate (fn.ntmps - vs.toArray.size) undef).getD t Go.undef=vs.getD t Go.undef:=by
    rw[Ui,Uz,if_pos (by simp;omega)];simp[List.getD]
   have e2:args.getD t .undef=args.getD t .any:=by simp[List.getD,ht]
   rw[e1,e2];exact ha.2 t ht
  ·have e1:(vs.toArray++Array.replicate (fn.ntmps - vs.toArray.size) undef).getD t Go.undef=Go.undef:=by
    rw[Ui,Uz];rw[if_neg (by simp;omega)];rw[UO]
    split <;>rfl
   have e2:args.getD t .undef=.undef:=by simp[List.getD,TZ (show args.length<=t by omega)]
   rw[e1,e2];exact .undef
 rw[ek]at R;unfold cR at g;refine g _ w F [(b,1)] _ R I (λex s' t2 w' F' Y' a' m R' I' G'=>?_);obtain⟨hex,rfl⟩:=m;obtain⟨u,r1,r2⟩:=jv (P:=C.P) R'.hr R'.er fn (vs:=[]) (by rw[hr];rfl);obtain⟨us,rfl,hl,_⟩:=(show ar w' _ Y' s'.h u (.cT [])from r2).l9;obtain rfl:us=[]:=T3 hl
 have fin:∃F',GI 0 w' F' [(b,1)] B b t2/\GS B w F [dC] [(b,1)] w' F' [dC] [(b,1)]/\∀x,F' x->x<w'.heap.size:=
  ⟨F',⟨I'.bl,I'.hB,I'.fb,I'.fg,rfl⟩,⟨G'.size,G'.up,G'.new,G'.aB,λx _ m=>absurd m (EN b x),G'.os,G'.tape,G'.output⟩,R'.hr.fin⟩
 rcases hex with rfl |rfl;exact⟨R'.df,_,r1,rfl,fin⟩;exact⟨R'.df,_,r1,rfl,fin⟩
def GF(a:Tm):Prop:=∀{w:World} {F:Nat->Prop} {v:Value} {B b:Nat} {t:ByteArray},aS w F v (enc a)->(∀x,F x->x<w.heap.size)->cp w F->GI 0 w F [(b,1)] B b t->t.size+10 * aE a<=100000000000000->
  Calls C.P 135 #[.pointer (some ⟨b,0,none⟩),v] w λe w'=>e=.returned (.tuple #[])/\∃F',GI 0 w' F' [(b,1)] B b (t++kE a)/\GS B w F [dC] [(b,1)] w' F' [dC] [(b,1)]/\∀x,F' x->x<w'.heap.size
theorem vb(a:Tm):enc a=.agg [.int .i64 a.k,.str a.s,.int .i64 a.o,.ab false (aj a.l)]:=by cases a;rfl
theorem tG:∀a:Tm,aJ (enc a)=true
 | .mk k s o l=>rfl
theorem MM{N B b i:Nat}{a:Tm}(hw:GF a){x0 x1:Operand}{tys:Array TypeId}{d:Option Nat}{ty:TypeId}{pos:String}{af:Array Edge}{s:St}{t:ByteArray}(h0:ev s.V x0=.ptr i 0 0 0)(h1:ev s.V x1=enc a)(o:dE i s.h)(hl:t.size+10 * aE a<=100000000000000):
  jD C N B b i ⟨d,.call ⟨.value (.func 135),#[x0,x1],tys⟩,ty,pos,af,none⟩ s t .any (t++kE a):=by
 refine oW (λargs w=>enters_of Tryz.func135 (by kernel_rfl) rfl args w) (λw F Y a' R I=>?_);have e0:=vp R I o h0;have e1:=R.er.ev R.hr.di x1;rw[h1]at e1;have e2:aS w F (a'.eval x1) (enc a):=(e1.yz (tG a)).ia (λx hx=>.inl hx);have: #[x0,x1].map a'.eval= #[.pointer (some ⟨b,0,none⟩),a'.eval x1]:=by simp[e0]
 rw[this];refine(hw e2 R.hr.fin (R.hr.di.ia λx hx=>.inl hx) ⟨I.bl,I.hB,I.fb,I.fg,rfl⟩ hl).mono ?_;rintro e w' ⟨rfl,F',I',G',CC⟩;obtain⟨q1,q2,q3⟩:=DL R I o I' G' CC;exact⟨_,F',rfl,q1,q2,q3,.any _⟩
inductive Qu(i:Nat)(L:Al)(h:aa)(x0 x1:Operand)(t:ByteArray)(a:Tm)(R:ByteArray->Prop):Prop
 |wr (k:Rn (R (t++kE a))) (o:dE i h:=by assumption) (e0:dn L x0=some (.ptr i 0 0 0):=by rfl) (e1:dn L x1=some (enc a):=by first |rfl |exact congrArg some (vb _).symm) (hl:t.size+10 * aE a<=100000000000000:=by assumption)
theorem cR.wr{N B b i:Nat}{a:Tm}(hw:GF a)(pre:List Oper){x0 x1:Operand}{tys:Array TypeId}{d:Nat}{ty:TypeId}{pos:String}{af:Array Edge}{ops:Array Oper}{id:Nat}{L:Al}{V:Nat->PV}{h:aa}{t:ByteArray}{R:Al->aa->ByteArray->Prop}
  (k:Rn (qh T6 ops.toList pre L h λL' h'=>Qu i L' h' x0 x1 t a λt'=>R ((d,.any)::L') h' t'))
  (ho:ops.toList=pre++[⟨some d,.call ⟨.value (.func 135),#[x0,x1],tys⟩,ty,pos,af,none⟩]:=by rfl) (hd:ops.toList.all (dB N)=true:=by rfl) (g0:h[i]?=some dC:=by first |rfl |assumption |exact dE.gh (by assumption)):
  cR C N B b i (.region id ops false) ⟨al L V,h⟩ t (λex s t=>∃L' h',ex=.normal/\s=⟨al L' V,h'⟩/\R L' h' t):=by
 refine cR.spec fw S9 pre _ [] g0 hd ho rfl (M1:=λs1=>∃L' h',s1=⟨al L' V,h'⟩/\Qu i L' h' x0 x1 t a λt'=>R ((d,.any)::L') h' t') (eG T6 k.out λL' h' q=>⟨L',h',rfl,q⟩) ?_;rintro s1 ⟨L',h',rfl,x⟩
 cases x with |wr k o e0 e1 hl=>
 exact⟨o.1,.any,_,MM hw (ah e0 V) (ah e1 V) o hl,ag.nil ⟨_,h',rfl,by show(⟨bh (al L' V) (some d) .any,h'⟩:St)=_;rw[bd],k.out⟩⟩
theorem xZ:∀(n:Nat) (k:Tm),aE k<=n->B1 k=true->aE k<100000000->∀{w:World} {F:Nat->Prop} {v:Value} {B b:Nat} {t:ByteArray},aS w F v (enc k)->(∀x,F x->x<w.heap.size)->cp w F->GI 0 w F [(b,1)] B b t->t.size+10 * aE k<=100000000000000->
  Calls C.P 135 #[.pointer (some ⟨b,0,none⟩),v] w λe w'=>e=.returned (.tuple #[])/\∃F',GI 0 w' F' [(b,1)] B b (t++kE k)/\GS B w F [dC] [(b,1)] w' F' [dC] [(b,1)]/\∀x,F' x->x<w'.heap.size:=by
 intro n
 induction n with
 |zero=>intro k hk;have:=n5 k;omega
 |succ n ih=>
 intro x hk eO hb w F v B b t hv hf hG I ez
 obtain⟨k,s,o,l⟩:=x;have dF:=ja _ eO;simp only[B1,TK,decide_eq_true_eq]at eO;obtain⟨eO,sc⟩:=eO;simp only[aE]at hk hb ez;have e63:(⟨#[63]⟩:ByteArray).size=1:=rfl;have e58:(⟨#[58]⟩:ByteArray).size=1:=rfl;have e40:(⟨#[40]⟩:ByteArray).size=1:=rfl;have e41:(⟨#[41]⟩:ByteArray).size=1:=rfl;have e5:(s++(⟨#[58]⟩:ByteArray)).size=s.size+1:=by rw[b9];rfl
 have e44:(⟨#[44,32]⟩:ByteArray).size=2:=rfl;obtain⟨B2,Sk⟩:=zD eO
 have dL:[PV.str ⟨#[97,110,121]⟩,.str ⟨#[97,103,101,110,116]⟩,.str ⟨#[110,111,110,99,101]⟩,.str ⟨#[107,101,121]⟩,.str ⟨#[100,97,116,97]⟩,.str ⟨#[116,97,103]⟩][o.toNat]?=some (.str (JK o)):=by
  have:(JR.map PV.str)[o.toNat]?=some (.str (JK o)):=by rw[TS,B2];rfl
  exact this
 have kG:L2 (ar w (Av F [dC] [(b,1)]) [(b,1)] [dC]) [.pointer (some ⟨b,0,none⟩),v] [.ptr 0 0 0 0,enc (.mk k s o l)]:=⟨rfl,λj hj=>by
  match j,hj with
  |0,_=>exact .ptr _ 0 0 0 0 dC (b,1) ⟨_,rfl⟩ rfl rfl (by simp[dC]) ⟨TI _,by simp[dC]⟩ (λ_=>by simp)
  |1,_=>exact .val (hv.ia λx hx=>hx.elim _root_.id (λm=>absurd m (EN b x)))
  |j+2,hj=>simp at hj;omega⟩
 refine Ci Tryz.func135 rfl rfl kG hf hG I (cR.run ?_ (by kernel_rfl));rw[enc];refine wH (λhc=>?_) (λhc hc=>?_) λhc hc=>?_
 ·have oU:dE 0 [dC,⟨.m,0,4,[.agg [.int .i64 k,.str s,.int .i64 o,.ab false (aj l)]]⟩]:=dE.one.gr (λx hx=>by simp at hx;subst hx;exact .inl rfl);refine .sp (cR.ws T6 fw S9 rfl [_,_,_,_] ?_);refine wA ?_;refine .ws ?_;refine wD (λhc=>?_) λhc=>?_
  ·refine⟨.inr rfl,?_⟩;simp only[kE];rw[if_pos (by assumption),if_pos (by assumption)]
  ·refine .sp (cR.ws T6 fw S9 rfl [_,_,_,_,_,_,_] ?_);refine wA ?_;refine .ws ?_;refine wA ?_;refine⟨.inr rfl,?_⟩;simp only[kE];rw[if_pos (by assumption),if_neg (by assumption),db]
 ·have oU:dE 0 [dC,⟨.m,0,4,[.agg [.int .i64 k,.str s,.int .i64 o,.ab false (aj l)]]⟩]:=dE.one.gr (λx hx=>by simp at hx;subst hx;exact .inl rfl);refine .sp (cR.RF T6 fw gW.mixed S9 rfl [_,_,_,_,_,_,_,_,_,_] ?_);refine wA ?_;refine⟨rfl,_,_,rfl,.ws ?_⟩;refine wA ?_;refine⟨.inr rfl,?_⟩;simp only[kE];rw[if_neg (by assumption),if_pos (by assumption)]
 ·have oU:dE 0 [dC,⟨.m,0,4,[.agg [.int .i64 k,.str s,.int .i64 o,.ab false (aj l)]]⟩]:=dE.one.gr (λx hx=>by simp at hx;subst hx;exact .inl rfl);refine .sp (cR.ws T6 fw S9 rfl [_,_,_,_] ?_);refine wA ?_;refine .ws ?_;refine wA ?_;refine .sp (cR.zip T6 fw gW.mixed S9 l (λp _ L H u=>L=[(0,.ptr 0 0 0 0),(45,.ab false (aj l)),(46,.int .i64 (aj l).length),(47,.int .i64 p.length)]/\dE 0 H/\u=t++(s++⟨#[40]⟩)++kT false p) (.nx ⟨rfl,oU,by rw[kT,pn]⟩) ?_ ?_)
  ·rintro p a q _ H V u e ⟨rfl,hO,rfl⟩;have dL:=bA e;have gp:=congrArg List.length e;have eE:=ax l;have Df:=bq l;simp only[T0,T2]at gp;have Nf:dE 0 (H++[⟨.m,0,4,[.agg [.int .i64 a.k,.str a.s,.int .i64 a.o,.ab false (aj a.l)]]⟩]):=hO.gr (λx hx=>by simp at hx;subst hx;exact .inl rfl);have Gv:a∈l:=by rw[e];simp
   have Qi:=bF Gv;have JL:=n9 sc Gv;have B2:GF a:=λh1 h2 h3 h4 h5=>ih a (by omega) JL (by omega) h1 h2 h3 h4 h5
   have Qj:=se sc e;have OY:(t++(s++(⟨#[40]⟩:ByteArray))++kT false p).size+10 * aE a+2<=100000000000000:=by simp only[b9];omega
   have CA:(t++(s++(⟨#[40]⟩:ByteArray))++kT false p++(⟨#[44,32]⟩:ByteArray)).size+10 * aE a<=100000000000000:=by rw[b9];omega
   have Ri:(t++(s++(⟨#[40]⟩:ByteArray))++kT false p).size+(⟨#[44,32]⟩:ByteArray).size<=140737488355328:=by omega
   have Ty:(t++(s++(⟨#[40]⟩:ByteArray))++kT false p).size+10 * aE a<=100000000000000:=by omega
   refine wD (λhc=>?_) λhc=>?_
   ·have MB:p≠[]:=by rintro rfl;simp at *
    refine .sp (cR.ws T6 fw S9 rfl [_] ?_);refine wA ?_;refine .ws ?_;refine wA ?_;refine .sp (cR.wr B2 [_,_] ?_);refine wA ?_;refine .wr ?_;refine wA ?_;refine .nx ⟨rfl,Nf,?_⟩;rw[jb,if_pos (.inr MB)];simp only[db]
   ·obtain rfl:p=[]:=T3 (by omega);refine .sp (cR.wr B2 [_,_] ?_);refine wA ?_;refine .wr ?_;refine wA ?_;refine .nx ⟨rfl,Nf,?_⟩;rw[jb,if_neg (by simp),kf];simp only[db]
  ·rintro _ H V u ⟨rfl,hO,rfl⟩;have eE:=ax l;have Df:=bq l;have hz:=jc false l sc;have Tz:(t++(s++(⟨#[40]⟩:ByteArray))++kT false l).size+1<=140737488355328:=by simp only[b9];omega
   refine wA ?_;refine .sp (cR.wb T6 fw S9 rfl [_] ?_);refine wA ?_;refine .wb 41 ?_;refine wA ?_;refine⟨.inl rfl,?_⟩;simp only[kE];rw[if_neg (by assumption),if_neg (by assumption)];simp only[db]
end bu
variable[iD:Inhabited Prop]
def CX(md:FuncId->Mode)(ps:List (FuncId× (List PV->aa->Option (PV×aa))))(f:FuncId):Mode:=match ps.lookup f with |some g=>.cH g |none=>md f
def FB(C:bZ)(ps:List (FuncId× (List PV->aa->Option (PV×aa)))):bZ:=⟨C.P,CX C.mode ps⟩
theorem gB(md:FuncId->Mode)(ps:List (FuncId× (List PV->aa->Option (PV×aa))))(f:FuncId):(∃g,(f,g)∈ps/\CX md ps f=.cH g)\/CX md ps f=md f:=by
 unfold CX
 cases h:ps.lookup f with
 |none=>exact .inr rfl
 |some g=>exact .inl ⟨g,bu.qS h,rfl⟩
theorem qT{md:FuncId->Mode}{ps:List (FuncId× (List PV->aa->Option (PV×aa)))}(hn:∀x∈ps,md x.1=.no):tw md (CX md ps):=λf=>by
 rcases gB md ps f with⟨g,h,_⟩|h;exact .inl (hn _ h);exact .inr h.symm
theorem Aj {C : bZ} {ps : List (FuncId × (List PV → aa → Option (PV × aa)))} (K : cj C) (hs : ∀ x ∈ ps, cW C.P x.1 x.2) (hf : ∀ x ∈ ps, ∃ fn, C.P.funcs[x.1]? = some fn ∧ fn.body.isSome = true ∧ (fn.name == "runtime.NumGoroutine") = false) : cj (FB C ps) where
 enters f CC aU:=by
  rcases gB C.mode ps f with⟨g,h,_⟩|h;exact hf _ h;exact K.enters f (λh2=>CC (h.trans h2)) (λg h2=>aU g (h.trans h2))
 kX f g hh:=by
  rcases gB C.mode ps f with⟨g',_,h⟩|h
  cases h.symm.trans hh
  exact K.kX f g (h.symm.trans hh)
 cH f g hh:=by
  rcases gB C.mode ps f with⟨g',h1,h⟩|h
  ·obtain rfl:=Mode.cH.inj (h.symm.trans hh);exact hs _ h1
  exact K.cH f g (h.symm.trans hh)
 ext f g hh:=by
  rcases gB C.mode ps f with⟨g',_,h⟩|h
  cases h.symm.trans hh
  exact K.ext f g (h.symm.trans hh)
theorem qU{C:bZ}{ps:List (FuncId× (List PV->aa->Option (PV×aa)))}(K:gL C):gL (FB C ps) where
 mixed:=K.mixed
 gT f fn c hm hf hb:=by
  rcases gB C.mode ps f with⟨g',_,h⟩|h;rcases hm with hm |hm <;>cases h.symm.trans hm
  exact K.gT f fn c (hm.imp (λh2=>h.symm.trans h2) (λh2=>h.symm.trans h2)) hf hb
theorem ai.PD{C:bZ}{f:FuncId}{g:List PV->aa->Option (PV×aa)}{args:List PV}{h:aa}{r:PV}{h':aa}{Q:PV->aa->Prop}(hg:g args h=some (r,h'))(q:Q r h')(hm:C.mode f=.cH g:=by rfl):ai C 2 f args h Q:=
 ⟨r,h',q,0,λn _=>by unfold cM;rw[hm];simp only[da,TI,if_true,hg]⟩
end Go.Pm
namespace Go.Pm
open Go.Proofs Go.RowKit
variable[iD:Inhabited Prop]
theorem mT(hD:¬yG){w w':World}(b:Below w.heap.size w w'):cc w w':=⟨b.size,λk hk=>b.block k hk,b.os,b.tape,b.output,λh=>absurd h hD⟩
def rI:List PV->Option (List ByteArray)
 |[]=>some []
 | .str s::l=>match rI l with
  |some xs=>some (s::xs)
  |none=>none
 |_=>none
theorem Bh(xs:List ByteArray):rI (xs.map .str)=some xs:=by
 induction xs with
 |nil=>rfl
 |cons x xs ih=>simp only[TT,rI,ih]
theorem ui:∀{es:List PV} {xs:List ByteArray},rI es=some xs->es=xs.map .str
 |[],xs,h=>by simp[rI]at h;subst h;rfl
 |c::l,xs,h=>by
  cases c <;>simp only[rI,reduceCtorEq]at h
  rename_i s
  split at h
  ·rename_i ys hy
   obtain rfl:=TF h;rw[TT,<-ui hy]
  cases h
def pK(xs:List ByteArray)(sep:ByteArray):ByteArray:=⟨(Lib.join (xs.map (·.data.toList)) sep.data.toList).toArray⟩
def jP:List PV->aa->Option (PV×aa)
 |[p,.str sep],h=>match sQ h p with
  |some (.ab _ es)=>match rI es with
   |some xs=>if xs.length<=140737488355328/\(pK xs sep).size<=140737488355328 then some (.str (pK xs sep),h)else none
   |none=>none
  |_=>none
 |_,_=>none
theorem C7(hD:¬yG):cW Tryz.prog 82 jP:=by
 intro args h r h' e w F Y vs H ha
 unfold jP at e
 split at e
 ·rename_i p sep
  obtain⟨v0,v1,rfl,h0,h1⟩:=ha.two;have h1:=h1.gg;subst h1
  split at e
  ·rename_i fl es hr
   split at e
   ·rename_i xs hx
    split at e
    ·rename_i hc
     obtain⟨rfl,rfl⟩:=TL (TF e);obtain rfl:=ui hx;have hs:aS w (λ_=>False) v0 (.ab fl (xs.map .str)):=qs H (λ_ _ _ h=>h) h0 hr (λ_ _ _ _ _ _ h=>h)
     have fin:∀(en:Ending) (w':World),(en=.returned (.string (pK xs sep))/\Below w.heap.size w w')->∃v Y',en=.returned v/\ar w' (Av F h Y') Y' h v (.str (pK xs sep))/\aG w' F Y' h/\cP w h Y w' h Y'/\((2:Nat)<=1->cc w w'):=by
      rintro en w' ⟨rfl,hb⟩;have g:=mT hD hb;exact⟨_,Y,rfl,.val (.str _),H.uY g,g.pG h Y,λhh=>by omega⟩
     obtain⟨a,cap,hv,hle,_⟩:=hs.fZ;rw[U2]at hle;rcases hs.mb with h0 |⟨b,off,wY,sz,j0,e1,_,ez,eJ,OP,RO⟩
     ·have RP:xs=[]:=by simpa using h0
      subst RP;subst hv;refine(Any.strings_Join_none nA tq a cap sep w).mono ?_;rintro en w' ⟨rfl,rfl⟩;exact fin _ _ ⟨rfl,Below.refl _ _⟩
     ·rcases xs with _ |⟨x0,xr⟩
      ·subst hv;refine(Any.strings_Join_none nA tq a cap sep w).mono ?_;rintro en w' ⟨rfl,rfl⟩;exact fin _ _ ⟨rfl,Below.refl _ _⟩
      rw[e1]at hv
      cases hv
      rw[e1]
      have OQ:sz=1:=by
       have:=eJ 0 (by simp);simpa[cells]using this.symm
      subst OQ
      have uV:∀(j:Nat) x,(x0::xr)[j]?=some x->w.cell? ⟨b,off+j,none⟩=some (.string x):=λj x hj=>by
       have cx:=ae hj;have c1:=OP j 0 (by simpa using cx) (by decide);have c2:=RO j 0 (by simpa using cx) (by decide)
       have hg:((x0::xr).map PV.str).getD j .any=.str x:=by
        rw[T7,TS,hj];rfl
       rw[hg]at c2;have c3:aS w (λ_=>False) (j0 j 0) (.str x):=c2;generalize j0 j 0=u at c1 c3
       cases c3
       simpa using c1
      rw[U2];exact(CV b off cap (x0::xr) sep w uV (qB (uV 0 x0 rfl)) hc.1 hle (by simpa[pK,ByteArray.size]using hc.2)).mono fin
    cases e
   cases e
  cases e
 cases e
variable{C:bZ}{N:Nat}
theorem SR.gh{w w':World}{F:Nat->Prop}{Y:List (Nat×Nat)}{s:St}{a:Act}{B:Nat}(R:SR N w F Y s a)(hB:B<=w.heap.size){d:Nat}(hd:d<a.tmps.size)
  (ez:w'.heap.size=w.heap.size+1) (hold:∀x,x<w.heap.size->w'.heap[x]?=w.heap[x]?) (xj:w'.heap[w.heap.size]?=some (.cells #[.pointer none,.slice none 0 0] 103 (0,0))) (OB:w'.os=w.os/\w'.tape=w.tape/\w'.output=w.output):
  SR N w' (λx=>F x\/x=w.heap.size) (Y++[(w.heap.size,1)]) ⟨bh s.V (some d) (.ptr s.h.length 0 0 0),s.h++[dC]⟩ (a.put (some d) (.pointer (some ⟨w.heap.size,0,none⟩)))/\
  GI s.h.length w' (λx=>F x\/x=w.heap.size) (Y++[(w.heap.size,1)]) B w.heap.size ⟨#[]⟩/\
  GS B w F s.h Y w' (λx=>F x\/x=w.heap.size) (s.h++[dC]) (Y++[(w.heap.size,1)]):=by
 have hlen:=R.hr.len
 have gf:∀id,id<s.h.length->(s.h++[dC])[id]?=s.h[id]?/\(Y++[(w.heap.size,1)])[id]?=Y[id]?:=λid bE=>
  ⟨TG bE,TG (by omega)⟩
 have split:∀id (o':aC) (bW:Nat×Nat),(s.h++[dC])[id]?=some o'->(Y++[(w.heap.size,1)])[id]?=some bW->
   (id<s.h.length/\s.h[id]?=some o'/\Y[id]?=some bW)\/(id=s.h.length/\o'=dC/\bW=(w.heap.size,1)):=by
  intro id o' bW e1 e2
  by_cases bE:id<s.h.length
  ·left;rw[(gf id bE).1]at e1;rw[(gf id bE).2]at e2;exact⟨bE,e1,e2⟩
  ·right
   have:id<(s.h++[dC]).length:=ae e1;obtain rfl:id=s.h.length:=by simp at this;omega
   have By:(s.h++[dC])[s.h.length]?=some dC:=by simp
   have Bz:(Y++[(w.heap.size,1)])[s.h.length]?=some (w.heap.size,1):=by rw[<-hlen];simp
   rw[By]at e1;rw[Bz]at e2;exact⟨rfl,(TF e1).symm,(TF e2).symm⟩
 have Nd:∀x,Mb (s.h++[dC]) (Y++[(w.heap.size,1)]) x->Mb s.h Y x:=by
  rintro x ⟨id,o,bc,e1,e2,e3,rfl⟩;rcases split id o bc e1 e2 with⟨_,f1,f2⟩|⟨_,rfl,_⟩;exact⟨id,o,bc,f1,f2,e3,rfl⟩
  cases e3
 have hA:∀x,x<w.heap.size->¬Av F s.h Y x->¬Av (λx=>F x\/x=w.heap.size) (s.h++[dC]) (Y++[(w.heap.size,1)]) x:=λx hx hn ha=>by
  rcases ha with(h |h)|h;exact hn (.inl h);omega;exact hn (.inr (Nd x h))
 have hf:yl s.h Y (s.h++[dC]) (Y++[(w.heap.size,1)]):=λid o bc e1 e2 e3=>by
  have bE:=ae e1;exact⟨o,bc,by rw[(gf id bE).1];exact e1,by rw[(gf id bE).2];exact e2,e3,⟨TI _,λh=>h⟩,λ_=>⟨rfl,λ_=>rfl,rfl⟩⟩
 have hv:∀(v:Value) (p:PV),ar w (Av F s.h Y) Y s.h v p->ar w' (Av (λx=>F x\/x=w.heap.size) (s.h++[dC]) (Y++[(w.heap.size,1)])) (Y++[(w.heap.size,1)]) (s.h++[dC]) v p:=λv p r=>r.F9 hf (λx hx _=>hold x hx) hA
 have P6:vZ B w.heap.size ⟨#[]⟩ w':=.inl ⟨hB,.slice none 0 0,xj,World.ownsRow_nil w' _ _ _,by simp[Value.ownBlock]⟩
 have hH:aG w' (λx=>F x\/x=w.heap.size) (Y++[(w.heap.size,1)]) (s.h++[dC]):=by
  refine⟨by simp[hlen],λx hx=>?_,λid o bc e1 e2 e3=>?_,λid cz o o' bc bW aU e1 e2 e3 e4 m1 m2=>?_,λid o bc e1 e2 e3=>?_,R.hr.di.mono (λx hx _=>hold x hx) hA⟩
  ·rcases hx with h |h
   ·have:=R.hr.fin x h;omega
   ·omega
  ·rcases split id o bc e1 e2 with⟨_,f1,f2⟩|⟨_,rfl,rfl⟩
   ·have r:=R.hr.obj id o bc f1 f2 e3;exact gq.to (hold _ r.lt) r (λv e p _ _ q=>hv v p q)
   ·exact bu.AK P6
  ·rcases split id o bc e1 e3 with⟨_,f1,f2⟩|⟨_,rfl,_⟩
   ·rcases split cz o' bW e2 e4 with⟨_,g1,g2⟩|⟨_,_,rfl⟩
    ·exact R.hr.eZ id cz o o' bc bW aU f1 g1 f2 g2 m1 m2
    ·have:=(R.hr.obj id o bc f1 f2 (by rw[m1];simp)).lt;show bc.1≠w.heap.size;omega
   ·cases m1
  ·rcases split id o bc e1 e2 with⟨_,f1,f2⟩|⟨_,rfl,_⟩
   ·have h1:=R.hr.out id o bc f1 f2 e3;have h2:=(R.hr.obj id o bc f1 f2 (by rcases e3 with h |h <;>rw[h] <;>simp)).lt;rintro(h |h);exact h1 h;omega
   ·rcases e3 with h |h <;>cases h
 have OC:ar w' (Av (λx=>F x\/x=w.heap.size) (s.h++[dC]) (Y++[(w.heap.size,1)])) (Y++[(w.heap.size,1)]) (s.h++[dC]) (.pointer (some ⟨w.heap.size,0,none⟩)) (.ptr s.h.length 0 0 0):=
  .ptr _ _ _ _ _ dC (w.heap.size,1) ⟨_,rfl⟩ (by simp) (by rw[<-hlen];simp) (by simp[dC]) ⟨TI _,by simp[dC]⟩ (λ_=>by simp)
 refine⟨⟨hH,fc.put (λx=>hv _ _ (R.er x)) (λk hk=>by obtain rfl:=TF hk;exact hd) OC,by rw[bN];exact R.df,by rw[cq];exact R.sz⟩,
  ⟨P6,by omega,.inr rfl,λv g e1 e2=>?_,by rw[<-hlen];simp⟩,
  ⟨by omega,λx h=>.inl h,λx h=>h.imp id (λh=>by omega),λx hx _ _=>hold x hx,λx _ m=>Nd x m,OB.1,OB.2.1,OB.2.2⟩⟩
 rw[Lib.cell_of_heap xj]at e1;simp at e1;subst e1
 all_goals(simp[Value.ownBlock]at e2)
theorem cR.use{B b i:Nat}{c:Code}{s:St}{t:ByteArray}{M:Ex->St->ByteArray->Prop}(g:cR C N B b i c s t M){Q:Exit->Act->World->Prop}{w:World}{F:Nat->Prop}{Y:List (Nat×Nat)}{a:Act}(R:SR N w F Y s a)(I:GI i w F Y B b t)
  (hQ:∀ex s' t' w' F' Y' a',M ex s' t'->SR N w' F' Y' s' a'->GI i w' F' Y' B b t'->GS B w F s.h Y w' F' s'.h Y'->Q (xi ex) a' w'):c.wp C.P Q a w:=g Q w F Y a R I hQ
theorem SR.PM{w:World}{F:Nat->Prop}{Y:List (Nat×Nat)}{s:St}{a:Act}{B:Nat}(R:SR N w F Y s a)(hB:B<=w.heap.size){d:Nat}(hd:d<a.tmps.size):
  SR N (w.alloc (.cells #[.pointer none,.slice none 0 0] 103)) (λx=>F x\/x=w.heap.size) (Y++[(w.heap.size,1)]) ⟨bh s.V (some d) (.ptr s.h.length 0 0 0),s.h++[dC]⟩ (a.put (some d) (.pointer (some ⟨w.heap.size,0,none⟩)))/\
  GI s.h.length (w.alloc (.cells #[.pointer none,.slice none 0 0] 103)) (λx=>F x\/x=w.heap.size) (Y++[(w.heap.size,1)]) B w.heap.size ⟨#[]⟩/\
  GS B w F s.h Y (w.alloc (.cells #[.pointer none,.slice none 0 0] 103)) (λx=>F x\/x=w.heap.size) (s.h++[dC]) (Y++[(w.heap.size,1)]):=
 R.gh hB hd (by simp) (λx hx=>Lib.alloc_old w _ x hx) (heap_alloc_new w _) ⟨rfl,rfl,rfl⟩
theorem SR.FU{w:World}{F:Nat->Prop}{Y:List (Nat×Nat)}{L:List (Nat×PV)}{V:Nat->PV}{h:aa}{a:Act}(R:SR N w F Y ⟨al L V,h⟩ a){d:Nat}(hd:d<a.tmps.size)(v:Value):SR N w F Y ⟨al ((d,.any)::L) V,h⟩ (a.put (some d) v):=by
 have h2:=R.er.put (d:=some d) (λk hk=>by obtain rfl:=TF hk;exact hd) (.any v);rw[bd]at h2;exact⟨R.hr,h2,by rw[bN];exact R.df,by rw[cq];exact R.sz⟩
theorem SR.none{w:World}{A:Nat->Prop}{a:Act}(hA:∀x,A x->x<w.heap.size)(hG:cp w A)(hd:a.defers=[])(hs:N<=a.tmps.size):SR N w A [] ⟨al [] (λ_=>.any),[]⟩ a:=
 ⟨aG.empty w A hA hG,λt=>.any _,hd,hs⟩
theorem mB(K:cj C)(bJ:∀n,ch C (cN C n))(hP:C.P=Tryz.prog){x0:Operand}{tys:Array TypeId}{d:Nat}{ty:TypeId}{pos:String}{af:Array Edge}{ops:Array Oper}{id:Nat}{post:List Oper}{i:Nat}
  {w0 w:World} {A F:Nat->Prop} {Y:List (Nat×Nat)} {s:St} {a:Act} {b:Nat} {t:ByteArray} {Q:Exit->Act->World->Prop} {M:St->Prop}
  (R:SR N w F Y s a) (I:GI i w F Y w0.heap.size b t) (o:dE i s.h) (G:GS w0.heap.size w0 A [] [] w F s.h Y) (hA:∀x,A x->x<w0.heap.size) (hG:cp w0 A)
  (h0:ev s.V x0=.ptr i 0 0 0)
  (ho:ops.toList=⟨some d,.call ⟨.value (.func 83),#[x0],tys⟩,ty,pos,af,none⟩::post) (hd:ops.toList.all (dB N)=true)
  (e:ag C ops post ⟨al [(d,.str t)] (λ_=>.any),[]⟩ M)
  (hQ:∀s3 a3 w3 Y3,M s3->SR N w3 A Y3 s3 a3->Below w0.heap.size w0 w3->Q .normal a3 w3):(Code.region id ops false).wp C.P Q a w:=by
 have Dn:dB N ⟨some d,.call ⟨.value (.func 83),#[x0],tys⟩,ty,pos,af,none⟩=true:=TH.1 hd _ (by rw[ho];simp);obtain⟨s3,m3,n1,zc⟩:=e;refine wp_region ?_
 have eV:ops.size=post.length+1:=by
  have:=congrArg List.length ho;simpa using this
 have km:List.range ops.size=0::(List.map (·+(0+1)) (List.range post.length)++[]):=by
  rw[eV,U0,Uc]
 rw[km]
 have hk:ops[0]?=some ⟨some d,.call ⟨.value (.func 83),#[x0],tys⟩,ty,pos,af,none⟩:=by
  rw[<-T1,ho];rfl
 simp only[wpOps,hk];rw[if_pos (by simp[Region.wanted])]
 left
 have e0:=vp R I o h0;unfold Oper.wp;have LO:∀args w,(callFunc 83 args).run C.P w=.ok (.enter 83 args) w:=λargs w=>by rw[hP];exact enters_of Tryz.func83 (by kernel_rfl) rfl args w
 have LQ:(execOp a.eval ⟨some d,.call ⟨.value (.func 83),#[x0],tys⟩,ty,pos,af,none⟩).run C.P w=.ok (.enter 83 #[.pointer (some ⟨b,0,none⟩)]) w:=by
  simp only[execOp,resolve,Act.eval,Deferred.ofValue,Sem.run_bind,Sem.run_pure,Result.andThen_ok,invoke];have e1: #[x0].map a.eval= #[.pointer (some ⟨b,0,none⟩)]:=by simp[e0]
  have:=LO (#[x0].map a.eval) w;rw[e1]at this;rw[<-this,<-e1];simp
 rw[LQ,hP];refine(CU I.bl I.hB).mono ?_;rintro en w' ⟨rfl,hb⟩
 have lH:Below w0.heap.size w0 w':=by
  refine⟨hb.os.trans G.os,hb.tape.trans G.tape,hb.output.trans G.output,T' G.size hb.size,λk hk=>?_⟩;rw[hb.block k hk,G.aB k hk (.inl hk) (gU k)]
 have wa:=dK Dn R.sz
 have R1:SR N w' A [] ⟨al [(d,.str t)] (λ_=>.any),[]⟩ (a.put (some d) (.string t)):=by
  have R0:SR N w' A [] ⟨al [] (λ_=>.any),[]⟩ a:=SR.none (λx hx=>T4 (hA x hx) lH.size) (hG.mono (λx hx _=>lH.block x hx) (λx _ h=>h)) R.df R.sz;have h2:=R0.er.put (d:=some d) wa (.val (.str t));rw[bd]at h2;exact⟨R0.hr,h2,by rw[bN];exact R.df,by rw[cq];exact R.sz⟩
 rw[<-hP];refine hC K (bJ n1) hd [] [] post (0+1) (by simp[ho]) R1 (zc n1 (TI _)) (λa3 w3 Y3 R3 S3=>?_);simp only[wpOps];refine hQ s3 a3 w3 Y3 m3 R3 ⟨S3.os.trans lH.os,S3.tape.trans lH.tape,S3.output.trans lH.output,T' lH.size S3.size,λk hk=>?_⟩;rw[S3.aB k (T4 hk lH.size) (gU k)];exact lH.block k hk
end Go.Pm
namespace Go.Pm
open Go.Proofs Go.RowKit
variable[iD:Inhabited Prop]
set_option maxRecDepth 4000
theorem wL{N:Nat}{w:World}{A:Nat->Prop}{vs:List Value}{args:List PV}(ha:L2 (aS w A) vs args)(hA:∀x,A x->x<w.heap.size)(hG:cp w A):
  SR N w A [] ⟨al (s9 0 args) (λ_=>.undef),[]⟩ {tmps:=vs.toArray++Array.replicate (N - vs.toArray.size) undef,defers:=[]}:=by
 rw[<-ek];have hlen:=ha.1;refine⟨aG.empty w A hA hG,λt=>?_,rfl,by simp;omega⟩;show ar w (Av A [] []) [] [] ((vs.toArray++Array.replicate (N - vs.toArray.size) undef).getD t Go.undef) (args.getD t .undef)
 by_cases ht:t<args.length
 ·have e1:(vs.toArray++Array.replicate (N - vs.toArray.size) undef).getD t Go.undef=vs.getD t Go.undef:=by
   rw[Ui,Uz,if_pos (by simp;omega)];simp[List.getD]
  have e2:args.getD t .undef=args.getD t .any:=by simp[List.getD,ht]
  rw[e1,e2];exact .val ((ha.2 t ht).ia λb hb=>hb.elim id (λm=>absurd m (gU b)))
 ·have e1:(vs.toArray++Array.replicate (N - vs.toArray.size) undef).getD t Go.undef=Go.undef:=by
   rw[Ui,Uz];rw[if_neg (by simp;omega)];rw[UO]
   split <;>rfl
  have e2:args.getD t .undef=.undef:=by simp[List.getD,TZ (show args.length<=t by omega)]
  rw[e1,e2];exact .undef
theorem qv{C:bZ}{N:Nat}{w:World}{A:Nat->Prop}{Y:List (Nat×Nat)}{L:List (Nat×PV)}{V:Nat->PV}{h:aa}{a:Act}{fn:Func}{x:ByteArray}{n:Int}(R:SR N w A Y ⟨al L V,h⟩ a)(hr:fn.results.toList=[.tmp 2,.tmp 3])(h2:lk L 2=some (.str x))(h3:lk L 3=some (.int .i64 n)):
  (results fn a.tmps).run C.P w=.ok (.tuple #[.string x,.int .i64 n]) w:=by
 obtain⟨u,r1,r2⟩:=jv (P:=C.P) R.hr R.er fn (vs:=[.str x,.int .i64 n]) (by rw[hr];simp[cd,cC h2,cC h3]);rw[r1];obtain⟨us,rfl,hl,hu⟩:=(show ar w _ Y h u (.cT [.str x,.int .i64 n])from r2).l9
 match us,hl with
 |[u1,u2],_=>
  have e1:=(show ar w _ Y h u1 (.str x)from hu 0 (by simp)).gg;have e2:=(show ar w _ Y h u2 (.int .i64 n)from hu 1 (by simp)).cr;rw[e1,e2]
theorem EM{C:bZ}(hP:C.P=Tryz.prog){d:Nat}{ty:TypeId}{pos:String}{af:Array Edge}{id:Nat}{ops:Array Oper}(ho:ops.toList=[⟨some d,.alloc 103,ty,pos,af,none⟩]){Q:Exit->Act->World->Prop}{a:Act}{w:World}
  (hQ:Q .normal (a.put (some d) (.pointer (some ⟨w.heap.size,0,none⟩))) (w.alloc (.cells #[.pointer none,.slice none 0 0] 103))):(Code.region id ops false).wp C.P Q a w:=by
 refine wp_region ?_;have hk:ops[0]?=some ⟨some d,.alloc 103,ty,pos,af,none⟩:=by rw[<-T1,ho];rfl
 have hs:ops.size=1:=by rw[<-Uv,ho];rfl
 rw[hs];show wpOps C.P ops Q [0] a w;simp only[wpOps,hk];rw[if_pos (by simp[Region.wanted])]
 left
 unfold Oper.wp;have hz:=Tryz.zeroValue103 w
 have:(execOp a.eval ⟨some d,.alloc 103,ty,pos,af,none⟩).run C.P w=.ok (.value (.pointer (some ⟨w.heap.size,0,none⟩))) (w.alloc (.cells #[.pointer none,.slice none 0 0] 103)):=by
  rw[hP];simp only[execOp,Instr.alloc,Sem.run_bind,hz,Result.andThen_ok]
  rfl
 rw[this];exact hQ
theorem Bi{C:bZ}(hP:C.P=Tryz.prog){dz d:Nat}{Ph Pj Pk:TypeId}{p1 p2 p3:String}{Pl Pn Po:Array Edge}{id:Nat}{ops:Array Oper}(aU:dz≠d)
  (ho:ops.toList=[⟨some dz,.build 103 #[],Ph,p1,Pl,none⟩,⟨some d,.alloc 103,Pj,p2,Pn,none⟩,⟨none,.store 103 (.tmp d) (.tmp dz),Pk,p3,Po,none⟩]) {Q:Exit->Act->World->Prop} {a:Act} {w:World} (hd:d<a.tmps.size) (SC:dz<a.tmps.size)
  (hQ:Q .normal ((a.put (some dz) (.agg #[.pointer none,.slice none 0 0])).put (some d) (.pointer (some ⟨w.heap.size,0,none⟩))) (w.alloc (.cells #[.pointer none,.slice none 0 0] 103))):(Code.region id ops false).wp C.P Q a w:=by
 refine wp_region ?_;have h0:ops[0]?=some ⟨some dz,.build 103 #[],Ph,p1,Pl,none⟩:=by rw[<-T1,ho];rfl
 have h1:ops[1]?=some ⟨some d,.alloc 103,Pj,p2,Pn,none⟩:=by rw[<-T1,ho];rfl
 have h2:ops[2]?=some ⟨none,.store 103 (.tmp d) (.tmp dz),Pk,p3,Po,none⟩:=by rw[<-T1,ho];rfl
 have hs:ops.size=3:=by rw[<-Uv,ho];rfl
 rw[hs];show wpOps C.P ops Q [0,1,2] a w;simp only[wpOps,h0,h1,h2];rw[if_pos (by simp[Region.wanted])]
 left
 unfold Oper.wp;have hz:=λw=>Tryz.zeroValue103 w
 have hb:(execOp a.eval ⟨some dz,.build 103 #[],Ph,p1,Pl,none⟩).run C.P w=.ok (.value (.agg #[.pointer none,.slice none 0 0])) w:=by
  rw[hP]
  kernel_rfl
 rw[hb,Oper.upon_value];rw[if_pos (by simp[Region.wanted])]
 left
 have ha:∀a:Act,(execOp a.eval ⟨some d,.alloc 103,Pj,p2,Pn,none⟩).run C.P w=.ok (.value (.pointer (some ⟨w.heap.size,0,none⟩))) (w.alloc (.cells #[.pointer none,.slice none 0 0] 103)):=by
  intro a
  rw[hP];simp only[execOp,Instr.alloc,Sem.run_bind,hz,Result.andThen_ok]
  rfl
 rw[ha,Oper.upon_value];rw[if_pos (by simp[Region.wanted])]
 left
 obtain⟨a2,NC⟩:∃a2,a2=(a.put (some dz) (.agg #[.pointer none,.slice none 0 0])).put (some d) (.pointer (some ⟨w.heap.size,0,none⟩)):=⟨_,rfl⟩
 have Ed:(execOp a2.eval ⟨none,.store 103 (.tmp d) (.tmp dz),Pk,p3,Po,none⟩).run C.P (w.alloc (.cells #[.pointer none,.slice none 0 0] 103))=.ok .skip (w.alloc (.cells #[.pointer none,.slice none 0 0] 103)):=by
  have e1:a2.eval (.tmp d)=.pointer (some ⟨w.heap.size,0,none⟩):=by
   show a2.tmps.getD d undef=_;rw[NC,nL _ _ _ _ 0 (λk hk=>by obtain rfl:=TF hk;rw[cq];exact hd),if_pos rfl]
  have e2:a2.eval (.tmp dz)=.agg #[.pointer none,.slice none 0 0]:=by
   show a2.tmps.getD dz undef=_;rw[NC,nL _ _ _ _ 0 (λk hk=>by obtain rfl:=TF hk;rw[cq];exact hd),if_neg (by intro h;exact aU (TF h).symm),nL _ _ _ _ 0 (λk hk=>by obtain rfl:=TF hk;exact SC),if_pos rfl]
  have hc:=run_storeCells_at Tryz.prog w.heap.size 0 103 [.pointer none,.slice none 0 0] 0 #[.pointer none,.slice none 0 0] (w.alloc (.cells #[.pointer none,.slice none 0 0] 103)) (heap_alloc_new w _) (by simp) (λv hv=>by simp at hv;rcases hv with rfl |rfl <;>rfl);have im:=setRow_self (w.alloc (.cells #[.pointer none,.slice none 0 0] 103)) w.heap.size #[.pointer none,.slice none 0 0] 103 (0,0) (heap_alloc_new w _);have ez:=Tryz.sizeOf103 (w.alloc (.cells #[.pointer none,.slice none 0 0] 103));simp only[execOp,e1,e2,Instr.storeAt,Instr.sureAddr,Sem.run_bind,Sem.run_pure,Result.andThen_ok,storeVar];rw[hP];simp only[ez,Result.andThen_ok,Sem.run_bind];rw[if_neg (by simp[Value.cells])];simp only[Value.cells];rw[hc];simp only[List.take,List.drop,UP,Uc,UK,T2,Ut,Uu]at im ⊢;simp[im]
 rw[<-NC];rw[<-NC]at hQ;rw[Ed,Oper.upon_skip];exact hQ
namespace bu
attribute [local irreducible] aA az aH aF Ev ag ai aD bw cR tH kc jD
def uZ(t:Tm):ByteArray:=if valid t=0 then kE t else⟨#[]⟩
theorem u6{t:Tm}(hb:aE t<100000000){w:World}{A:Nat->Prop}{v:Value}(hv:aS w A v (enc t))(hA:∀x,A x->x<w.heap.size)(hG:cp w A):
  Calls C.P 80 #[v] w λe w'=>e=.returned (.tuple #[.string (uZ t),.int .i64 (valid t)])/\Below w.heap.size w w':=by
 have R0:=wL (N:=Tryz.f80.ntmps) (show L2 (aS w A) [v] [enc t]from⟨rfl,λj hj=>by
  match j,hj with
  |0,_=>exact hv
  |j+1,hj=>simp at hj⟩) hA hG
 have gC:=(tL t hb).nine;rw[vb]at R0 gC;refine calls_of_wp Tryz.func80 rfl ?_;refine wp_seq ?_;refine bG fw gW.mixed S9 (M:=λex s'=>ex=.normal/\∃V',s'=⟨al [(1,.ptr 0 0 0 0)] V',[⟨.m,0,4,[.agg [.int .i64 t.k,.str t.s,.int .i64 t.o,.ab false (aj t.l)]]⟩]⟩) (by rfl) (Ev.x T6 ?_) R0 ?_
 ·refine wA ?_;exact⟨rfl,_,St.aB ⟨rfl,trivial⟩⟩
 rintro ex s1 a1 w1 Y1 ⟨rfl,V1,rfl⟩ R1 S1;refine wp_seq ?_;refine bG fw gW.mixed S9 (M:=λex s'=>(ex=.ret/\valid t≠0/\∃V',s'=⟨al [(2,.str ⟨#[]⟩),(3,.int .i64 (valid t))] V',[⟨.m,0,4,[.agg [.int .i64 t.k,.str t.s,.int .i64 t.o,.ab false (aj t.l)]]⟩]⟩)\/(ex=.normal/\valid t=0/\∃V',s'=⟨al [(1,.ptr 0 0 0 0)] V',[⟨.m,0,4,[.agg [.int .i64 t.k,.str t.s,.int .i64 t.o,.ab false (aj t.l)]]⟩]⟩)) (by rfl) (Ev.x T6 ?_) R1 ?_
 ·refine wA ?_;refine .p gC ?_;refine wD (λhc=>?_) λhc=>?_;exact .inr ⟨rfl,by omega,_,St.aB ⟨rfl,trivial⟩⟩;exact .inl ⟨rfl,by assumption,_,St.aB ⟨rfl,rfl,trivial⟩⟩
 rintro ex s2 a2 w2 Y2 (⟨rfl,aU,V2,rfl⟩|⟨rfl,he,V2,rfl⟩) R2 S2
 ·have S:=S1.trans S2;refine⟨R2.df,_,qv (C:=C) R2 rfl rfl rfl,by rw[uZ,if_neg aU],S.os,S.tape,S.output,S.size,λk hk=>S.aB k hk (gU k)⟩
 ·refine wp_seq ?_;refine EM rfl rfl ?_;obtain⟨R3,I3,G3⟩:=R2.PM (B:=w.heap.size) (S1.trans S2).size (d:=5) (by have:=R2.sz;exact T4 (by decide) this);have G0:=(GS.of (B:=w.heap.size) (F:=A) (S1.trans S2)).trans G3;rw[bd]at R3
  have oU:dE 1 ([⟨.m,0,4,[.agg [.int .i64 t.k,.str t.s,.int .i64 t.o,.ab false (aj t.l)]]⟩]++[dC]):=⟨rfl,λj x e hj=>by
   match j,e with
   |0,e=>simp at e;subst e;exact .inl rfl
   |1,e=>exact absurd rfl hj
   |j+2,e=>simp at e⟩
  have B2:GF t:=λh1 h2 h3 h4 h5=>xZ (aE t) t (TI _) (jQ he) hb h1 h2 h3 h4 h5
  have hz:(⟨#[]⟩:ByteArray).size+10 * aE t<=100000000000000:=by show 0+_<=_;omega
  show Code.wp _ _ _ _ _;refine wp_seq ?_;refine cR.use (M:=λex s' u=>ex=.normal/\∃V',s'=⟨al [(5,.ptr 1 0 0 0)] V',[⟨.m,0,4,[.agg [.int .i64 t.k,.str t.s,.int .i64 t.o,.ab false (aj t.l)]]⟩,dC]⟩/\u=kE t) (cR.mono (cR.wr (R:=λL' h' u=>BA L' [(5,.ptr 1 0 0 0)]/\h'=[⟨.m,0,4,[.agg [.int .i64 t.k,.str t.s,.int .i64 t.o,.ab false (aj t.l)]]⟩,dC]/\u=kE t) B2 [_] ?_) ?_) R3 I3 ?_
  ·refine wA ?_;refine .wr ?_;exact .go ⟨⟨rfl,trivial⟩,rfl,kf _⟩
  ·rintro ex s' u ⟨L',h',rfl,rfl,hk,rfl,rfl⟩;exact⟨rfl,_,St.aB hk,rfl⟩
  rintro ex s4 u w4 F4 Y4 a4 ⟨rfl,V4,rfl,rfl⟩ R4 I4 G4;show Code.wp _ _ _ _ _;refine wp_seq ?_;refine mB fw S9 rfl (A:=A) (w0:=w) (M:=λs=>∃V',s=⟨al [(2,.str (kE t)),(3,.int .i64 0)] V',[]⟩) R4 I4 oU (G0.trans G4) hA hG (x0:=.tmp 5) rfl rfl rfl (eG T6 (Rn.out ?_) (λL' h' q=>q)) ?_
  ·refine wA ?_;exact⟨_,St.aB ⟨rfl,rfl,trivial⟩⟩
  rintro s5 a5 w5 Y5 ⟨V5,rfl⟩ R5 B5;show Code.wp _ _ _ _ _;refine wp_ret ⟨R5.df,_,qv (C:=C) R5 rfl rfl rfl,by rw[uZ,if_pos he,he],B5⟩
end bu
end Go.Pm
namespace Go.Pm
mutual
def uq:PV->PV->Bool
 | .int k n,.int k' n'=>decide (k=k')&&decide (n=n')
 | .bool a,.bool b=>a==b
 | .str a,.str b=>a.data.toList==b.data.toList
 | .agg cs,.agg ds=>vy cs ds
 | .cT cs,.cT ds=>vy cs ds
 | .ab f cs,.ab g ds=>(f==g)&&vy cs ds
 | .eK,.eK=>true
 | .c9,.c9=>true
 | .ay,.ay=>true
 |_,_=>false
def vy:List PV->List PV->Bool
 |[],[]=>true
 |c::cs,d::ds=>uq c d&&vy cs ds
 |_,_=>false
end
mutual
theorem D3:∀{a b:PV},uq a b=true->a=b
 | .int k n,b,h=>by cases b <;>simp[uq]at h;rw[h.1,h.2]
 | .bool x,b,h=>by cases b <;>simp[uq]at h;rw[h]
 | .str x,b,h=>by
  cases b <;>simp[uq]at h
  rename_i y
  cases x;cases y
  simp at h;rw[h]
 | .agg cs,b,h=>by cases b <;>simp[uq]at h;rw[nT h]
 | .cT cs,b,h=>by cases b <;>simp[uq]at h;rw[nT h]
 | .ab f cs,b,h=>by cases b <;>simp[uq]at h;rw[h.1,nT h.2]
 | .eK,b,h=>by cases b <;>simp[uq]at h;rfl
 | .c9,b,h=>by cases b <;>simp[uq]at h;rfl
 | .ay,b,h=>by cases b <;>simp[uq]at h;rfl
 | .an ..,b,h=>by simp[uq]at h
 | .ptr ..,b,h=>by simp[uq]at h
 | .cU _,b,h=>by simp[uq]at h
 | .fe _,b,h=>by simp[uq]at h
 | .fn ..,b,h=>by simp[uq]at h
 | .j4 ..,b,h=>by simp[uq]at h
 | .undef,b,h=>by simp[uq]at h
 | .any,b,h=>by simp[uq]at h
theorem nT:∀{a b:List PV},vy a b=true->a=b
 |[],b,h=>by cases b <;>simp[vy]at h;rfl
 |c::cs,b,h=>by
  cases b with
  |nil=>simp[vy]at h
  |cons d ds=>
   simp only[vy,TK]at h;rw[D3 h.1,nT h.2]
end
abbrev iJ:=List (FuncId×List PV×PV)
def Mh(m:iJ)(f:FuncId)(args:List PV):Option PV:=(m.find? λx=>Nat.beq x.1 f&&vy x.2.1 args).map (·.2.2)
def iK(m:iJ)(md:FuncId->Mode)(f:FuncId):Mode:=if m.any (λx=>Nat.beq x.1 f)=true then .ext (Mh m f)else md f
variable{P:Program}{md:FuncId->Mode}
def hZ(P:Program)(md:FuncId->Mode)(m:iJ):Prop:=∀x∈m,md x.1=.pure/\aW ⟨P,md⟩ x.1 x.2.1 x.2.2
theorem ur:∀{m:iJ},hZ P md m->∃n0,∀x∈m,md x.1=.pure/\∀n,n0<=n->∃r0 hc r1,cN ⟨P,md⟩ n x.1 x.2.1 []=some (r0,hc)/\sQ hc r0=some r1/\cJ r1=x.2.2
 |[],_=>⟨0,λx hx=>by cases hx⟩
 |y::m,h=>by
  obtain⟨n1,h1⟩:=ur (m:=m) λx hx=>h x (by simp[hx])
  obtain⟨hp,n2,h2⟩:=h y (by simp);refine⟨max n1 n2,λx hx=>?_⟩;rcases TW.1 hx with rfl |hx;exact⟨hp,λn hn=>h2 n (by omega)⟩;exact⟨(h1 x hx).1,λn hn=>(h1 x hx).2 n (by omega)⟩
theorem AQ{m:iJ}{n0:Nat}(hm:∀x∈m,md x.1=.pure/\∀n,n0<=n->∃r0 hc r1,cN ⟨P,md⟩ n x.1 x.2.1 []=some (r0,hc)/\sQ hc r0=some r1/\cJ r1=x.2.2):∀n,fm (cN ⟨P,iK m md⟩ n) (cN ⟨P,md⟩ (n+n0))
 |0=>λf args h x e=>by cases e
 |n+1=>by
  have ih:=AQ hm n;rw[show n+1+n0=(n+n0)+1 by omega];refine xy (P:=P) (md:=iK m md) (md':=md) (run:=cN ⟨P,iK m md⟩ n) (run':=cN ⟨P,md⟩ (n+n0)) ?_ (by omega)
  intro lv f args h x e
  by_cases hf:m.any (λx=>Nat.beq x.1 f)=true
  ·unfold cM at e;simp only[iK,if_pos hf]at e
   split at e
   ·rename_i hv
    obtain⟨r,hr,rfl⟩:=Uj.1 e;obtain⟨y,hy,rfl⟩:=Uj.1 hr;have Gg:=List.find?_some hy;have RV:=List.mem_of_find?_eq_some hy;simp only[TK]at Gg;obtain rfl:=Ud Gg.1;have ha:=nT Gg.2;obtain⟨hp,hq⟩:=hm y RV;obtain⟨r0,hc,r1,e1,e2,e3⟩:=hq (n+n0) (by omega);unfold cM;rw[show(⟨P,md⟩:bZ).mode y.1=.pure from hp];rw[ha]at e1;simp only[dp,hv,if_true,e1,e2,e3]
   cases e
  ·have Hh:iK m md f=md f:=if_neg hf;unfold cM at e ⊢;simp only[Hh]at e
   cases hq:md f <;>simp only[hq]at e ⊢
   cases e
   exact jF ih e;exact jG ih e;exact e;exact gN (λ_ _ _ x=>x) e;exact e
theorem aW.KY{m:iJ}(hm:hZ P md m){f:FuncId}{args:List PV}{r:PV}(a:aW ⟨P,iK m md⟩ f args r):aW ⟨P,md⟩ f args r:=by
 obtain⟨n0,hq⟩:=ur hm;obtain⟨n1,hn⟩:=a;refine⟨n1+n0,λn h1=>?_⟩;obtain⟨r0,hc,r1,e1,e2⟩:=hn (n - n0) (by omega);refine⟨r0,hc,r1,?_,e2⟩;have:=AQ hq (n - n0) _ _ _ _ e1;rwa[show n - n0+n0=n by omega]at this
def D4:Mode->Bool | .pure=>true |_=>false
theorem BJ{m:Mode}(h:D4 m=true):m=.pure:=by cases m <;>first |rfl |cases h
def jo(P:Program)(md:FuncId->Mode)(n:Nat)(rows:iJ):Bool:=rows.all λx=>match k9 ⟨P,md⟩ n x.1 x.2.1 with
 |some r=>uq r x.2.2
 |none=>false
theorem iL{m rows:iJ}{n:Nat}(hm:hZ P md m)(h1:jo P (iK m md) n rows=true)(h2:(rows.all λx=>D4 (md x.1))=true):hZ P md (rows++m):=by
 intro x hx
 rcases TP.1 hx with hx |hx
 ·refine⟨BJ (TH.1 h2 x hx),?_⟩;have h3:=TH.1 h1 x hx
  split at h3
  ·rename_i r hr
   rw[<-D3 h3];exact aW.KY hm (aW.qO hr)
  cases h3
 exact hm x hx
end Go.Pm
