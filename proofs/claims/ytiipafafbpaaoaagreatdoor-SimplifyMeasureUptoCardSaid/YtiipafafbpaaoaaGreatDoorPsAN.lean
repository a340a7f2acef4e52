/-
  Pm, a part. Conditions: none.
-/
import Derived.Test.YtiipafafbpaaoaaGreatDoorPsAM
set_option linter.unusedVariables false
set_option linter.unusedSimpArgs false
set_option linter.unnecessarySimpa false
set_option linter.unusedSectionVars false
namespace Go.Pm
variable{L:Al}{h:ab}{t:ByteArray}{n:Nat}{c:Code}{Y:Nat->PV}
open Go.Proofs
variable[iD:Inhabited Prop]
variable{C:cA}(T:li C.P)(N B b i:Nat)
inductive KG where
 |top (M:Ex->St->ByteArray->Prop)
 |seq (b:Code) (k:KG)
 |block (id:Nat) (k:KG)
 |loop (I:Al->ab->ByteArray->Prop) (k:KG)
variable{k:KG}
inductive NxT(I:Al->ab->ByteArray->Prop)(L:Al)(h:ab)(t:ByteArray):Prop
 |nx {L':Al} (a:I L' h t) (hk:NU L L':=by repeat(first |exact trivial |refine⟨?_,?_⟩|rfl |exact kI (by first |(simp;done)|(simp;omega)|omega)))
def aar(I:Al->ab->ByteArray->Prop)(s:St)(t:ByteArray):Prop:=∃L Y,s.Y=al L Y/\I L s.h t
theorem NxT.out{I:Al->ab->ByteArray->Prop}(x:NxT I L h t)(Y:Nat->PV):aar I ⟨al L Y,h⟩ t:=by
 cases x with |nx a g=>exact⟨_,al L Y,congrArg St.Y (St.ba (h:=h) g),a⟩
def acV(J:St->ByteArray->Prop)(M:Ex->St->ByteArray->Prop):Ex->St->ByteArray->Prop
 | .normal,s,t=>J s t
 |A,s,t=>M A s t
def KG.den:KG->Ex->St->ByteArray->Prop
 | .top M=>M
 | .seq c k=>F8 C N B b i c (KG.den k)
 | .block id k=>sc id (KG.den k)
 | .loop I k=>acV (aar I) (KG.den k)
def KG.ok:KG->Bool
 | .top _=>true
 | .seq c k=>codeOk N c&&KG.ok k
 | .block _ k=>KG.ok k
 | .loop _ k=>KG.ok k
inductive SpG(p:Prop):Prop
 |sp (k:p)
inductive GhX(h:ab)(p:Prop):Prop
 |mk (k:Rn p) (g:h[i]?=some gG:=by first |rfl |assumption |exact je.gh yxc)
def aeJ(o:Oper):Bool:=match o.op with
 | .call ⟨.value (.func f),_,_⟩=>Nat.beq f 113 ||Nat.beq f 141 ||Nat.beq f 110
 |_=>false
def isSp(ops:Array Oper):Bool:=match ops.toList.getLast? with |some o=>aeJ o |none=>false
def mA(n:Nat):Tk->KG->Al->(Nat->PV)->ab->ByteArray->Prop:=
 Nat.rec (motive:=λ_=>Tk->KG->Al->(Nat->PV)->ab->ByteArray->Prop) (λ_ _ _ _ _ _=>False)
  (λn P V k L Y h t=>match V with
   | .c c=>match c with
    | .skip=>P (.e .normal) k L Y h t
    | .label _=>P (.e .normal) k L Y h t
    | .region id O d=>match isSp O with
     |true=>SpG (fM C N B b i (.region id O d) ⟨al L Y,h⟩ t λA s t=>∃u f,A=.normal/\s=⟨al u Y,f⟩/\P (.e .normal) k u Y f t)
     |false=>GhX i h (match d with
      |false=>yR T O.toList O.toList L h λu f=>P (.e .normal) k u Y f t
      |true=>UI T O L h λu f=>P (.e .normal) k u Y f t)
    | .seq a b=>P (.c a) (.seq b k) L Y h t
    | .cond c a b=>mB L c λv=>match v with
     | .bool true=>P (.c a) k L Y h t
     | .bool false=>P (.c b) k L Y h t
     |_=>False
    | .block id c=>P (.c c) (.block id k) L Y h t
    | .loop c=>SpG (fM C N B b i (.loop c) ⟨al L Y,h⟩ t (KG.den (C:=C) N B b i k))
    | .scope c=>P (.c c) k L Y h t
    | .exit id=>P (.e (.exit id)) k L Y h t
    | .ret=>P (.e .ret) k L Y h t
    |_=>False
   | .e A=>match k with
    | .top M=>M A ⟨al L Y,h⟩ t
    | .seq b k=>match A with
     | .normal=>P (.c b) k L Y h t
     |A=>P (.e A) k L Y h t
    | .block id k=>match A with
     | .exit ee=>match Nat.beq ee id with
      |true=>P (.e .normal) k L Y h t
      |false=>P (.e (.exit ee)) k L Y h t
     |A=>P (.e A) k L Y h t
    | .loop I k=>match A with
     | .normal=>NxT I L h t
     |A=>P (.e A) k L Y h t) n
theorem aas:mA T N B b i (n+1) (.c c) k L Y h t=(match c with
    | .skip=>mA T N B b i n (.e .normal) k L Y h t
    | .label _=>mA T N B b i n (.e .normal) k L Y h t
    | .region id ops d=>match isSp ops with
     |true=>SpG (fM C N B b i (.region id ops d) ⟨al L Y,h⟩ t λA s t=>∃u h',A=.normal/\s=⟨al u Y,h'⟩/\mA T N B b i n (.e .normal) k u Y h' t)
     |false=>GhX i h (match d with
      |false=>yR T ops.toList ops.toList L h λu h'=>mA T N B b i n (.e .normal) k u Y h' t
      |true=>UI T ops L h λu h'=>mA T N B b i n (.e .normal) k u Y h' t)
    | .seq a g=>mA T N B b i n (.c a) (.seq g k) L Y h t
    | .cond c a g=>mB L c λv=>match v with
     | .bool true=>mA T N B b i n (.c a) k L Y h t
     | .bool false=>mA T N B b i n (.c g) k L Y h t
     |_=>False
    | .block id c=>mA T N B b i n (.c c) (.block id k) L Y h t
    | .loop c=>SpG (fM C N B b i (.loop c) ⟨al L Y,h⟩ t (KG.den (C:=C) N B b i k))
    | .scope c=>mA T N B b i n (.c c) k L Y h t
    | .exit id=>mA T N B b i n (.e (.exit id)) k L Y h t
    | .ret=>mA T N B b i n (.e .ret) k L Y h t
    |_=>False):=rfl
theorem aat{A:Ex}:mA T N B b i (n+1) (.e A) k L Y h t=(match k with
    | .top M=>M A ⟨al L Y,h⟩ t
    | .seq b' k=>match A with
     | .normal=>mA T N B b i n (.c b') k L Y h t
     |A=>mA T N B b i n (.e A) k L Y h t
    | .block id k=>match A with
     | .exit ee=>match Nat.beq ee id with
      |true=>mA T N B b i n (.e .normal) k L Y h t
      |false=>mA T N B b i n (.e (.exit ee)) k L Y h t
     |A=>mA T N B b i n (.e A) k L Y h t
    | .loop I k=>match A with
     | .normal=>NxT I L h t
     |A=>mA T N B b i n (.e A) k L Y h t):=rfl
variable{N B b i}
theorem eU(K:dn C)(j:C.P.follows .mixedOrders=true)(z:∀n,dJ C (dC C n)):∀{n:Nat} {tk:Tk} {k:KG} {L:Al} {Y:Nat->PV} {h:ab} {t:ByteArray},mA T N B b i n tk k L Y h t->KG.ok N k=true->
  match tk with | .c c=>codeOk N c=true->fM C N B b i c ⟨al L Y,h⟩ t (KG.den (C:=C) N B b i k)| .e A=>KG.den (C:=C) N B b i k A ⟨al L Y,h⟩ t
 |0,_,_,_,_,_,_,x,_=>x.elim
 |n+1,.c c,k,L,Y,h,t,x,f=>by
  have u:∀{D:Al} {H:ab} {J:ByteArray},mA T N B b i n (.e .normal) k D Y H J->KG.den (C:=C) N B b i k .normal ⟨al D Y,H⟩ J:=λy=>eU K j z (n:=n) (tk:=.e .normal) y f
  show codeOk N c=true->fM C N B b i c ⟨al L Y,h⟩ t (KG.den (C:=C) N B b i k)
  intro G
  rw[aas]at x
  split at x
  exact fM.skip (u x);exact fM.label (u x)
  ·rename_i V ops d
   split at x
   ·cases x with |sp x=>
    intro Q w F Z a R I hQ
    refine x Q w F Z a R I (λA s' J w' M X a' m U S O=>?_);obtain⟨D,H,rfl,rfl,y⟩:=m;exact hQ _ _ J w' M X a' (u y) U S O
   ·cases x with |mk x g=>
    refine fM.ev K j z g G ?_;have x:=x.out
    split at x
    exact Ev.region (jr T x λ_ _ y=>u y)
    ·cases x with
     |mk x f=>exact Ev.lT (sj T x.out λ_ _ y=>u y) f
     |raw x f=>
      obtain⟨y,⟨D,H,e,q⟩,n0,hn⟩:=x Y;exact Ev.lT ⟨y,by rw[e];exact u q,n0,hn⟩ f
     |calm D H e kk f=>exact⟨.normal,⟨al D Y,H⟩,u kk.out,0,λn m _ _=>by simp only[bT,if_true,f,e]⟩
     |m2 x f hw=>exact Ev.regionF (JG T x.out λ_ _ y=>u y) f hw
  ·simp only[codeOk,age]at G;exact fM.seq (eU K j z (n:=n) (tk:=.c _) (k:=.seq _ k) x (by simp only[KG.ok,G.2,f,ahd]) G.1)
  ·simp only[codeOk,age]at G;obtain⟨v,e,y⟩:=bM x
   split at y
   exact fM.LQ (ak e Y) (eU K j z (n:=n) (tk:=.c _) y f G.1);exact fM.LS (ak e Y) (eU K j z (n:=n) (tk:=.c _) y f G.2);exact y.elim
  exact fM.block (eU K j z (n:=n) (tk:=.c _) (k:=.block _ k) x f G)
  cases x with |sp e=>exact e
  exact fM.scope (eU K j z (n:=n) (tk:=.c _) x f G);exact fM.exit (eU K j z (n:=n) (tk:=.e _) x f);exact fM.ret (eU K j z (n:=n) (tk:=.e _) x f);exact x.elim
 |n+1,.e A,k,L,Y,h,t,x,f=>by
  show KG.den (C:=C) N B b i k A ⟨al L Y,h⟩ t;rw[aat]at x
  split at x
  exact x
  ·simp only[KG.ok,age]at f
   split at x
   exact eU K j z (n:=n) (tk:=.c _) x f.2 f.1
   ·have:=eU K j z (n:=n) (tk:=.e _) x f.2
    cases A with
    |normal=>simp_all
    |ret=>exact this
    |exit V=>exact this
  ·split at x
   ·split at x
    ·rename_i W
     have:=agW W;subst this;have:=eU K j z (n:=n) (tk:=.e _) x f;simp only[KG.den,sc,if_true];exact this
    ·rename_i W
     have:=eU K j z (n:=n) (tk:=.e _) x f;simp only[KG.den,sc];rw[if_neg (by intro h;subst h;rw[Nat.beq_refl]at W;cases W)];exact this
   ·have:=eU K j z (n:=n) (tk:=.e _) x f
    cases A with
    |normal=>exact this
    |ret=>exact this
    |exit V=>simp_all
  ·split at x
   ·exact x.out Y
   ·have:=eU K j z (n:=n) (tk:=.e _) x f
    cases A with
    |normal=>simp_all
    |ret=>exact this
    |exit V=>exact this
theorem fM.mono{s:St}{M d:Ex->St->ByteArray->Prop}(g:fM C N B b i c s t M)(h:∀A s t,M A s t->d A s t):fM C N B b i c s t d:=
 λQ w F Z a R I v=>g Q w F Z a R I (λA U j X W q u m=>v A U j X W q u (h _ _ _ m))
theorem fM.zip(K:dn C)(u:C.P.follows .mixedOrders=true)(z:∀n,dJ C (dC C n)){v:Type}(l:List v)(I:List v->List v->Al->ab->ByteArray->Prop)(h0:NxT (I [] l) L h t)
  (D:∀p a q L h Y t,l=p++a::q->I p (a::q) L h t->Rn (mA T N B b i 10000 (.c c) (.loop (I (p++[a]) q) k) L Y h t))
  (w:∀L h Y t,I l [] L h t->Rn (mA T N B b i 10000 (.c c) (.loop (λ_ _ _=>False) k) L Y h t)) (j:KG.ok N k=true:=by rfl) (G:codeOk N c=true:=by rfl):
  fM C N B b i (.loop c) ⟨al L Y,h⟩ t (KG.den (C:=C) N B b i k):=by
 refine fM.loop (λn s t=>∃p q,l=p++q/\q.length=n/\aar (I p q) s t) l.length ⟨[],l,rfl,rfl,h0.out Y⟩ ?_;rintro n ⟨y,S⟩ t ⟨p,q,e,F,L,Y,d,g⟩;have d:y=al L Y:=d;subst d
 cases q with
 |nil=>
  rw[agC]at e;subst e;refine fM.mono (eU T K u z (w L S Y t g).out j G) (λA U H m=>?_)
  cases A with
  |normal=>obtain⟨_,_,_,f⟩:=m;exact f.elim
  |ret=>exact .inr ⟨by simp,m⟩
  |exit V=>exact .inr ⟨by simp,m⟩
 |cons a q=>
  refine fM.mono (eU T K u z (D p a q L S Y t e g).out j G) (λA U H m=>?_)
  cases A with
  |normal=>exact .inl ⟨rfl,q.length,by simpa using F.symm,p++[a],q,by rw[e];simp,rfl,m⟩
  |ret=>exact .inr ⟨by simp,m⟩
  |exit V=>exact .inr ⟨by simp,m⟩
theorem je.cz{k:ab}(o:je i h)(g:∀x∈k,x.mu=.m\/x.mu=.f):je i (h++k):=by
 refine⟨by rw[af8 (ag o.1)];exact o.1,λj x e M=>?_⟩
 by_cases R:j<h.length
 rw[af8 R]at e;exact o.2 j x e M
 ·rw[agl yxa]at e;exact g x (agq e)
end Go.Pm
namespace Go.Pm
variable{B N b d i:Nat}{c:Code}{L:Al}{Y:Nat->PV}{h:ab}{t:ByteArray}{M:Ex->St->ByteArray->Prop}{w w':World}{A F:Nat->Prop}{Z:List (Nat×Nat)}{a:Act}{x0 x1:Operand}{j:String}{s:St}{ops:Array Oper}{Q:Exit->Act->World->Prop}
namespace aI
open Go.Proofs
variable[iD:Inhabited Prop]
set_option maxRecDepth 4000
theorem S9:∀n,dJ C (dC C n):=pQ jd ku
theorem fM.run(k:Rn (mA T6 N B b i 10000 (.c c) (.top M) L Y h t))(G:codeOk N c=true):fM C N B b i c ⟨al L Y,h⟩ t M:=
 eU (N:=N) (B:=B) (b:=b) (i:=i) T6 jd ku.mixed S9 k.out rfl G
attribute [local irreducible] aE az aO aL Ev ai ah ay bh fM F8 sc qL
theorem TQ(b x:Nat):¬Mb [gG] [(b,1)] x:=by
 rintro⟨V,o,n,D,_,P,_⟩
 match V,D with
 |0,D=>simp[gG]at D;subst D;cases P
 |V+1,D=>simp at D
theorem LU(W:IT B b t w):kJ w A Z h gG (b,1):=by
 obtain⟨Y,f,a⟩:=W.cs;refine .inl ⟨_,Y,f,agb _,by show 1 * 2<=_;omega,by simp[gG],λi e q=>?_⟩
 match i,q with
 |0,q=>
  simp[gG]at q;subst q;refine⟨rfl,λj p K=>?_⟩;have M:=ag K;have R:j<2:=M;refine⟨Y[j]' yxa,?_,?_⟩;simp[gG]
  ·have:p=.any:=by
    match j,R,K with
    |0,_,K=>simp[cells]at K;exact K.symm
    |1,_,K=>simp[cells]at K;exact K.symm
   rw[this];exact .any _
 |i+1,q=>simp[gG]at q
theorem Pl{f:FuncId}{i:Func}(v:C.P.funcs[f]?=some i)(S:i.body=some c)(z:i.results.toList=[]){args:List PV}{vs:List Value}{t':ByteArray}
  (j:L2 (aG w (Av F [gG] [(b,1)]) [(b,1)] [gG]) vs args) (U:∀x,F x->x<w.heap.size) (hG:eA w F) (I:GI 0 w F [(b,1)] B b t)
  (g:fM C i.ntmps B b 0 c ⟨al (Bx 0 args) (λ_=>.undef),[gG]⟩ t (λA _ Y=>(A=.normal\/A=.ret)/\Y=t')):
  Calls C.P f vs.toArray w λe w'=>e=.returned (.tuple #[])/\∃W,GI 0 w' W [(b,1)] B b t'/\GS B w F [gG] [(b,1)] w' W [gG] [(b,1)]/\∀x,W x->x<w'.heap.size:=by
 refine calls_of_wp v S ?_;have K:=j.1
 have H:bp w F [(b,1)] [gG]:=by
  refine⟨rfl,U,λV o n D N _=>?_,λV ee o o' n dB bD D N=>?_,λV o n D N O=>?_,hG.jk λx hx=>hx.elim _root_.id (λm=>absurd m (TQ b x))⟩
  ·match V,D,N with
   |0,D,N=>
    simp at D N;subst D N;exact LU I.bl
   |V+1,D,_=>simp at D
  ·have Q:=ag D;have X:=ag N;simp at Q X;omega
  ·match V,D with
   |0,D=>simp at D;subst D;rcases O with h |h <;>cases h
   |V+1,D=>simp at D
 have R:SR i.ntmps w F [(b,1)] ⟨pP args,[gG]⟩ {tmps:=vs.toArray++Array.replicate (i.ntmps - vs.toArray.size) undef,defers:=[]}:=by
  refine⟨H,λt=>?_,rfl,by simp;omega⟩;show aG w (Av F [gG] [(b,1)]) [(b,1)] [gG] ((vs.toArray++Array.replicate (i.ntmps - vs.toArray.size) undef).getD t Go.undef) (args.getD t .undef)
  by_cases Z:t<args.length
  ·have D:(vs.toArray++Array.replicate (i.ntmps - vs.toArray.size) undef).getD t Go.undef=vs.getD t Go.undef:=by
    rw[ag1,aho,if_pos yxd];simp[List.getD]
   have N:args.getD t .undef=args.getD t .any:=by simp[List.getD,Z]
   rw[D,N];exact j.2 t Z
  ·exact zat
 rw[iE]at R;unfold fM at g;refine g _ w F [(b,1)] _ R I (λA s' Y w' W G a' m y d J=>?_);obtain⟨M,rfl⟩:=m;obtain⟨u,q,r2⟩:=pn (P:=C.P) y.hr y.er i (vs:=[]) (by rw[z];rfl);obtain⟨us,rfl,hl,_⟩:=(show aG w' _ G s'.h u (.b8 [])from r2).qG;obtain rfl:us=[]:=agm hl
 have a:∃W,GI 0 w' W [(b,1)] B b Y/\GS B w F [gG] [(b,1)] w' W [gG] [(b,1)]/\∀x,W x->x<w'.heap.size:=
  ⟨W,⟨d.bl,d.hB,d.fb,d.fg,rfl⟩,⟨J.size,J.up,J.new,J.ba,λx _ m=>absurd m (TQ b x),J.os,J.tape,J.output⟩,y.hr.fin⟩
 rcases M with rfl |rfl;exact⟨y.df,_,q,rfl,a⟩;exact⟨y.df,_,q,rfl,a⟩
def Xi(a:Tm):Prop:=∀{w:World} {F:Nat->Prop} {v:Value} {B b:Nat} {t:ByteArray},cd w F v (enc a)->(∀x,F x->x<w.heap.size)->eA w F->GI 0 w F [(b,1)] B b t->t.size+10 * aC a<=100000000000000->
  Calls C.P 110 #[.pointer (some ⟨b,0,none⟩),v] w λe X=>e=.returned (.tuple #[])/\∃W,GI 0 X W [(b,1)] B b (t++I5 a)/\GS B w F [gG] [(b,1)] X W [gG] [(b,1)]/\∀x,W x->x<X.heap.size
theorem TP(a:Tm):enc a=.agg (Do a):=by cases a;rfl
theorem CV:∀a:Tm,aW (enc a)=true
 | .mk k s o l=>rfl
theorem ad8{a:Tm}(H:Xi a){y:Array TypeId}{d:Option Nat}{ty:TypeId}{g:Array Edge}(h0:ev s.Y x0=.ptr i 0 0 0)(h1:ev s.Y x1=enc a)(o:je i s.h)(A:t.size+10 * aC a<=100000000000000):
  qL C N B b i ⟨d,.call ⟨.value (.func 110),#[x0,x1],y⟩,ty,j,g,none⟩ s t .any (t++I5 a):=by
 refine xC (λV w=>enters_of Tryz.func110 (by kernel_rfl) rfl V w) (λw F Z u R I=>?_);have G:=EH R I o h0;have D:=R.er.ev R.hr.fG x1;rw[h1]at D;have n:cd w F (u.eval x1) (enc a):=(D.CN (CV a)).jk (λx U=>.inl U);have: #[x0,x1].map u.eval= #[.pointer (some ⟨b,0,none⟩),u.eval x1]:=by simp[G]
 rw[this];refine(H n R.hr.fin (R.hr.fG.jk λx U=>.inl U) ⟨I.bl,I.hB,I.fb,I.fg,rfl⟩ A).mono ?_;rintro e X ⟨rfl,W,f,J,M⟩;obtain⟨q,z,v⟩:=Rg R I o f J M;exact⟨_,W,rfl,q,z,v,.any _⟩
inductive WrX(i:Nat)(L:Al)(h:ab)(x0 x1:Operand)(t:ByteArray)(a:Tm)(R:ByteArray->Prop):Prop
 |wr (k:Rn (R (t++I5 a))) (o:je i h:=by assumption) (e0:cW L x0=some (.ptr i 0 0 0):=by rfl) (e1:cW L x1=some (enc a):=by first |rfl |exact congrArg some (TP _).symm) (hl:t.size+10 * aC a<=100000000000000:=by assumption)
theorem fM.wr{a:Tm}(H:Xi a)(pre:List Oper){y:Array TypeId}{ty:TypeId}{e:Array Edge}{V:Nat}{R:Al->ab->ByteArray->Prop}
  (k:Rn (yR T6 ops.toList pre L h λu h'=>WrX i u h' x0 x1 t a λt'=>R ((d,.any)::u) h' t'))
  (g:ops.toList=pre++[⟨some d,.call ⟨.value (.func 110),#[x0,x1],y⟩,ty,j,e,none⟩]:=by rfl) (J:ops.toList.all (fN N)=true:=by rfl) (S:h[i]?=some gG:=by first |rfl |assumption |exact je.gh yxc):
  fM C N B b i (.region V ops false) ⟨al L Y,h⟩ t (λA s t=>∃u h',A=.normal/\s=⟨al u Y,h'⟩/\R u h' t):=by
 refine fM.spec jd S9 pre _ [] S J g rfl (M1:=λv=>∃u h',v=⟨al u Y,h'⟩/\WrX i u h' x0 x1 t a λt'=>R ((d,.any)::u) h' t') (jr T6 k.out λu h' q=>⟨u,h',rfl,q⟩) ?_;rintro v ⟨u,h',rfl,x⟩
 cases x with |wr k o G D f=>
 exact⟨o.1,.any,_,ad8 H (ak G Y) (ak D Y) o f,ai.nil ⟨_,h',rfl,by show(⟨bZ (al u Y) (some d) .any,h'⟩:St)=_;rw[cy],k.out⟩⟩
theorem Iq:∀(n:Nat) (k:Tm),aC k<=n->TR k=true->aC k<100000000->∀{w:World} {F:Nat->Prop} {v:Value} {B b:Nat} {t:ByteArray},cd w F v (enc k)->(∀x,F x->x<w.heap.size)->eA w F->GI 0 w F [(b,1)] B b t->t.size+10 * aC k<=100000000000000->
  Calls C.P 110 #[.pointer (some ⟨b,0,none⟩),v] w λe w'=>e=.returned (.tuple #[])/\∃W,GI 0 w' W [(b,1)] B b (t++I5 k)/\GS B w F [gG] [(b,1)] w' W [gG] [(b,1)]/\∀x,W x->x<w'.heap.size:=by
 intro n
 induction n with
 |zero=>intro k A;have:=vS k;omega
 |succ n ih=>
 intro x A D hb w F v B b t hv hf hG I jz
 obtain⟨k,s,o,l⟩:=x;have eT:=Ir _ D;simp only[TR,age,decide_eq_true_eq]at D;obtain⟨D,f⟩:=D;simp only[aC]at A hb jz;have V:(⟨#[63]⟩:ByteArray).size=1:=rfl;have S:(⟨#[58]⟩:ByteArray).size=1:=rfl;have J:(⟨#[40]⟩:ByteArray).size=1:=rfl;have N:(⟨#[41]⟩:ByteArray).size=1:=rfl;have e5:(s++(⟨#[58]⟩:ByteArray)).size=s.size+1:=by rw[rc];rfl
 have O:(⟨#[44,32]⟩:ByteArray).size=2:=rfl;obtain⟨y,hws⟩:=TT D
 have Q:[PV.str ⟨#[97,110,121]⟩,.str ⟨#[97,103,101,110,116]⟩,.str ⟨#[110,111,110,99,101]⟩,.str ⟨#[107,101,121]⟩,.str ⟨#[100,97,116,97]⟩,.str ⟨#[116,97,103]⟩][o.toNat]?=some (.str (wrd o)):=by
  have:(abI.map PV.str)[o.toNat]?=some (.str (wrd o)):=by rw[agt,y];rfl
  exact this
 have oW:L2 (aG w (Av F [gG] [(b,1)]) [(b,1)] [gG]) [.pointer (some ⟨b,0,none⟩),v] [.ptr 0 0 0 0,enc (.mk k s o l)]:=⟨rfl,λj M=>by
  match j,M with
  |0,_=>exact .ptr _ 0 0 0 0 gG (b,1) ⟨_,rfl⟩ rfl rfl (by simp[gG]) ⟨agb _,by simp[gG]⟩ (λ_=>by simp)
  |1,_=>exact .val (hv.jk λx U=>U.elim _root_.id (λm=>absurd m (TQ b x)))
  |j+2,M=>simp at M;omega⟩
 refine Pl Tryz.func110 rfl rfl oW hf hG I (fM.run ?_ (by kernel_rfl));rw[enc];refine wI (λG=>?_) (λG G=>?_) λG G=>?_
 ·have z:je 0 [gG,⟨.m,0,4,[.agg (If k s o l)]⟩]:=je.one.cz (λx U=>by simp at U;subst U;exact .inl rfl);refine .sp (fM.ws T6 jd S9 rfl [_,_,_,_] ?_);refine wA ?_;refine .ws ?_;refine wC (λG=>?_) λG=>?_
  ·refine⟨.inr rfl,?_⟩;simp only[I5];rw[if_pos yxc,if_pos yxc]
  ·refine .sp (fM.ws T6 jd S9 rfl [_,_,_,_,_,_,_] ?_);refine wA ?_;refine .ws ?_;refine wA ?_;refine⟨.inr rfl,?_⟩;simp only[I5];rw[if_pos yxc,if_neg yxc,sY]
 ·have z:je 0 [gG,⟨.m,0,4,[.agg (If k s o l)]⟩]:=je.one.cz (λx U=>by simp at U;subst U;exact .inl rfl);refine .sp (fM.wsD T6 jd ku.mixed S9 rfl [_,_,_,_,_,_,_,_,_,_] ?_);refine wA ?_;refine⟨rfl,_,_,rfl,.ws ?_⟩;refine wA ?_;refine⟨.inr rfl,?_⟩;simp only[I5];rw[if_neg yxc,if_pos yxc]
 ·have z:je 0 [gG,⟨.m,0,4,[.agg (If k s o l)]⟩]:=je.one.cz (λx U=>by simp at U;subst U;exact .inl rfl);refine .sp (fM.ws T6 jd S9 rfl [_,_,_,_] ?_);refine wA ?_;refine .ws ?_;refine wA ?_;refine .sp (fM.zip T6 jd ku.mixed S9 l (λp _ L H u=>L=[(0,.ptr 0 0 0 0),(45,.aa false (ae l)),(46,.I (ae l).length),(47,.I p.length)]/\je 0 H/\u=t++(s++⟨#[40]⟩)++Is false p) (.nx ⟨rfl,z,by rw[Is,TW]⟩) ?_ ?_)
  ·rintro p a q _ H Y u e ⟨rfl,i,rfl⟩;have Q:=bO e;have X:=congrArg List.length e;have Z:=aj l;have R:=bF l;simp only[agf,agj]at X;have h:je 0 (H++[Pi a]):=i.cz (λx U=>by simp at U;subst U;exact .inl rfl);have d:a∈l:=by rw[e];simp
   have hba:=cc d;have K:=It f d;have y:Xi a:=λh1 h2 h3 h4 h5=>ih a yxa K yxa h1 h2 h3 h4 h5
   have hpz:=TX f e;have hzz:(t++(s++(⟨#[40]⟩:ByteArray))++Is false p).size+10 * aC a+2<=100000000000000:=by simp only[rc];omega
   have FA:(t++(s++(⟨#[40]⟩:ByteArray))++Is false p++(⟨#[44,32]⟩:ByteArray)).size+10 * aC a<=100000000000000:=by rw[rc];omega
   have hz3:(t++(s++(⟨#[40]⟩:ByteArray))++Is false p).size+(⟨#[44,32]⟩:ByteArray).size<=140737488355328:=by omega
   have hz4:(t++(s++(⟨#[40]⟩:ByteArray))++Is false p).size+10 * aC a<=100000000000000:=by omega
   refine wC (λG=>?_) λG=>?_
   ·have g:p≠[]:=by rintro rfl;simp at *
    refine .sp (fM.ws T6 jd S9 rfl [_] ?_);refine wA ?_;refine .ws ?_;refine wA ?_;refine .sp (fM.wr y [_,_] ?_);refine wA ?_;refine .wr ?_;refine wA ?_;refine .nx ⟨rfl,h,?_⟩;rw[BE,if_pos (.inr g)];simp only[sY]
   ·obtain rfl:p=[]:=agm yxa;refine .sp (fM.wr y [_,_] ?_);refine wA ?_;refine .wr ?_;refine wA ?_;refine .nx ⟨rfl,h,?_⟩;rw[BE,if_neg yxb,K'];simp only[sY]
  ·rintro _ H Y u ⟨rfl,i,rfl⟩;have Z:=aj l;have R:=bF l;have hz:=wT false l f;have hz5:(t++(s++(⟨#[40]⟩:ByteArray))++Is false l).size+1<=140737488355328:=by simp only[rc];omega
   refine wA ?_;refine .sp (fM.wb T6 jd S9 rfl [_] ?_);refine wA ?_;refine .wb 41 ?_;refine wA ?_;refine⟨.inl rfl,?_⟩;simp only[I5];rw[if_neg yxc,if_neg yxc];simp only[sY]
end aI
open Go.Proofs Go.RowKit
variable[iD:Inhabited Prop]
theorem zU(i:¬NE)(b:Below w.heap.size w w'):dH w w':=⟨b.size,λk g=>b.block k g,b.os,b.tape,b.output,λh=>absurd h i⟩
def GM:List PV->Option (List ByteArray)
 |[]=>some []
 | .str s::l=>match GM l with
  |some f=>some (s::f)
  |none=>none
 |_=>none
theorem Dn:∀{es:List PV} {xs:List ByteArray},GM es=some xs->es=xs.map .str
 |[],xs,h=>by simp[GM]at h;subst h;rfl
 |c::l,xs,h=>by
  cases c <;>simp only[GM,reduceCtorEq]at h
  rename_i s
  split at h
  ·rename_i Q F
   obtain rfl:=af7 h;rw[agp,<-Dn F]
  cases h
def GN(xs:List ByteArray)(P:ByteArray):ByteArray:=⟨(Lib.join (xs.map (·.data.toList)) P.data.toList).toArray⟩
def zV:List PV->ab->Option (PV×ab)
 |[p,.str P],h=>match yb h p with
  |some (.aa _ S)=>match GM S with
   |some f=>if f.length<=140737488355328/\(GN f P).size<=140737488355328 then some (.str (GN f P),h)else none
   |none=>none
  |_=>none
 |_,_=>none
theorem _root_.zby{P:Prop}(h:P:=by
 subst n;refine(Any.strings_Join_none vB CI a d P w).mono ?_;rintro N X ⟨rfl,rfl⟩;exact J _ _ ⟨rfl,Below.refl _ _⟩):P:=h
theorem QC(hD:¬NE):ez Tryz.prog 74 zV:=by
 intro V h r h' e w F Z vs H ha
 unfold zV at e
 split at e
 ·rename_i p P
  obtain⟨v0,v1,rfl,B,O⟩:=ha.two;have O:=O.jB;subst O
  split at e
  ·rename_i fl es hr
   split at e
   ·rename_i i hx
    split at e
    ·rename_i R
     obtain⟨rfl,rfl⟩:=agk (af7 e);obtain rfl:=Dn hx;have W:cd w (λ_=>False) v0 (.aa fl (i.map .str)):=zg H (λ_ _ _ h=>h) B hr (λ_ _ _ _ _ _ h=>h)
     have J:∀(N:Ending) (X:World),(N=.returned (.string (GN i P))/\Below w.heap.size w X)->∃v q,N=.returned v/\aG X (Av F h q) q h v (.str (GN i P))/\bp X F q h/\eN w h Z X h q/\((2:Nat)<=1->dH w X):=by
      rintro N X ⟨rfl,hb⟩;have g:=zU hD hb;exact⟨_,Z,rfl,.val (.str _),H.Cm g,g.xa h Z,λhh=>by omega⟩
     obtain⟨a,d,n,f,_⟩:=W.iC;rw[agY]at f;rcases W.tf with B |⟨b,U,Ge,sz,qw,M,_,jz,eW,Yq,y⟩
     ·have UW:i=[]:=by simpa using B
      subst UW;exact zby
     ·rcases i with _ |⟨Y,z⟩
      ·exact zby
      rw[M]at n
      cases n
      rw[M]
      have t:sz=1:=by
       have:=eW 0 yxb;simpa[cells]using this.symm
      subst t
      have Q:∀(j:Nat) x,(Y::z)[j]?=some x->w.cell? ⟨b,U+j,none⟩=some (.string x):=λj x S=>by
       have K:=ag S;have A:=Yq j 0 (by simpa using K) yxe;have D:=y j 0 (by simpa using K) yxe
       have hg:((Y::z).map PV.str).getD j .any=.str x:=by
        rw[agA,agt,S];rfl
       rw[hg]at D;have G:cd w (λ_=>False) (qw j 0) (.str x):=D;generalize qw j 0=u at A G
       cases G
       simpa using A
      rw[agY];exact(Qt b U d (Y::z) P w Q (zn (Q 0 Y rfl)) R.1 f (by simpa[GN,ByteArray.size]using R.2)).mono J
    cases e
   cases e
  cases e
 cases e
variable{C:cA}{N:Nat}
theorem SR.gh{w w':World}{F:Nat->Prop}{Z:List (Nat×Nat)}{s:St}{a:Act}{B:Nat}(R:SR N w F Z s a)(hB:B<=w.heap.size){d:Nat}(hd:d<a.tmps.size)
  (jz:w'.heap.size=w.heap.size+1) (hold:∀x,x<w.heap.size->w'.heap[x]?=w.heap[x]?) (Gp:w'.heap[w.heap.size]?=some (.cells #[.pointer none,.slice none 0 0] 134 (0,0))) (hos:w'.os=w.os/\w'.tape=w.tape/\w'.output=w.output):
  SR N w' (λx=>F x\/x=w.heap.size) (Z++[(w.heap.size,1)]) ⟨bZ s.Y (some d) (.ptr s.h.length 0 0 0),s.h++[gG]⟩ (a.put (some d) (.pointer (some ⟨w.heap.size,0,none⟩)))/\
  GI s.h.length w' (λx=>F x\/x=w.heap.size) (Z++[(w.heap.size,1)]) B w.heap.size ⟨#[]⟩/\
  GS B w F s.h Z w' (λx=>F x\/x=w.heap.size) (s.h++[gG]) (Z++[(w.heap.size,1)]):=by
 have hlen:=R.hr.len
 have lC:∀id,id<s.h.length->(s.h++[gG])[id]?=s.h[id]?/\(Z++[(w.heap.size,1)])[id]?=Z[id]?:=λid bL=>
  ⟨af8 bL,af8 (by omega)⟩
 have split:∀id (o':ax) (dB:Nat×Nat),(s.h++[gG])[id]?=some o'->(Z++[(w.heap.size,1)])[id]?=some dB->
   (id<s.h.length/\s.h[id]?=some o'/\Z[id]?=some dB)\/(id=s.h.length/\o'=gG/\dB=(w.heap.size,1)):=by
  intro id o' dB e1 e2
  by_cases bL:id<s.h.length
  ·left;rw[(lC id bL).1]at e1;rw[(lC id bL).2]at e2;exact⟨bL,e1,e2⟩
  ·right
   have:id<(s.h++[gG]).length:=ag e1;obtain rfl:id=s.h.length:=by simp at this;omega
   have PY:(s.h++[gG])[s.h.length]?=some gG:=by simp
   have e2':(Z++[(w.heap.size,1)])[s.h.length]?=some (w.heap.size,1):=by rw[<-hlen];simp
   rw[PY]at e1;rw[e2']at e2;exact⟨rfl,(af7 e1).symm,(af7 e2).symm⟩
 have hMb:∀x,Mb (s.h++[gG]) (Z++[(w.heap.size,1)]) x->Mb s.h Z x:=by
  rintro x ⟨id,o,bc,e1,e2,e3,rfl⟩;rcases split id o bc e1 e2 with⟨_,f1,f2⟩|⟨_,rfl,_⟩;exact⟨id,o,bc,f1,f2,e3,rfl⟩
  cases e3
 have hA:∀x,x<w.heap.size->¬Av F s.h Z x->¬Av (λx=>F x\/x=w.heap.size) (s.h++[gG]) (Z++[(w.heap.size,1)]) x:=λx hx hn ha=>by
  rcases ha with(h |h)|h;exact hn (.inl h);omega;exact hn (.inr (hMb x h))
 have hf:FJ s.h Z (s.h++[gG]) (Z++[(w.heap.size,1)]):=λid o bc e1 e2 e3=>by
  have bL:=ag e1;exact⟨o,bc,by rw[(lC id bL).1];exact e1,by rw[(lC id bL).2];exact e2,e3,⟨agb _,λh=>h⟩,λ_=>⟨rfl,λ_=>rfl,rfl⟩⟩
 have hv:∀(v:Value) (p:PV),aG w (Av F s.h Z) Z s.h v p->aG w' (Av (λx=>F x\/x=w.heap.size) (s.h++[gG]) (Z++[(w.heap.size,1)])) (Z++[(w.heap.size,1)]) (s.h++[gG]) v p:=λv p r=>r.UJ hf (λx hx _=>hold x hx) hA
 have hIs:IT B w.heap.size ⟨#[]⟩ w':=.inl ⟨hB,.slice none 0 0,Gp,World.ownsRow_nil w' _ _ _,by simp[Value.ownBlock]⟩
 have hH:bp w' (λx=>F x\/x=w.heap.size) (Z++[(w.heap.size,1)]) (s.h++[gG]):=by
  refine⟨by simp[hlen],λx hx=>?_,λid o bc e1 e2 e3=>?_,λid ee o o' bc dB bD e1 e2 e3 e4 m1 m2=>?_,λid o bc e1 e2 e3=>?_,R.hr.fG.mono (λx hx _=>hold x hx) hA⟩
  ·rcases hx with h |h
   ·have:=R.hr.fin x h;omega
   ·omega
  ·rcases split id o bc e1 e2 with⟨_,f1,f2⟩|⟨_,rfl,rfl⟩
   ·have r:=R.hr.obj id o bc f1 f2 e3;exact kJ.to (hold _ r.lt) r (λv e p _ _ q=>hv v p q)
   ·exact aI.LU hIs
  ·rcases split id o bc e1 e3 with⟨_,f1,f2⟩|⟨_,rfl,_⟩
   ·rcases split ee o' dB e2 e4 with⟨_,g1,g2⟩|⟨_,_,rfl⟩
    ·exact R.hr.iv id ee o o' bc dB bD f1 g1 f2 g2 m1 m2
    ·have:=(R.hr.obj id o bc f1 f2 (by rw[m1];simp)).lt;show bc.1≠w.heap.size;omega
   ·cases m1
  ·rcases split id o bc e1 e2 with⟨_,f1,f2⟩|⟨_,rfl,_⟩
   ·have h1:=R.hr.out id o bc f1 f2 e3;have h2:=(R.hr.obj id o bc f1 f2 (by rcases e3 with h |h <;>rw[h] <;>simp)).lt;rintro(h |h);exact h1 h;omega
   ·rcases e3 with h |h <;>cases h
 have aeI:aG w' (Av (λx=>F x\/x=w.heap.size) (s.h++[gG]) (Z++[(w.heap.size,1)])) (Z++[(w.heap.size,1)]) (s.h++[gG]) (.pointer (some ⟨w.heap.size,0,none⟩)) (.ptr s.h.length 0 0 0):=
  .ptr _ _ _ _ _ gG (w.heap.size,1) ⟨_,rfl⟩ (by simp) (by rw[<-hlen];simp) (by simp[gG]) ⟨agb _,by simp[gG]⟩ (λ_=>by simp)
 refine⟨⟨hH,iA.put (λx=>hv _ _ (R.er x)) (λk hk=>by obtain rfl:=af7 hk;exact hd) aeI,by rw[cE];exact R.df,by rw[eD];exact R.sz⟩,
  ⟨hIs,by omega,.inr rfl,λv g e1 e2=>?_,by rw[<-hlen];simp⟩,
  ⟨by omega,λx h=>.inl h,λx h=>h.imp id (λh=>by omega),λx hx _ _=>hold x hx,λx _ m=>hMb x m,hos.1,hos.2.1,hos.2.2⟩⟩
 rw[Lib.cell_of_heap Gp]at e1;simp at e1;subst e1
 all_goals(simp[Value.ownBlock]at e2)
theorem fM.use(g:fM C N B b i c s t M)(R:SR N w F Z s a)(I:GI i w F Z B b t)
  (v:∀A U t' w' W q u,M A U t'->SR N w' W q U u->GI i w' W q B b t'->GS B w F s.h Z w' W U.h q->Q (Gn A) u w'):c.wp C.P Q a w:=g Q w F Z a R I v
theorem SR.gha(R:SR N w F Z s a)(H:B<=w.heap.size)(J:d<a.tmps.size):
  SR N (w.alloc (.cells #[.pointer none,.slice none 0 0] 134)) (λx=>F x\/x=w.heap.size) (Z++[(w.heap.size,1)]) ⟨bZ s.Y (some d) (.ptr s.h.length 0 0 0),s.h++[gG]⟩ (a.put (some d) (.pointer (some ⟨w.heap.size,0,none⟩)))/\
  GI s.h.length (w.alloc (.cells #[.pointer none,.slice none 0 0] 134)) (λx=>F x\/x=w.heap.size) (Z++[(w.heap.size,1)]) B w.heap.size ⟨#[]⟩/\
  GS B w F s.h Z (w.alloc (.cells #[.pointer none,.slice none 0 0] 134)) (λx=>F x\/x=w.heap.size) (s.h++[gG]) (Z++[(w.heap.size,1)]):=
 R.gh H J yxb (λx U=>Lib.alloc_old w _ x U) (heap_alloc_new w _) ⟨rfl,rfl,rfl⟩
theorem SR.none(b:∀x,A x->x<w.heap.size)(hG:eA w A)(J:a.defers=[])(S:N<=a.tmps.size):SR N w A [] ⟨al [] (λ_=>.any),[]⟩ a:=
 ⟨bp.empty w A b hG,λt=>.any _,J,S⟩
theorem Cr(K:dn C)(cN:∀n,dJ C (dC C n))(H:C.P=Tryz.prog){y:Array TypeId}{ty:TypeId}{u:Array Edge}{id:Nat}{post:List Oper}
  {w0 w:World} {A F:Nat->Prop} {Z:List (Nat×Nat)} {s:St} {a:Act} {b:Nat} {t:ByteArray} {Q:Exit->Act->World->Prop} {M:St->Prop}
  (R:SR N w F Z s a) (I:GI i w F Z w0.heap.size b t) (o:je i s.h) (G:GS w0.heap.size w0 A [] [] w F s.h Z) (hA:∀x,A x->x<w0.heap.size) (hG:eA w0 A)
  (h0:ev s.Y x0=.ptr i 0 0 0)
  (v:ops.toList=⟨some d,.call ⟨.value (.func 111),#[x0],y⟩,ty,j,u,none⟩::post) (hd:ops.toList.all (fN N)=true)
  (e:ai C ops post ⟨al [(d,.str t)] (λ_=>.any),[]⟩ M)
  (hQ:∀z O q B,M z->SR N q A B z O->Below w0.heap.size w0 q->Q .normal O q):(Code.region id ops false).wp C.P Q a w:=by
 have QP:fN N ⟨some d,.call ⟨.value (.func 111),#[x0],y⟩,ty,j,u,none⟩=true:=af9.1 hd _ (by rw[v];simp);obtain⟨z,m3,n1,B9⟩:=e;refine wp_region ?_
 have jb:ops.size=post.length+1:=by
  have:=congrArg List.length v;simpa using this
 have qQ:List.range ops.size=0::(List.map (·+(0+1)) (List.range post.length)++[]):=by
  rw[jb,ahQ,agC]
 rw[qQ]
 have g:ops[0]?=some ⟨some d,.call ⟨.value (.func 111),#[x0],y⟩,ty,j,u,none⟩:=by
  rw[<-agG,v];rfl
 simp only[wpOps,g];rw[if_pos (by simp[Region.wanted])]
 left
 have e0:=EH R I o h0;unfold Oper.wp;have VJ:∀V w,(callFunc 111 V).run C.P w=.ok (.enter 111 V) w:=λV w=>by rw[H];exact enters_of Tryz.func111 (by kernel_rfl) rfl V w
 have D:(execOp a.eval ⟨some d,.call ⟨.value (.func 111),#[x0],y⟩,ty,j,u,none⟩).run C.P w=.ok (.enter 111 #[.pointer (some ⟨b,0,none⟩)]) w:=by
  simp only[execOp,resolve,Act.eval,Deferred.ofValue,Sem.run_bind,Sem.run_pure,Result.andThen_ok,invoke];have e1: #[x0].map a.eval= #[.pointer (some ⟨b,0,none⟩)]:=by simp[e0]
  have:=VJ (#[x0].map a.eval) w;rw[e1]at this;rw[<-this,<-e1];simp
 rw[D,H];refine(Qs I.bl I.hB).mono ?_;rintro en X ⟨rfl,W⟩
 have S:Below w0.heap.size w0 X:=by
  refine⟨W.os.trans G.os,W.tape.trans G.tape,W.output.trans G.output,agI G.size W.size,λk g=>?_⟩;rw[W.block k g,G.ba k g (.inl g) (l6 k)]
 have tP:=fp QP R.sz
 have R1:SR N X A [] ⟨al [(d,.str t)] (λ_=>.any),[]⟩ (a.put (some d) (.string t)):=by
  have J:SR N X A [] ⟨al [] (λ_=>.any),[]⟩ a:=SR.none (λx U=>agK (hA x U) S.size) (hG.mono (λx U _=>S.block x U) (λx _ h=>h)) R.df R.sz;have h2:=J.er.put (d:=some d) tP (.val (.str t));rw[cy]at h2;exact⟨J.hr,h2,by rw[cE];exact R.df,by rw[eD];exact R.sz⟩
 rw[<-H];refine mh K (cN n1) hd [] [] post (0+1) (by simp[v]) R1 (B9 n1 (agb _)) (λO q B R3 f=>?_);simp only[wpOps];refine hQ z O q B m3 R3 ⟨f.os.trans S.os,f.tape.trans S.tape,f.output.trans S.output,agI S.size f.size,λk g=>?_⟩;rw[f.ba k (agK g S.size) (l6 k)];exact S.block k g
end Go.Pm
namespace Go.Pm
variable{N:Nat}{w:World}{A:Nat->Prop}{a:Act}
open Go.Proofs Go.RowKit
variable[iD:Inhabited Prop]
set_option maxRecDepth 4000
theorem TN{vs:List Value}{args:List PV}(j:L2 (cd w A) vs args)(d:∀x,A x->x<w.heap.size)(hG:eA w A):
  SR N w A [] ⟨al (Bx 0 args) (λ_=>.undef),[]⟩ {tmps:=vs.toArray++Array.replicate (N - vs.toArray.size) undef,defers:=[]}:=by
 rw[<-iE];have K:=j.1;refine⟨bp.empty w A d hG,λt=>?_,rfl,by simp;omega⟩;show aG w (Av A [] []) [] [] ((vs.toArray++Array.replicate (N - vs.toArray.size) undef).getD t Go.undef) (args.getD t .undef)
 by_cases Z:t<args.length
 ·have D:(vs.toArray++Array.replicate (N - vs.toArray.size) undef).getD t Go.undef=vs.getD t Go.undef:=by
   rw[ag1,aho,if_pos yxd];simp[List.getD]
  have a:args.getD t .undef=args.getD t .any:=by simp[List.getD,Z]
  rw[D,a];exact .val ((j.2 t Z).jk λb W=>W.elim id (λm=>absurd m (l6 b)))
 ·have D:(vs.toArray++Array.replicate (N - vs.toArray.size) undef).getD t Go.undef=Go.undef:=by
   rw[ag1,aho];rw[if_neg yxd];rw[ahI]
   split <;>rfl
  have a:args.getD t .undef=.undef:=by simp[List.getD,agr (show args.length<=t by omega)]
  rw[D,a];exact .undef
theorem MY{C:cA}{Z:List (Nat×Nat)}{L:List (Nat×PV)}{Y:Nat->PV}{h:ab}{i:Func}{x:ByteArray}{n:Int}(R:SR N w A Z ⟨al L Y,h⟩ a)(z:i.results.toList=[.tmp 2,.tmp 3])(X:lk L 2=some (.str x))(Q:lk L 3=some (.I n)):
  (results i a.tmps).run C.P w=.ok (.tuple #[.string x,.I n]) w:=by
 obtain⟨u,e,V⟩:=pn (P:=C.P) R.hr R.er i (vs:=[.str x,.I n]) (by rw[z];simp[dM,fi X,fi Q]);rw[e];obtain⟨U,rfl,d,y⟩:=(show aG w _ Z h u (.b8 [.str x,.I n])from V).qG
 match U,d with
 |[g,B],_=>
  have D:=(show aG w _ Z h g (.str x)from y 0 yxb).jB;have b:=(show aG w _ Z h B (.I n)from y 1 yxb).dO;rw[D,b]
theorem TO{C:cA}(H:C.P=Tryz.prog){d:Nat}{ty:TypeId}{j:String}{e:Array Edge}{V:Nat}{ops:Array Oper}(f:ops.toList=[⟨some d,.alloc 134,ty,j,e,none⟩]){Q:Exit->Act->World->Prop}
  (v:Q .normal (a.put (some d) (.pointer (some ⟨w.heap.size,0,none⟩))) (w.alloc (.cells #[.pointer none,.slice none 0 0] 134))):(Code.region V ops false).wp C.P Q a w:=by
 refine wp_region ?_;have g:ops[0]?=some ⟨some d,.alloc 134,ty,j,e,none⟩:=by rw[<-agG,f];rfl
 have S:ops.size=1:=by rw[<-ahl,f];rfl
 rw[S];show wpOps C.P ops Q [0] a w;simp only[wpOps,g];rw[if_pos (by simp[Region.wanted])]
 left
 unfold Oper.wp;have M:=Tryz.zeroValue134 w
 have:(execOp a.eval ⟨some d,.alloc 134,ty,j,e,none⟩).run C.P w=.ok (.value (.pointer (some ⟨w.heap.size,0,none⟩))) (w.alloc (.cells #[.pointer none,.slice none 0 0] 134)):=by
  rw[H];simp only[execOp,Instr.alloc,Sem.run_bind,M,Result.andThen_ok]
  rfl
 rw[this];exact v
namespace aI
attribute [local irreducible] aE az aO aL Ev ai ah ay bh fM F8 sc qL
def QB(t:Tm):ByteArray:=if valid t=0 then I5 t else⟨#[]⟩
theorem Ey{t:Tm}(G:aC t<100000000){v:Value}(hv:cd w A v (enc t))(D:∀x,A x->x<w.heap.size)(hG:eA w A):
  Calls C.P 73 #[v] w λe w'=>e=.returned (.tuple #[.string (QB t),.I (valid t)])/\Below w.heap.size w w':=by
 have z:=TN (N:=Tryz.f73.ntmps) (show L2 (cd w A) [v] [enc t]from⟨rfl,λj f=>by
  match j,f with
  |0,_=>exact hv
  |j+1,f=>simp at f⟩) D hG
 have H:=(dZ t G).nine;rw[TP]at z H;refine calls_of_wp Tryz.func73 rfl ?_;refine wp_seq ?_;refine dV jd ku.mixed S9 (M:=λa U=>a=.normal/\∃b,U=⟨al [(1,.ptr 0 0 0 0)] b,[Pi t]⟩) (by rfl) (Ev.x T6 ?_) z ?_
 ·refine wA ?_;exact⟨rfl,_,St.ba ⟨rfl,trivial⟩⟩
 rintro a s1 a1 w1 Z1 ⟨rfl,Y1,rfl⟩ R1 h;refine wp_seq ?_;refine dV jd ku.mixed S9 (M:=λa U=>(a=.ret/\valid t≠0/\∃b,U=⟨al [(2,.str ⟨#[]⟩),(3,.I (valid t))] b,[Pi t]⟩)\/(a=.normal/\valid t=0/\∃b,U=⟨al [(1,.ptr 0 0 0 0)] b,[Pi t]⟩)) (by rfl) (Ev.x T6 ?_) R1 ?_
 ·refine wA ?_;refine .p H ?_;refine wC (λhc=>?_) λhc=>?_;exact .inr ⟨rfl,by omega,_,St.ba ⟨rfl,trivial⟩⟩;exact .inl ⟨rfl,by assumption,_,St.ba ⟨rfl,rfl,trivial⟩⟩
 rintro a s2 a2 w2 Z2 (⟨rfl,bD,Y2,rfl⟩|⟨rfl,n,Y2,rfl⟩) Y W
 ·have S:=h.trans W;refine⟨Y.df,_,MY (C:=C) Y rfl rfl rfl,by rw[QB,if_neg bD],S.os,S.tape,S.output,S.size,λk y=>S.ba k y (l6 k)⟩
 ·refine wp_seq ?_;refine TO rfl rfl ?_;obtain⟨X,I3,V⟩:=Y.gha (B:=w.heap.size) (h.trans W).size (d:=5) (by have:=Y.sz;exact agK yxe this);have O:=(GS.of (B:=w.heap.size) (F:=A) (h.trans W)).trans V;rw[cy]at X
  have oU:je 1 ([Pi t]++[gG]):=⟨rfl,λj x e f=>by
   match j,e with
   |0,e=>simp at e;subst e;exact .inl rfl
   |1,e=>exact absurd rfl f
   |j+2,e=>simp at e⟩
  have Z:Xi t:=λh1 h2 h3 h4 h5=>Iq (aC t) t (agb _) (Pk n) G h1 h2 h3 h4 h5
  have hz:(⟨#[]⟩:ByteArray).size+10 * aC t<=100000000000000:=by show 0+_<=_;omega
  show Code.wp _ _ _ _ _;refine wp_seq ?_;refine fM.use (M:=λa U u=>a=.normal/\∃b,U=⟨al [(5,.ptr 1 0 0 0)] b,[Pi t,gG]⟩/\u=I5 t) (fM.mono (fM.wr (R:=λg i u=>NU g [(5,.ptr 1 0 0 0)]/\i=[Pi t,gG]/\u=I5 t) Z [_] ?_) ?_) X I3 ?_
  ·refine wA ?_;refine .wr ?_;exact .go ⟨⟨rfl,trivial⟩,rfl,K' _⟩
  ·rintro a U u ⟨g,i,rfl,rfl,y,rfl,rfl⟩;exact⟨rfl,_,St.ba y,rfl⟩
  rintro a s4 u w4 F4 Z4 a4 ⟨rfl,Y4,rfl,rfl⟩ R4 I4 Q;show Code.wp _ _ _ _ _;refine wp_seq ?_;refine Cr jd S9 rfl (A:=A) (w0:=w) (M:=λs=>∃b,s=⟨al [(2,.str (I5 t)),(3,.I 0)] b,[]⟩) R4 I4 oU (O.trans Q) D hG (x0:=.tmp 5) rfl rfl rfl (jr T6 (Rn.out ?_) (λg i q=>q)) ?_
  ·refine wA ?_;exact⟨_,St.ba ⟨rfl,rfl,trivial⟩⟩
  rintro s5 a5 w5 Z5 ⟨Y5,rfl⟩ K J;show Code.wp _ _ _ _ _;refine wp_ret ⟨K.df,_,MY (C:=C) K rfl rfl rfl,by rw[QB,if_pos n,n],J⟩
end aI
end Go.Pm
namespace Go.Pm
variable{f:FuncId}{args es:List PV}{R e r:Int}{xs:ByteArray}{a t u:Tm}{P V c ep i m n:Nat}{H K h h':ab}{s:qp}{A:PV}{B:List (Tm×Tm)}{z:Tm×Tm}{d l:List cg}{k:fC}{Q:PV->ab->Prop}{j:List lW}
namespace XX
open Go.Proofs Go.RowKit
variable[iD:Inhabited Prop]
set_option maxRecDepth 4000
def Eu:List PV->ab->Option (PV×ab)
 |[x],h=>match Ew x with
  |some t=>if aC t<100000000 then some (.b8 [.str (aI.QB t),.int .i64 (valid t)],h)else none
  |none=>none
 |_,_=>none
theorem Vp(i:¬NE):ez aI.C.P 73 Eu:=by
 intro V h r f e w F Z W H a
 unfold Eu at e
 split at e
 ·rename_i x
  split at e
  ·rename_i t d
   split at e
   ·rename_i b
    obtain⟨rfl,rfl⟩:=agk (af7 e);obtain rfl:=vH x d
    obtain⟨v,rfl⟩:∃v,W=[v]:=by
     match W,a.1 with
     |[v],_=>exact⟨v,rfl⟩
    have J:cd w (Av F h Z) v (enc t):=(show aG w (Av F h Z) Z h v (enc t)from a.2 0 yxb).CN (aI.CV t);refine(aI.Ey b J (λx U=>Av.lt H U) H.fG).mono ?_;rintro N X ⟨rfl,u⟩;have g:=zU i u
    exact⟨_,Z,rfl,.val (.b8 [.string (aI.QB t),.I (valid t)] _ rfl (λj M=>by
     match j,M with
     |0,_=>exact .str _
     |1,_=>exact .int _ _
     |j+2,M=>simp at M;omega)),H.Cm g,g.xa h Z,λR=>by omega⟩
   cases e
  cases e
 cases e
def ps:List (FuncId× (List PV->ab->Option (PV×ab))):=[(74,zV),(73,Eu)]
noncomputable def C:cA:=Nt aI.C ps
theorem zW(x)(h:x∈ps):aI.zX x.1=.no:=by
 simp only[ps,agi,ag3,or_false]at h;rcases h with rfl |rfl <;>rfl
theorem up{r:PV}(a:aT aI.C f args r):aT C f args r:=aT.up (lu zW) a
theorem ok(i:¬NE):dn C:=ze aI.jd (λx h=>by
 simp only[ps,agi,ag3,or_false]at h;rcases h with rfl |rfl;exact QC i
 ·exact Vp i) (λx h=>by
 simp only[ps,agi,ag3,or_false]at h;rcases h with rfl |rfl;exact⟨_,Tryz.func74,by kernel_rfl,by kernel_rfl⟩;exact⟨_,Tryz.func73,by kernel_rfl,by kernel_rfl⟩)
theorem rU:ic C:=qI aI.ku
end XX
namespace tW
open Go.Proofs
variable[iD:Inhabited Prop]
set_option maxRecDepth 4000
def ps:List (FuncId× (List PV->ab->Option (PV×ab))):=[(215,Bl 400),(171,nk),(216,jG 8)]
noncomputable def C:cA:=Nt XX.C ps
noncomputable def T6:li C.P:=aI.T6
theorem zW(x)(h:x∈ps):XX.C.mode x.1=.no:=by
 simp only[ps,agi,ag3,or_false]at h;rcases h with rfl |rfl |rfl <;>rfl
theorem upA{r:PV}(a:aT XX.C f args r):aT C f args r:=aT.up (lu zW) a
theorem up{r:PV}(a:aT aI.C f args r):aT C f args r:=upA (XX.up a)
attribute [local irreducible] aE az aO aL Ev ai ah ay bh
def bS(F:List (Tm×Tm)):List PV:=aU (F.map λp=>⟨p.1,p.2⟩)
theorem lM(F:List (Tm×Tm)):(bS F).length=F.length:=by simp[bS]
def DG(H:ab)(v:PV)(es:List PV):Prop:=(∃f,v=.aa f es)\/∃V g U y,v=.an V g U es.length/\H[V]?=some ⟨.m,g,8,y⟩/\U+es.length<=y.length/\(y.drop U).take es.length=es
theorem _root_.zap{P:Prop}(h:P:=by
 obtain⟨B,X⟩:∃B:ab,B=H.set P ⟨.m,ep,8,U⟩:=⟨_,rfl⟩;rw[<-X];have D:B[e]?=some ⟨.m,0,1,[.bool b]⟩:=by rw[X,aga Q];exact W
 have N:B[P]?=some ⟨.m,ep,8,U⟩:=by rw[X];exact agc h
 cases b
 ·refine wA ?_;exact⟨rfl,rfl⟩
 ·refine wA ?_;refine .p V ?_;refine wC (λG=>?_) λG=>?_
  all_goals exact⟨rfl,by simp[G]⟩):P:=h
theorem OX(w:valid (.mk 1 xs R [])=0)(y:cV)(F:valid y.v=0)(b:Bool){f e:Nat}(O:HR H)(a:H[P]?=some ⟨.m,ep,8,es⟩)(q:es[i]?=some (fW y))(S:H[f]?=some ⟨.m,0,1,[.cq m]⟩)(d:H[m]?=some (⟨.m,0,0,[.agg [.agg [.str xs,.I R],enc u]]⟩))(W:H[e]?=some ⟨.m,0,1,[.bool b]⟩)(Q:P≠e)(A:aC (cw ([⟨.mk 1 xs R [],u⟩]) y.v)<100000000):
  ay C 214 [.ptr P ep i 0,.ptr f 0 0 0,.ptr e 0 0 0] H (λr h'=>r=.b8 []/\h'=(H.set P ⟨.m,ep,8,es.set i (fW ⟨cw ([⟨.mk 1 xs R [],u⟩]) y.v,y.t⟩)⟩).set e ⟨.m,0,1,[.bool (b&&decide (valid (cw ([⟨.mk 1 xs R [],u⟩]) y.v)=0))]⟩):=by
 have K:=MO (n:=400) (t:=y.v) d yxb (by have:=(dS.1 F).2.1;omega) F w;have V:=up (dZ (cw ([⟨.mk 1 xs R [],u⟩]) y.v) A).nine;obtain⟨z,M⟩:∃z,z=cw ([⟨.mk 1 xs R [],u⟩]) y.v:=⟨_,rfl⟩;rw[<-M]at K V ⊢;rw[au y.v,au z]at K;rw[au z]at V;rw[iG]at q ⊢;dsimp only;refine ay.x T6 Tryz.func214 rfl ?_;refine wA ?_;refine .Vd K ?_;refine wA ?_;have h:=ag a;have j:=ag W;obtain⟨U,g⟩:∃U,U=es.set i (.agg [.I z.k,.str z.s,.I z.o,.aa false (ae z.l),.I y.t.k,.str y.t.s,.I y.t.o,.aa false (ae y.t.l)]):=⟨_,rfl⟩;rw[<-g];have J:U[i]?=some (.agg [.I z.k,.str z.s,.I z.o,.aa false (ae z.l),.I y.t.k,.str y.t.s,.I y.t.o,.aa false (ae y.t.l)]):=by rw[g];exact List.getElem?_set_self (ag q)
 exact zap
theorem DH(w:valid (.mk 1 xs R [])=0)(y:cV)(F:valid y.t=0)(b:Bool){f e:Nat}(O:HR H)(a:H[P]?=some ⟨.m,ep,8,es⟩)(q:es[i]?=some (fW y))(S:H[f]?=some ⟨.m,0,1,[.cq m]⟩)(d:H[m]?=some (⟨.m,0,0,[.agg [.agg [.str xs,.I R],enc u]]⟩))(W:H[e]?=some ⟨.m,0,1,[.bool b]⟩)(Q:P≠e)(A:aC (cw ([⟨.mk 1 xs R [],u⟩]) y.t)<100000000):
  ay C 214 [.ptr P ep i 4,.ptr f 0 0 0,.ptr e 0 0 0] H (λr h'=>r=.b8 []/\h'=(H.set P ⟨.m,ep,8,es.set i (fW ⟨y.v,cw ([⟨.mk 1 xs R [],u⟩]) y.t⟩)⟩).set e ⟨.m,0,1,[.bool (b&&decide (valid (cw ([⟨.mk 1 xs R [],u⟩]) y.t)=0))]⟩):=by
 have K:=MO (n:=400) (t:=y.t) d yxb (by have:=(dS.1 F).2.1;omega) F w;have V:=up (dZ (cw ([⟨.mk 1 xs R [],u⟩]) y.t) A).nine;obtain⟨z,M⟩:∃z,z=cw ([⟨.mk 1 xs R [],u⟩]) y.t:=⟨_,rfl⟩;rw[<-M]at K V ⊢;rw[au y.t,au z]at K;rw[au z]at V;rw[iG]at q ⊢;dsimp only;refine ay.x T6 Tryz.func214 rfl ?_;refine wA ?_;refine .Vd K ?_;refine wA ?_;have h:=ag a;have j:=ag W;obtain⟨U,g⟩:∃U,U=es.set i (.agg [.I y.v.k,.str y.v.s,.I y.v.o,.aa false (ae y.v.l),.I z.k,.str z.s,.I z.o,.aa false (ae z.l)]):=⟨_,rfl⟩;rw[<-g];have J:U[i]?=some (.agg [.I y.v.k,.str y.v.s,.I y.v.o,.aa false (ae y.v.l),.I z.k,.str z.s,.I z.o,.aa false (ae z.l)]):=by rw[g];exact List.getElem?_set_self (ag q)
 exact zap
end tW
set_option maxRecDepth 4000
structure WN(s:qp):Prop where
 ps:yX s.ps
 bs:∀b∈s.bs,valid b.t=0
 pl:s.ps.length<10000000
 bl:s.bs.length<1000000
 bv:∀b∈s.bs,valid b.v=0
 nd:YL s.bs=true
namespace tW
open Go.Proofs
variable[iD:Inhabited Prop]
attribute [local irreducible] aE az aO aL Ev ai ah ay bh
def US(H:ab)(st:Nat)(s:qp):Prop:=∃P A,H[st]?=some ⟨.m,0,2,[.agg [P,A]]⟩/\DG H P (bS s.ps)/\Out 8 H A (aU s.bs)
theorem DG.cz{v:PV}(l:DG H v es)(J:ab):DG (H++J) v es:=by
 rcases l with l |⟨V,g,U,y,rfl,O,X,Q⟩;exact .inl l;exact .inr ⟨V,g,U,y,rfl,by rw[af8 (ag O)];exact O,X,Q⟩
theorem US.cz{H:ab}{st:Nat}{s:qp}(u:US H st s)(J:ab):US (H++J) st s:=by
 obtain⟨P,A,O,X,Q⟩:=u;exact⟨P,A,by rw[af8 (ag O)];exact O,X.cz J,Q.cz J⟩
theorem US.lt{st:Nat}(u:US H st s):st<H.length:=by
 obtain⟨P,A,O,X,Q⟩:=u;exact ag O
theorem US.take{H:ab}{st n:Nat}{s:qp}(u:US H st s)(hn:st<n)(z:HR (H.take n)):US (H.take n) st s:=by
 obtain⟨P,A,O,X,Q⟩:=u;have G:(H.take n)[st]?=some ⟨.m,0,2,[.agg [P,A]]⟩:=by rw[agD hn];exact O
 have d:=(z _ (agq G)).2;simp only[bB,bq,age,and_true]at d;obtain⟨N,a⟩:=d
 have t:∀i,i<(H.take n).length->(H.take n)[i]?=H[i]?:=λi B=>by
  rw[ag4]at B;exact agD yxa
 refine⟨P,A,G,?_,?_⟩
 ·rcases X with l |⟨V,g,U,y,rfl,K,b,D⟩
  ·exact .inl l
  ·simp only[bq,decide_eq_true_eq]at N;exact .inr ⟨V,g,U,y,rfl,(t V N).trans K,b,D⟩
 ·rcases Q with l |⟨V,g,rfl,K⟩
  ·exact .inl l
  ·simp only[bq,decide_eq_true_eq]at a;exact .inr ⟨V,g,rfl,(t V a).trans K⟩
def UP(n:Nat)(st:Nat)(R:qp×Int)(r:PV)(h':ab):Prop:=HR h'/\n<=h'.length/\r=.int .i64 R.2/\US h' st R.1
theorem xS{x y:Tm}(a:valid u=0)(F:valid y=0):aC (cw [⟨x,u⟩] y)<100000000:=by
 have h:=bu a;have H:=bu F
 have S:∀b∈[(⟨x,u⟩:cV)],aC b.t<=10000:=λb W=>by
  rw[agu]at W;subst W;exact h
 obtain⟨k,s,o,l⟩:=y;unfold cw
 split
 ·have:=vR (x:=.mk k s o l) S;omega
 ·have Q:=EE (l:=l) (λt _=>QW (by decide:1<=10000) S t);simp only[aC]at H ⊢;omega
theorem WO(U:valid (.mk 1 xs R [])=0){G:ab}(d:G[m]?=some ⟨.m,0,0,[]⟩)(q:PV):iQ aI.C.P G 230 (.cq m) (.agg [.str xs,.I R]) q=some (G.set m ⟨.m,0,0,[.agg [.agg [.str xs,.I R],q]]⟩):=by
 have y:aI.C.P.underlying 230=some (.map 228 38):=by kernel_rfl
 have A:=KA U;have B:aI.C.P.underlying 228=_:=Tryz.underlying228;have D:rz aI.C.P 228 (.agg [.str xs,.I R])=false:=by unfold rz;rw[B]
 have M:=qZ d yxb
 have u:No aI.C.P 228 (.agg [.str xs,.I R]) q []=some ([]++[.agg [.agg [.str xs,.I R],q]]):=by
  unfold No rN;simp only[D,A,ahG,ahd]
  rfl
 simp only[iQ,y,M,Ci,A,Bool.or_true,and_self,if_true,u]
 rfl
theorem DG.set{H:ab}{v:PV}{es xs:List PV}(l:DG H v es){st:Nat}(h0:H[st]?=some ⟨.m,0,2,xs⟩)(o:ax):DG (H.set st o) v es:=by
 rcases l with l |⟨V,g,U,y,rfl,O,X,Q⟩;exact .inl l
 ·refine .inr ⟨V,g,U,y,rfl,?_,X,Q⟩;rw[aga (λh=>?_)];exact O;subst h;rw[h0]at O;have:=(ax.mk.inj (af7 O)).2.2.1;omega
theorem MP{v:PV}{xs:List PV}(l:Out 8 H v es){st:Nat}(h0:H[st]?=some ⟨.m,0,2,xs⟩)(o:ax):Out 8 (H.set st o) v es:=by
 rcases l with l |⟨V,g,rfl,O⟩;exact .inl l
 ·refine .inr ⟨V,g,rfl,?_⟩;rw[aga (λh=>?_)];exact O;subst h;rw[h0]at O;have:=(ax.mk.inj (af7 O)).2.2.1;omega
theorem DG.bq{H:ab}{v:PV}{es:List PV}(l:DG H v es):Pm.bq (λi=>decide (i<H.length)) v=true:=by
 rcases l with⟨f,rfl⟩|⟨V,g,U,y,rfl,O,X,Q⟩
 rfl
 exact decide_eq_true (ag O)
theorem HR.st(w:HR H){st:Nat}{P:PV}{U:List PV}(l:DG H P es)(o:Out 8 H A U):HR (H.set st ⟨.m,0,2,[.agg [P,A]]⟩):=w.set st yxb (by simp[bB,Pm.bq,l.bq,o.bq])
theorem DG.cr{H:ab}{v:PV}{es:List PV}(l:DG H v es):Pm.cr H v=some es:=by
 rcases l with⟨f,rfl⟩|⟨V,g,U,y,rfl,O,X,Q⟩
 rfl
 simp only[Pm.cr,bw O rfl (by simp:Mu.m≠Mu.x),if_pos X,Q]
theorem MQ{v:PV}(o:Out 8 H v es):DG H v es:=by
 rcases o with⟨rfl,rfl⟩|⟨V,g,rfl,O⟩;exact .inl ⟨_,rfl⟩;exact .inr ⟨V,g,0,es,rfl,O,by omega,by simp⟩
theorem Bn{st:Nat}{v x y:PV}{W:List (Tm×Tm)}{D:List cV}(z:HR H)(hn:n<=H.length)(h0:H[st]?=some ⟨.m,0,2,[.agg [x,y]]⟩)(o:Out 8 H v (bS W))(b:Out 8 H A (aU D)):UP n st (⟨W,D⟩,e) (.I e) (H.set st ⟨.m,0,2,[.agg [v,A]]⟩):=
 ⟨HR.st z (MQ o) b,by simpa using hn,rfl,v,A,agc (ag h0),(MQ o).set h0 _,MP b h0 _⟩
theorem H4(F:List (Tm×Tm)):(bS F).all (λv=>decide ((cells v).length=8)&& (cells v).all bP)=true:=by
 rw[af9]
 intro v J
 obtain⟨b,_,rfl⟩:=agv.1 J
 rfl
theorem Tj{P:PV}{F:List (Tm×Tm)}(l:DG K P (bS F))(A:F.length<10000000)(d:HR K):∃r v,jG 8 [P] K=some (r,v)/\Out 8 v r (bS F)/\HR v/\(∀j,j<K.length->v[j]?=K[j]?)/\K.length<=v.length/\(∀i∈bJ r,K.length<=i):=by
 have Z:=lM F
 have N:∀{S:List PV},S=bS F->Out 8 (newObj K 8 S) (.an K.length 0 0 S.length) (bS F)/\HR (newObj K 8 S)/\(∀j,j<K.length->(newObj K 8 S)[j]?=K[j]?)/\K.length<=(newObj K 8 S).length/\(∀i∈bJ (.an K.length 0 0 S.length),K.length<=i):=λ{S} e=>by
  subst e;exact⟨.inr ⟨K.length,0,rfl,by simp[newObj]⟩,d.cx (HV.one (by simp[bS])),λj M=>af8 M,by simp[newObj],by simp[bJ]⟩
 have none:F=[]->Out 8 K (.aa true []) (bS F)/\HR K/\(∀j,j<K.length->K[j]?=K[j]?)/\K.length<=K.length/\(∀i∈bJ (.aa true []),K.length<=i):=λe=>by
  subst e;exact⟨.inl ⟨rfl,rfl⟩,d,λ_ _=>rfl,agb _,by simp[bJ]⟩
 rcases l with⟨f,rfl⟩|⟨V,g,U,y,rfl,b,a,D⟩
 ·by_cases q:F=[]
  ·exact⟨.aa true [],K,by subst q;rfl,none q⟩
  ·have Q:(bS F).isEmpty=false:=by cases F with |nil=>exact absurd rfl q |cons=>rfl
   refine⟨.an K.length 0 0 (bS F).length,newObj K 8 (bS F),?_,N rfl⟩;simp only[jG,nJ,bW,Q,agn,if_false];rw[if_pos ⟨H4 F,by omega⟩]
 ·by_cases q:F=[]
  ·refine⟨.aa true [],K,?_,none q⟩;subst q;simp only[bS,aU,agF,agH]at a ⊢;simp only[jG,b];rw[if_pos ⟨by simp,trivial,trivial,by omega⟩]
  ·have h:0<F.length:=ahD.2 q;refine⟨.an K.length 0 0 (bS F).length,newObj K 8 (bS F),?_,N rfl⟩;obtain⟨n,z⟩:∃n,(bS F).length=n+1:=⟨(bS F).length - 1,by omega⟩;rw[z]at a D ⊢;simp only[jG,nJ,b];rw[if_pos ⟨by simp,trivial,trivial,a,by omega,by rw[D];exact H4 F,by omega⟩,D]
theorem DI{A:List (Tm×Tm)}(a b:Tm):(bS (A++z::B)).set A.length (fW ⟨a,b⟩)=bS (A++(a,b)::B):=by
 simp[bS,aU]
theorem H6{A:List (Tm×Tm)}:(bS (A++z::B))[A.length]?=some (fW ⟨z.1,z.2⟩):=by
 simp[bS,aU]
theorem WQ(x u:Tm)(hx:valid x=0)(hk:x.k=1)(hu:valid u=0)(s:qp)(hs:WN s)(st:Nat)(H:ab)(hH:HR H)(h:US H st s):
  ay C 170 [.ptr st 0 0 0,enc x,enc u] H (UP H.length st (ij x u s)):=by
 have FP:=iL hx hk;obtain⟨k,f,R,l⟩:=x;simp only[Tm.k,Tm.l]at hk FP;subst hk FP;obtain⟨S,D⟩:=s;obtain⟨pv,y,h0,X,h3⟩:=h;dsimp only at X h3;have abl:=up (aI.HU (.mk 1 f R []));have abm:=ag h0;rw[bE]at abl;dsimp only[Tm.s,Tm.o]at abl;rw[bE,au u];obtain⟨d,O⟩:∃n,n=H.length:=⟨_,rfl⟩;obtain⟨G,hG⟩:∃G:ab,G=H++[⟨.m,0,4,[.agg [.I 1,.str f,.I R,.aa false (ae [])]]⟩]++[Pi u]:=⟨_,rfl⟩;obtain⟨nU,hnU⟩:∃n,n=(H++[(⟨.m,0,4,[.agg [.I 1,.str f,.I R,.aa false (ae [])]]⟩:ax)]).length:=⟨_,rfl⟩;obtain⟨m,hm⟩:∃n,n=G.length:=⟨_,rfl⟩;refine ay.x T6 Tryz.func170 rfl ?_;refine wA ?_;refine .p abl ?_;refine wA ?_;rw[<-hG,<-O,<-hnU,<-hm];have V4:=WO (G:=G++[⟨.m,0,0,[]⟩]) (m:=m) hx (by rw[hm];simp) (.agg (Do u));refine .mk (v:=.undef) (h':=(G++[(⟨.m,0,0,[]⟩:ax)]).set m ⟨.m,0,0,[.agg [.agg [.str f,.I R],.agg (Do u)]]⟩) (λrun Y=>congrArg (Option.map λx=>(PV.undef,x)) V4) ?_;rw[show(G++[(⟨.m,0,0,[]⟩:ax)]).set m ⟨.m,0,0,[.agg [.agg [.str f,.I R],.agg (Do u)]]⟩=G++[⟨.m,0,0,[.agg [.agg [.str f,.I R],.agg (Do u)]]⟩] by rw[hm];simp];refine wA ?_;obtain⟨mv,hmv⟩:∃n,n=(G++[(⟨.m,0,0,[.agg [.agg [.str f,.I R],.agg (Do u)]]⟩:ax)]).length:=⟨_,rfl⟩
 obtain⟨a,hrb⟩:∃n,n=(G++[(⟨.m,0,0,[.agg [.agg [.str f,.I R],.agg (Do u)]]⟩:ax)]++[(⟨.m,0,1,[.cq m]⟩:ax)]).length:=⟨_,rfl⟩;obtain⟨K,w⟩:∃K:ab,K=G++[⟨.m,0,0,[.agg [.agg [.str f,.I R],.agg (Do u)]]⟩]++[⟨.m,0,1,[.cq m]⟩]++[⟨.m,0,1,[.bool true]⟩]:=⟨_,rfl⟩;rw[<-w,<-hmv,<-hrb];have lG:G.length=d+2:=by rw[hG,O];simp
 have lK:K.length=d+5:=by rw[w];simp[lG]
 have em:m=d+2:=by rw[hm,lG]
 have emv:mv=d+3:=by rw[hmv];simp[lG]
 have erb:a=d+4:=by rw[hrb];simp[lG]
 have enU:nU=d+1:=by rw[hnU,O];simp
 have old:∀j,j<d->K[j]?=H[j]?:=λj N=>by
  rw[w,hG];simp only[ags];rw[af8 yxa]
 have kX:K[d]?=some ⟨.m,0,4,[.agg [.I 1,.str f,.I R,.aa false (ae [])]]⟩:=by rw[w,hG,O];simp
 have kU:K[nU]?=some (Pi u):=by rw[w,hG,hnU];simp
 have km:K[m]?=some ⟨.m,0,0,[.agg [.agg [.str f,.I R],enc u]]⟩:=by rw[w,hm,au u];simp
 have kmv:K[mv]?=some ⟨.m,0,1,[.cq m]⟩:=by rw[w,hmv];simp
 have krb:K[a]?=some ⟨.m,0,1,[.bool true]⟩:=by rw[w,hrb];simp
 have hGR:HR G:=by rw[hG];exact(hH.cx (HV.one yxb)).cx (HV.one yxb)
 have kR:HR K:=by
  rw[w];refine((hGR.cx (HV.one yxb)).Gt yxb ?_).cx (HV.one yxb);simp[bB,Pm.bq,lG,em]
 have Q:K[st]?=some ⟨.m,0,2,[.agg [pv,y]]⟩:=(old st yxa).trans h0;have kL:DG K pv (bS S):=by rw[w,hG];exact((((X.cz _).cz _).cz _).cz _).cz _
 have kO:Out 8 K y (aU D):=by rw[w,hG];exact((((h3.cz _).cz _).cz _).cz _).cz _
 have kvb:∀i∈bJ y,i<d:=λi M=>by rw[O];exact h3.nP i M
 clear V4 w hG hm hmv hrb hnU old X h3 h0;obtain⟨r,K1,eW,c1,c2,c3,c4,c5⟩:=Tj kL hs.pl kR;refine wA ?_;refine .Vd eW ?_;refine wA ?_;have afR:S.length<10000000:=hs.pl;have afS:D.length<1000000:=hs.bl;have hf:∀p:List (Tm×Tm),(p.map (uP (.mk 1 f R []) u)).length=p.length:=λp=>by simp
 have oH:∀p:List (Tm×Tm),(bS p).length=p.length:=lM;refine dU.zip T6 S (λp q L B=>∃b,L=[(0,.ptr st 0 0 0),(4,.ptr d 0 0 0),(5,.ptr nU 0 0 0),(8,.ptr a 0 0 0),(9,.fn 214 [.ptr mv 0 0 0,.ptr a 0 0 0]),(10,r),(25,.I (bS S).length),(26,.I p.length)]/\HR B/\Out 8 B r (bS (p.map (uP (.mk 1 f R []) u)++q))/\B[a]?=some ⟨.m,0,1,[.bool b]⟩/\(∀j,j<K.length->j≠a->B[j]?=K[j]?)/\K.length<=B.length/\b=(p.map (uP (.mk 1 f R []) u)).all okP) (.nx ⟨true,rfl,c2,c1,(c3 a yxa).trans krb,λj N _=>c3 j N,c4,rfl⟩) ?_ ?_
 ·rintro p z q _ B Y e2 ⟨b,rfl,q1,q2,q3,q4,q5,q6⟩;have eR:=lenE e2;obtain⟨Jf,FA⟩:=hs.ps z (by rw[e2];simp);rcases q2 with⟨_,h0⟩|⟨P,W,hr,hP⟩
  ·have:=congrArg List.length h0;simp[bS,aU]at this
  subst hr;have hPK:=c5 P yxi;have hPl:=ag hP;have hpf:=hf p;have cL:=oH S;have hA:=oH (p.map (uP (.mk 1 f R []) u)++z::q);rw[agf,hf,agj]at hA;refine wA ?_;rw[agz p.length];have g:=(q4 m yxa yxa).trans km;have OY:=(q4 mv yxa yxa).trans kmv;have J:(bS (p.map (uP (.mk 1 f R []) u)++z::q))[p.length]?=some (fW ⟨z.1,z.2⟩):=by rw[<-hf p];exact H6
  have V:=OX hx ⟨z.1,z.2⟩ Jf b q1 hP J OY g q3 yxa (xS hu Jf);rw[show(bS (p.map (uP (.mk 1 f R []) u)++z::q)).set p.length (fW ⟨cw [⟨.mk 1 f R [],u⟩] z.1,z.2⟩)=bS (p.map (uP (.mk 1 f R []) u)++(cw [⟨.mk 1 f R [],u⟩] z.1,z.2)::q) by rw[<-hf p];exact DI _ _]at V;refine ah.ln V (λr Z e=>by rw[e.2];simp) (λr Z e=>?_);obtain⟨rfl,rfl⟩:=e;obtain⟨A,U0⟩:∃A:ab,A=(B.set P ⟨.m,W,8,bS (p.map (uP (.mk 1 f R []) u)++(cw [⟨.mk 1 f R [],u⟩] z.1,z.2)::q)⟩).set a ⟨.m,0,1,[.bool (b&&decide (valid (cw [⟨.mk 1 f R [],u⟩] z.1)=0))]⟩:=⟨_,rfl⟩;have w1:HR A:=by rw[U0];exact(q1.set P yxb (bg _ _ (by simp[bS]))).set a yxb (by simp[bB,Pm.bq])
  have w2:A[P]?=some ⟨.m,W,8,bS (p.map (uP (.mk 1 f R []) u)++(cw [⟨.mk 1 f R [],u⟩] z.1,z.2)::q)⟩:=by rw[U0,aga yxa,agc hPl]
  have w3:A[a]?=some ⟨.m,0,1,[.bool (b&&decide (valid (cw [⟨.mk 1 f R [],u⟩] z.1)=0))]⟩:=by rw[U0,agc yxd]
  have w4:∀j,j<K.length->j≠a->A[j]?=K[j]?:=λj N bD=>by rw[U0,aga (agV bD),aga yxa];exact q4 j N bD
  have w5:K.length<=A.length:=by rw[U0];simpa using q5
  rw[<-U0];clear U0 V q1 q3 q4 q5 g OY hP;have hA2:=oH (p.map (uP (.mk 1 f R []) u)++(cw [⟨.mk 1 f R [],u⟩] z.1,z.2)::q);rw[agf,hf,agj]at hA2;refine wA ?_;rw[agz p.length];have g:=(w4 m yxa yxa).trans km;have OY:=(w4 mv yxa yxa).trans kmv;have J:(bS (p.map (uP (.mk 1 f R []) u)++(cw [⟨.mk 1 f R [],u⟩] z.1,z.2)::q))[p.length]?=some (fW ⟨cw [⟨.mk 1 f R [],u⟩] z.1,z.2⟩):=by rw[<-hf p];exact H6
  have V:=DH hx ⟨cw [⟨.mk 1 f R [],u⟩] z.1,z.2⟩ FA (b&&decide (valid (cw [⟨.mk 1 f R [],u⟩] z.1)=0)) w1 w2 J OY g w3 yxa (xS hu FA);rw[show(bS (p.map (uP (.mk 1 f R []) u)++(cw [⟨.mk 1 f R [],u⟩] z.1,z.2)::q)).set p.length (fW ⟨cw [⟨.mk 1 f R [],u⟩] z.1,cw [⟨.mk 1 f R [],u⟩] z.2⟩)=bS ((p++[z]).map (uP (.mk 1 f R []) u)++q) by rw[<-hf p,DI];simp[uP]]at V;refine ah.ln V (λr Z e=>by rw[e.2];simp) (λr Z e=>?_);obtain⟨rfl,rfl⟩:=e;have F:=oH ((p++[z]).map (uP (.mk 1 f R []) u)++q);rw[agf,hf,agf,ag5]at F;refine wA ?_;refine .nx ⟨_,rfl,?_,.inr ⟨P,W,by rw[hA,F];first |rfl |(congr 1;omega),?_⟩,agc yxd,λj N bD=>?_,by simpa using w5,?_⟩;exact(w1.set P yxb (bg _ _ (by simp[bS]))).set a yxb (by simp[bB,Pm.bq]);rw[aga yxa,agc (by have:=ag w2;simpa using this)];rw[aga (agV bD),aga yxa];exact w4 j N bD;rw[q6,agN,ag9];simp[okP,uP,Bool.and_assoc]
 ·rintro _ B Y ⟨b,rfl,q1,q2,q3,q4,q5,q6⟩;rw[agC]at q2;have cL:=oH S;have afT:=(q4 st yxa yxa).trans Q;have kO2:Out 8 B y (aU D):=kO.of_eq λi M=>q4 i (by have:=kvb i M;omega) (by have:=kvb i M;omega)
  have PW:=fR D;refine wA ?_;have hg:∀p:List cV,(p.map (uB (.mk 1 f R []) u)).length=p.length:=λp=>by simp
  have hql:∀p:List cV,(aU p).length=p.length:=fR;refine dU.zip T6 D (λp q L A=>∃b2,L=[(0,.ptr st 0 0 0),(4,.ptr d 0 0 0),(5,.ptr nU 0 0 0),(8,.ptr a 0 0 0),(9,.fn 214 [.ptr mv 0 0 0,.ptr a 0 0 0]),(10,r),(46,.I (aU D).length),(47,.I p.length)]/\HR A/\Out 8 A y (aU (p.map (uB (.mk 1 f R []) u)++q))/\A[a]?=some ⟨.m,0,1,[.bool b2]⟩/\(∀j,j≠a->j∉bJ y->A[j]?=B[j]?)/\A.length=B.length/\b2=(b&& (p.map (uB (.mk 1 f R []) u)).all abn)) (.nx ⟨b,rfl,q1,kO2,q3,λ_ _ _=>rfl,rfl,by simp⟩) ?_ ?_
  ·rintro p z q _ A Y e2 ⟨b2,rfl,w1,w2,w3,w4,w5,w6⟩;have eR:=lenE e2;have hz:=hs.bs z (by rw[e2];simp);rcases w2 with⟨_,h0⟩|⟨P,W,hr,hP⟩
   ·have:=congrArg List.length h0;simp[aU]at this
   subst hr;have hPK:=kvb P yxi;have hPl:=ag hP;have hpf:=hg p;have hA:=hql (p.map (uB (.mk 1 f R []) u)++z::q);rw[agf,hg,agj]at hA;have U:∀j,j<K.length->j≠a->j≠P->A[j]?=K[j]?:=λj N h1 X=>(w4 j h1 (by simp[bJ];exact X)).trans (q4 j N h1)
   have abo:A[st]?=some ⟨.m,0,2,[.agg [pv,.an P W 0 (aU (p.map (uB (.mk 1 f R []) u)++z::q)).length]]⟩:=by
    refine(U st yxa yxa (λh=>?_)).trans Q;rcases kO with⟨h1,_⟩|⟨i,e,h1,X⟩
    cases h1
    ·obtain⟨rfl,_⟩:=PV.an.inj h1;rw[<-h,Q]at X;have:=(ax.mk.inj (af7 X)).2.2.1;omega
   refine wA ?_;rw[agz p.length];have g:=(U m yxa yxa yxa).trans km;have OY:=(U mv yxa yxa yxa).trans kmv;have J:(aU (p.map (uB (.mk 1 f R []) u)++z::q))[p.length]?=some (fW z):=by rw[<-hg p];simp[aU]
   have V:=DH hx z hz b2 w1 hP J OY g w3 yxa (xS hu hz);rw[show(aU (p.map (uB (.mk 1 f R []) u)++z::q)).set p.length (fW ⟨z.v,cw [⟨.mk 1 f R [],u⟩] z.t⟩)=aU ((p++[z]).map (uB (.mk 1 f R []) u)++q) by rw[<-hg p];simp[aU,uB]]at V;refine ah.ln V (λr Z e=>by rw[e.2];simp) (λr Z e=>?_);obtain⟨rfl,rfl⟩:=e;have F:=hql ((p++[z]).map (uB (.mk 1 f R []) u)++q);rw[agf,hg,agf,ag5]at F;refine wA ?_;refine .nx ⟨_,rfl,?_,.inr ⟨P,W,by rw[hA,F];first |rfl |(congr 1;omega),?_⟩,agc yxd,λj bD hv=>?_,by simpa using w5,?_⟩;exact(w1.set P yxb (bg _ _ yxb)).set a yxb (by simp[bB,Pm.bq]);rw[aga yxa,agc hPl];rw[aga (agV bD),aga (λh=>hv (by simp[bJ,h]))];exact w4 j bD hv;rw[w6,agN,ag9];simp[abn,uB,Bool.and_assoc]
  ·rintro _ A Y ⟨b2,rfl,w1,w2,w3,w4,w5,w6⟩;rw[agC]at w2;have U:∀j,j<K.length->j≠a->j∉bJ y->A[j]?=K[j]?:=λj N h1 X=>(w4 j h1 X).trans (q4 j N h1)
   have nv:∀j,d<=j->j∉bJ y:=λj N h=>by have:=kvb j h;omega
   have rO:Out 8 A r (bS (S.map (uP (.mk 1 f R []) u))):=q2.of_eq λi M=>by
    have:=c5 i M;exact w4 i yxa (nv i yxa)
   have stv:st∉bJ y:=λh=>by
    rcases kO with⟨rfl,_⟩|⟨i,e,rfl,X⟩;simp[bJ]at h
    ·simp only[bJ,agu]at h;rw[<-h,Q]at X;have:=(ax.mk.inj (af7 X)).2.2.1;omega
   have abo:=(U st yxa yxa stv).trans Q;have hX3:=(U d yxa yxa (nv d yxa)).trans kX;have hU3:=(U nU yxa yxa (nv nU yxa)).trans kU;have EV:=hg D;have afU:=hql (D.map (uB (.mk 1 f R []) u));have rv:∀i,i∈bJ r->i∉bJ y:=λi M=>nv i (by have:=c5 i M;omega)
   refine wA ?_;refine .lr (es:=aU (D.map (uB (.mk 1 f R []) u))) (λv' Z lr=>?_) w2 rfl yxd (bg _ _ yxb) w1;have nb:∀{j:Nat},j∉bJ y->∀W n,y≠.an j W 0 n:=λ{j} h W n e=>h (by rw[e];simp[bJ])
   have lst:=(lr.fr st (ag abo) (nb stv)).trans abo;have lrb:=(lr.fr a (ag w3) (nb (nv a yxa))).trans w3;have lrO:Out 8 Z r (bS (S.map (uP (.mk 1 f R []) u))):=rO.of_eq λi M=>lr.fr i (rO.nP i M) (nb (rv i M))
   have lo:Out 8 Z v' (aU (D.map (uB (.mk 1 f R []) u)++[⟨.mk 1 f R [],u⟩])):=by
    have:=lr.out;rw[show aU (D.map (uB (.mk 1 f R []) u)++[⟨.mk 1 f R [],u⟩])=aU (D.map (uB (.mk 1 f R []) u))++[.agg [.I 1,.str f,.I R,.aa false (ae []),.I u.k,.str u.s,.I u.o,.aa false (ae u.l)]] by simp only[aU,agN,agp,agF,iG];rfl];exact this
   have lh:=lr.hr;have ll:=lr.len;have hrs:a≠st:=yxa
   clear lr;have Yz:ij (.mk 1 f R []) u ⟨S,D⟩=(⟨S.map (uP (.mk 1 f R []) u),D.map (uB (.mk 1 f R []) u)++[⟨.mk 1 f R [],u⟩]⟩,if b2=true then 0 else 3):=by rw[ij,w6,q6]
   rw[Yz];clear Yz;have CY:=lo;have rO2:=lrO;rcases CY with⟨rfl,_⟩|⟨id2,zP,rfl,_⟩
   all_goals
    rcases rO2 with⟨rfl,_⟩|⟨id3,ep3,rfl,_⟩
   all_goals
    refine wA ?_;refine .mk ?_ (bw (agc (ag lst)) rfl yxb);refine wA ?_;rw[ahF];refine .mk ?_ (bw ((aga (agV hrs)).trans lrb) rfl yxb)
    cases b2
    all_goals
     refine wA ?_;exact Bn lh yxa lst lrO lo
theorem tx{x u:Tm}(U:valid x=0)(g:x.k=1)(y:valid u=0){s:qp}(S:WN s){st n:Nat}{H:ab}(w:HR H)(h:US H st s)(hn:n<=H.length){Q:PV->ab->Prop}(q:∀r h',UP n st (ij x u s) r h'->Q r h'):ah C 2 170 [.ptr st 0 0 0,enc x,enc u] H Q:=by
 refine ah.sm (WQ x u U g y s S st H w h) (λr h' p=>⟨p.1,p.2.1⟩) (λr h' p=>q r h' ⟨p.1,by have:=p.2.1;omega,p.2.2.1,p.2.2.2⟩) (λr h' p z=>q r _ ⟨z,by rw[ag4];have:=p.2.1;omega,p.2.2.1,p.2.2.2.take (by have:=h.lt;omega) z⟩)
theorem HR.abp(w:HR H)(a b:Tm):HR (H++[⟨.m,0,4,[enc a]⟩]++[⟨.m,0,4,[enc b]⟩]):=(w.cx (HV.one yxb)).cx (HV.one yxb)
theorem abq(a b:Tm)(f:valid a=0)(W:valid b=0)(K:a.k=1)(u:b.k=1)(s:qp)(S:WN s)(st:Nat)(H:ab)(w:HR H)(h:US H st s):
  ay C 168 [.ptr st 0 0 0,enc a,enc b] H (UP H.length st (Bo a b s)):=by
 have G:=up (dT a b (by have:=bu f;omega) (by have:=bu W;omega)).nine;have F:=@tx iD a b f K W s S st H.length (H++[⟨.m,0,4,[enc a]⟩]++[⟨.m,0,4,[enc b]⟩]) (HR.abp w a b) ((h.cz _).cz _) yxb;have U:=@tx iD b a W u f s S st H.length (H++[⟨.m,0,4,[enc b]⟩]++[⟨.m,0,4,[enc a]⟩]) (HR.abp w b a) ((h.cz _).cz _) yxb;have y:Bo a b s=if a.o=b.o then(if aZ a b<0 then ij b a s else ij a b s)else if b.o=0 then ij b a s else if a.o≠0 then(s,11)else ij a b s:=rfl;rw[au a,au b]at G F U ⊢;have J:∀{A B:PV},((H++[(⟨.m,0,4,[A]⟩:ax)]++[(⟨.m,0,4,[B]⟩:ax)]).set H.length (⟨.m,0,4,[B]⟩:ax)).set (H++[(⟨.m,0,4,[A]⟩:ax)]).length (⟨.m,0,4,[A]⟩:ax)=H++[(⟨.m,0,4,[B]⟩:ax)]++[(⟨.m,0,4,[A]⟩:ax)]:=λ{A B}=>by simp
 have t:∀{r:PV} {R:qp×Int} {d:ab},UP H.length st R r d->Bo a b s=R->HR d/\H.length<=d.length/\r=.I (Bo a b s).2/\US d st (Bo a b s).1:=λ{r R d} p e=>by rw[e];exact p
 refine ay.x T6 Tryz.func168 rfl ?_
 by_cases O:a.o=b.o
 ·by_cases X:aZ a b<0
  ·refine wA ?_;refine .p G ?_;refine wA ?_;refine .mk (o:=(Pi b)) ?_ (by simp[getM]);refine wA ?_;rw[J];refine .mk (o:=(Pi b)) ?_ (by simp[getM]);refine wA ?_;refine .mk (o:=(Pi a)) ?_ (by simp[getM]);refine wA ?_;refine U λr d p=>?_;have j:=p.2.2.1;subst j;refine wA ?_;exact t p (by rw[y,if_pos O,if_pos X])
  ·refine wA ?_;refine .p G ?_;refine wA ?_;refine F λr d p=>?_;have j:=p.2.2.1;subst j;refine wA ?_;exact t p (by rw[y,if_pos O,if_neg X])
 ·by_cases X:b.o=0
  ·refine wA ?_;refine .mk (o:=(Pi b)) ?_ (by simp[getM]);refine wA ?_;rw[J];refine .mk (o:=(Pi b)) ?_ (by simp[getM]);refine wA ?_;refine .mk (o:=(Pi a)) ?_ (by simp[getM]);refine wA ?_;refine U λr d p=>?_;have j:=p.2.2.1;subst j;refine wA ?_;exact t p (by rw[y,if_neg O,if_pos X])
  ·by_cases Q:a.o=0
   ·refine wA ?_;refine F λr d p=>?_;have j:=p.2.2.1;subst j;refine wA ?_;exact t p (by rw[y,if_neg O,if_neg X,if_neg (by simp[Q])])
   ·refine wA ?_;have e:Bo a b s=(s,11):=by rw[y,if_neg O,if_neg X,if_pos Q]
    rw[e];have z:=HR.abp w a b;rw[au a,au b]at z;exact⟨z,by simp,rfl,(h.cz _).cz _⟩
end tW
inductive q8(s0:qp):qp->Prop
 |here:q8 s0 s0
 |on {a b:Tm} {ps:List (Tm×Tm)} {bs:List cV} (h:q8 s0 ⟨(a,b)::ps,bs⟩) (he:(dK a b ⟨ps,bs⟩).2=0):q8 s0 (dK a b ⟨ps,bs⟩).1
namespace tW
open Go.Proofs
variable[iD:Inhabited Prop]
attribute [local irreducible] aE az aO aL Ev ai ah ay bh
theorem _root_.Go.Pm.adQ{C:cA}(T:li C.P){run:hZ}{lv:Nat}{L:Al}{Y:Nat->PV}{h:ab}{t el:TypeId}{x z:Operand}{k:IntKind}{V ep off len sz:Nat}{o:ax}(U:cW L x=some (.an V ep off len))(b:cW L z=some (.int k 1))(g:T.kd t=some (.sl el))(S:T.ts el=some sz)(N:getM h V ep=some o)(D:sz=o.bQ)(A:off+len<=o.es.length)(j:1<=len):ar C run lv (.slice t x (some z) none none) (al L Y) h=some (if len - 1=0 then .aa false []else .an V ep (off+1) (len - 1),h):=by
 have X:cS C.P h t (.an V ep off len) (some (.int k 1)) none none=some (if len - 1=0 then .aa false []else .an V ep (off+1) (len - 1)):=by
  unfold cS;rw[bG (T.dA _ _ g)];simp only[T.eT _ _ S,N];rw[if_pos ⟨D,A⟩];simp only[beyond,dq];rw[if_pos ⟨by omega,by omega⟩];simp
  split <;>rfl
 simp[ar,aD,ak U,ak b,X]
theorem US.adR{st:Nat}(u:US H st s){xs:List PV}(h:H[V]?=some ⟨.m,0,4,xs⟩)(o:ax):US (H.set V o) st s:=by
 obtain⟨P,A,O,X,Q⟩:=u
 have n:∀{j:Nat} {i:Mu} {g q:Nat} {S:List PV},H[j]?=some ⟨i,g,q,S⟩->q≠4->(H.set V o)[j]?=H[j]?:=λ{j i g q S} e b=>aga λR=>by
  subst R;rw[h]at e;have:=(ax.mk.inj (af7 e)).2.2.1;omega
 refine⟨P,A,by rw[n O yxe];exact O,?_,?_⟩
 ·rcases X with l |⟨V,g,U,y,rfl,K,a,D⟩
  ·exact .inl l
  ·exact .inr ⟨V,g,U,y,rfl,by rw[n K yxe];exact K,a,D⟩
 ·rcases Q with l |⟨V,g,rfl,K⟩
  ·exact .inl l
  ·exact .inr ⟨V,g,rfl,by rw[n K yxe];exact K⟩
theorem abr{A B:List Tm}{p q:List (Tm×Tm)}(e:A.zip B=p++z::q):(ae A)[p.length]?=some (.agg [.I z.1.k,.str z.1.s,.I z.1.o,.aa false (ae z.1.l)])/\(ae B)[p.length]?=some (.agg [.I z.2.k,.str z.2.s,.I z.2.o,.aa false (ae z.2.l)]):=by
 have h:(A.zip B)[p.length]?=some z:=by rw[e];simp
 rw[List.getElem?_zip_eq_some]at h;rw[<-au,<-au,dw A,dw B,agt,agt,h.1,h.2];exact⟨rfl,rfl⟩
theorem xT(a b:List (Tm×Tm)):bS (a++b)=bS a++bS b:=by simp[bS,aU]
theorem OZ{b:Tm}(h:alike a b=true):a.l.length=b.l.length:=by
 simp only[alike,age,decide_eq_true_eq]at h;exact h.2
theorem MR(F:List (Tm×Tm)):eE 8 (bS F):=by
 unfold eE;rw[af9]
 intro v J
 obtain⟨b,_,rfl⟩:=agv.1 J
 rfl
theorem Bp(j:valid a=0):a.l.length<10000000:=by
 have:=bu j;obtain⟨k,s,o,l⟩:=a;have:=bF l;simp only[aC,Tm.l]at *;omega
theorem Tl{a b:Tm}(j:valid a=0)(W:valid b=0)(K:a.k=1)(u:b.k=1){s:qp}(S:WN s){st n:Nat}{H:ab}(w:HR H)(h:US H st s)(hn:n<=H.length){Q:PV->ab->Prop}(q:∀r h',UP n st (Bo a b s) r h'->Q r h'):ah C 2 168 [.ptr st 0 0 0,enc a,enc b] H Q:=by
 refine ah.sm (abq a b j W K u s S st H w h) (λr h' p=>⟨p.1,p.2.1⟩) (λr h' p=>q r h' ⟨p.1,by have:=p.2.1;omega,p.2.2.1,p.2.2.2⟩) (λr h' p z=>q r _ ⟨z,by rw[ag4];have:=p.2.1;omega,p.2.2.1,p.2.2.2.take (by have:=h.lt;omega) z⟩)
theorem _root_.zb3{P:Prop}(h:P:=by
 have CY:=lo;rcases CY with⟨rfl,_⟩|⟨id2,zP,rfl,_⟩
 all_goals
  refine wA ?_;exact Bn lh yxa lst lo lb):P:=h
theorem WR(a b:Tm)(F:List (Tm×Tm))(D:List cV)(hs:WN ⟨(a,b)::F,D⟩)(st:Nat)(H:ab)(hH:HR H)(h:US H st ⟨(a,b)::F,D⟩):
  ay C 129 [.ptr st 0 0 0] H (UP H.length st (dK a b ⟨F,D⟩)):=by
 obtain⟨pv,bv,h0,h2,h3⟩:=h;obtain⟨S,W⟩:=hs.ps (a,b) yxb;have cL:=lM F;have Yq:bS ((a,b)::F)=fW ⟨a,b⟩::bS F:=rfl;dsimp only at S W h2 h3;rw[Yq,iG]at h2;dsimp only at h2;have abm:=ag h0
 have fin:∀{A B O:ax},(((H++[A]++[B]).set st O))=H.set st O++[A]++[B]:=λ{A B O}=>by
  rw[List.set_append_left _ _ yxd,List.set_append_left _ _ abm]
 have adS:∀{lj mf A B:ax},((H++[lj]++[mf]).set H.length A).set (H++[lj]).length B=H++[A]++[B]:=λ{lj mf A B}=>by simp
 have la:=Bp S;have lb:=Bp W;have us:=up (aI.DE a b (by have:=bu S;omega) (by have:=bu W;omega));have ua:=up (aI.Kz a b yxa yxa);have N:=up (aI.Bk a);have G:=up (aI.Bk b);have f1:=up (aI.xU a b (by have:=bu S;omega) (by have:=bu W;omega));have f2:=up (aI.xU b a (by have:=bu W;omega) (by have:=bu S;omega));have o1:=up (aI.HW a (by have:=bu S;omega) b (by have:=bu W;omega));have o2:=up (aI.HW b (by have:=bu W;omega) a (by have:=bu S;omega));rw[au a,au b]at us ua f1 f2 o1 o2;rw[au a]at N;rw[au b]at G;obtain⟨M,Yp⟩:∃n,n=H.length:=⟨_,rfl⟩;have hsu:WN ⟨F,D⟩:=⟨λp hp=>hs.ps p (by simp[hp]),hs.bs,by have:=hs.pl;simp at this ⊢;omega,hs.bl,hs.bv,hs.nd⟩;rcases h2 with⟨f,rfl⟩|⟨id,J,U,d,rfl,g1,g2,g3⟩
 case' inl=>
  refine ay.x T6 Tryz.func129 rfl ?_;refine wA ?_;refine .mk (o:=⟨.m,0,4,[.agg Nm]⟩) ?_ (by simp[getM]);refine wA ?_;rw[adS];refine wA ?_;refine .mk ?_ ⟨⟨by simp,agb _⟩,by cases F <;>simp[bS,aU,iG,cells]⟩;rw[show List.take ((PV.agg [.I a.k,.str a.s,.I a.o,.aa false (ae a.l),.I b.k,.str b.s,.I b.o,.aa false (ae b.l)]::bS F).length - 1) (List.drop 1 (PV.agg [.I a.k,.str a.s,.I a.o,.aa false (ae a.l),.I b.k,.str b.s,.I b.o,.aa false (ae b.l)]::bS F))=bS F by simp];refine wA ?_;obtain⟨X,Z⟩:∃n,n=(H++[(⟨.m,0,4,[.agg Nm]⟩:ax)]).length:=⟨_,rfl⟩;rw[fin,<-Yp,<-Z];obtain⟨w,KE⟩:∃w,w=PV.aa (f&& (PV.agg [.I a.k,.str a.s,.I a.o,.aa false (ae a.l),.I b.k,.str b.s,.I b.o,.aa false (ae b.l)]::bS F).length==(PV.agg [.I a.k,.str a.s,.I a.o,.aa false (ae a.l),.I b.k,.str b.s,.I b.o,.aa false (ae b.l)]::bS F).length) (bS F):=⟨_,rfl⟩;have kL:DG H w (bS F):=by rw[KE];exact .inl ⟨_,rfl⟩
 case' inr=>
  have dm:d[U+0]?=some (.agg [.I a.k,.str a.s,.I a.o,.aa false (ae a.l),.I b.k,.str b.s,.I b.o,.aa false (ae b.l)]):=by
   have h5:=congrArg (λl=>l[0]?) g3;simp only[agj,agy,agP,List.getElem?_cons_zero]at h5;rw[if_pos yxa]at h5;exact h5
  obtain⟨R,t⟩:∃n,n=(PV.agg [.I a.k,.str a.s,.I a.o,.aa false (ae a.l),.I b.k,.str b.s,.I b.o,.aa false (ae b.l)]::bS F).length:=⟨_,rfl⟩;rw[<-t]at h0 g2 g3;rw[agj,cL]at t;refine ay.x T6 Tryz.func129 rfl ?_;refine wA ?_;refine .mk (o:=⟨.m,0,4,[.agg Nm]⟩) ?_ (by simp[getM]);refine wA ?_;rw[adS];refine wA ?_;have RE:=@adQ;rcases Classical.em (F=[])with hps |hps
  case' inl=>
   refine .mk (v:=.aa false []) (λrun lv Y=>(RE T6 (o:=⟨.m,J,8,d⟩) rfl rfl rfl rfl (by exact kD (kD (bw g1 rfl yxb))) rfl g2 yxa).trans (by rw[if_pos (by simp[t,hps])])) ?_;refine wA ?_;obtain⟨X,Z⟩:∃n,n=(H++[(⟨.m,0,4,[.agg Nm]⟩:ax)]).length:=⟨_,rfl⟩;rw[fin,<-Yp,<-Z];obtain⟨w,KE⟩:∃w,w=PV.aa false []:=⟨_,rfl⟩;have kL:DG H w (bS F):=by rw[KE,hps];exact .inl ⟨_,rfl⟩
  case' inr=>
   have:0<F.length:=ahD.2 hps;refine .mk (v:=.an id J (U+1) (R - 1)) (λrun lv Y=>(RE T6 (o:=⟨.m,J,8,d⟩) rfl rfl rfl rfl (by exact kD (kD (bw g1 rfl yxb))) rfl g2 yxa).trans (by rw[if_neg yxa])) ?_;refine wA ?_;obtain⟨X,Z⟩:∃n,n=(H++[(⟨.m,0,4,[.agg Nm]⟩:ax)]).length:=⟨_,rfl⟩;rw[fin,<-Yp,<-Z];obtain⟨w,KE⟩:∃w,w=PV.an id J (U+1) (R - 1):=⟨_,rfl⟩
   have kL:DG H w (bS F):=by
    rw[KE];refine .inr ⟨id,J,U+1,d,by rw[cL,t,Nat.add_sub_cancel],g1,by rw[cL];omega,?_⟩;have h5:=congrArg List.tail g3;rw[t,List.tail_cons,<-List.drop_one,List.drop_take,List.drop_drop,Nat.add_sub_cancel]at h5;rw[cL];exact h5
 all_goals
  rw[<-KE];clear KE;obtain⟨K,hK⟩:∃K:ab,K=H.set st ⟨.m,0,2,[.agg [w,bv]]⟩++[Pi a]++[Pi b]:=⟨_,rfl⟩;rw[<-hK];have lK:K.length=M+2:=by rw[hK,Yp];simp
  have Q:K[st]?=some ⟨.m,0,2,[.agg [w,bv]]⟩:=by
   rw[hK,af8 yxd,af8 yxd,agc abm]
  have kA:K[M]?=some (Pi a):=by rw[hK,Yp];simp
  have kB:K[X]?=some (Pi b):=by rw[hK,Z];simp
  have kR:HR K:=by rw[hK];exact((HR.st hH kL h3).cx (HV.one yxb)).cx (HV.one yxb)
  have kO:Out 8 K bv (aU D):=by rw[hK];exact((MP h3 h0 _).cz _).cz _
  have kL2:DG K w (bS F):=by rw[hK];exact((kL.set h0 _).cz _).cz _
  have hAB:X≠M:=by rw[Yp,Z];simp
  have hsA:st≠M:=yxa
  have hsB:st≠X:=by rw[Z];simp;omega
  have kU:US K st ⟨F,D⟩:=⟨w,bv,Q,kL2,kO⟩;have Dj:M<=K.length:=by omega
  clear hK kL Z h0;have hU:dK a b ⟨F,D⟩=if aZ a b=0 then(⟨F,D⟩,0)else if alike a b=true then(⟨a.l.zip b.l++F,D⟩,0)else if a.k=1/\b.k=1 then Bo a b ⟨F,D⟩else if b.k=1 then Bq b a ⟨F,D⟩else if a.k≠1 then(⟨F,D⟩,11)else Bq a b ⟨F,D⟩:=rfl;rw[hU];clear hU
  cases c1:decide (aZ a b=0) <;>rw[c1]at us
  ·have c1:=of_decide_eq_false c1;rw[if_neg c1];refine wA ?_;refine .p us ?_;refine wA ?_
   cases c2:alike a b <;>rw[c2]at ua
   ·rw[if_neg yxb]
    skip
    refine .p ua ?_;refine wA ?_
    cases P:decide (a.k=1) <;>rw[P]at N
    ·have P:=of_decide_eq_false P;rw[if_neg (λh=>P h.1)]
     skip
     refine .p N ?_;refine wA ?_
     cases e:decide (b.k=1) <;>rw[e]at G
     ·have e:=of_decide_eq_false e;rw[if_neg e,if_pos P]
      skip
      refine .p G ?_;refine wA ?_;refine .p N ?_;refine wA ?_;exact⟨kR,Dj,rfl,kU⟩
     ·have e:=of_decide_eq_true e;rw[if_pos e]
      skip
      refine .p G ?_;refine wA ?_;refine .mk (o:=(Pi b)) ?_ (bw (by rw[aga (agV hAB)];exact kB) rfl yxb);refine wA ?_;obtain⟨g,JS⟩:∃g:ab,g=(K.set M (Pi b)).set X (Pi a):=⟨_,rfl⟩;have k2A:g[M]?=some (Pi b):=by rw[JS,aga hAB,agc (ag kA)]
      have k2B:g[X]?=some (Pi a):=by rw[JS,agc (by simp;exact ag kB)]
      have k2R:HR g:=by rw[JS];exact(kR.set M yxb (by simp[bB,Pm.bq])).set X yxb (by simp[bB,Pm.bq])
      have k2U:US g st ⟨F,D⟩:=by
       rw[JS];exact(kU.adR kA _).adR (by rw[aga (agV hAB)];exact kB) _
      have k2l:M<=g.length:=by rw[JS];simpa using Dj
      rw[<-JS];clear JS;have pC:=@tx iD b a W e S ⟨F,D⟩ hsu st M g k2R k2U k2l;rw[au a,au b]at pC
      cases c5:rn b a <;>rw[c5]at f2
      ·refine wA ?_;refine .p f2 ?_;refine wA ?_;rw[Bq,if_pos c5];exact⟨k2R,k2l,rfl,k2U⟩
      ·rw[Bq,if_neg (by simp[c5])];refine wA ?_;refine .p f2 ?_;refine wA ?_
       cases c6:cG (pre a) b <;>rw[c6]at o2
       ·rw[if_neg yxb]
        skip
        refine .p o2 ?_;refine wA ?_;refine pC λr h' p=>?_;have p2:=p.2.2.1;subst p2;refine wA ?_;exact p
       ·rw[if_pos rfl]
        skip
        refine .p o2 ?_;refine wA ?_;exact⟨k2R,k2l,rfl,k2U⟩
    ·have P:=of_decide_eq_true P
     skip
     refine .p N ?_;refine wA ?_;refine .p G ?_;refine wA ?_
     cases e:decide (b.k=1) <;>rw[e]at G
     ·have e:=of_decide_eq_false e;rw[if_neg (λh=>e h.2),if_neg e,if_neg (by simp[P])];refine wA ?_;refine .p G ?_;refine wA ?_;refine .p N ?_;refine wA ?_;have pC:=@tx iD a b S P W ⟨F,D⟩ hsu st M K kR kU Dj;rw[au a,au b]at pC
      cases c5:rn a b <;>rw[c5]at f1
      ·skip
       refine .p f1 ?_;refine wA ?_;rw[Bq,if_pos c5];exact⟨kR,Dj,rfl,kU⟩
      ·rw[Bq,if_neg (by simp[c5])]
       skip
       refine .p f1 ?_;refine wA ?_
       cases c6:cG (pre b) a <;>rw[c6]at o1
       ·rw[if_neg yxb]
        skip
        refine .p o1 ?_;refine wA ?_;refine pC λr h' p=>?_;have p2:=p.2.2.1;subst p2;refine wA ?_;exact p
       ·rw[if_pos rfl]
        skip
        refine .p o1 ?_;refine wA ?_;exact⟨kR,Dj,rfl,kU⟩
     ·have e:=of_decide_eq_true e;rw[if_pos ⟨P,e⟩];have h2c:=@Tl iD a b S W P e ⟨F,D⟩ hsu st M K kR kU Dj;rw[au a,au b]at h2c;refine wA ?_;refine h2c λr h' p=>?_;have p2:=p.2.2.1;subst p2;refine wA ?_;exact p
   ·rw[if_pos rfl];have uE:=OZ c2;have CW:=aj a.l;have PW:=aj b.l;have UH:(a.l.zip b.l).length=a.l.length:=by rw[List.length_zip];omega
    skip
    refine .p ua ?_;refine wA ?_;refine dU.zip T6 (a.l.zip b.l) (λp q L g=>∃v,L=[(0,.ptr st 0 0 0),(3,.ptr M 0 0 0),(4,.ptr X 0 0 0),(5,v),(39,.I (ae a.l).length),(40,.I p.length)]/\HR g/\Out 8 g v (bS p)/\(∀j,j<K.length->g[j]?=K[j]?)/\K.length<=g.length/\(∀i∈bJ v,K.length<=i)) (.nx ⟨_,rfl,kR,.inl ⟨rfl,rfl⟩,λ_ _=>rfl,agb _,by simp[bJ]⟩) ?_ ?_
    ·rintro p z q _ g Y e2 ⟨v,rfl,q1,q2,q3,q4,q5⟩;obtain⟨e3,e4⟩:=abr e2;have eR:=lenE e2;have k2A:=(q3 M (ag kA)).trans kA;have k2B:=(q3 X (ag kB)).trans kB;have oH:=lM p;refine wA ?_;refine .lr (es:=bS p) (λv' h' y=>?_) q2 rfl yxd (bg _ _ (by simp[bS])) q1;refine wA ?_;refine .nx ⟨v',rfl,y.hr,by rw[xT];exact y.out,λj hj=>by rw[y.fr j yxa (λJ n hv=>by have:=q5 j yxr;omega)];exact q3 j hj,agI q4 y.len,λi V=>?_⟩;rcases y.out with⟨rfl,_⟩|⟨id,J,rfl,_⟩;simp[bJ]at V
     ·simp only[bJ,agu]at V;subst V;rcases y.ref i J _ rfl with⟨jy,n',hv⟩|h;exact q5 i yxr;omega
    ·rintro _ g Y ⟨v,rfl,q1,q2,q3,q4,q5⟩;have k2s:=(q3 st (ag Q)).trans Q;rcases kL2 with⟨f,rfl⟩|⟨id,J,U,d,rfl,g1,g2,g3⟩
     ·refine wA ?_;refine .lr (es:=bS (a.l.zip b.l)) (λv' h' y=>?_) q2 (MR F) (by rw[lM,cL];have:=hs.pl;simp at this;omega) (bg _ _ (by simp[bS])) q1;have lst:=(y.fr st (by have:=ag k2s;exact this) (λJ n hv=>by have:=q5 st yxr;have:=ag Q;omega)).trans k2s;have lo:=y.out;rw[<-xT]at lo
      have lb:Out 8 h' bv (aU D):=kO.of_eq λi V=>by
       have h1:=kO.nP i V;rw[y.fr i yxa (λJ n hv=>by have:=q5 i yxr;omega)];exact q3 i h1
      have lh:=y.hr;have ll:=y.len;clear y;exact zb3
     ·have kL3:DG g (.an id J U (bS F).length) (bS F):=.inr ⟨id,J,U,d,rfl,(q3 id (ag g1)).trans g1,g2,g3⟩;obtain⟨v',h',ap,y⟩:=xF T6 (H:=g) (st:=122) (xt:=122) (v:=v) (u:=.an id J U (bS F).length) (es:=bS (a.l.zip b.l)) (ys:=bS F) rfl rfl rfl rfl rfl yxe rfl rfl q2 kL3.cr (λi V hj=>by have:=q5 i V;simp only[bJ,agu]at hj;have:=ag g1;omega) (MR F) (by rw[lM,cL];have:=hs.pl;simp at this;omega);have EQ:∀i,i<K.length->i∉bJ v:=λi V hv=>by have:=q5 i hv;omega
      have lst:=(y.fr st (ag k2s) (EQ st (ag Q))).trans k2s;have lo:=y.out;rw[<-xT]at lo
      have lb:Out 8 h' bv (aU D):=kO.of_eq λi V=>by
       have h1:=kO.nP i V;rw[y.fr i yxa (EQ i h1)];exact q3 i h1
      have lh:=y.hr q1 (bg _ _ (by simp[bS]));have ll:=y.len;clear y;refine wA ?_;refine .mk (v:=v') (h':=h') (λrun Y=>ap) ?_;exact zb3
  ·have c1:=of_decide_eq_true c1;rw[if_pos c1];refine wA ?_;refine .p us ?_;refine wA ?_;exact⟨kR,Dj,rfl,kU⟩
theorem O0{a b:Tm}{F:List (Tm×Tm)}{D:List cV}(S:WN ⟨(a,b)::F,D⟩){st n:Nat}{H:ab}(w:HR H)(h:US H st ⟨(a,b)::F,D⟩)(hn:n<=H.length){Q:PV->ab->Prop}(q:∀r h',UP n st (dK a b ⟨F,D⟩) r h'->Q r h'):ah C 2 129 [.ptr st 0 0 0] H Q:=by
 refine ah.sm (WR a b F D S st H w h) (λr h' p=>⟨p.1,p.2.1⟩) (λr h' p=>q r h' ⟨p.1,by have:=p.2.1;omega,p.2.2.1,p.2.2.2⟩) (λr h' p z=>q r _ ⟨z,by rw[ag4];have:=p.2.1;omega,p.2.2.1,p.2.2.2.take (by have:=h.lt;omega) z⟩)
theorem WT(D:List cV)(e:∀b∈D,valid b.v=0)(h:YL D=true)(A:D.length<1000000)(v:PV)(H:ab)(w:HR H)(f:Out 8 H v (aU D)):
  ay C 130 [v] H (λr h'=>HR h'/\H.length<=h'.length/\Out 8 h' r (aU (mj D))/\r=v):=by
 have Z:=fR D;refine ay.x T6 Tryz.func130 rfl ?_;rcases f with⟨rfl,O⟩|⟨V,a,rfl,O⟩
 ·have d:D=[]:=agm (by rw[<-Z,O];rfl);subst d;refine wA ?_;refine .Vd (g:=nk) (r:=.b8 []) (h':=H) rfl ?_;refine wA ?_;exact⟨w,agb _,.inl ⟨rfl,rfl⟩,rfl⟩
 ·have J:yF (aU D)=some D:=DJ D;have N:getM H V a=some ⟨.m,a,8,aU D⟩:=bw O rfl yxb
  have i:(D.all λt=>decide (aC t.v<1000000000))=true:=by
   rw[af9]
   intro b W
   have:=bu (e b W);exact decide_eq_true yxa
  have K:nk [.an V a 0 (aU D).length,.fn 172 []] H=some (.b8 [],H.set V ⟨.m,a,8,aU (mj D)⟩):=by
   simp only[nk,N,J];exact if_pos ⟨rfl,trivial,trivial,trivial,by omega,i,h⟩
  refine wA ?_;refine .Vd K ?_;refine wA ?_;have U:(aU (mj D)).length=(aU D).length:=by rw[fR,fR,(gU D).length_eq]
  exact⟨w.set _ yxb (bg _ _ yxb),by simp,.inr ⟨V,a,by rw[U];rfl,agc (ag O)⟩,rfl⟩
theorem _root_.zau{P:Prop}(h:P:=by
 refine wA ?_;refine N λr e p=>?_;obtain⟨J,p2,rfl,B⟩:=p
 by_cases g:(dK a b ⟨F,D⟩).2=0
 ·rw[if_neg (by simp[g])]at d;refine wA ?_;exact .nx ⟨m,by omega,_,rfl,J,B,.on z g,d⟩
 ·rw[if_pos g]at d;obtain rfl:=af7 d;refine wA ?_;exact⟨_,rfl,rfl⟩):P:=h
theorem O1(t u:Tm)(R:List cV×Int)(n:Nat)(hn:fv n ⟨[(t,u)],[]⟩=some R)(M:∀P,q8 ⟨[(t,u)],[]⟩ P->WN P):aT C 94 [.aa false (bS [(t,u)])] (.b8 [.aa false (aU R.1),.I R.2]):=by
 refine aT.x T6 Tryz.func94 rfl ?_;refine wA ?_;refine dU.nat T6 (λm L K=>∃s,L=[(4,.ptr 0 0 0 0)]/\HR K/\US K 0 s/\q8 ⟨[(t,u)],[]⟩ s/\fv m s=some R) n (.nx ⟨_,rfl,?_,⟨_,_,rfl,.inl ⟨_,rfl⟩,.inl ⟨rfl,rfl⟩⟩,.here,hn⟩) ?_;exact HV.hr (HV.one (by simp[bS]));rintro m L K Y ⟨s,rfl,H,w,z,d⟩;obtain⟨F,D⟩:=s
 cases m with
 |zero=>cases d
 |succ m=>
  cases F with
  |nil=>
   have hR:R=(mj D,0):=(Option.some.inj d).symm;subst hR;have h:=M _ z;obtain⟨pv,A,h0,O,X⟩:=w;dsimp only at O X;have G:=WT D h.bv h.nd h.bl A K H X
   have S:∀{Q:PV->ab->Prop},(∀e,Out 8 e A (aU (mj D))->Q A e)->ah C 2 130 [A] K Q:=λ{Q} q=>by
    refine ah.sm G (λr e p=>⟨p.1,p.2.1⟩) (λr e p=>by obtain⟨_,_,v,rfl⟩:=p;exact q e v) (λr e p Yl=>?_);obtain⟨_,_,v,rfl⟩:=p;refine q _ ?_;rcases v with v |⟨V,i,rfl,v⟩;exact .inl v
    ·have:V<K.length:=by
      rcases X with⟨X,_⟩|⟨ee,jy,X,h3⟩
      cases X
      ·obtain⟨rfl,_⟩:=PV.an.inj X;exact ag h3
     exact .inr ⟨V,i,rfl,by rw[agD this];exact v⟩
   rcases O with⟨f,rfl⟩|⟨V,i,U,y,rfl,W,Z,g3⟩
   ·refine wA ?_;refine S λe j=>?_;refine wA ?_;exact Ls.Cy (.inl j)
   ·refine wA ?_;refine S λe j=>?_;refine wA ?_;exact Ls.Cy (.inl j)
  |cons p F=>
   obtain⟨a,b⟩:=p;have h:=M _ z;have N:=@O0 iD a b F D h 0 K.length K H w (agb _);rw[fv]at d;have H8:((bS ((a,b)::F)).length:Int)>0:=by rw[lM];simp
   obtain⟨pv,A,h0,O,X⟩:=w;dsimp only at O X;rcases O with⟨f,rfl⟩|⟨V,i,U,y,rfl,W,Z,g3⟩
   ·exact zau
   ·exact zau
end tW
def dOk(c:Nat):List (Tm×Tm)->Prop
 |[]=>True
 |p::r=>r.length+7 * (depth p.1).toNat<=c/\dOk c r
theorem Xm:∀{l:List (Tm×Tm)},dOk c l->l.length<=c+1
 |[],_=>by simp
 |p::r,h=>by have:=h.1;simp;omega
theorem M9{c d:Nat}{r:List (Tm×Tm)}(z:dOk c r):∀{q:List (Tm×Tm)},(∀p∈q,(depth p.1).toNat<=d)->r.length+q.length+7 * d<=c+1->dOk c (q++r)
 |[],_,_=>z
 |p::q,h,A=>by
  have O:=h p yxb;simp only[agj]at A;refine⟨?_,M9 z (λp K=>h p (by simp[K])) yxa⟩;show(q++r).length+7 * (depth p.1).toNat<=c;rw[agf];omega
theorem Na{c:Nat}{f:Tm×Tm->Tm×Tm}:∀{l:List (Tm×Tm)},dOk c l->(∀p∈l,depth (f p).1<=40)->dOk (c+280) (l.map f)
 |[],_,_=>trivial
 |p::r,h,J=>by
  have O:=J p yxb;have X:=h.1;refine⟨?_,Na h.2 (λp K=>J p (by simp[K]))⟩;rw[agY];omega
structure Lm(V:List Tm)(s:qp):Prop where
 inv:La V s
 nd:s.bs.Pairwise λa b=>a.v≠b.v
 dep:∃c,dOk c s.ps/\c+280 * (uV s.ps).length<=280+280 * V.length
theorem Lm.step{V:List Tm}{a b:Tm}{s:qp}(h:Lm V ⟨(a,b)::s.ps,s.bs⟩)(q:(dK a b s).2=0):Lm V (dK a b s).1:=by
 have n:=La.step h.inv q;obtain⟨w,W⟩:=h.inv.ok (a,b) yxb;have S:yX s.ps:=λp K=>h.inv.ok p (by simp[K])
 obtain⟨c,G,u⟩:=h.dep;obtain⟨A,j⟩:=G;have d:=wU s w W;generalize dK a b s=r at *
 cases d with
 |same e=>
  refine⟨n,h.nd,c,j,?_⟩
  have:(uV s.ps).length<=(uV ((a,b)::s.ps)).length:=MZ λy F=>by
   obtain⟨U,p,z,g⟩:=kE.1 F;exact kE.2 ⟨U,p,by simp[z],g⟩
  dsimp only at u ⊢;omega
 |kids Z h2 h3 h4=>
  refine⟨n,h.nd,c,?_,?_⟩
  ·have hl:a.l.length<=8:=by cases a;exact Ai w
   have hd:=(qM a).1;refine M9 (d:=(depth a).toNat - 1) j (λp K=>?_) ?_
   ·obtain⟨U,z⟩:=x6 K;have:=qF _ U;have X:depth a=1+lf a.l:=by cases a;simp only[depth,Tm.l];try omega
    dsimp only at this ⊢;omega
   ·simp only[List.length_zip];dsimp only at A;omega
  ·have:(uV (a.l.zip b.l++s.ps)).length<=(uV ((a,b)::s.ps)).length:=MZ λy F=>by
    obtain⟨U,p,z,g⟩:=kE.1 F;refine kE.2 ⟨U,?_⟩;rcases agh.1 z with z |z
    ·obtain⟨f,i⟩:=x6 z;refine⟨(a,b),by simp,g.imp (λg=>iX a _ (tv f) y g) (λg=>iX b _ (tv i) y g)⟩
    exact⟨p,by simp[z],g⟩
   dsimp only at u ⊢;omega
 | @bind v t B K hf=>
  obtain⟨J,_⟩:=BI q
  have Q:(uV (ij v t s).1.ps).length<(uV ((a,b)::s.ps)).length:=by
   refine Ze (v:=v) (λy F=>?_) ?_
   ·obtain⟨U,p,z,g⟩:=kE.1 F;obtain⟨R,P,rfl⟩:=agv.1 z;have M:y∈pre t->y∈uV ((a,b)::s.ps)/\y≠v:=λF=>⟨kE.2 ⟨U,(a,b),by simp,by rcases K with⟨_,rfl⟩|⟨_,rfl⟩;exact .inr F;exact .inl F⟩,λe=>B.vt (e▸F)⟩
    obtain⟨N,O⟩:=S R P;rcases g with g |g
    ·rcases fD B.vl R.1 N y g U with⟨f,i⟩|r
     ·exact⟨kE.2 ⟨U,R,by simp[P],.inl f⟩,i⟩
     ·exact M r
    ·rcases fD B.vl R.2 O y g U with⟨f,i⟩|r
     ·exact⟨kE.2 ⟨U,R,by simp[P],.inr f⟩,i⟩
     ·exact M r
   exact zb4
  refine⟨n,?_,c+280,Na j (λp K=>?_),by dsimp only at u ⊢;omega⟩
  ·simp only[ij];refine aim.2 ⟨?_,List.pairwise_singleton _ _,λx H y F=>?_⟩
   ·rw[aiv];exact h.nd
   ·obtain⟨Y,D,rfl⟩:=agv.1 H;obtain rfl:=agu.1 F;have:=h.inv.np Y D (a,b) yxb;show Y.v≠v;rintro rfl;rcases K with⟨rfl,_⟩|⟨rfl,_⟩;exact this.1 (fK _);exact this.2 (fK _)
  ·have:=(dS.1 (J _ (agv.2 ⟨p,K,rfl⟩)).1).2.2;exact this
 |bad W=>exact absurd q W
theorem Ln{V:List Tm}{Y:qp}(h:q8 Y s)(h0:Lm V Y):Lm V s:=by
 induction h with
 |here=>exact h0
 | @on a b F D _ q P=>exact Lm.step (s:=⟨F,D⟩) P q
theorem Ue:∀{l:List cV},(l.Pairwise λa b=>a.v≠b.v)->YL l=true
 |[],_=>rfl
 |b::l,h=>by
  obtain⟨O,X⟩:=agE.1 h;rw[YL,age,af9];exact⟨λc G=>decide_eq_true λe=>O c G (dD e),Ue X⟩
theorem DK(Z:valid t=0)(e:valid u=0)(h:q8 ⟨[(t,u)],[]⟩ s):WN s:=by
 have d:Lm (uV [(t,u)]) s:=by
  refine Ln h ⟨⟨λp K=>?_,λb W=>absurd W yxb,λp K y g F=>kE.2 ⟨g,p,K,F⟩,λb W=>absurd W yxb,λb W=>absurd W yxb,λb W=>absurd W yxb⟩,.nil,280,⟨?_,trivial⟩,agb _⟩
  ·obtain rfl:=agu.1 K;exact⟨Z,e⟩
  ·have:=(dS.1 Z).2.2;simp only[agH];omega
 have w:(uV [(t,u)]).length<=20000:=by
  have O:(uV [(t,u)]).length<=(fq (pTs [(t,u)])).length:=ahf _ _;have X:=aI.nT (pTs [(t,u)]);have Q:bm (pTs [(t,u)])=aC t+aC u:=by simp[pTs,bm]
  have:=bu Z;have:=bu e;omega
 obtain⟨c,G,f⟩:=d.dep;have O:=Xm G
 have X:s.bs.length<=(uV [(t,u)]).length:=by
  have:=sA (a:=s.bs.map cV.v) (b:=uV [(t,u)]) (by
   unfold List.Nodup;rw[aiv];exact d.nd) (λx U=>by
   obtain⟨b,W,rfl⟩:=agv.1 U;exact(d.inv.bv b W).1)
  simpa using this
 exact⟨d.inv.ok,λb W=>(d.inv.ob b W).1,by omega,by omega,λb W=>(d.inv.ob b W).2.1,Ue d.nd⟩
namespace tW
open Go.Proofs
variable[iD:Inhabited Prop]
attribute [local irreducible] aE az aO aL Ev ai ah ay bh
theorem KF(t u:Tm)(Z:aC t<100000000)(y:aC u<100000000):aT C 93 [enc t,enc u] (.I (if valid t≠0 then valid t else valid u)):=by
 have O:=up (dZ t Z).nine;have X:=up (dZ u y).nine;rw[au t]at O ⊢;rw[au u]at X ⊢;refine aT.x T6 Tryz.func93 rfl ?_;refine wA ?_;refine .p O ?_;refine wC (λG=>?_) λG=>?_
 ·refine .p X ?_;refine wA ?_;exact⟨_,rfl,by simp[bo,b9, *]⟩
 exact⟨_,rfl,by simp[bo,b9, *]⟩
theorem _root_.zbv{P:Prop}(h:P:=by
 rw[d];rw[au t,au u]at O ⊢;refine aT.x T6 Tryz.func60 rfl ?_;refine wA ?_;refine .p O ?_;refine wA ?_;exact⟨_,rfl,rfl⟩):P:=h
theorem O2(t u:Tm)(Z:aC t<100000000)(y:aC u<100000000):aT C 60 [enc t,enc u] (.b8 [.aa false (aU (c8 t u).1),.I (c8 t u).2]):=by
 have O:=KF t u Z y
 by_cases D:valid t=0
 ·by_cases N:valid u=0
  ·obtain⟨n,z⟩:=xV D N;have X:=O1 t u _ n z (λU h=>DK D N h)
   have Q:bS [(t,u)]=[.agg [.I t.k,.str t.s,.I t.o,.aa false (ae t.l),.I u.k,.str u.s,.I u.o,.aa false (ae u.l)]]:=by
    show[fW ⟨t,u⟩]=_;rw[iG]
   rw[Q]at X;rw[if_neg (by simp[D]),N]at O;rw[au t,au u]at O ⊢;refine aT.x T6 Tryz.func60 rfl ?_;refine wA ?_;refine .p O ?_;refine wA ?_;refine .p X ?_;refine wA ?_;exact⟨_,rfl,by simp[bo,b9,aY]⟩
  ·have d:c8 t u=([],valid u):=by rw[c8,if_neg (by simp[D]),if_pos N]
   rw[if_neg (by simp[D])]at O;exact zbv
 ·have d:c8 t u=([],valid t):=by rw[c8,if_pos D]
  rw[if_pos D]at O;exact zbv
end tW
namespace aI
open Go.Proofs
attribute [local irreducible] aE az aO aL Ev ai ah ay bh bH
theorem WY(r:Int)(D:List cV)(x:lW×Bool)(j:∀b∈D,rD b)(W:∀b∈x.1.bs,rD b)(u:D.length<100000000)(R:x.1.bs.length<100000000)(i a:Nat)(H:ab)(d:H[i]?=some ⟨.m,0,1,[.I r]⟩)(n:H[a]?=some ⟨.m,0,1,[.aa false (aU D)]⟩):
  ay C 62 [kW x,.ptr i 0 0 0,.ptr a 0 0 0] H (λv h'=>v=.bool (ml r D x.1)/\hC H h'):=by
 have O:=DL r D [] x.1 j W u R;have z:(aR []:List PV)=[]:=rfl;rw[uU,z]at O;have F:=ag d;have F:=ag n;rw[kW];refine ay.x T6 Tryz.func62 rfl ?_;exact za6
end aI
theorem CK.from{R:PV}(s:CK K c l R k h')(A:H.length<=K.length)(u:∀j,j<H.length->K[j]?=H[j]?):CK H c l R k h':=by
 obtain⟨W,a,D,N,M,P⟩:=s.var;exact⟨s.hr,agI A s.len,⟨W,a,D,N,M,λi B=>(P i B).imp id λh=>agI A h⟩,λj O X Q=>(s.fr j (agK O A) X Q).trans (u j O)⟩
theorem ah.ckG{C:cA}{R:PV}(a:ay C f args H (λr h'=>r=.b8 []/\CK H c l R k h'))(b:c<H.length)(q:∀h',CK H c l R k h'->Q (.b8 []) h')(d:C.mode f=.opened:=by rfl):ah C 2 f args H Q:=
 ah.sm a (λr h' p=>⟨p.2.hr,p.2.len⟩) (λr h' p=>by rw[p.1];exact q h' p.2) (λr h' p z=>by rw[p.1];exact q _ (p.2.take b z)) d
theorem Fk{S:qp}:∀{n:Nat} {s:qp} {R:List cV},q8 S s->fv n s=some (R,0)->∃D,q8 S ⟨[],D⟩/\R=mj D:=by
 intro n
 induction n with
 |zero=>intro s R _ h;cases h
 |succ n P=>
  rintro⟨F,D⟩ R z h
  cases F with
  |nil=>
   rw[fv]at h;exact⟨D,z,(agk (af7 h)).1.symm⟩
  |cons p F=>
   obtain⟨a,b⟩:=p;rw[fv]at h
   split at h
   ·rename_i q
    exact absurd (agk (af7 h)).2 q
   ·rename_i q
    exact P (.on z yxa) h
theorem DM(Z:valid t=0)(y:valid u=0)(q:(c8 t u).2=0):(∀b∈(c8 t u).1,valid b.v=0/\valid b.t=0)/\(c8 t u).1.length<1000000:=by
 obtain⟨k,g⟩:=xV Z y;obtain⟨R,e⟩:∃R,c8 t u=(R,0):=⟨(c8 t u).1,by rw[<-q]⟩;rw[e]at g ⊢;obtain⟨D,O,rfl⟩:=Fk .here g;have G:=DK Z y O;refine⟨λb W=>?_,by rw[(gU D).length_eq];exact G.bl⟩;have W:=(gU D).mem_iff.1 W;exact⟨G.bv b W,G.bs b W⟩
namespace tW
open Go.Proofs
variable[iD:Inhabited Prop]
theorem upE(a:ay aI.C f args h Q):ay C f args h Q:=ay.up (lu zW) (ay.up (lu XX.zW) a)
attribute [local irreducible] aE az aO aL Ev ai ah ay bh
theorem WZ(r:Int)(t u:Tm)(ht:valid t=0)(hu:valid u=0)(c:Nat)(l:List cg)(g:PV)(a:List (lW×Bool))(e:Int)(H:ab)(hH:HR H)(N:H[c]?=some (pH l g e))(ho:Out 3 H g (bY a))(F:aI.OkA a)(tP:l.length<1000000000)(hdb:∀x∈l,x.kn.length<10000000/\∀t∈x.kn++[x.tm],aC t<10000000):
  ay C 25 [.ptr c 0 0 0,.I r,enc t,enc u] H (λv h'=>v=.b8 []/\CK H c l g (oJ l r t u ⟨a.map Prod.fst,e⟩) h'):=by
 have cK:=ag N;have Y:=O2 t u (by have:=bu ht;omega) (by have:=bu hu;omega);have w:oJ l r t u ⟨a.map Prod.fst,e⟩=if e≠0 then⟨a.map Prod.fst,e⟩else if(c8 t u).2≠0 then⟨a.map Prod.fst,e⟩else if(a.map Prod.fst).any (ml r (c8 t u).1)=true then⟨a.map Prod.fst,e⟩else if instE l (c8 t u).1≠0 then⟨a.map Prod.fst,instE l (c8 t u).1⟩else⟨a.map Prod.fst++[⟨r,(c8 t u).1,instL l (c8 t u).1⟩],0⟩:=rfl;have hS:=DM ht hu;generalize c8 t u=S at *;have AZ:=N;unfold pH at N;rw[au t,au u]at Y ⊢;refine ay.x T6 Tryz.func25 rfl ?_;refine wA ?_;obtain⟨h,R⟩:∃h:ab,h=H++[(⟨.m,0,1,[.I r]⟩:ax)]++[(Pi t)]++[(Pi u)]:=⟨_,rfl⟩;obtain⟨i5,A⟩:∃m:Nat,m=H.length:=⟨_,rfl⟩;obtain⟨i6,B⟩:∃m:Nat,m=(H++[(⟨.m,0,1,[.I r]⟩:ax)]).length:=⟨_,rfl⟩;obtain⟨i7,D⟩:∃m:Nat,m=(H++[(⟨.m,0,1,[.I r]⟩:ax)]++[(Pi t)]).length:=⟨_,rfl⟩;rw[<-R,<-D,<-B,<-A];have f5:h[i5]?=some ⟨.m,0,1,[.I r]⟩:=by rw[R,A];simp
 have f6:h[i6]?=some (Pi t):=by rw[R,B];simp
 have f7:h[i7]?=some (Pi u):=by rw[R,D];simp
 have fc:h[c]?=some ⟨.m,0,3,[.agg [.aa false (aR l),g,.I e]]⟩:=by rw[R,ags,ags,af8 cK];exact N
 have O:∀j,j<H.length->h[j]?=H[j]?:=λj M=>by rw[R,ags,ags,af8 M]
 have X:HR h:=by rw[R];exact((hH.cx (HV.one yxb)).cx (HV.one yxb)).cx (HV.one yxb)
 have fo:Out 3 h g (bY a):=by rw[R];exact((ho.cz _).cz _).cz _
 have fl:H.length+3=h.length:=by rw[R];simp
 have f:∀{K:ab},HR K->H.length<=K.length->(∀j,j<H.length->K[j]?=H[j]?)->CK H c l g ⟨a.map Prod.fst,e⟩ K:=λ{K} k1 k2 k3=>⟨k1,k2,⟨g,a,(k3 c cK).trans AZ,ho.of_eq λi hi=>k3 i (ho.nP i hi),rfl,λi hi=>.inl hi⟩,λj h1 _ _=>k3 j h1⟩
 clear R
 by_cases q:e=0
 ·by_cases d:S.2=0
  ·refine wA ?_;refine .p Y ?_;refine wA ?_;obtain⟨z,hS2⟩:=hS d;have n:∀b∈S.1,aI.rD b:=λb W=>⟨by have:=bu (z b W).1;omega,by have:=bu (z b W).2;omega⟩
   have Z:=upE (aI.MS a 62 [.ptr i5 0 0 0,.ptr h.length 0 0 0] (λx=>ml r S.1 x.1) g (h++[⟨.m,0,1,[.aa false (aU S.1)]⟩]) (fo.cz _) (by have:=F.len;omega) (λx hx=>aI.gi.opened λH' G=>aI.WY r S.1 x n (F.bd x hx).1 yxa (F.bd x hx).2 i5 h.length H' (G.at (mE f5)) (G.at Te)));have od:(a.map Prod.fst).any (ml r S.1)=a.any λx=>ml r S.1 x.1:=by rw[List.any_map];rfl
   rw[od]at w;refine .ex Z (λh' G=>?_);obtain⟨J,hJ,rfl⟩:=G;have V:HR (h++[⟨.m,0,1,[.aa false (aU S.1)]⟩]++J):=(X.cx (HV.one yxb)).cx hJ;have Q:∀j,j<H.length->(h++[(⟨.m,0,1,[.aa false (aU S.1)]⟩:ax)]++J)[j]?=H[j]?:=λj M=>by rw[ags,af8 yxa,O j M]
   have g8:(h++[(⟨.m,0,1,[.aa false (aU S.1)]⟩:ax)]++J)[h.length]?=some ⟨.m,0,1,[.aa false (aU S.1)]⟩:=abj;have g5:=mE (J:=J) (mE (J:=[(⟨.m,0,1,[.aa false (aU S.1)]⟩:ax)]) f5);have P:=mE (J:=J) (mE (J:=[(⟨.m,0,1,[.aa false (aU S.1)]⟩:ax)]) fc);have go:=(fo.cz [(⟨.m,0,1,[.aa false (aU S.1)]⟩:ax)]).cz J;have U:H.length<=(h++[(⟨.m,0,1,[.aa false (aU S.1)]⟩:ax)]++J).length:=by simp;omega
   generalize h++[(⟨.m,0,1,[.aa false (aU S.1)]⟩:ax)]++J=K at *
   cases W:a.any λx=>ml r S.1 x.1
   ·have hI:=up (aI.O5 l S.1 tP hdb yxa (λb W=>⟨(n b W).v,(n b W).t⟩))
    by_cases y:instE l S.1=0
    ·have O4:=upE (aI.MT r false S.1 (instL l S.1) c l g a e K V P go F.len n yxa F.bd);refine wA ?_;refine .p hI ?_;refine wA ?_;refine ah.ckG O4 (ag P) (λh' ck=>?_);refine wA ?_;refine⟨rfl,?_⟩;rw[w,if_neg (by simp[q]),if_neg (by simp[d]),if_neg (by rw[W];simp),if_neg yxj];rw[od,W,if_neg yxb,q]at ck;exact ck.from U Q
    ·refine wA ?_;refine .p hI ?_;refine wA ?_;refine⟨rfl,?_⟩;rw[w,if_neg (by simp[q]),if_neg (by simp[d]),if_neg (by rw[W];simp),if_pos y];exact(aI.CK.err V P go).from U Q
   ·refine wA ?_;refine⟨rfl,?_⟩;rw[w,if_neg (by simp[q]),if_neg (by simp[d]),if_pos W];exact f V U Q
  ·refine wA ?_;refine .p Y ?_;refine wA ?_;refine⟨rfl,?_⟩;rw[w,if_neg (by simp[q]),if_pos d];exact f (X.cx (HV.one yxb)) yxd (λj M=>by rw[af8 yxa,O j M])
 ·refine wA ?_;refine⟨rfl,?_⟩;rw[w,if_pos q];exact f X yxa O
end tW
structure xg(m:Nat)(k:fC):Prop where
 len:k.out.length<=m
 bd:∀a∈k.out,(∀b∈a.bs,aI.rD b)/\a.bs.length<100000000
theorem xg.okA(h:xg m k)(d:m<10000000){a:List (lW×Bool)}(e:a.map Prod.fst=k.out):aI.OkA a:=
 ⟨by have:=congrArg List.length e;rw[agY]at this;have:=h.len;omega,λx U=>h.bd x.1 (by rw[<-e];exact agv.2 ⟨x,U,rfl⟩)⟩
theorem xg.nil:xg 0 ⟨[],e⟩:=⟨agb _,λa j=>by cases j⟩
theorem xg.mono(h:xg m k)(hn:m<=n):xg n k:=⟨agI h.len hn,h.bd⟩
theorem xg.snoc{m:Nat}{f:List lW}{e A:Int}(h:xg m ⟨f,e⟩){a:lW}(j:(∀b∈a.bs,aI.rD b)/\a.bs.length<100000000):xg (m+1) ⟨f++[a],A⟩:=by
 refine⟨by have:=h.len;simp only[agf,ag5]at this ⊢;omega,λx U=>?_⟩;rcases agh.1 U with U |U;exact h.bd x U
 ·obtain rfl:=agu.1 U;exact j
theorem xg.SP(h:xg m k)(Z:valid t=0)(y:valid u=0):xg (m+1) (oJ l r t u k):=by
 have O:=h.mono (ahz m);unfold oJ
 split
 exact O
 ·split
  ·exact O
  ·rename_i B
   obtain⟨K,a⟩:=DM Z y yxa
   split
   exact O
   ·split
    ·exact⟨O.len,O.bd⟩
    ·exact xg.snoc (e:=k.e) h ⟨λb W=>⟨by have:=bu (K b W).1;omega,by have:=bu (K b W).2;omega⟩,by dsimp only;omega⟩
theorem xg.U2(h:xg m k):xg (m+1) (tU r d k):=by
 have O:=h.mono (ahz m);unfold tU
 split
 exact O
 ·split
  ·exact⟨O.len,O.bd⟩
  ·split
   ·exact O
   ·exact xg.snoc (e:=k.e) h ⟨λb W=>(by cases W),by simp⟩
def Bs(H:ab)(c:Nat)(l:List cg)(k:fC):Prop:=∃R a,H[c]?=some (pH l R k.e)/\Out 3 H R (bY a)/\a.map Prod.fst=k.out/\∀i∈bJ R,c<i
theorem Bs.step{R:PV}(G:c<H.length)(J:∀i∈bJ R,c<i)(s:CK H c l R k h'):Bs h' c l k:=by
 obtain⟨A,a,D,N,M,P⟩:=s.var;exact⟨A,a,D,N,M,λi B=>(P i B).elim (J i) λh=>agK G h⟩
theorem Bs.cz{H:ab}{c:Nat}{l:List cg}{k:fC}(s:Bs H c l k)(J:ab):Bs (H++J) c l k:=by
 obtain⟨R,a,D,N,M,P⟩:=s;exact⟨R,a,by rw[af8 (ag D)];exact D,N.cz J,M,P⟩
theorem CK.bQ{H h':ab}{c:Nat}{l:List cg}{R:PV}{k:fC}{b:List (lW×Bool)}{e:Int}(G:H[c]?=some (pH l R e))(f:Out 3 H R (bY b))(s:CK H c l R k h'):∀(j:Nat) (o:ax),H[j]?=some o->o.bQ≠3->h'[j]?=some o:=λj o M a=>by
 rw[s.fr j (ag M) ?_ ?_];exact M
 ·rintro rfl;rw[G]at M;obtain rfl:=af7 M;exact a rfl
 ·intro B
  rcases f with⟨rfl,_⟩|⟨V,g,rfl,X⟩;simp[bJ]at B
  ·simp[bJ]at B;subst B;rw[X]at M;obtain rfl:=af7 M;exact a rfl
structure yY(l:List cg):Prop where
 len:l.length<1000000000
 bd:∀x∈l,x.kn.length<10000000/\∀t∈x.kn++[x.tm],aC t<10000000
namespace tW
open Go.Proofs
variable[iD:Inhabited Prop]
theorem H9{r:Int}{t u:Tm}(Z:valid t=0)(y:valid u=0){c m:Nat}{l:List cg}{k:fC}{H:ab}(w:HR H)(S:Bs H c l k)(g:xg m k)(d:m<10000000)(J:yY l){Q:PV->ab->Prop}
  (q:∀h',HR h'->H.length<=h'.length->(∀(j:Nat) (o:ax),H[j]?=some o->o.bQ≠3->h'[j]?=some o)->Bs h' c l (oJ l r t u k)->Q (.b8 []) h'):ah C 2 25 [.ptr c 0 0 0,.I r,enc t,enc u] H Q:=by
 obtain⟨R,b,O,X,a,G⟩:=S;have F:=ag O;obtain⟨f,e⟩:=k;dsimp only at O a;subst a;exact ah.ckG (WZ r t u Z y c l R b e H w O X (g.okA d rfl) J.len J.bd) F (λh' V=>q h' V.hr V.len (V.bQ O X) (Bs.step F G V))
theorem Ia(w:HR H)(S:Bs H c l k)(g:xg m k)(b:m<10000000)(J:yY d)
  (q:∀h',HR h'->H.length<=h'.length->(∀(j:Nat) (o:ax),H[j]?=some o->o.bQ≠3->h'[j]?=some o)->Bs h' c l (tU r d k)->Q (.b8 []) h'):ah C 2 20 [.ptr c 0 0 0,.I r,.aa false (aR d)] H Q:=by
 obtain⟨R,f,O,X,a,G⟩:=S;have F:=ag O;obtain⟨h,e⟩:=k;dsimp only at O a;subst a;exact ah.ckG (upE (aI.WX r d c l R f e H w O X (g.okA b rfl) J.len J.bd)) F (λh' V=>q h' V.hr V.len (V.bQ O X) (Bs.step F G V))
end tW
theorem sO:∀{l p:List cg},(yZ p l=none->aI.y8 l p.length=-1)/\(∀a d q,yZ p l=some (a,d,q)->aI.y8 l p.length=a.length)
 |[],p=>⟨λ_=>rfl,(λa d q h=>by cases h)⟩
 |x::l,p=>by
  rw[yZ,aI.y8]
  split
  ·refine⟨(λh=>by cases h),λa d q h=>?_⟩;simp only[agx,ah7]at h;rw[h.1]
  ·have P:=sO (l:=l) (p:=p++[x]);rw[agf,ag5]at P;exact P
namespace tW
open Go.Proofs
variable[iD:Inhabited Prop]
attribute [local irreducible] aE az aO aL Ev ai ah ay bh
theorem To(l:List cg)(J:yY l)(h:gB l≠0):aT C 7 [.aa false (aR l)] (.b8 [.aa false (gD (fB l).1),.I (fB l).2]):=by
 have O:=up (aI.gP l J.len J.bd);have d:fB l=([],gB l):=by rw[fB,if_pos h]
 rw[d];refine aT.x T6 Tryz.func7 rfl ?_;refine wA ?_;refine .p O ?_;refine wA ?_;exact⟨_,rfl,rfl⟩
theorem Ib(l:List cg)(J:yY l)(h:gB l=0)(hn:yZ [] l=none):aT C 7 [.aa false (aR l)] (.b8 [.aa false (gD (fB l).1),.I (fB l).2]):=by
 have O:=up (aI.gP l J.len J.bd);have X:=up (aI.tC l J.len);have Q:=sO.1 hn;simp only[agH]at Q;rw[Q]at X;rw[h]at O;have d:fB l=([],9):=by rw[fB,if_neg (by simp[h]),hn]
 rw[d];refine aT.x T6 Tryz.func7 rfl ?_;exact za8
theorem Ic(l p q:List cg)(d:cg)(J:yY l)(D:Yn l)(W:bm (aI.cD l)<900000)(A:l.length<1000000)(h:gB l=0)(hn:yZ [] l=some (p,d,q))(Z:(sx l p d).2≠0):aT C 7 [.aa false (aR l)] (.b8 [.aa false (gD (fB l).1),.I (fB l).2]):=by
 have O:=up (aI.gP l J.len J.bd);have X:=up (aI.tC l J.len);have Q:=sO.2 _ _ _ hn;simp only[agH]at Q;rw[Q]at X;rw[h]at O;obtain⟨e,_⟩:=wP hn;rw[agS]at e;have G:=up (aI.sy l p q d e D A W);have a:fB l=([],(sx l p d).2):=by rw[fB,if_neg (by simp[h]),hn];simp only;rw[if_pos Z]
 rw[a];refine aT.x T6 Tryz.func7 rfl ?_;refine wA ?_;refine .p O ?_;refine wA ?_;refine .p X ?_;refine wA ?_;refine .p G ?_;refine wA ?_;exact⟨_,rfl,rfl⟩
end tW
theorem Uw(h:gB d=0):yY d/\d.length<=40:=by
 obtain⟨a,z⟩:=mZ h;exact⟨⟨by omega,λx U=>⟨by have:=(z x U).1;omega,λt Z=>by have:=bu (lB ((z x U).2 t Z)).1;omega⟩⟩,a⟩
theorem inst_sys{S:List cV}(h:instE l S=0):gB (instL l S)=0:=by
 rw[(inst_zero h).1];unfold instE at h
 split at h
 ·rename_i z;exact absurd h z
 ·split at h
  ·rename_i z;exact absurd h z
  ·split at h
   ·rename_i z;exact absurd h z
   ·exact h
def rE(k:fC):Prop:=∀a∈k.out,gB a.ds=0
theorem rE.snoc{f:List lW}{e A:Int}(h:rE ⟨f,e⟩){a:lW}(j:gB a.ds=0):rE ⟨f++[a],A⟩:=λx U=>by
 rcases agh.1 U with U |U;exact h x U
 ·obtain rfl:=agu.1 U;exact j
theorem rE.SP(h:rE k):rE (oJ l r t u k):=by
 unfold oJ
 split
 exact h
 ·split
  ·exact h
  ·split
   ·exact h
   ·split
    ·exact h
    ·rename_i B
     exact rE.snoc (e:=k.e) h (inst_sys (Decidable.of_not_not B))
theorem rE.U2(h:rE k):rE (tU r d k):=by
 unfold tU
 split
 exact h
 ·split
  ·exact h
  ·rename_i S
   split
   exact h;exact rE.snoc (e:=k.e) h (Decidable.of_not_not S)
theorem rE.kn{l:List cg}{tm:Tm}:∀(F:List Tm) {k:fC},rE k->rE (F.foldl (Bt l tm) k)
 |[],_,h=>h
 |t::F,k,h=>rE.kn F (by
  unfold Bt
  split
  exact h;exact h.SP)
theorem rE.row{l:List cg}{t:Tm}:∀(F:List Tm) {k:fC},rE k->rE (F.foldl (λc u=>oJ l 3 t u c) k)
 |[],_,h=>h
 |u::F,k,h=>rE.row F h.SP
theorem rE.eqs{l:List cg}:∀(F:List Tm) {k:fC},rE k->rE (KJ l F k)
 |[],_,h=>h
 |t::F,k,h=>by rw[KJ];exact rE.eqs F (rE.row F h)
theorem Ec(t:V<n):getM (h.take n) V ep=getM h V ep:=by simp only[getM,agD t]
theorem pt{f g:PV->Option PV}:∀{l:List PV},(∀x∈l,f x=g x)->fT f l=fT g l
 |[],_=>rfl
 |c::l,h=>by simp only[fT,h c yxb,pt (l:=l) λx U=>h x yxl]
theorem x9{f:Nat->Bool}{cs:List PV}(h:bB f cs=true):∀x∈cs,bq f x=true:=by
 rw[dx,af9]at h;exact h
theorem wZ{h:ab}{n:Nat}(z:HR (h.take n))(hn:n<=h.length):∀(k:Nat) (p:PV),bq (λi=>decide (i<n)) p=true->mW k (h.take n) p=mW k h p
 |0,p,_=>rfl
 |k+1,p,J=>by
  have A:(h.take n).length=n:=by simp;omega
  cases p with
  |an V g a K=>
   have t:V<n:=of_decide_eq_true J;simp only[mW,Ec t]
   cases N:getM h V g with
   |none=>rfl
   |some o=>
    have f:=(z o (agq (i:=V) (by rw[agD t];exact(getM_some N).1))).2;rw[A]at f;simp only;rw[pt λx U=>wZ z hn k x (x9 f x (ahr (ahi U)))]
  |agg Y=>
   simp only[mW];rw[pt λx U=>wZ z hn k x (x9 (by simpa[bq]using J) x U)]
  |b8 Y=>
   simp only[mW];rw[pt λx U=>wZ z hn k x (x9 (by simpa[bq]using J) x U)]
  |_=>rfl
def W0(h:ab)(p r:PV):Prop:=kZ h p=some r\/(kZ h p=none/\mW 7 h p=some r)
theorem W0.take{h:ab}{n:Nat}{p r:PV}(x:W0 h p r)(z:HR (h.take n))(hn:n<=h.length)(K:(∃f es,p=.aa f es)\/∃V ep len,p=.an V ep 0 len)(J:bq (λi=>decide (i<n)) p=true):W0 (h.take n) p r:=by
 have O:kZ (h.take n) p=kZ h p:=by
  rcases K with⟨f,es,rfl⟩|⟨V,ep,len,rfl⟩
  rfl
  ·have t:V<n:=of_decide_eq_true J;simp only[kZ,rf,Ec t]
 unfold W0;rw[O,wZ z hn 7 p J];exact x
theorem W0.Cy{p r:PV}(x:W0 h p r)(hn:b9 r=.aa false es):∃b,yb h (bo [p,.I e])=some b/\b9 b=.b8 [.aa false es,.I e]:=by
 refine⟨.b8 [r,.I e],?_,by simp[b9,aY,hn]⟩;have B:kZ h (.I e)=some (.I e):=rfl;rcases x with x |⟨x,y⟩
 ·have:rb h (.b8 [p,.I e])=some (.b8 [r,.I e]):=by simp only[rb,iR,x,B];rfl
  simp only[bo,yb,this]
 ·have:rb h (.b8 [p,.I e])=none:=by simp only[rb,iR,x];rfl
  simp only[bo,yb,this];rw[show mW 8 h (.b8 [p,.I e])=(fT (mW 7 h) [p,.I e]).map .b8 from rfl,fk y (fk yr rfl)]
  rfl
inductive oM(h:ab):List Nat->List PV->List lW->Prop
 |nil:oM h [] [] []
 |snoc {ids:List Nat} {es:List PV} {al:List lW} {f:Bool} {dv:PV} {ds:List PV} {ids2:List Nat} {a:lW}:oM h ids es al->Out 5 h dv ds->Ce h ids2 ds a.ds->oM h (ids++(bJ dv++ids2)) (es++[.agg [.int .i64 a.r,.aa f (aU a.bs),dv]]) (al++[a])
theorem oM.len{t:List Nat}(n:oM h t es j):es.length=j.length:=by
 induction n with
 |nil=>rfl
 |snoc _ _ _ P=>simp[P]
theorem oM.of_eq{h h':ab}{t:List Nat}{es:List PV}{j:List lW}(n:oM h t es j):(∀i∈t,h'[i]?=h[i]?)->oM h' t es j:=by
 induction n with
 |nil=>exact λ_=>.nil
 |snoc _ o d P=>exact λq=>.snoc (P λi B=>q i (by simp[B])) (o.of_eq λi B=>q i (by simp[B])) (d.of_eq λi B=>q i (by simp[B]))
theorem oM.lt{h:ab}{t:List Nat}{es:List PV}{j:List lW}(n:oM h t es j):∀i∈t,i<h.length:=by
 induction n with
 |nil=>intro i B;cases B
 |snoc _ o d P=>
  intro i B
  rcases agh.1 B with B |B;exact P i B
  ·rcases agh.1 B with B |B
   ·exact o.nP i B
   ·exact d.lt i B
theorem oM.NV{t:List Nat}(n:oM h t es j):bB (λi=>decide (i<h.length)) es=true:=by
 induction n with
 |nil=>rfl
 |snoc _ o _ P=>
  rw[dx,ag9,<-dx,P];simp[bq,bB,o.bq]
theorem oM.mW{h:ab}{t:List Nat}{es:List PV}{j:List lW}(n:oM h t es j):∃U,fT (mW 6 h) es=some U/\aY U=gD j:=by
 induction n with
 |nil=>exact⟨[],rfl,rfl⟩
 | @snoc t es j f i z q a _ o d P=>
  obtain⟨b,O,X⟩:=P
  have Q:∃r,Pm.mW 5 h i=some r/\b9 r=.aa false (aR a.ds):=by
   rcases o with⟨rfl,rfl⟩|⟨V,v,rfl,e⟩
   ·have A:=d.len;have B:a.ds=[]:=agm (by rw[<-A];rfl);exact⟨.aa true [],Da,by rw[B];rfl⟩
   ·obtain⟨U,K,g⟩:=d.mW 1;exact⟨.aa false U,LY (bw e rfl yxb) (agb _) (.inl rfl) (by rw[ahe];exact K),by simp[b9,g]⟩
  obtain⟨r,G,u⟩:=Q;refine⟨b++[.agg [.I a.r,.aa f (aU a.bs),r]],xE O ?_,?_⟩
  ·have:Pm.mW 6 h (.agg [.I a.r,.aa f (aU a.bs),i])=some (.agg [.I a.r,.aa f (aU a.bs),r]):=LZ (fk yr (fk Da (fk G rfl)));simp only[fT,this]
  ·rw[cB,agN,<-cB,X];simp[gD,uU,b9,aY,u]
theorem oM.NW{t:List Nat}(n:oM h t es j):aw es=true->aY es=gD j:=by
 induction n with
 |nil=>exact λ_=>rfl
 | @snoc t es j f i z q a _ o d P=>
  intro J
  rw[bz,ag9,age,<-bz,<-bz]at J;rw[cB,agN,<-cB,P J.1]
  have H:aW i=true:=by
   have:=J.2;simp[aw,aW]at this;exact this
  rcases o with⟨rfl,rfl⟩|⟨V,g,rfl,e⟩
  ·have A:=d.len;have B:a.ds=[]:=agm (by rw[<-A];rfl);simp[gD,uU,b9,aY,B,aR]
  simp[aW]at H
theorem oM.rd{v:PV}{t:List Nat}(o:Out 3 h v es)(n:oM h t es j):∃r,W0 h v r/\b9 r=.aa false (gD j):=by
 rcases o with⟨rfl,rfl⟩|⟨V,g,rfl,e⟩
 ·have A:=n.len;have B:j=[]:=agm (by rw[<-A];rfl);subst B;exact⟨.aa true [],.inl rfl,rfl⟩
 ·have N:=bw e rfl (by simp:Mu.m≠Mu.x)
  by_cases J:aw es=true
  exact⟨.aa false es,.inl (by simp[kZ,rf,N,J]),by simp[b9,n.NW J]⟩
  ·obtain⟨U,O,X⟩:=n.mW;exact⟨.aa false U,.inr ⟨by simp[kZ,rf,N,J],LY N (agb _) (.inl rfl) (by rw[ahe];exact O)⟩,by simp[b9,X]⟩
end Go.Pm
