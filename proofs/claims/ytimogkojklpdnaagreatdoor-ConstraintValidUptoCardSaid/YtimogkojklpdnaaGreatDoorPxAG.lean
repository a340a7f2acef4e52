/-
  Pm, a part. Conditions: none.
-/
import Derived.Test.YtimogkojklpdnaaGreatDoorPxAF
import Derived.Test.YtimogkojklpdnaaGreatDoorRows
import Derived.Shelf.Strings.OnBuilder
import Derived.Test.YtimogkojklpdnaaGreatDoorProg
import Derived.KernelRfl
import Derived.Shelf.SlSortCmp.WholeK
import Derived.Lib.Overlaps
set_option linter.unusedVariables false
set_option linter.unusedSimpArgs false
set_option linter.unnecessarySimpa false
set_option linter.unusedSectionVars false
namespace Go.Pm
structure ee where
 kn:List Tm
 tm:Tm
structure F3 where
 v:Tm
 t:Tm
def kg(d:ee):PV:=.agg [.ab false (aj d.kn),.int .i64 d.tm.k,.str d.tm.s,.int .i64 d.tm.o,.ab false (aj d.tm.l)]
def Bq(b:F3):PV:=.agg [.int .i64 b.v.k,.str b.v.s,.int .i64 b.v.o,.ab false (aj b.v.l),.int .i64 b.t.k,.str b.t.s,.int .i64 b.t.o,.ab false (aj b.t.l)]
def aX(l:List ee):List PV:=l.map kg
def nN(l:List F3):List PV:=l.map Bq
@[simp] theorem Iz(d:ee):aJ (kg d)=true:=by simp[kg]
@[simp] theorem IA(b:F3):aJ (Bq b)=true:=by simp[Bq]
@[simp] theorem Lu(d:ee):cJ (kg d)=kg d:=by simp[kg,cJ,ba,bP]
@[simp] theorem Lv(b:F3):cJ (Bq b)=Bq b:=by simp[Bq,cJ,ba,bP]
@[simp] theorem F6(l:List ee):au (aX l)=true:=by rw[bp];simp[aX]
@[simp] theorem F7(l:List F3):au (nN l)=true:=by rw[bp];simp[nN]
@[simp] theorem IB(l:List ee):ba (aX l)=aX l:=by rw[cK];simp[aX]
@[simp] theorem IC(l:List F3):ba (nN l)=nN l:=by rw[cK];simp[nN]
@[simp] theorem eP(l:List ee):(aX l).length=l.length:=by simp[aX]
@[simp] theorem Km(l:List F3):(nN l).length=l.length:=by simp[nN]
@[simp] theorem Kn:aX []=[]:=rfl
@[simp] theorem Ko:nN []=[]:=rfl
theorem oM(d:ee):kg d=.agg [.ab false (aj d.kn),.int .i64 d.tm.k,.str d.tm.s,.int .i64 d.tm.o,.ab false (aj d.tm.l)]:=rfl
theorem fh{l p q:List ee}{d:ee}(e:l=p++d::q):(aX l)[p.length]?=some (.agg [.ab false (aj d.kn),.int .i64 d.tm.k,.str d.tm.s,.int .i64 d.tm.o,.ab false (aj d.tm.l)]):=by rw[aX,e,<-oM];simp
def eQ(l:List Tm)(t:Tm):Bool:=l.any λu=>decide (bR t u=0)
theorem xe{l:List Tm}{t:Tm}:eQ l t=true↔t∈l:=by
 simp only[eQ,UZ,decide_eq_true_eq]
 constructor
 rintro⟨u,hu,h⟩;rw[fG h];exact hu;exact λh=>⟨t,h,ma t⟩
def wc(t:Tm):Bool:=decide (t.o=1\/t.o=5)
def bH(t:Tm):Int:=if xf t≠0 then xf t else if iv t=false\/(bx t).any wc=true then 10 else if 60<size t then 3 else 0
def dU:List Tm->Int
 |[]=>0
 |t::l=>if bH t≠0 then bH t else dU l
def kept(prev:Option (List Tm))(k:List Tm):Bool:=match prev with |none=>true |some p=>p.all λt=>eQ k t
def yj(bound k:List Tm):Bool:=k.all λt=>(bx t).all λx=>eQ bound x
def jq:Option (List Tm)->List Tm->List ee->Int
 |_,_,[]=>0
 |prev,bound,d::l=>
  if 40<d.kn.length then 3
  else if dU (d.kn++[d.tm])≠0 then dU (d.kn++[d.tm])
  else if kept prev d.kn=false then 9
  else if yj bound d.kn=false then 13
  else jq (some d.kn) (bound++bx d.tm) l
def gD(l:List ee):Int:=if 40<l.length then 3 else jq none [] l
open Go.Proofs
set_option maxRecDepth 100000
set_option maxHeartbeats 2000000
instance:Inhabited ee:=⟨⟨[],xL⟩⟩
instance:Inhabited F3:=⟨⟨xL,xL⟩⟩
theorem HB:C.P.cellsOf 35=5:=by kernel_rfl
theorem My:∃fs,C.P.underlying 35=some (.struct fs)/\fs.toList.map (λf=>(f.offset,f.type))=[(0,31),(1,33)]:=xK (T6.cI 35 _ rfl)
theorem Ej{fs:Array Field}{os:List (Nat×TypeId)}(HA:fs.toList.map (λf=>(f.offset,f.type))=os){i a b:Nat}(hi:os[i]?=some (a,b)):∃f,fs[i]?=some f/\f.offset=a/\f.type=b:=by
 rw[<-HA,TS]at hi;have:fs[i]?=fs.toList[i]?:=by simp
 rw[this]
 cases hh:fs.toList[i]? with
 |none=>rw[hh]at hi;cases hi
 |some f=>
  rw[hh]at hi;simp only[TO,Ue,Vb]at hi;exact⟨f,rfl,hi.1,hi.2⟩
theorem ux:∀l:List Tm,(l.map aE).sum=bg l
 |[]=>rfl
 |t::l=>by rw[TT,List.sum_cons,ux l];rfl
open Go.Proofs.YtimogkojklpdnaaGreatDoor in
theorem Gx{H:Type}{ec:TypeId×Value->H}{w:World}{sp:Nat->Bool}{held:Bool}{n:Nat}{cs:List Value}{x:DataW H×List MemPlace}(h:DataW.trod ec C.P w 0 sp held n 31 cs=some x):
  ∃(c:Value) (l:List Tm),cs=[c]/\aS w we c (.ab false (aj l))/\bg l+1<=Rows.uptoBulk x.1:=by
 obtain⟨c,l,h1,h2,h3⟩:=sb enc aE (aY (T6.cI 31 _ rfl)) Gw (by decide) (λe=>by rw[aN];rfl) (λn cs x hx=>by
  obtain⟨t,ht,hb⟩:=AV n _ _ hx;obtain⟨q1,q2,q3⟩:=aS.vJ ht;exact⟨t,q1,q3,hb⟩) h
 exact⟨c,l,h1,by rw[cQ];exact h2,by rw[ux]at h3;exact h3⟩
open Go.Proofs.YtimogkojklpdnaaGreatDoor in
theorem Ek{H:Type}{ec:TypeId×Value->H}{w:World}{sp:Nat->Bool}{held:Bool}(n:Nat)(cs:List Value)(x:DataW H×List MemPlace)(h:DataW.trod ec C.P w 0 sp held n 35 cs=some x):
  ∃d:ee,cs.length=5/\(∀j,j<5->aS w we (cs.getD j undef) ((Pm.cells (kg d)).getD j .any))/\bg d.kn+aE d.tm+2<=Rows.uptoBulk x.1:=by
 obtain⟨fs,hu,HA⟩:=My;obtain⟨xs,m,rfl,rfl,hlen,Fx,hf⟩:=DataW.trod_struct hu h;rw[HB]at hlen;have ez:fs.size=2:=by have:=congrArg List.length HA;simpa using this
 rw[ez]at Fx
 match cs,hlen,xs,Fx with
 |[c0,c1,c2,c3,c4],_,[x0,x1],_=>
  obtain⟨f0,g0,a0,b0⟩:=Ej HA (i:=0) rfl;obtain⟨f1,g1,a1,b1⟩:=Ej HA (i:=1) rfl;have h0:=hf 0 f0 g0;have h1:=hf 1 f1 g1;rw[a0,b0,Mv]at h0;rw[a1,b1,Gw]at h1;simp only[U',UX,Vh,List.drop_succ_cons,List.getElem?_cons_zero,Vz]at h0 h1;obtain⟨d0,l,e0,s0,r0⟩:=Gx h0;obtain rfl:c0=d0:=by simpa using e0
  obtain⟨t,ht,hb⟩:=AV m _ _ h1;obtain⟨q1,q2,q3⟩:=aS.vJ ht;refine⟨⟨l,t⟩,rfl,?_,?_⟩
  ·rw[aN]at q3
   intro j hj
   match j,hj with
   |0,_=>exact s0
   |1,_=>exact q3 0 (by omega)
   |2,_=>exact q3 1 (by omega)
   |3,_=>exact q3 2 (by omega)
   |4,_=>exact q3 3 (by omega)
  ·simp only[TT,T5,Rows.uptoBulk,Rows.uptoBulkAll];omega
open Go.Proofs.YtimogkojklpdnaaGreatDoor in
theorem BE{H:Type}{ec:TypeId×Value->H}{w:World}{sp:Nat->Bool}{held:Bool}{n:Nat}{cs:List Value}{x:DataW H×List MemPlace}(h:DataW.trod ec C.P w 0 sp held n 22 cs=some x):
  ∃(c:Value) (l:List ee),cs=[c]/\aS w we c (.ab false (aX l))/\(l.map λd=>bg d.kn+aE d.tm+2).sum+1<=Rows.uptoBulk x.1:=
 sb kg (λd=>bg d.kn+aE d.tm+2) (aY (T6.cI 22 _ rfl)) HB (by decide) (λ_=>rfl) Ek h
end Go.Pm
namespace Go.Pm
open Go.Proofs Go.ChangeShapes Go.WideShapes
set_option maxRecDepth 100000
set_option maxHeartbeats 2000000
open Go.Proofs.YtimogkojklpdnaaGreatDoor in
theorem zo{H:Type}{ec:TypeId×Value->H}{w:World}{base:Nat}{sp:Nat->Bool}{v:Value}{d:DataW H}{p:List MemPlace}(eO:Value.okWide C.P w .any base 22 v)(h:DataW.Trod ec C.P w 0 sp true 22 v d p):
  ∃l:List ee,aS w we v (.ab false (aX l))/\(l.map λd=>bg d.kn+aE d.tm+2).sum+1<=Rows.uptoBulk d:=by
 obtain⟨n,hn⟩:=h;obtain⟨a,len,cap,rfl⟩:=okWide_slice (aY (T6.cI 22 _ rfl)) eO;obtain⟨c,l,hc,h1,h2⟩:=BE hn;obtain rfl:Value.slice a len cap=c:=by simpa[Value.cells]using hc
 exact⟨l,h1,h2⟩
end Go.Pm
namespace Go.Pm
open Go.Proofs
set_option maxRecDepth 100000
set_option maxHeartbeats 2000000
open Go.Proofs.YtimogkojklpdnaaGreatDoor in
theorem zp{w:World}{n:Nat}{cs:List Value}{p:List MemPlace}(h:DataW.trod (λ_=>()) C.P w 0 (λ_=>true) false n 59 cs=some (Rows.laid_sealring_term_words,p)):
  ∃c,cs=[c]/\aS w we c (.ab false [.str ⟨#[97,110,121]⟩,.str ⟨#[97,103,101,110,116]⟩,.str ⟨#[110,111,110,99,101]⟩,.str ⟨#[107,101,121]⟩,.str ⟨#[100,97,116,97]⟩,.str ⟨#[116,97,103]⟩]):=by
 have OP:C.P.cellsOf 9=1:=by kernel_rfl
 rcases DataW.trod_slice (aY (T6.cI 59 _ rfl)) h with⟨e3,h2⟩|⟨a,len,cap,bC,rest,n2,Nt,e3,h2,hb,hle,oB,AO,eE,_,_⟩
 cases h2
 ·refine⟨_,e3,?_⟩;have h3:bC.map (·.1)=_:=(DataW.slice.inj (TL h2).1).1.symm;have h6:len=6:=by have:=congrArg List.length h3;simp at this;omega
  subst h6;rw[OP]at eE
  have each:∀i,i<6->∃s:ByteArray,w.cell? (a.add (i * 1))=some (.string s)/\∀x,(bC.map (·.1))[i]?=some x->x=.lit (.string s.data.toList):=by
   intro i hi
   have h1:=eE i hi;obtain⟨y,hy⟩:∃y,bC[i]?=some y:=⟨bC[i],TJ (by omega)⟩;rw[hy]at h1
   cases hc:w.cells? 0 (a.add (i * 1)) 1 with
   |none=>rw[hc]at h1;cases h1
   |some iw=>
    rw[hc]at h1;obtain⟨s,rfl,rfl,_⟩:=DataW.trod_string (jE (T6.cI 9 _ rfl)) h1;obtain⟨_,eJ,sN⟩:=World.cells?_some hc;have um:=sN 0 (by omega);rw[BG]at um;refine⟨s,um,λx hx=>?_⟩;rw[TS,hy]at hx;exact(TF hx).symm
  obtain⟨s0,c0,q0⟩:=each 0 (by omega);obtain⟨s1,c1,q1⟩:=each 1 (by omega);obtain⟨s2,c2,q2⟩:=each 2 (by omega);obtain⟨s3,c3,q3⟩:=each 3 (by omega);obtain⟨s4,c4,q4⟩:=each 4 (by omega);obtain⟨s5,c5,q5⟩:=each 5 (by omega);rw[h3]at q0 q1 q2 q3 q4 q5
  have bs:∀{s:ByteArray} {l:List UInt8} {x:DataW Unit},x=.lit (.string l)->x=.lit (.string s.data.toList)->s=⟨l.toArray⟩:=by
   rintro⟨⟨d⟩⟩ l x rfl h;have:=Lit.string.inj (DataW.lit.inj h);rw[this]
  obtain rfl:=bs rfl (q0 _ rfl);obtain rfl:=bs rfl (q1 _ rfl);obtain rfl:=bs rfl (q2 _ rfl);obtain rfl:=bs rfl (q3 _ rfl);obtain rfl:=bs rfl (q4 _ rfl);obtain rfl:=bs rfl (q5 _ rfl);obtain⟨b,off,rfl⟩:=nf (by rw[UQ,BG]at c0;exact c0);rw[cG]at c0 c1 c2 c3 c4 c5;refine .ab b off cap 1 false [.str ⟨#[97,110,121]⟩,.str ⟨#[97,103,101,110,116]⟩,.str ⟨#[110,111,110,99,101]⟩,.str ⟨#[107,101,121]⟩,.str ⟨#[100,97,116,97]⟩,.str ⟨#[116,97,103]⟩] (λi _=>[Value.string ⟨#[97,110,121]⟩,.string ⟨#[97,103,101,110,116]⟩,.string ⟨#[110,111,110,99,101]⟩,.string ⟨#[107,101,121]⟩,.string ⟨#[100,97,116,97]⟩,.string ⟨#[116,97,103]⟩].getD i undef) (by simp) hle (λh=>by cases h) (λh=>h) (by omega) (λi hi=>?_) (λi j hi hj=>?_) (λi j hi hj=>?_)
  ·match i,hi with
   |0,_ |1,_ |2,_ |3,_ |4,_ |5,_=>rfl
  ·obtain rfl:j=0:=by omega
   match i,hi with
   |0,_=>exact c0
   |1,_=>exact c1
   |2,_=>exact c2
   |3,_=>exact c3
   |4,_=>exact c4
   |5,_=>exact c5
  ·obtain rfl:j=0:=by omega
   match i,hi with
   |0,_=>exact .str _
   |1,_=>exact .str _
   |2,_=>exact .str _
   |3,_=>exact .str _
   |4,_=>exact .str _
   |5,_=>exact .str _
open Go.Proofs.YtimogkojklpdnaaGreatDoor in
theorem DX{w:World}(hL:laidMetH C.P Rows.constraintValidUptoRow.laid w):cp w we:=by
 have RS:laidMet C.P Rows.constraintValidUptoRow.laid w:=hL;obtain⟨ps,h,_,_⟩:=RS;obtain⟨_,_,_,_,_,q1,_,_,_,_,h,_⟩:=h;obtain⟨_,_,_,_,_,q2,_,_,_,_,h,_⟩:=h;obtain⟨_,_,_,_,_,q3,_,_,_,_,h,_⟩:=h;obtain⟨_,_,_,_,_,q4,_,_,_,_,h,_⟩:=h;obtain⟨g,t,cs,fuel,p,q5,hg,ht,hv,hr,_,_⟩:=h;obtain rfl := TF ((show C.P.globalNamed "sealring/term.words" = some 0 by kernel_rfl).symm.trans hg)
 obtain rfl:=TF ((show(C.P.globals[0]?).map (·.type)=some 59 by kernel_rfl).symm.trans ht);obtain⟨c,hc,hs⟩:=zp hr
 intro g p e
 unfold qI at e
 split at e
 ·obtain rfl:=TF e;refine⟨λh=>h,c,?_,hs⟩;unfold World.var? at hv;rw[hg]at hv;simp only[VG]at hv
  split at hv
  ·rename_i ca ta fa hh
   obtain rfl:=TF hv
   have h0:ca[0]?=some c:=by
    have:ca.toList[0]?=some c:=by rw[hc];rfl
    simpa using this
   have Kc:w.heap[0]?=some (.cells ca ta fa):=hh;simp[World.cell?,Kc,h0]
  cases hv
 cases e
end Go.Pm
namespace Go.Pm
open Go.Proofs Go.Shelf Go.RowKit
def iM:Go.Shelf.Ren:=⟨λ|156=>82 |165=>137 |166=>81 |167=>182 |169=>83 |240=>136 |241=>184 |276=>183 |277=>240 |n=>n,λ|0=>0 |3=>3 |4=>4 |5=>5 |9=>9 |20=>20 |31=>59 |37=>41 |70=>101 |72=>103 |75=>105 |76=>106 |80=>109 |127=>147 |164=>171 |n=>n,λ|n=>n⟩
theorem nA:Lays.n156 Tryz.prog iM:={
 mixed:=by kernel_rfl
 f156:=Tryz.func82.trans (congrArg some (by kernel_rfl))
 f165:=Tryz.func137.trans (congrArg some (by kernel_rfl))
 f166:=Tryz.func81.trans (congrArg some (by kernel_rfl))
 f169:=Tryz.func83.trans (congrArg some (by kernel_rfl))
 f240:=Tryz.func136.trans (congrArg some (by kernel_rfl))
 f241:=Tryz.func184.trans (congrArg some (by kernel_rfl))
 f276:=Tryz.func183.trans (congrArg some (by kernel_rfl))
 f277:=Tryz.func240.trans (congrArg some (by kernel_rfl))
 t0:=Tryz.underlying0
 a0:=Tryz.isAgg0
 z0:=Tryz.sizeOf0
 v0:=Tryz.zeroValue0
 t3:=Tryz.underlying3
 a3:=Tryz.isAgg3
 z3:=Tryz.sizeOf3
 v3:=Tryz.zeroValue3
 t4:=Tryz.underlying4
 a4:=Tryz.isAgg4
 z4:=Tryz.sizeOf4
 v4:=Tryz.zeroValue4
 t9:=Tryz.underlying9
 a9:=Tryz.isAgg9
 z9:=Tryz.sizeOf9
 v9:=Tryz.zeroValue9
 t20:=Tryz.underlying20
 a20:=Tryz.isAgg20
 z20:=Tryz.sizeOf20
 v20:=Tryz.zeroValue20
 t31:=Tryz.underlying59
 a31:=Tryz.isAgg59
 z31:=Tryz.sizeOf59
 v31:=Tryz.zeroValue59
 t37:=Tryz.underlying41
 a37:=Tryz.isAgg41
 z37:=Tryz.sizeOf41
 v37:=Tryz.zeroValue41
 t70:=Tryz.underlying101
 a70:=Tryz.isAgg101
 z70:=Tryz.sizeOf101
 v70:=Tryz.zeroValue101
 t72:=Tryz.underlying103
 a72:=Tryz.isAgg103
 z72:=Tryz.sizeOf103
 v72:=Tryz.zeroValue103
 t75:=Tryz.underlying105
 a75:=Tryz.isAgg105
 z75:=Tryz.sizeOf105
 v75:=Tryz.zeroValue105
 t76:=Tryz.underlying106
 a76:=Tryz.isAgg106
 z76:=Tryz.sizeOf106
 v76:=Tryz.zeroValue106
 t127:=Tryz.underlying147
 a127:=Tryz.isAgg147
 z127:=Tryz.sizeOf147
 v127:=Tryz.zeroValue147
 t164:=Tryz.underlying171
 a164:=Tryz.isAgg171
 z164:=Tryz.sizeOf171
 v164:=Tryz.zeroValue171}
theorem Fw:Lays.n167 Tryz.prog iM:={
 mixed:=by kernel_rfl
 f167:=Tryz.func182.trans (congrArg some (by kernel_rfl))
 f240:=Tryz.func136.trans (congrArg some (by kernel_rfl))
 f276:=Tryz.func183.trans (congrArg some (by kernel_rfl))
 t0:=Tryz.underlying0
 a0:=Tryz.isAgg0
 z0:=Tryz.sizeOf0
 v0:=Tryz.zeroValue0
 t4:=Tryz.underlying4
 a4:=Tryz.isAgg4
 z4:=Tryz.sizeOf4
 v4:=Tryz.zeroValue4
 t5:=Tryz.underlying5
 a5:=Tryz.isAgg5
 z5:=Tryz.sizeOf5
 v5:=Tryz.zeroValue5
 t9:=Tryz.underlying9
 a9:=Tryz.isAgg9
 z9:=Tryz.sizeOf9
 v9:=Tryz.zeroValue9
 t20:=Tryz.underlying20
 a20:=Tryz.isAgg20
 z20:=Tryz.sizeOf20
 v20:=Tryz.zeroValue20
 t37:=Tryz.underlying41
 a37:=Tryz.isAgg41
 z37:=Tryz.sizeOf41
 v37:=Tryz.zeroValue41
 t70:=Tryz.underlying101
 a70:=Tryz.isAgg101
 z70:=Tryz.sizeOf101
 v70:=Tryz.zeroValue101
 t72:=Tryz.underlying103
 a72:=Tryz.isAgg103
 z72:=Tryz.sizeOf103
 v72:=Tryz.zeroValue103
 t75:=Tryz.underlying105
 a75:=Tryz.isAgg105
 z75:=Tryz.sizeOf105
 v75:=Tryz.zeroValue105
 t164:=Tryz.underlying171
 a164:=Tryz.isAgg171
 z164:=Tryz.sizeOf171
 v164:=Tryz.zeroValue171}
theorem tq:Builder.Extra Tryz.prog iM:={
 sizeBuilder:=by kernel_rfl
 liesBuilder:=by kernel_rfl
 t5:=Tryz.underlying5
 a5:=Tryz.isAgg5
 z5:=Tryz.sizeOf5
 v5:=Tryz.zeroValue5
 infoByte:=by kernel_rfl
 cellsByte:=by kernel_rfl
 sizeByte:=by kernel_rfl
 neB5:=by decide}
structure BF(b:Nat)(w w':World):Prop where
 os:w'.os=w.os
 tape:w'.tape=w.tape
 output:w'.output=w.output
 size:w.heap.size<=w'.heap.size
 aB:∀k,k<w.heap.size->k≠b->(∀v,w.cell? ⟨b,1,none⟩=some v->v.ownBlock≠some k)->w'.heap[k]?=w.heap[k]?
 own:∀v' g,w'.cell? ⟨b,1,none⟩=some v'->v'.ownBlock=some g->w.heap.size<=g\/∃v,w.cell? ⟨b,1,none⟩=some v/\v.ownBlock=some g
section
variable{P:Program}(w:World)
theorem wi(base:Nat)(t u ty e:TypeId)(i:TypeInfo)(ht:P.underlying t=some (.slice e))(hu:P.underlying u=some .string)(hi:P.info? e=some i)(hz:i.zero=some (.int .u8 0))
  (eV:i.size=1) (fS:i.bytes=1) (v:Value) (n:Nat) (xs:List Value) (iN:w.ownsRow base e 1 v n xs) (s:ByteArray)
  (HZ:n+s.size<=maxLen) (oA:n+s.size<=140737488355328) {v':Value} {w':World} (hr:(Builtin.append_ #[t,u] ty #[v,.string s]).run P w=.ok v' w'):
  ∀g',v'.ownBlock=some g'->v.ownBlock=some g'\/w.heap.size<=g':=by
 have Fx:xs.length=n:=by simpa using iN.1
 rcases iN.2 with⟨rfl,rfl⟩|⟨g,cap,cur,rfl,Na,hg,Nb,H0,G8,KZ⟩
 ·obtain⟨v2,w2,G9,o2,_⟩:=Lib.run_append_own_string (P:=P) w w.heap.size t u ty e i ht hu hi hz eV fS (.slice none 0 0) 0 [] (World.ownsRow_nil w _ e 1) s (by omega) (by omega) (TI _);rw[hr]at G9
  cases G9
  exact λg' CO=>.inr (o2.lt g' CO).1
 ·by_cases gS:n+s.size<=cap
  ·have:=Lib.run_append_room_string (P:=P) w t u ty e i ht hu hi eV g n cap cur hg s gS (by omega);rw[hr]at this
   cases this
   exact λg' CO=>.inl CO
  ·have holds:∀j u,xs[j]?=some u->w.cell? ((⟨g,0,none⟩:Addr).add j)=some u:=iN.cells (g:=g) rfl;have:=Lib.run_append_grow_string (P:=P) w t u ty e i (.int .u8 0) ht hu hi hz ⟨g,0,none⟩ n cap xs (by rw[eV];simpa using Fx) holds s (by omega) (by omega) (by rw[fS];exact growslice_fits (by omega) (by omega));rw[hr]at this
   cases this
   intro g' CO
   simp[Value.ownBlock]at CO;exact .inr (by omega)
theorem yw{ops:Array Oper}{rest:List Oper}{o:Oper}{a:Act}{Q:Exit->Act->World->Prop}(Fy:o.guard=none)(sl x:Operand)(t u:TypeId)
  (ho:o.op=.call {callee:=.builtin .append,args:=#[sl,x],argTypes:=#[t,u]})
  (base:Nat) (e:TypeId) (i:TypeInfo) (ht:P.underlying t=some (.slice e)) (hu:P.underlying u=some .string) (hi:P.info? e=some i) (hz:i.zero=some (.int .u8 0))
  (eV:i.size=1) (fS:i.bytes=1)
  (v:Value) (n:Nat) (xs:List Value) (hs:a.eval sl=v) (iN:w.ownsRow base e 1 v n xs) (s:ByteArray) (hx:a.eval x=.string s)
  (HZ:n+s.size<=maxLen) (oA:n+s.size<=140737488355328) (CP:base<=w.heap.size)
  (h:∀v' w',w'.ownsRow base e 1 v' (n+s.size) (xs++Lib.strCells s)->w.grownBy w' v.ownBlock->(∀g',v'.ownBlock=some g'->v.ownBlock=some g'\/w.heap.size<=g')->wpList P ops Q rest (a.put o.dst v') w'):wpList P ops Q (o::rest) a w:=by
 refine wpList_plain Fy λK hK=>?_;obtain⟨v',w',hr,h2,h3,h4⟩:=Lib.run_append_own_string (P:=P) w base t u o.type e i ht hu hi hz eV fS v n xs iN s HZ oA CP;have h5:=wi (P:=P) w base t u o.type e i ht hu hi hz eV fS v n xs iN s HZ oA hr;unfold Oper.wp execOp;simp only[ho,resolve,invoke,builtin,Sem.run_bind,Sem.run_pure,Result.andThen_ok,VD,TT,T5,hs,hx,hr];exact hK _ _ (h v' w' h2 h3 h5)
theorem wj(base:Nat)(t ty e:TypeId)(i:TypeInfo)(z:Value)(ht:P.underlying t=some (.slice e))(hi:P.info? e=some i)(hz:i.zero=some z)
  (eV:i.size=1) (fS:i.bytes=1) (K5:z.cells.size=1) (v:Value) (n:Nat) (xs:List Value) (iN:w.ownsRow base e 1 v n xs) (a:Addr) (x:Value) (hx:w.cell? a=some x) (h1:x.oneCell'=true)
  (HZ:n+1<=maxLen) (oA:n+1<=140737488355328) {v':Value} {w':World} (hr:(Builtin.append_ #[t,t] ty #[v,.slice (some a) 1 1]).run P w=.ok v' w'):
  ∀g',v'.ownBlock=some g'->v.ownBlock=some g'\/w.heap.size<=g':=by
 have Fx:xs.length=n:=by simpa using iN.1
 have tu:∀(j:Nat) (u:Value),[x][j]?=some u->w.cell? (a.add j)=some u:=λj u hu=>by
  match j,hu with
  |0,hu=>simp at hu;subst hu;simpa[Addr.add]using hx
  |j+1,hu=>simp at hu
 have Ka:∀u∈[x],u.oneCell'=true:=λu hu=>by simp at hu;subst hu;exact h1
 rcases iN.2 with⟨rfl,rfl⟩|⟨g,cap,cur,rfl,Na,hg,Nb,H0,G8,KZ⟩
 ·obtain⟨v2,w2,G9,o2,_⟩:=run_append_own (P:=P) w w.heap.size t ty e i z 1 1 ht hi hz eV fS K5 (by decide) (.slice none 0 0) 0 [] (World.ownsRow_nil w _ e 1) a 1 1 [x] rfl tu Ka (by omega) (by omega) (TI _);rw[hr]at G9
  cases G9
  exact λg' CO=>.inr (o2.lt g' CO).1
 ·by_cases gS:n+1<=cap
  ·have:=run_append_room (P:=P) w t ty e i ht hi g n cap cur hg a 1 1 [x] (by rw[eV];rfl) tu Ka gS (by rw[eV];simp;omega);rw[hr]at this
   cases this
   exact λg' CO=>.inl CO
  ·obtain⟨v2,w2,G9,o2,gb,_⟩:=run_append_own (P:=P) w base t ty e i z 1 1 ht hi hz eV fS K5 (by decide) (.slice (some ⟨g,0,none⟩) n cap) n xs iN a 1 1 [x] rfl tu Ka (by omega) (by omega) (T' Na (Nat.le_of_lt (TY.1 hg).1));rw[hr]at G9
   cases G9
   intro g' CO
   rcases T8 g' w.heap.size with cx |uU
   ·exfalso;have holds:∀j u,xs[j]?=some u->w.cell? ((⟨g,0,none⟩:Addr).add j)=some u:=iN.cells (g:=g) rfl;have:=run_append_grow (P:=P) w t ty e i z ht hi hz ⟨g,0,none⟩ n cap xs (by rw[eV];simpa using Fx) holds a 1 1 [x] (by rw[eV];rfl) tu (by omega) (by omega) (by rw[fS];exact growslice_fits (by omega) (by omega));rw[hr]at this
    cases this
    simp[Value.ownBlock]at CO;omega
   exact .inr uU
theorem yx{ops:Array Oper}{rest:List Oper}{o:Oper}{a:Act}{Q:Exit->Act->World->Prop}(Fy:o.guard=none)(sl x:Operand)(t:TypeId)
  (ho:o.op=.call {callee:=.builtin .append,args:=#[sl,x],argTypes:=#[t,t]})
  (base:Nat) (e:TypeId) (i:TypeInfo) (z:Value) (ht:P.underlying t=some (.slice e)) (hi:P.info? e=some i) (hz:i.zero=some z)
  (eV:i.size=1) (fS:i.bytes=1) (K5:z.cells.size=1)
  (v:Value) (n:Nat) (xs:List Value) (hs:a.eval sl=v) (iN:w.ownsRow base e 1 v n xs)
  (ad:Addr) (y:Value) (hx:a.eval x=.slice (some ad) 1 1) (hy:w.cell? ad=some y) (h1:y.oneCell'=true)
  (HZ:n+1<=maxLen) (oA:n+1<=140737488355328) (CP:base<=w.heap.size)
  (h:∀v' w',w'.ownsRow base e 1 v' (n+1) (xs++[y])->w.grownBy w' v.ownBlock->(∀g',v'.ownBlock=some g'->v.ownBlock=some g'\/w.heap.size<=g')->wpList P ops Q rest (a.put o.dst v') w'):wpList P ops Q (o::rest) a w:=by
 refine wpList_plain Fy λK hK=>?_
 have tu:∀(j:Nat) (u:Value),[y][j]?=some u->w.cell? (ad.add j)=some u:=λj u hu=>by
  match j,hu with
  |0,hu=>simp at hu;subst hu;simpa[Addr.add]using hy
  |j+1,hu=>simp at hu
 obtain⟨v',w',hr,h2,h3,h4⟩:=run_append_own (P:=P) w base t o.type e i z 1 1 ht hi hz eV fS K5 (by decide) v n xs iN ad 1 1 [y] rfl tu (λu hu=>by simp at hu;subst hu;exact h1) HZ (by omega) CP;have h5:=wj (P:=P) w base t o.type e i z ht hi hz eV fS K5 v n xs iN ad y hy h1 HZ oA hr;unfold Oper.wp execOp;simp only[ho,resolve,invoke,builtin,Sem.run_bind,Sem.run_pure,Result.andThen_ok,VD,TT,T5,hs,hx,hr];exact hK _ _ (h v' w' h2 h3 h5)
end
section
variable{P:Program}{V:Ren}
theorem CQ(L:Lays.n240 P V)(X:Builder.X72 P V)(B b:Nat)(bs:List Value)(w:World)(h:Lib.IsBuilder (V.t 72) (V.t 5) B b bs w):
  Calls P (V.f 240) #[.pointer (some ⟨b,0,none⟩)] w λe w'=>e=.returned (.tuple #[])/\Lib.BuilderAt (V.t 72) (V.t 5) B b (.pointer (some ⟨b,0,none⟩)) bs w'/\(w'=w\/w'=w.setCell ⟨b,0,none⟩ (.pointer (some ⟨b,0,none⟩))):=by
 rcases h with h |h
 ·refine(Any.Builder_copyCheck_fresh L X b w h.cell0 h.shape h.frozen0).mono ?_;rintro e w' ⟨rfl,rfl⟩;exact⟨rfl,h.used _,.inr rfl⟩
 ·refine(Any.Builder_copyCheck_used L X b w h.cell0).mono ?_;rintro e w' ⟨rfl,rfl⟩;exact⟨rfl,h,.inl rfl⟩
theorem Ha{b:Nat}{w w1 w2:World}{p v v':Value}{T:TypeId}(h1:w1=w\/w1=w.setCell ⟨b,0,none⟩ (.pointer (some ⟨b,0,none⟩)))(hb:w1.heap[b]?=some (.cells #[p,v] T (0,0)))(aU:v.ownBlock≠some b)
  {FA:World} (ha:FA=w1\/∃o,FA=w1.alloc o) (hg:FA.grownBy w2 v.ownBlock) (ho:∀g',v'.ownBlock=some g'->v.ownBlock=some g'\/FA.heap.size<=g'):BF b w (w2.setCell ⟨b,1,none⟩ v'):=by
 have s1:w1.heap.size=w.heap.size:=by rcases h1 with rfl |rfl <;>simp[World.setCell]
 have o1:w1.os=w.os/\w1.tape=w.tape/\w1.output=w.output:=by rcases h1 with rfl |rfl <;>exact⟨rfl,rfl,rfl⟩
 have k1:∀k,k≠b->w1.heap[k]?=w.heap[k]?:=λk hk=>by
  rcases h1 with rfl |rfl
  rfl
  exact Below.heap_setCell _ _ _ _ hk
 have s2:w1.heap.size<=FA.heap.size:=by rcases ha with rfl |⟨o,rfl⟩ <;>simp
 have o2:FA.os=w1.os/\FA.tape=w1.tape/\FA.output=w1.output:=by rcases ha with rfl |⟨o,rfl⟩ <;>exact⟨rfl,rfl,rfl⟩
 have k2:∀k,k<w1.heap.size->FA.heap[k]?=w1.heap[k]?:=λk hk=>by
  rcases ha with rfl |⟨o,rfl⟩
  rfl
  exact Lib.alloc_old w1 o k hk
 have cx:b<w1.heap.size:=(TY.1 hb).1
 have c1:w.cell? ⟨b,1,none⟩=some v:=by
  have:w1.cell? ⟨b,1,none⟩=some v:=by rw[Lib.cell_of_heap hb];rfl
  rcases h1 with rfl |rfl;exact this
  ·rwa[World.cell?_setCell_other _ _ _ _ (by simp)]at this
 have qo:w2.heap[b]?=some (.cells #[p,v] T (0,0)):=by
  rw[hg.block b (by omega) (λe=>aU e.symm),k2 b cx];exact hb
 have d1:w2.cell? ⟨b,1,none⟩=some v:=by rw[Lib.cell_of_heap qo];rfl
 refine⟨hg.os.trans (o2.1.trans o1.1),hg.tape.trans (o2.2.1.trans o1.2.1),hg.output.trans (o2.2.2.trans o1.2.2),?_,λk hk PC QX=>?_,λu g e1 e2=>?_⟩;have:=hg.size;simp[World.setCell];omega;rw[Below.heap_setCell _ _ _ _ PC,hg.block k (by omega) (λe=>QX v c1 e.symm),k2 k (by omega),k1 k PC]
 ·rw[World.cell?_setCell_same _ _ _ d1]at e1;obtain rfl:=TF e1;rcases ho g e2 with h |h;exact .inr ⟨v,c1,h⟩;exact .inl (by omega)
set_option maxHeartbeats 2000000 in
set_option maxRecDepth 100000 in
theorem H6(L:Lays.n166 P V)(X:Builder.Extra P V)(B b:Nat)(bs:List Value)(s:ByteArray)(w:World)(h:Lib.IsBuilder (V.t 72) (V.t 5) B b bs w)(hlen:bs.length+s.size<=140737488355328)(QY:B<=w.heap.size):
  Calls P (V.f 166) #[.pointer (some ⟨b,0,none⟩),.string s] w λe w'=>e=.returned (.tuple #[.int .i64 s.size,.nilIface])/\Lib.BuilderAt (V.t 72) (V.t 5) B b (.pointer (some ⟨b,0,none⟩)) (bs++Lib.strCells s) w'/\BF b w w':=by
 obtain⟨i0,hi,H8,Cz,CA⟩:=info_parts X.infoByte;have mixed:=L.mixed;have t72:=L.t72;have a72:=L.a72;have z72:=L.z72;have v72:=L.v72;have u72:=run_underlying L.t72;have t70:=L.t70;have a70:=L.a70;have z70:=L.z70;have v70:=L.v70;have u70:=run_underlying L.t70;have t37:=L.t37;have a37:=L.a37;have z37:=L.z37;have v37:=L.v37;have u37:=run_underlying L.t37;have t3:=L.t3;have a3:=L.a3;have z3:=L.z3;have v3:=L.v3;have u3:=run_underlying L.t3;have t9:=L.t9;have a9:=L.a9;have z9:=L.z9;have v9:=L.v9;have u9:=run_underlying L.t9;have t4:=L.t4;have a4:=L.a4;have z4:=L.z4;have v4:=L.v4;have u4:=run_underlying L.t4;have t164:=L.t164;have a164:=L.a164;have z164:=L.z164;have v164:=L.v164;have u164:=run_underlying L.t164;have t5:=X.t5;have a5:=X.a5;have z5:=X.z5;have v5:=X.v5;have u5:=run_underlying X.t5;have e240:∀args w,(callFunc (V.f 240) args).run P w=.ok (.enter (V.f 240) args) w:=enters_of L.f240 (by kernel_rfl) rfl
 go_enter L.f166,Body.n166_ntmps V
 go_wp2_with (go_at_fn (V.f 240);refine(CQ {L with} X.toX72 B b bs _ h).mono ?_)
 rintro e w1 ⟨rfl,h1,K6⟩;obtain⟨hB,v,tv,iN,aU⟩:=h1;have CR:=Any.hidJ K6;clear K6;have s1:=Any.hidJ (show w1.heap.size=w.heap.size by rcases CR.out with rfl |rfl <;>simp[World.setCell]);have c0:w1.cell? ⟨b,0,none⟩=some (.pointer (some ⟨b,0,none⟩)):=by rw[Lib.cell_of_heap tv];rfl
 have c1:w1.cell? ⟨b,1,none⟩=some v:=by rw[Lib.cell_of_heap tv];rfl
 go_wp2_with (at_builtin;refine yw _ rfl _ _ (V.t 37) (V.t 9) rfl B (V.t 5) i0 L.t37 L.t9 hi H8 Cz CA _ _ _ rfl iN s rfl ?c3 ?c4 ?c5 ?_)
 case c3=>unfold maxLen;omega
 case c4=>omega
 case c5=>have:=s1.out;omega
 intro v' w2 wk wm vY
 have cx:b<w1.heap.size:=by
  rcases T8 b w1.heap.size with h'|h';exact h';simp[UJ h']at tv
 have qo:w2.heap[b]?=some (.cells #[.pointer (some ⟨b,0,none⟩),v] (V.t 72) (0,0)):=by
  rw[wm.block b cx (λe=>aU e.symm)];exact tv
 have d0:w2.cell? ⟨b,0,none⟩=some (.pointer (some ⟨b,0,none⟩)):=by rw[Lib.cell_of_heap qo];rfl
 have d1:w2.cell? ⟨b,1,none⟩=some v:=by rw[Lib.cell_of_heap qo];rfl
 have f1:w2.frozen? ⟨b,1,none⟩=false:=Lib.frozen_of_heap qo 1
 obtain⟨ao,n',cap,rfl⟩:∃ao n' cap,v'=.slice ao n' cap:=by
  rcases wk.2 with⟨hv,_⟩|⟨g,cap,cur,hv,_⟩;exact⟨_,_,_,hv⟩;exact⟨_,_,_,hv⟩
 have yy:=Any.hidJ vY;clear vY
 go_wp2
 go_ret2
 refine⟨rfl,?_,?_⟩;exact Lib.BuilderAt.put (T:=(V.t 72)) (e:=(V.t 5)) hB qo (bs':=bs++Lib.strCells s) (by simpa[Lib.strCells_length]using wk) X.neB5;exact Ha CR.out tv aU (.inl rfl) wm yy.out
set_option maxHeartbeats 2000000 in
set_option maxRecDepth 100000 in
theorem H9(L:Lays.n167 P V)(X:Builder.Extra P V)(B b:Nat)(bs:List Value)(c:Int)(w:World)(h:Lib.IsBuilder (V.t 72) (V.t 5) B b bs w)(hlen:bs.length+1<=140737488355328)(QY:B<=w.heap.size):
  Calls P (V.f 167) #[.pointer (some ⟨b,0,none⟩),.int .u8 c] w λe w'=>e=.returned .nilIface/\Lib.BuilderAt (V.t 72) (V.t 5) B b (.pointer (some ⟨b,0,none⟩)) (bs++[.int .u8 c]) w'/\BF b w w':=by
 obtain⟨i0,hi,H8,Cz,CA⟩:=info_parts X.infoByte;have mixed:=L.mixed;have t72:=L.t72;have a72:=L.a72;have z72:=L.z72;have v72:=L.v72;have u72:=run_underlying L.t72;have t70:=L.t70;have a70:=L.a70;have z70:=L.z70;have v70:=L.v70;have u70:=run_underlying L.t70;have t5:=L.t5;have a5:=L.a5;have z5:=L.z5;have v5:=L.v5;have u5:=run_underlying L.t5;have t37:=L.t37;have a37:=L.a37;have z37:=L.z37;have v37:=L.v37;have u37:=run_underlying L.t37;have t9:=L.t9;have a9:=L.a9;have z9:=L.z9;have v9:=L.v9;have u9:=run_underlying L.t9;have t4:=L.t4;have a4:=L.a4;have z4:=L.z4;have v4:=L.v4;have u4:=run_underlying L.t4;have t164:=L.t164;have a164:=L.a164;have z164:=L.z164;have v164:=L.v164;have u164:=run_underlying L.t164;have e240:∀args w,(callFunc (V.f 240) args).run P w=.ok (.enter (V.f 240) args) w:=enters_of L.f240 (by kernel_rfl) rfl
 go_enter L.f167,Body.n167_ntmps V
 go_wp2_with (go_at_fn (V.f 240);refine(CQ {L with} X.toX72 B b bs _ h).mono ?_)
 rintro e w1 ⟨rfl,h1,K6⟩;obtain⟨hB,v,tv,iN,aU⟩:=h1;have CR:=Any.hidJ K6;clear K6;have s1:=Any.hidJ (show w1.heap.size=w.heap.size by rcases CR.out with rfl |rfl <;>simp[World.setCell]);have c0:w1.cell? ⟨b,0,none⟩=some (.pointer (some ⟨b,0,none⟩)):=by rw[Lib.cell_of_heap tv];rfl
 have c1:w1.cell? ⟨b,1,none⟩=some v:=by rw[Lib.cell_of_heap tv];rfl
 go_wp2_with (at_builtin;refine yx _ rfl _ _ (V.t 37) rfl B (V.t 5) i0 (.int .u8 0) L.t37 hi H8 Cz CA rfl _ _ _ rfl (iN.alloc _) ⟨w1.heap.size,0,none⟩ (.int .u8 c) rfl ?c1 rfl ?c3 ?c4 ?c5 ?_)
 case c1=>rw[Lib.cell_of_heap (heap_alloc_new w1 _)];rfl
 case c3=>unfold maxLen;omega
 case c4=>omega
 case c5=>have:=s1.out;simp;omega
 intro v' w2 wk wm vY
 have cx:b<w1.heap.size:=by
  rcases T8 b w1.heap.size with h'|h';exact h';simp[UJ h']at tv
 have qo:w2.heap[b]?=some (.cells #[.pointer (some ⟨b,0,none⟩),v] (V.t 72) (0,0)):=by
  rw[wm.block b (by simp;omega) (λe=>aU e.symm),Lib.alloc_old w1 _ b cx];exact tv
 have d0:w2.cell? ⟨b,0,none⟩=some (.pointer (some ⟨b,0,none⟩)):=by rw[Lib.cell_of_heap qo];rfl
 have d1:w2.cell? ⟨b,1,none⟩=some v:=by rw[Lib.cell_of_heap qo];rfl
 have f1:w2.frozen? ⟨b,1,none⟩=false:=Lib.frozen_of_heap qo 1
 obtain⟨g,cap,rfl⟩:∃g cap,v'=.slice (some ⟨g,0,none⟩) (bs.length+1) cap:=by
  rcases wk.2 with⟨_,h0⟩|⟨g,cap,cur,hv,_⟩;omega;exact⟨g,cap,hv⟩
 have yy:=Any.hidJ vY;clear vY
 go_wp2
 go_ret
 refine⟨rfl,?_,?_⟩;exact Lib.BuilderAt.put (T:=(V.t 72)) (e:=(V.t 5)) hB qo (bs':=bs++[.int .u8 c]) (by simpa using wk) X.neB5;exact Ha CR.out tv aU (.inr ⟨_,rfl⟩) wm (by simpa using yy.out)
end
def vZ(B b:Nat)(t:ByteArray)(w:World):Prop:=Lib.IsBuilder 103 5 B b (Lib.strCells t) w
theorem vZ.same{B b:Nat}{t:ByteArray}{w w':World}(h:vZ B b t w)(e:w'.heap[b]?=w.heap[b]?)(eg:∀v g,w.cell? ⟨b,1,none⟩=some v->v.ownBlock=some g->w'.heap[g]?=w.heap[g]?):vZ B b t w':=by
 have one:∀p,Lib.BuilderAt 103 5 B b p (Lib.strCells t) w->Lib.BuilderAt 103 5 B b p (Lib.strCells t) w':=by
  rintro p ⟨hB,v,hb,iN,aU⟩;have c1:w.cell? ⟨b,1,none⟩=some v:=by rw[Lib.cell_of_heap hb];rfl
  refine⟨hB,v,e.trans hb,⟨iN.1,?_⟩,aU⟩;rcases iN.2 with hn |⟨g,cap,cur,hv,Na,hg,hr⟩;exact .inl hn;exact .inr ⟨g,cap,cur,hv,Na,(eg v g c1 (by rw[hv];rfl)).trans hg,hr⟩
 exact h.imp (one _) (one _)
theorem vZ.cs{B b:Nat}{t:ByteArray}{w:World}(h:vZ B b t w):∃cs:Array Value,w.heap[b]?=some (.cells cs 103 (0,0))/\cs.size=2:=by
 rcases h with⟨_,v,hb,_⟩|⟨_,v,hb,_⟩;exact⟨_,hb,rfl⟩;exact⟨_,hb,rfl⟩
theorem vZ.lo{B b:Nat}{t:ByteArray}{w:World}(h:vZ B b t w):B<=b/\∀v g,w.cell? ⟨b,1,none⟩=some v->v.ownBlock=some g->B<=g/\g<w.heap.size:=by
 have one:∀p,Lib.BuilderAt 103 5 B b p (Lib.strCells t) w->B<=b/\∀v g,w.cell? ⟨b,1,none⟩=some v->v.ownBlock=some g->B<=g/\g<w.heap.size:=by
  rintro p ⟨hB,v,hb,iN,aU⟩;have c1:w.cell? ⟨b,1,none⟩=some v:=by rw[Lib.cell_of_heap hb];rfl
  refine⟨hB,λv' g e1 e2=>?_⟩;rw[c1]at e1;obtain rfl:=TF e1;exact iN.lt g e2
 exact h.elim (one _) (one _)
theorem vZ.lt{B b:Nat}{t:ByteArray}{w:World}(h:vZ B b t w):b<w.heap.size:=by
 obtain⟨cs,h1,_⟩:=h.cs;exact(TY.1 h1).1
theorem kD(s t:ByteArray):Lib.strCells (s++t)=Lib.strCells s++Lib.strCells t:=by simp[Lib.strCells]
theorem CS{B b:Nat}{t u:ByteArray}{w:World}(h:vZ B b t w)(hl:t.size+u.size<=140737488355328)(hB:B<=w.heap.size):
  Calls Tryz.prog 81 #[.pointer (some ⟨b,0,none⟩),.string u] w λe w'=>e=.returned (.tuple #[.int .i64 u.size,.nilIface])/\vZ B b (t++u) w'/\BF b w w':=by
 refine(H6 (show Lays.n166 Tryz.prog iM from{nA with}) tq B b (Lib.strCells t) u w h (by rw[Lib.strCells_length];exact hl) hB).mono ?_;rintro e w' ⟨h1,h2,h3⟩;exact⟨h1,.inr (by rw[kD];exact h2),h3⟩
theorem CT{B b:Nat}{t:ByteArray}{c:UInt8}{w:World}(h:vZ B b t w)(hl:t.size+1<=140737488355328)(hB:B<=w.heap.size):
  Calls Tryz.prog 182 #[.pointer (some ⟨b,0,none⟩),.int .u8 c.toNat] w λe w'=>e=.returned .nilIface/\vZ B b (t++⟨#[c]⟩) w'/\BF b w w':=by
 refine(H9 Fw tq B b (Lib.strCells t) c.toNat w h (by rw[Lib.strCells_length];exact hl) hB).mono ?_;rintro e w' ⟨h1,h2,h3⟩;exact⟨h1,.inr (by rw[kD];exact h2),h3⟩
theorem CU{B b:Nat}{t:ByteArray}{w:World}(h:vZ B b t w)(hB:B<=w.heap.size):
  Calls Tryz.prog 83 #[.pointer (some ⟨b,0,none⟩)] w λe w'=>e=.returned (.string t)/\Below B w w':=by
 refine(Any.Builder_String_any (show Lays.n169 Tryz.prog iM from{nA with}) tq B b t.data.toList w h hB).mono ?_;rintro e w' ⟨h1,h2⟩;exact⟨by rw[h1],h2⟩
theorem CV(bk o c:Nat)(xs:List ByteArray)(sep:ByteArray)(w:World)(uV:∀(j:Nat) x,xs[j]?=some x->w.cell? ⟨bk,o+j,none⟩=some (.string x))
  (tv:bk<w.heap.size) (hN:xs.length<=140737488355328) (oB:xs.length<=c) (hlen:(Lib.join (xs.map (·.data.toList)) sep.data.toList).length<=140737488355328):
  Calls Tryz.prog 82 #[.slice (some ⟨bk,o,none⟩) xs.length c,.string sep] w λe w'=>e=.returned (.string ⟨(Lib.join (xs.map (·.data.toList)) sep.data.toList).toArray⟩)/\Below w.heap.size w w':=
 Any.strings_Join nA tq bk o c xs sep w uV tv hN oB hlen
end Go.Pm
namespace Go.Pm
open Go.Proofs
variable[iD:Inhabited Prop]
def dC:aC:=⟨.l,0,2,[.agg [.any,.any]]⟩
structure GI(i:Nat)(w:World)(F:Nat->Prop)(Y:List (Nat×Nat))(B b:Nat)(t:ByteArray):Prop where
 bl:vZ B b t w
 hB:B<=w.heap.size
 fb:F b
 fg:∀v g,w.cell? ⟨b,1,none⟩=some v->v.ownBlock=some g->F g
 bt:Y[i]?=some (b,1)
structure GS(B:Nat)(w:World)(F:Nat->Prop)(h:aa)(Y:List (Nat×Nat))(w':World)(F':Nat->Prop)(h':aa)(Y':List (Nat×Nat)):Prop where
 size:w.heap.size<=w'.heap.size
 up:∀x,F x->F' x
 new:∀x,F' x->F x\/w.heap.size<=x
 aB:∀x,x<w.heap.size->(x<B\/¬F x)->¬Mb h Y x->w'.heap[x]?=w.heap[x]?
 shr:∀x,x<w.heap.size->Mb h' Y' x->Mb h Y x
 os:w'.os=w.os
 tape:w'.tape=w.tape
 output:w'.output=w.output
theorem GS.refl(B:Nat)(w:World)(F:Nat->Prop)(h:aa)(Y:List (Nat×Nat)):GS B w F h Y w F h Y:=⟨TI _,λ_ h=>h,λ_ h=>.inl h,λ_ _ _ _=>rfl,λ_ _ h=>h,rfl,rfl,rfl⟩
theorem GS.trans{B:Nat}{w w1 w2:World}{F F1 F2:Nat->Prop}{h h1 h2:aa}{Y Y1 Y2:List (Nat×Nat)}(a:GS B w F h Y w1 F1 h1 Y1)(b:GS B w1 F1 h1 Y1 w2 F2 h2 Y2):GS B w F h Y w2 F2 h2 Y2 where
 size:=T' a.size b.size
 up x hx:=b.up x (a.up x hx)
 new x hx:=by
  rcases b.new x hx with h |h;exact a.new x h;exact .inr (T' a.size h)
 aB x hx hF hM:=by
  have Oz:=λm=>hM (a.shr x hx m)
  have:x<B\/¬F1 x:=hF.imp id (λhn h=>by rcases a.new x h with h |h;exact hn h;omega);rw[b.aB x (T4 hx a.size) this Oz,a.aB x hx hF hM]
 shr x hx m:=a.shr x hx (b.shr x (T4 hx a.size) m)
 os:=b.os.trans a.os
 tape:=b.tape.trans a.tape
 output:=b.output.trans a.output
theorem GS.of{B:Nat}{w w':World}{F:Nat->Prop}{h h':aa}{Y Y':List (Nat×Nat)}(s:cP w h Y w' h' Y'):GS B w F h Y w' F h' Y':=⟨s.size,λ_ h=>h,λ_ h=>.inl h,λx hx _ hM=>s.aB x hx hM,s.shr,s.os,s.tape,s.output⟩
theorem GI.pG{i:Nat}{w w':World}{F:Nat->Prop}{h h':aa}{Y Y':List (Nat×Nat)}{B b:Nat}{t:ByteArray}(I:GI i w F Y B b t)(H:aG w F Y h)(s:cP w h Y w' h' Y')(g0:h[i]?=some dC):GI i w' F Y' B b t:=by
 have same:∀x,F x->w'.heap[x]?=w.heap[x]?:=λx hx=>s.aB x (H.fin x hx) (λ⟨id,o,bc,e1,e2,e3,e4⟩=>H.out id o bc e1 e2 (.inl e3) (e4▸hx))
 have hc:w'.cell? ⟨b,1,none⟩=w.cell? ⟨b,1,none⟩:=iE (same b I.fb);refine⟨I.bl.same (same b I.fb) (λv g e1 e2=>same g (I.fg v g e1 e2)),T' I.hB s.size,I.fb,λv g e1 e2=>I.fg v g (hc▸e1) e2,?_⟩;rw[(s.Bg i dC g0 (by simp[dC])).2];exact I.bt
def dE(i:Nat)(h:aa):Prop:=h[i]?=some dC/\∀j o,h[j]?=some o->j≠i->o.mu=.m\/o.mu=.f
theorem SR.gs{i N:Nat}{w w':World}{F F':Nat->Prop}{Y:List (Nat×Nat)}{s:St}{a:Act}{B b:Nat}{t:ByteArray}(R:SR N w F Y s a)(G:GS B w F s.h Y w' F' s.h Y)(hk:∀x,x<w.heap.size->¬F x->w'.heap[x]?=w.heap[x]?)
  (hf:∀x,F' x->x<w'.heap.size) (I:GI i w' F' Y B b t) (o:dE i s.h):SR N w' F' Y s a:=by
 have hA:∀x,x<w.heap.size->¬Av F s.h Y x->¬Av F' s.h Y x:=λx hx hn ha=>by
  rcases ha with h |h
  ·rcases G.new x h with h |h
   ·exact hn (.inl h)
   ·omega
  exact hn (.inr h)
 have hw:∀x,x<w.heap.size->¬Av F s.h Y x->w'.heap[x]?=w.heap[x]?:=λx hx hn=>hk x hx (λh=>hn (.inl h))
 have hv:∀(v:Value) (p:PV),ar w (Av F s.h Y) Y s.h v p->ar w' (Av F' s.h Y) Y s.h v p:=λv p r=>r.F9 (yl.refl s.h Y) hw hA
 refine⟨⟨R.hr.len,hf,λid o' bc e1 e2 e3=>?_,R.hr.eZ,λid o' bc e1 e2 e3 h=>?_,R.hr.di.mono hw hA⟩,λx=>hv _ _ (R.er x),R.df,R.sz⟩
 ·have r:=R.hr.obj id o' bc e1 e2 e3
  by_cases h0:id=i
  ·subst h0;rw[o.1]at e1;rw[I.bt]at e2;obtain rfl:=TF e1;obtain rfl:=TF e2;obtain⟨cs,k1,k2⟩:=I.bl.cs;refine .inl ⟨_,cs,k1,TI _,by show 1 * 2<=_;omega,by simp[dC],λi e he=>?_⟩
   match i,he with
   |0,he=>
    simp[dC]at he;subst he;refine⟨rfl,λj p hp=>?_⟩;have hj:=ae hp;have qd:j<2:=hj;refine⟨cs[j]'(by omega),?_,?_⟩;simp[dC]
    ·have:p=.any:=by
      match j,qd,hp with
      |0,_,hp=>simp[cells]at hp;exact hp.symm
      |1,_,hp=>simp[cells]at hp;exact hp.symm
     rw[this];exact .any _
   |i+1,he=>simp[dC]at he
  ·have Rz:=R.hr.out id o' bc e1 e2 (o.2 id o' e1 h0);exact gq.to (hk _ r.lt Rz) r (λv e p _ _ q=>hv v p q)
 ·rcases G.new _ h with h |h
  ·exact R.hr.out id o' bc e1 e2 e3 h
  ·have:=(R.hr.obj id o' bc e1 e2 (by rcases e3 with h |h <;>rw[h] <;>simp)).lt;omega
section
variable(C:bZ)(N B b i:Nat)
def cR(c:Code)(s:St)(t:ByteArray)(M:Ex->St->ByteArray->Prop):Prop:=
 ∀(Q:Exit->Act->World->Prop) (w:World) (F:Nat->Prop) (Y:List (Nat×Nat)) (a:Act),SR N w F Y s a->GI i w F Y B b t->
  (∀ex s' t' w' F' Y' a',M ex s' t'->SR N w' F' Y' s' a'->GI i w' F' Y' B b t'->GS B w F s.h Y w' F' s'.h Y'->Q (xi ex) a' w')->c.wp C.P Q a w
def jD(o:Oper)(s:St)(t:ByteArray)(p:PV)(t':ByteArray):Prop:=
 ∀(Q:Exit->Act->World->Prop) (w:World) (F:Nat->Prop) (Y:List (Nat×Nat)) (a:Act) (next:Act->World->Prop),SR N w F Y s a->GI i w F Y B b t->
  (∀v w' F',SR N w' F' Y s a->GI i w' F' Y B b t'->GS B w F s.h Y w' F' s.h Y->ar w' (Av F' s.h Y) Y s.h v p->next (a.put o.dst v) w')->o.wp C.P a w next Q
end
variable{C:bZ}{N B b i:Nat}
def tH(C:bZ)(N B b i:Nat)(c:Code)(M:Ex->St->ByteArray->Prop):Ex->St->ByteArray->Prop
 | .normal,s,t=>cR C N B b i c s t M
 |ex,s,t=>M ex s t
theorem cR.seq{c d:Code}{s:St}{t:ByteArray}{M:Ex->St->ByteArray->Prop}(h:cR C N B b i c s t (tH C N B b i d M)):cR C N B b i (.seq c d) s t M:=by
 intro Q w F Y a R I hQ
 refine wp_seq ?_;refine h _ w F Y a R I (λex s' t' w' F' Y' a' m R' I' G'=>?_)
 cases ex with
 |normal=>exact m Q w' F' Y' a' R' I' (λIM s2 t2 w2 F2 Y2 a2 m2 R2 I2 G2=>hQ IM s2 t2 w2 F2 Y2 a2 m2 R2 I2 (G'.trans G2))
 |exit id=>exact hQ _ s' t' w' F' Y' a' m R' I' G'
 |ret=>exact hQ _ s' t' w' F' Y' a' m R' I' G'
theorem cR.AG{x:Operand}{c d:Code}{s:St}{t:ByteArray}{M:Ex->St->ByteArray->Prop}(hx:ev s.V x=.bool true)(h:cR C N B b i c s t M):cR C N B b i (.cond x c d) s t M:=by
 intro Q w F Y a R I hQ
 have:=R.er.ev R.hr.di x;rw[hx]at this;exact wp_cond_true this.dN (h Q w F Y a R I hQ)
theorem cR.AH{x:Operand}{c d:Code}{s:St}{t:ByteArray}{M:Ex->St->ByteArray->Prop}(hx:ev s.V x=.bool false)(h:cR C N B b i d s t M):cR C N B b i (.cond x c d) s t M:=by
 intro Q w F Y a R I hQ
 have:=R.er.ev R.hr.di x;rw[hx]at this;exact wp_cond_false this.dN (h Q w F Y a R I hQ)
def kc(id:Nat)(M:Ex->St->ByteArray->Prop):Ex->St->ByteArray->Prop
 | .exit cz,s,t=>if cz=id then M .normal s t else M (.exit cz) s t
 |ex,s,t=>M ex s t
theorem cR.block{id:Nat}{c:Code}{s:St}{t:ByteArray}{M:Ex->St->ByteArray->Prop}(h:cR C N B b i c s t (kc id M)):cR C N B b i (.block id c) s t M:=by
 intro Q w F Y a R I hQ
 refine wp_block ?_;refine h _ w F Y a R I (λex s' t' w' F' Y' a' m R' I' G'=>?_)
 cases ex with
 |normal=>exact hQ _ s' t' w' F' Y' a' m R' I' G'
 |exit cz=>
  simp only[kc]at m;simp only[xi,Exit.inBlock]
  split at m
  ·rename_i bE;rw[if_pos bE];exact hQ _ s' t' w' F' Y' a' m R' I' G'
  ·rename_i bE;rw[if_neg bE];exact hQ _ s' t' w' F' Y' a' m R' I' G'
 |ret=>exact hQ _ s' t' w' F' Y' a' m R' I' G'
theorem cR.scope{c:Code}{s:St}{t:ByteArray}{M:Ex->St->ByteArray->Prop}(h:cR C N B b i c s t M):cR C N B b i (.scope c) s t M:=by
 intro Q w F Y a R I hQ
 refine wp_scope_straight (h _ w F Y a R I (λex s' t' w' F' Y' a' m R' I' G'=>?_))
 cases ex <;>exact hQ _ s' t' w' F' Y' a' m R' I' G'
theorem cR.exit{id:Nat}{s:St}{t:ByteArray}{M:Ex->St->ByteArray->Prop}(h:M (.exit id) s t):cR C N B b i (.exit id) s t M:=λQ w F Y a R I hQ=>wp_exit (hQ (.exit id) s t w F Y a h R I (GS.refl _ _ _ _ _))
theorem cR.ret{s:St}{t:ByteArray}{M:Ex->St->ByteArray->Prop}(h:M .ret s t):cR C N B b i .ret s t M:=λQ w F Y a R I hQ=>wp_ret (hQ .ret s t w F Y a h R I (GS.refl _ _ _ _ _))
theorem cR.skip{s:St}{t:ByteArray}{M:Ex->St->ByteArray->Prop}(h:M .normal s t):cR C N B b i .skip s t M:=λQ w F Y a R I hQ=>wp_skip (hQ .normal s t w F Y a h R I (GS.refl _ _ _ _ _))
theorem cR.label{l:Nat}{s:St}{t:ByteArray}{M:Ex->St->ByteArray->Prop}(h:M .normal s t):cR C N B b i (.label l) s t M:=λQ w F Y a R I hQ=>wp_label (hQ .normal s t w F Y a h R I (GS.refl _ _ _ _ _))
theorem cR.loop{c:Code}{s:St}{t:ByteArray}{M:Ex->St->ByteArray->Prop}(J:Nat->St->ByteArray->Prop)(k:Nat)(h0:J k s t)
  (step:∀k s t,J k s t->cR C N B b i c s t (λex s' t'=>(ex=.normal/\∃j,k=j+1/\J j s' t')\/(ex≠.normal/\M ex s' t'))):cR C N B b i (.loop c) s t M:=by
 intro Q w F Y a R I hQ
 have key:∀(k:Nat) (s:St) (t:ByteArray) (w:World) (F:Nat->Prop) (Y:List (Nat×Nat)) (a:Act),J k s t->SR N w F Y s a->GI i w F Y B b t->
   (∀ex s' t' w' F' Y' a',M ex s' t'->SR N w' F' Y' s' a'->GI i w' F' Y' B b t'->GS B w F s.h Y w' F' s'.h Y'->Q (xi ex) a' w')->Code.rounds C.P c Q (k+1) a w:=by
  intro k
  induction k with
  |zero=>
   intro s t w F Y a hJ R I hQ
   rw[rounds_succ];refine step 0 s t hJ _ w F Y a R I (λex s' t' w' F' Y' a' m R' I' G'=>?_);rcases m with⟨_,j,h,_⟩|⟨aU,m⟩;omega
   ·have:=hQ ex s' t' w' F' Y' a' m R' I' G'
    cases ex with
    |normal=>exact absurd rfl aU
    |exit id=>exact this
    |ret=>exact this
  |succ k ih=>
   intro s t w F Y a hJ R I hQ
   rw[rounds_succ];refine step (k+1) s t hJ _ w F Y a R I (λex s' t' w' F' Y' a' m R' I' G'=>?_);rcases m with⟨rfl,j,h,hj⟩|⟨aU,m⟩
   ·obtain rfl:k=j:=by omega
    exact ih s' t' w' F' Y' a' hj R' I' (λIM s2 t2 w2 F2 Y2 a2 m2 R2 I2 G2=>hQ IM s2 t2 w2 F2 Y2 a2 m2 R2 I2 (G'.trans G2))
   ·have:=hQ ex s' t' w' F' Y' a' m R' I' G'
    cases ex with
    |normal=>exact absurd rfl aU
    |exit id=>exact this
    |ret=>exact this
 exact wp_loop_rounds (k+1) (key k s t w F Y a h0 R I hQ)
section
variable(K:cj C)(hm:C.P.follows .mixedOrders=true)(bJ:∀n,ch C (cN C n))
theorem cR.ev(K:cj C)(hm:C.P.follows .mixedOrders=true)(bJ:∀n,ch C (cN C n)){c:Code}{s:St}{t:ByteArray}{M:Ex->St->ByteArray->Prop}(g0:s.h[i]?=some dC)(hc:codeOk N c=true)(e:Ev C c s (λex s'=>M ex s' t)):cR C N B b i c s t M:=by
 intro Q w F Y a R I hQ
 exact bG K hm bJ hc e R (λex s' a' w' Y' m R' S'=>hQ ex s' t w' F Y' a' m R' (I.pG R.hr S' g0) (GS.of S'))
theorem cR.spec(K:cj C)(bJ:∀n,ch C (cN C n)){ops:Array Oper}{id:Nat}{s:St}{t:ByteArray}{M:Ex->St->ByteArray->Prop}(pre:List Oper)(o:Oper)(post:List Oper){M1:St->Prop}(g0:s.h[i]?=some dC)(hd:ops.toList.all (dB N)=true)(ho:ops.toList=pre++o::post)(hg:o.guard=none)
  (e1:ag C ops pre s M1)
  (hs:∀s1,M1 s1->s1.h[i]?=some dC/\∃p t1,jD C N B b i o s1 t p t1/\ag C ops post ⟨bh s1.V o.dst p,s1.h⟩ (λs'=>M .normal s' t1)):cR C N B b i (.region id ops false) s t M:=by
 intro Q w F Y a R I hQ
 refine wp_region ?_;obtain⟨s1,m1,n0,F0⟩:=e1
 have eV:ops.size=pre.length+(post.length+1):=by
  have:=congrArg List.length ho;simpa using this
 have km:List.range ops.size=List.map (·+0) (List.range pre.length)++(pre.length::(List.map (·+(pre.length+1)) (List.range post.length)++[])):=by
  rw[eV,List.range_add];simp only[UK,List.map_id',Uc]
  congr 1
  rw[U0];simp only[TT,UK,VN]
  congr 1
  apply UW
  intro x _
  simp;omega
 rw[km];have Dn:dB N o=true:=TH.1 hd o (by rw[ho];simp)
 have hk:ops[pre.length]?=some o:=by
  rw[<-T1,ho,TQ (TI _)];simp
 refine hC K (bJ n0) hd _ (o::post) pre 0 (by simpa using ho) R (F0 n0 (TI _)) (λa1 w1 Y1 R1 S1=>?_);obtain⟨g1,p,t1,so,e2⟩:=hs s1 m1;obtain⟨s3,m3,n1,zc⟩:=e2;have I1:=I.pG R.hr S1 g0;simp only[wpOps,hk];have hw:Region.wanted o (yielded ops a1.tmps)=true:=by simp[Region.wanted,hg]
 rw[if_pos hw]
 left
 refine so _ w1 F Y1 a1 _ R1 I1 (λv w2 F2 R2 I2 G2 hv=>?_);have wa:=dK Dn R1.sz;have RA:SR N w2 F2 Y1 ⟨bh s1.V o.dst p,s1.h⟩ (a1.put o.dst v):=⟨R2.hr,R2.er.put wa hv,by rw[bN];exact R2.df,by rw[cq];exact R2.sz⟩;refine hC K (bJ n1) hd [] [] post (pre.length+1) ?_ RA (zc n1 (TI _)) (λa3 w3 Y3 R3 S3=>?_)
 ·have:ops.toList.drop (pre.length+1)=post:=by
   rw[ho,List.drop_append];simp
  simpa using this
 ·simp only[wpOps];exact hQ .normal s3 t1 w3 F2 Y3 a3 m3 R3 (I2.pG R2.hr S3 g1) (((GS.of S1).trans G2).trans (GS.of S3))
theorem zf(l:List Oper)(o:Oper):before ⟨l++[o]⟩=before ⟨l⟩++[(yn o).foldl (λs e=>s |||2^e.on |||(before ⟨l⟩).getD e.on 0) 0]:=by simp[before,List.foldl_append]
theorem rA(l:List Oper):(before ⟨l⟩).length=l.length:=by
 have key:∀(l:List Oper) (acc:List Nat),(l.foldl (λacc o=>acc++[(yn o).foldl (λs e=>s |||2^e.on |||acc.getD e.on 0) 0]) acc).length=acc.length+l.length:=by
  intro l
  induction l with
  |nil=>intro acc;simp
  |cons o l ih=>intro acc;simp only[VL];rw[ih];simp;omega
 have:=key l [];simpa[before]using this
theorem cR.LM(K:cj C)(hm:C.P.follows .mixedOrders=true)(bJ:∀n,ch C (cN C n)){id:Nat}{s:St}{t:ByteArray}{M:Ex->St->ByteArray->Prop}(pre:List Oper)(o:Oper){M1:St->Prop}(g0:s.h[i]?=some dC)
  (hd:(pre++[o]).all (dB N)=true) (hk:fT ⟨pre⟩=true) (Ke:fT ⟨pre++[o]⟩=true) (OA:(pre++[o]).all (λo=>o.guard.isNone)=true) (DK:(List.range pre.length).all (λj=>((before ⟨pre++[o]⟩).getD pre.length 0).testBit j)=true) (G8:kY ⟨pre⟩=false)
  (e1:Ev C (.region id ⟨pre⟩ true) s (λex s'=>ex=.normal/\M1 s'))
  (hs:∀s1,M1 s1->∃p t1,jD C N B b i o s1 t p t1/\M .normal ⟨bh s1.V o.dst p,s1.h⟩ t1):cR C N B b i (.region id ⟨pre++[o]⟩ true) s t M:=by
 intro Q w F Y a R I hQ
 obtain⟨ex,s1,⟨rfl,m1⟩,n0,F0⟩:=e1;have e:=F0 n0 n0 (TI _) (TI _);simp only[aV,if_true,G8,TR,if_false]at e
 cases hy:cB C (cN C n0) ⟨pre⟩ (before ⟨pre⟩) 0 pre ⟨s,s.h.length,[]⟩with
 |none=>rw[hy]at e;simp at e
 |some y=>
 rw[hy]at e;simp only[TO,Ue,Vb,true_and]at e;obtain⟨tr,t1,t2,t3⟩:=iX pre 0 _ _ hy;have L:Lex C (cN C n0) ⟨pre⟩ tr:=⟨hk,λk o ho=>by simpa using t2 k o (by simpa using ho),by rw[t1];exact TI _,by rw[t1];exact⟨rfl,rfl⟩⟩;have Kf:(tr pre.length).s=s1:=by rw[<-e];congr 1;simpa using t3
 have ez:(⟨pre++[o]⟩:Array Oper).size=pre.length+1:=by simp
 have LN:∀i j,i<pre.length->(pI ⟨pre++[o]⟩ i j↔pI ⟨pre⟩ i j):=λi j hi=>by
  unfold pI;rw[zf,T7,TG (by rw[rA];exact hi),<-T7]
 have dL:∀i,i<pre.length->(⟨pre++[o]⟩:Array Oper)[i]?=(⟨pre⟩:Array Oper)[i]?:=λi hi=>by simp[TG hi]
 have ud:(⟨pre++[o]⟩:Array Oper)[pre.length]?=some o:=by simp
 have CG:∀i o',(⟨pre++[o]⟩:Array Oper)[i]?=some o'->∀y,Region.wanted o' y=true:=λi o' ho y=>by
  have:=TH.1 OA o' (by simpa using UL ho)
  cases hg:o'.guard with
  |none=>simp[Region.wanted,hg]
  |some g=>rw[hg]at this;cases this
 have Ga:∀j,j<pre.length->pI ⟨pre++[o]⟩ pre.length j:=λj hj=>TH.1 DK j (VU.2 hj)
 have Dn:dB N o=true:=TH.1 hd o (by simp);refine wp_region_any hm (oE (C:=C) Ke (λE a' w'=>(E pre.length=false/\ry ⟨pre⟩ tr N F w s.h Y E a' w')\/((∀j,j<pre.length+1->E j=true)/\Q .normal a' w')) ?_ ?_ (⟨pre++[o]⟩:Array Oper).size (Array.replicate (⟨pre++[o]⟩:Array Oper).size false) a _ (by simp) (λi o ho hl=>by rw[getD_none]at hl;cases hl) ?_ ?_)
 ·intro E E' a' w' i o' hI R' next hK
  have hi:i<pre.length+1:=by rw[<-ez];exact(TY.1 R'.at_).1
  rcases hI with⟨hE,D⟩|⟨hE,_⟩
  ·by_cases FN:i<pre.length
   ·have R2:v7 ⟨pre⟩ E E' i o':=⟨by rw[<-dL i FN];exact R'.at_,R'.out,λj hj=>R'.Fc j ((LN i j FN).2 hj),λi2 j RB hj=>by
     rcases T8 i2 pre.length with h |h;exact R'.cl i2 j RB ((LN i2 j h).2 hj)
     ·unfold pI at hj;rw[T7,TZ (by rw[rA];exact h)]at hj;simp only[Option.getD_none,Nat.zero_testBit,TR]at hj,R'.kS⟩
    have RC:E' pre.length=false:=by
     cases h:E' pre.length with
     |false=>rfl
     |true=>
          rcases(R'.kS _).1 h with h |h;rw[hE]at h;cases h;omega
    have st:=ry.step (Q:=Q) K (bJ n0) L D R2 (TH.1 hd o' (by simpa using UL R'.at_)) (next:=next) (λa2 w2 D2=>hK a2 w2 (.inl ⟨RC,D2⟩));unfold wpOp at st ⊢;rw[<-dL i FN,R'.at_]at st;rw[R'.at_];simp only[CG i o' R'.at_,if_true]at st ⊢;exact st
   ·obtain rfl:i=pre.length:=by omega
    obtain⟨Y1,R1,S1⟩:=D.done L (λj hj=>R'.Fc j (Ga j hj));have FI:o=o':=TF (ud.symm.trans R'.at_);subst FI;rw[show(⟨pre⟩:Array Oper).size=pre.length from rfl,Kf]at R1 S1;have I1:=I.pG R.hr S1 g0;obtain⟨p,u,so,hM⟩:=hs s1 m1;unfold wpOp;rw[ud];simp only[CG _ o ud,if_true]
    left
    refine so _ w' F Y1 a' _ R1 I1 (λv w2 F2 R2 I2 G2 hv=>hK _ _ (.inr ⟨λj hj=>(R'.kS j).2 ?_,?_⟩))
    ·by_cases qd:j<pre.length
     ·exact .inl (R'.Fc j (Ga j qd))
     ·exact .inr (by omega)
    ·have wa:=dK Dn R1.sz;exact hQ .normal _ u w2 F2 Y1 (a'.put o.dst v) hM ⟨R2.hr,R2.er.put wa hv,by rw[bN];exact R2.df,by rw[cq];exact R2.sz⟩ I2 ((GS.of S1).trans G2)
  ·have:=hE i hi;rw[R'.out]at this;cases this
 ·intro E a' w' hI cZ
  rcases hI with⟨hE,_⟩|⟨_,h⟩
  ·have:=cZ pre.length (by simp);rw[hE]at this;cases this
  exact h
 refine T' (VH) (by simp)
 ·refine .inl ⟨getD_none _ _,?_⟩;have hE:∀j,(Array.replicate (⟨pre++[o]⟩:Array Oper).size false).getD j false=false:=λj=>getD_none _ j
  have hK:Kh tr (λj=>(Array.replicate (⟨pre++[o]⟩:Array Oper).size false).getD j false) 0=s.h:=by
   unfold Kh;rw[t1];exact jT (by simp) (λj hj=>by cases hj)
  have G:cc w {w with drawn:=w.drawn+1}:=cc.drew w;refine⟨0,s.V,Y,⟨UG _,λj _ h=>(by rw[hE]at h;cases h),λj _ _ h=>by omega,by rw[t1];exact TI _,by rw[hK];exact R.hr.uY G,by rw[hK];exact R.er.mono (G.pG s.h Y),?_,by rw[hK];exact G.pG s.h Y,R.df,R.sz⟩⟩
  intro t k' fv hw
  rw[L.iP (t:=t) (i:=0) k' (UG _) fv (λj o h1 h2 h3 h4=>by
   have:=(hw j o h3 h4).2 h2;rw[hE]at this;cases this),t1]
end
theorem dE.gh{h:aa}(o:dE i h):h[i]?=some dC:=o.1
theorem dE.one:dE 0 [dC]:=⟨rfl,λj o e hj=>by
 match j,e with
 |0,_=>exact absurd rfl hj
 |j+1,e=>simp at e⟩
theorem DL{w w':World}{F F':Nat->Prop}{Y:List (Nat×Nat)}{s:St}{a:Act}{t t':ByteArray}(R:SR N w F Y s a)(I:GI i w F Y B b t)(o:dE i s.h)(I':GI 0 w' F' [(b,1)] B b t')(G:GS B w F [dC] [(b,1)] w' F' [dC] [(b,1)])(hf:∀x,F' x->x<w'.heap.size):
  SR N w' F' Y s a/\GI i w' F' Y B b t'/\GS B w F s.h Y w' F' s.h Y:=by
 have nm:∀x,¬Mb [dC] [(b,1)] x:=by
  rintro x ⟨id,o,bc,e1,_,e3,_⟩
  match id,e1 with
  |0,e1=>simp[dC]at e1;subst e1;cases e3
  |id+1,e1=>simp at e1
 have I2:GI i w' F' Y B b t':=⟨I'.bl,I'.hB,I'.fb,I'.fg,I.bt⟩;have G2:GS B w F s.h Y w' F' s.h Y:=⟨G.size,G.up,G.new,λx hx hF _=>G.aB x hx hF (nm x),λ_ _ h=>h,G.os,G.tape,G.output⟩;exact⟨R.gs G2 (λx hx hF=>G.aB x hx (.inr hF) (nm x)) hf I2 o,I2,G2⟩
theorem Hu{w w':World}{F:Nat->Prop}{Y:List (Nat×Nat)}{t t':ByteArray}(I:GI i w F Y B b t)(hf:∀x,F x->x<w.heap.size)(h':vZ B b t' w')(bf:BF b w w'):
  ∃F',GI 0 w' F' [(b,1)] B b t'/\GS B w F [dC] [(b,1)] w' F' [dC] [(b,1)]/\∀x,F' x->x<w'.heap.size:=by
 obtain⟨lo,lg⟩:=I.bl.lo;obtain⟨_,RE⟩:=h'.lo;refine⟨λx=>F x\/∃v,w'.cell? ⟨b,1,none⟩=some v/\v.ownBlock=some x,⟨h',T' I.hB bf.size,.inl I.fb,λv g e1 e2=>.inr ⟨v,e1,e2⟩,rfl⟩,⟨bf.size,λx h=>.inl h,λx h=>?_,λx hx hF _=>?_,λ_ _ h=>h,bf.os,bf.tape,bf.output⟩,λx h=>?_⟩
 ·rcases h with h |⟨v,e1,e2⟩
  ·exact .inl h
  ·rcases bf.own v x e1 e2 with h |⟨u,f1,f2⟩
   ·exact .inr h
   ·exact .inl (I.fg u x f1 f2)
 ·refine bf.aB x hx (λh=>?_) (λv e1 e2=>?_)
  ·subst h;rcases hF with h |h;omega;exact h I.fb
  ·rcases hF with h |h
   ·have:=(lg v x e1 e2).1;omega
   ·exact h (I.fg v x e1 e2)
 ·rcases h with h |⟨v,e1,e2⟩
  ·exact T4 (hf x h) bf.size
  ·exact(RE v x e1 e2).2
theorem vp{w:World}{F:Nat->Prop}{Y:List (Nat×Nat)}{s:St}{a:Act}{t:ByteArray}(R:SR N w F Y s a)(I:GI i w F Y B b t)(o:dE i s.h){x:Operand}(hx:ev s.V x=.ptr i 0 0 0):a.eval x=.pointer (some ⟨b,0,none⟩):=by
 have h:=R.er.ev R.hr.di x;rw[hx]at h;have:=(h.qu).2.2 dC (b,1) o.1 I.bt (by simp[dC]) rfl;simpa using this
theorem oW{f:FuncId}{args:Array Operand}{tys:Array TypeId}{d:Option Nat}{ty:TypeId}{pos:String}{af:Array Edge}(LO:∀args w,(callFunc f args).run C.P w=.ok (.enter f args) w){s:St}{t t':ByteArray}{p:PV}
  (hc:∀w F Y a,SR N w F Y s a->GI i w F Y B b t->Calls C.P f (args.map a.eval) w λe w'=>∃v F',e=.returned v/\SR N w' F' Y s a/\GI i w' F' Y B b t'/\GS B w F s.h Y w' F' s.h Y/\ar w' (Av F' s.h Y) Y s.h v p):
  jD C N B b i ⟨d,.call ⟨.value (.func f),args,tys⟩,ty,pos,af,none⟩ s t p t':=by
 intro Q w F Y a next R I hK
 unfold Oper.wp
 have bJ:(execOp a.eval ⟨d,.call ⟨.value (.func f),args,tys⟩,ty,pos,af,none⟩).run C.P w=.ok (.enter f (args.map a.eval)) w:=by
  simp only[execOp,resolve,Act.eval,Deferred.ofValue,Sem.run_bind,Sem.run_pure,Result.andThen_ok,invoke];simp[LO]
 rw[bJ];refine(hc w F Y a R I).mono ?_;rintro e w' ⟨v,F',rfl,h1,h2,h3,h4⟩;exact hK v w' F' h1 h2 h3 h4
theorem Hv(hP:C.P=Tryz.prog){x0 x1:Operand}{tys:Array TypeId}{d:Option Nat}{ty:TypeId}{pos:String}{af:Array Edge}{s:St}{t u:ByteArray}(h0:ev s.V x0=.ptr i 0 0 0)(h1:ev s.V x1=.str u)(o:dE i s.h)(hl:t.size+u.size<=140737488355328):
  jD C N B b i ⟨d,.call ⟨.value (.func 81),#[x0,x1],tys⟩,ty,pos,af,none⟩ s t .any (t++u):=by
 refine oW (λargs w=>by rw[hP];exact enters_of Tryz.func81 (by kernel_rfl) rfl args w) (λw F Y a R I=>?_);have e0:=vp R I o h0;have e1:=R.er.ev R.hr.di x1;rw[h1]at e1;have e1:=e1.gg;have: #[x0,x1].map a.eval= #[.pointer (some ⟨b,0,none⟩),.string u]:=by simp[e0,e1]
 rw[this,hP];refine(CS I.bl hl I.hB).mono ?_;rintro e w' ⟨rfl,h2,h3⟩;obtain⟨F',I',G',CC⟩:=Hu I R.hr.fin h2 h3;obtain⟨q1,q2,q3⟩:=DL R I o I' G' CC;exact⟨_,F',rfl,q1,q2,q3,.any _⟩
theorem LV(hP:C.P=Tryz.prog){x0 x1:Operand}{tys:Array TypeId}{d:Option Nat}{ty:TypeId}{pos:String}{af:Array Edge}{s:St}{t:ByteArray}{c:UInt8}(h0:ev s.V x0=.ptr i 0 0 0)(h1:ev s.V x1=.int .u8 c.toNat)(o:dE i s.h)(hl:t.size+1<=140737488355328):
  jD C N B b i ⟨d,.call ⟨.value (.func 182),#[x0,x1],tys⟩,ty,pos,af,none⟩ s t .any (t++⟨#[c]⟩):=by
 refine oW (λargs w=>by rw[hP];exact enters_of Tryz.func182 (by kernel_rfl) rfl args w) (λw F Y a R I=>?_);have e0:=vp R I o h0;have e1:=R.er.ev R.hr.di x1;rw[h1]at e1;have e1:=e1.cr;have: #[x0,x1].map a.eval= #[.pointer (some ⟨b,0,none⟩),.int .u8 c.toNat]:=by simp[e0,e1]
 rw[this,hP];refine(CT I.bl hl I.hB).mono ?_;rintro e w' ⟨rfl,h2,h3⟩;obtain⟨F',I',G',CC⟩:=Hu I R.hr.fin h2 h3;obtain⟨q1,q2,q3⟩:=DL R I o I' G' CC;exact⟨_,F',rfl,q1,q2,q3,.any _⟩
section
variable(T:kM C.P)
theorem Ev.x{c:Code}{L:List (Nat×PV)}{V:Nat->PV}{h:aa}{Q:Ex->St->Prop}(k:Rn (gu T 10000 (.c c) (.top Q) L V h)):Ev C c ⟨al L V,h⟩ Q:=cF T k.out
theorem cR.x(K:cj C)(hm:C.P.follows .mixedOrders=true)(bJ:∀n,ch C (cN C n)){c:Code}{L:List (Nat×PV)}{V:Nat->PV}{h:aa}{t:ByteArray}{M:Ex->St->ByteArray->Prop}(g0:h[i]?=some dC)(k:Rn (gu T 10000 (.c c) (.top (λex s'=>M ex s' t)) L V h))(hc:codeOk N c=true:=by rfl):cR C N B b i c ⟨al L V,h⟩ t M:=
 cR.ev K hm bJ g0 hc (Ev.x T k)
inductive OE(i:Nat)(L:List (Nat×PV))(h:aa)(x0 x1:Operand)(t:ByteArray)(R:ByteArray->Prop):Prop
 |ws {u:ByteArray} (k:Rn (R (t++u))) (o:dE i h:=by first |assumption |exact dE.one) (e0:dn L x0=some (.ptr i 0 0 0):=by rfl) (e1:dn L x1=some (.str u):=by rfl) (hl:t.size+u.size<=140737488355328:=by first |assumption |(simp only[Uy]at *;omega))
inductive P8(i:Nat)(L:List (Nat×PV))(h:aa)(x0 x1:Operand)(t:ByteArray)(R:ByteArray->Prop):Prop
 |wb (c:UInt8) (k:Rn (R (t++⟨#[c]⟩))) (o:dE i h:=by first |assumption |exact dE.one) (e0:dn L x0=some (.ptr i 0 0 0):=by rfl) (e1:dn L x1=some (.int .u8 c.toNat):=by rfl) (hl:t.size+1<=140737488355328:=by first |assumption |(simp only[Uy]at *;omega))
theorem cR.ws(K:cj C)(bJ:∀n,ch C (cN C n))(hP:C.P=Tryz.prog)(pre:List Oper){x0 x1:Operand}{tys:Array TypeId}{d:Nat}{ty:TypeId}{pos:String}{af:Array Edge}{ops:Array Oper}{id:Nat}{L:List (Nat×PV)}{V:Nat->PV}{h:aa}{t:ByteArray}{R:List (Nat×PV)->aa->ByteArray->Prop}
  (k:Rn (qh T ops.toList pre L h λL' h'=>OE i L' h' x0 x1 t λt'=>R ((d,.any)::L') h' t'))
  (ho:ops.toList=pre++[⟨some d,.call ⟨.value (.func 81),#[x0,x1],tys⟩,ty,pos,af,none⟩]:=by rfl) (hd:ops.toList.all (dB N)=true:=by rfl) (g0:h[i]?=some dC:=by first |rfl |assumption |exact dE.gh (by assumption)):
  cR C N B b i (.region id ops false) ⟨al L V,h⟩ t (λex s t=>∃L' h',ex=.normal/\s=⟨al L' V,h'⟩/\R L' h' t):=by
 refine cR.spec K bJ pre _ [] g0 hd ho rfl (M1:=λs1=>∃L' h',s1=⟨al L' V,h'⟩/\OE i L' h' x0 x1 t λt'=>R ((d,.any)::L') h' t') (eG T k.out λL' h' q=>⟨L',h',rfl,q⟩) ?_;rintro s1 ⟨L',h',rfl,x⟩
 cases x with |ws k o e0 e1 hl=>
 exact⟨o.1,.any,_,Hv hP (ah e0 V) (ah e1 V) o hl,ag.nil ⟨_,h',rfl,by show(⟨bh (al L' V) (some d) .any,h'⟩:St)=_;rw[bd],k.out⟩⟩
theorem cR.wb(K:cj C)(bJ:∀n,ch C (cN C n))(hP:C.P=Tryz.prog)(pre:List Oper){x0 x1:Operand}{tys:Array TypeId}{d:Nat}{ty:TypeId}{pos:String}{af:Array Edge}{ops:Array Oper}{id:Nat}{L:List (Nat×PV)}{V:Nat->PV}{h:aa}{t:ByteArray}{R:List (Nat×PV)->aa->ByteArray->Prop}
  (k:Rn (qh T ops.toList pre L h λL' h'=>P8 i L' h' x0 x1 t λt'=>R ((d,.any)::L') h' t'))
  (ho:ops.toList=pre++[⟨some d,.call ⟨.value (.func 182),#[x0,x1],tys⟩,ty,pos,af,none⟩]:=by rfl) (hd:ops.toList.all (dB N)=true:=by rfl) (g0:h[i]?=some dC:=by first |rfl |assumption |exact dE.gh (by assumption)):
  cR C N B b i (.region id ops false) ⟨al L V,h⟩ t (λex s t=>∃L' h',ex=.normal/\s=⟨al L' V,h'⟩/\R L' h' t):=by
 refine cR.spec K bJ pre _ [] g0 hd ho rfl (M1:=λs1=>∃L' h',s1=⟨al L' V,h'⟩/\P8 i L' h' x0 x1 t λt'=>R ((d,.any)::L') h' t') (eG T k.out λL' h' q=>⟨L',h',rfl,q⟩) ?_;rintro s1 ⟨L',h',rfl,x⟩
 cases x with |wb c k o e0 e1 hl=>
 exact⟨o.1,.any,_,LV hP (ah e0 V) (ah e1 V) o hl,ag.nil ⟨_,h',rfl,by show(⟨bh (al L' V) (some d) .any,h'⟩:St)=_;rw[bd],k.out⟩⟩
theorem cR.RF(K:cj C)(hm:C.P.follows .mixedOrders=true)(bJ:∀n,ch C (cN C n))(hP:C.P=Tryz.prog)(pre:List Oper){x0 x1:Operand}{tys:Array TypeId}{d:Nat}{ty:TypeId}{pos:String}{af:Array Edge}{ops:Array Oper}{id:Nat}{L:List (Nat×PV)}{V:Nat->PV}{h:aa}{t:ByteArray}{R:List (Nat×PV)->aa->ByteArray->Prop}
  (k:Rn (gu T 10000 (.c (.region id ⟨pre⟩ true)) (.top λex s1=>ex=.normal/\∃L' h',s1=⟨al L' V,h'⟩/\OE i L' h' x0 x1 t λt'=>R ((d,.any)::L') h' t') L V h))
  (ho:ops=⟨pre++[⟨some d,.call ⟨.value (.func 81),#[x0,x1],tys⟩,ty,pos,af,none⟩]⟩:=by rfl)
  (hd:ops.toList.all (dB N)=true:=by rfl) (hk:fT ⟨pre⟩=true:=by rfl) (Ke:fT ops=true:=by rfl) (OA:ops.toList.all (λo=>o.guard.isNone)=true:=by rfl)
  (DK:(List.range pre.length).all (λj=>((before ops).getD pre.length 0).testBit j)=true:=by rfl) (G8:kY ⟨pre⟩=false:=by rfl) (g0:h[i]?=some dC:=by first |rfl |assumption |exact dE.gh (by assumption)):
  cR C N B b i (.region id ops true) ⟨al L V,h⟩ t (λex s t=>∃L' h',ex=.normal/\s=⟨al L' V,h'⟩/\R L' h' t):=by
 subst ho;refine cR.LM K hm bJ pre _ g0 hd hk Ke OA DK G8 (Ev.x T k) ?_;rintro s1 ⟨L',h',rfl,x⟩
 cases x with |ws k o e0 e1 hl=>
 exact⟨.any,_,Hv hP (ah e0 V) (ah e1 V) o hl,_,h',rfl,by show(⟨bh (al L' V) (some d) .any,h'⟩:St)=_;rw[bd],k.out⟩
end
end Go.Pm
namespace Go.Pm
open Go.Proofs
variable[iD:Inhabited Prop]
variable{C:bZ}(T:kM C.P)(N B b i:Nat)
inductive KG where
 |top (M:Ex->St->ByteArray->Prop)
 |seq (b:Code) (k:KG)
 |block (id:Nat) (k:KG)
 |loop (I:Al->aa->ByteArray->Prop) (k:KG)
inductive LS(I:Al->aa->ByteArray->Prop)(L:Al)(h:aa)(t:ByteArray):Prop
 |nx {L':Al} (a:I L' h t) (hk:BA L L':=by repeat(first |exact trivial |refine⟨?_,?_⟩|rfl |exact kI (by first |(simp;done)|(simp;omega)|omega)))
def Jg(I:Al->aa->ByteArray->Prop)(s:St)(t:ByteArray):Prop:=∃L V,s.V=al L V/\I L s.h t
theorem LS.out{I:Al->aa->ByteArray->Prop}{L:Al}{h:aa}{t:ByteArray}(x:LS I L h t)(V:Nat->PV):Jg I ⟨al L V,h⟩ t:=by
 cases x with |nx a hk=>exact⟨_,al L V,congrArg St.V (St.aB (h:=h) hk),a⟩
def LU(J:St->ByteArray->Prop)(M:Ex->St->ByteArray->Prop):Ex->St->ByteArray->Prop
 | .normal,s,t=>J s t
 |ex,s,t=>M ex s t
def KG.den:KG->Ex->St->ByteArray->Prop
 | .top M=>M
 | .seq c k=>tH C N B b i c (KG.den k)
 | .block id k=>kc id (KG.den k)
 | .loop I k=>LU (Jg I) (KG.den k)
def KG.ok:KG->Bool
 | .top _=>true
 | .seq c k=>codeOk N c&&KG.ok k
 | .block _ k=>KG.ok k
 | .loop _ k=>KG.ok k
inductive Ns(p:Prop):Prop
 |sp (k:p)
inductive P7(h:aa)(p:Prop):Prop
 |mk (k:Rn p) (g:h[i]?=some dC:=by first |rfl |assumption |exact dE.gh (by assumption))
def OD(o:Oper):Bool:=match o.op with
 | .call ⟨.value (.func f),_,_⟩=>Nat.beq f 81 ||Nat.beq f 182 ||Nat.beq f 135
 |_=>false
def isSp(ops:Array Oper):Bool:=match ops.toList.getLast? with |some o=>OD o |none=>false
def hS(n:Nat):Tk->KG->Al->(Nat->PV)->aa->ByteArray->Prop:=
 Nat.rec (motive:=λ_=>Tk->KG->Al->(Nat->PV)->aa->ByteArray->Prop) (λ_ _ _ _ _ _=>False)
  (λn ih tk k L V h t=>match tk with
   | .c c=>match c with
    | .skip=>ih (.e .normal) k L V h t
    | .label _=>ih (.e .normal) k L V h t
    | .region id ops d=>match isSp ops with
     |true=>Ns (cR C N B b i (.region id ops d) ⟨al L V,h⟩ t λex s t=>∃L' h',ex=.normal/\s=⟨al L' V,h'⟩/\ih (.e .normal) k L' V h' t)
     |false=>P7 i h (match d with
      |false=>qh T ops.toList ops.toList L h λL' h'=>ih (.e .normal) k L' V h' t
      |true=>Ir T ops L h λL' h'=>ih (.e .normal) k L' V h' t)
    | .seq a b=>ih (.c a) (.seq b k) L V h t
    | .cond c a b=>iy L c λv=>match v with
     | .bool true=>ih (.c a) k L V h t
     | .bool false=>ih (.c b) k L V h t
     |_=>False
    | .block id c=>ih (.c c) (.block id k) L V h t
    | .loop c=>Ns (cR C N B b i (.loop c) ⟨al L V,h⟩ t (KG.den (C:=C) N B b i k))
    | .scope c=>ih (.c c) k L V h t
    | .exit id=>ih (.e (.exit id)) k L V h t
    | .ret=>ih (.e .ret) k L V h t
    |_=>False
   | .e ex=>match k with
    | .top M=>M ex ⟨al L V,h⟩ t
    | .seq b k=>match ex with
     | .normal=>ih (.c b) k L V h t
     |ex=>ih (.e ex) k L V h t
    | .block id k=>match ex with
     | .exit cz=>match Nat.beq cz id with
      |true=>ih (.e .normal) k L V h t
      |false=>ih (.e (.exit cz)) k L V h t
     |ex=>ih (.e ex) k L V h t
    | .loop I k=>match ex with
     | .normal=>LS I L h t
     |ex=>ih (.e ex) k L V h t) n
theorem Jh{n:Nat}{c:Code}{k:KG}{L:Al}{V:Nat->PV}{h:aa}{t:ByteArray}:hS T N B b i (n+1) (.c c) k L V h t=(match c with
    | .skip=>hS T N B b i n (.e .normal) k L V h t
    | .label _=>hS T N B b i n (.e .normal) k L V h t
    | .region id ops d=>match isSp ops with
     |true=>Ns (cR C N B b i (.region id ops d) ⟨al L V,h⟩ t λex s t=>∃L' h',ex=.normal/\s=⟨al L' V,h'⟩/\hS T N B b i n (.e .normal) k L' V h' t)
     |false=>P7 i h (match d with
      |false=>qh T ops.toList ops.toList L h λL' h'=>hS T N B b i n (.e .normal) k L' V h' t
      |true=>Ir T ops L h λL' h'=>hS T N B b i n (.e .normal) k L' V h' t)
    | .seq a b'=>hS T N B b i n (.c a) (.seq b' k) L V h t
    | .cond c a b'=>iy L c λv=>match v with
     | .bool true=>hS T N B b i n (.c a) k L V h t
     | .bool false=>hS T N B b i n (.c b') k L V h t
     |_=>False
    | .block id c=>hS T N B b i n (.c c) (.block id k) L V h t
    | .loop c=>Ns (cR C N B b i (.loop c) ⟨al L V,h⟩ t (KG.den (C:=C) N B b i k))
    | .scope c=>hS T N B b i n (.c c) k L V h t
    | .exit id=>hS T N B b i n (.e (.exit id)) k L V h t
    | .ret=>hS T N B b i n (.e .ret) k L V h t
    |_=>False):=rfl
theorem Ji{n:Nat}{ex:Ex}{k:KG}{L:Al}{V:Nat->PV}{h:aa}{t:ByteArray}:hS T N B b i (n+1) (.e ex) k L V h t=(match k with
    | .top M=>M ex ⟨al L V,h⟩ t
    | .seq b' k=>match ex with
     | .normal=>hS T N B b i n (.c b') k L V h t
     |ex=>hS T N B b i n (.e ex) k L V h t
    | .block id k=>match ex with
     | .exit cz=>match Nat.beq cz id with
      |true=>hS T N B b i n (.e .normal) k L V h t
      |false=>hS T N B b i n (.e (.exit cz)) k L V h t
     |ex=>hS T N B b i n (.e ex) k L V h t
    | .loop I k=>match ex with
     | .normal=>LS I L h t
     |ex=>hS T N B b i n (.e ex) k L V h t):=rfl
variable{N B b i}
theorem cE(K:cj C)(hm:C.P.follows .mixedOrders=true)(bJ:∀n,ch C (cN C n)):∀{n:Nat} {tk:Tk} {k:KG} {L:Al} {V:Nat->PV} {h:aa} {t:ByteArray},hS T N B b i n tk k L V h t->KG.ok N k=true->
  match tk with | .c c=>codeOk N c=true->cR C N B b i c ⟨al L V,h⟩ t (KG.den (C:=C) N B b i k)| .e ex=>KG.den (C:=C) N B b i k ex ⟨al L V,h⟩ t
 |0,_,_,_,_,_,_,x,_=>x.elim
 |n+1,.c c,k,L,V,h,t,x,hk=>by
  have nx:∀{L':Al} {h':aa} {t':ByteArray},hS T N B b i n (.e .normal) k L' V h' t'->KG.den (C:=C) N B b i k .normal ⟨al L' V,h'⟩ t':=λy=>cE K hm bJ (n:=n) (tk:=.e .normal) y hk
  show codeOk N c=true->cR C N B b i c ⟨al L V,h⟩ t (KG.den (C:=C) N B b i k)
  intro hc
  rw[Jh]at x
  split at x
  exact cR.skip (nx x);exact cR.label (nx x)
  ·rename_i id ops d
   split at x
   ·cases x with |sp x=>
    intro Q w F Y a R I hQ
    refine x Q w F Y a R I (λex s' t' w' F' Y' a' m R' I' G'=>?_);obtain⟨L',h',rfl,rfl,y⟩:=m;exact hQ _ _ t' w' F' Y' a' (nx y) R' I' G'
   ·cases x with |mk x g=>
    refine cR.ev K hm bJ g hc ?_;have x:=x.out
    split at x
    exact Ev.region (eG T x λ_ _ y=>nx y)
    ·cases x with
     |mk x hk=>exact Ev.js (lI T x.out λ_ _ y=>nx y) hk
     |raw x hk=>
      obtain⟨y,⟨L',h',e,q⟩,n0,hn⟩:=x V;exact Ev.js ⟨y,by rw[e];exact nx q,n0,hn⟩ hk
     |calm L' h' e kk hk=>exact⟨.normal,⟨al L' V,h'⟩,nx kk.out,0,λn m _ _=>by simp only[aV,if_true,hk,e]⟩
  ·simp only[codeOk,TK]at hc;exact cR.seq (cE K hm bJ (n:=n) (tk:=.c _) (k:=.seq _ k) x (by simp only[KG.ok,hc.2,hk,UT]) hc.1)
  ·simp only[codeOk,TK]at hc;obtain⟨v,e,y⟩:=aM x
   split at y
   exact cR.AG (ah e V) (cE K hm bJ (n:=n) (tk:=.c _) y hk hc.1);exact cR.AH (ah e V) (cE K hm bJ (n:=n) (tk:=.c _) y hk hc.2);exact y.elim
  exact cR.block (cE K hm bJ (n:=n) (tk:=.c _) (k:=.block _ k) x hk hc)
  cases x with |sp e=>exact e
  exact cR.scope (cE K hm bJ (n:=n) (tk:=.c _) x hk hc);exact cR.exit (cE K hm bJ (n:=n) (tk:=.e _) x hk);exact cR.ret (cE K hm bJ (n:=n) (tk:=.e _) x hk);exact x.elim
 |n+1,.e ex,k,L,V,h,t,x,hk=>by
  show KG.den (C:=C) N B b i k ex ⟨al L V,h⟩ t;rw[Ji]at x
  split at x
  exact x
  ·simp only[KG.ok,TK]at hk
   split at x
   exact cE K hm bJ (n:=n) (tk:=.c _) x hk.2 hk.1
   ·have:=cE K hm bJ (n:=n) (tk:=.e _) x hk.2
    cases ex with
    |normal=>simp_all
    |ret=>exact this
    |exit id=>exact this
  ·split at x
   ·split at x
    ·rename_i hb
     have:=Ud hb;subst this;have:=cE K hm bJ (n:=n) (tk:=.e _) x hk;simp only[KG.den,kc,if_true];exact this
    ·rename_i hb
     have:=cE K hm bJ (n:=n) (tk:=.e _) x hk;simp only[KG.den,kc];rw[if_neg (by intro h;subst h;rw[Nat.beq_refl]at hb;cases hb)];exact this
   ·have:=cE K hm bJ (n:=n) (tk:=.e _) x hk
    cases ex with
    |normal=>exact this
    |ret=>exact this
    |exit id=>simp_all
  ·split at x
   ·exact x.out V
   ·have:=cE K hm bJ (n:=n) (tk:=.e _) x hk
    cases ex with
    |normal=>simp_all
    |ret=>exact this
    |exit id=>exact this
theorem cR.mono{c:Code}{s:St}{t:ByteArray}{M M':Ex->St->ByteArray->Prop}(g:cR C N B b i c s t M)(h:∀ex s t,M ex s t->M' ex s t):cR C N B b i c s t M':=
 λQ w F Y a R I hQ=>g Q w F Y a R I (λex s' t' w' F' Y' a' m=>hQ ex s' t' w' F' Y' a' (h _ _ _ m))
theorem cR.zip(K:cj C)(hm:C.P.follows .mixedOrders=true)(bJ:∀n,ch C (cN C n)){α:Type}{c:Code}{L:Al}{V:Nat->PV}{h:aa}{t:ByteArray}{k:KG}(l:List α)(I:List α->List α->Al->aa->ByteArray->Prop)(h0:LS (I [] l) L h t)
  (step:∀p a q L h V t,l=p++a::q->I p (a::q) L h t->Rn (hS T N B b i 10000 (.c c) (.loop (I (p++[a]) q) k) L V h t))
  (last:∀L h V t,I l [] L h t->Rn (hS T N B b i 10000 (.c c) (.loop (λ_ _ _=>False) k) L V h t)) (hk:KG.ok N k=true:=by rfl) (hc:codeOk N c=true:=by rfl):
  cR C N B b i (.loop c) ⟨al L V,h⟩ t (KG.den (C:=C) N B b i k):=by
 refine cR.loop (λn s t=>∃p q,l=p++q/\q.length=n/\Jg (I p q) s t) l.length ⟨[],l,rfl,rfl,h0.out V⟩ ?_;rintro n ⟨Vs,hs⟩ t ⟨p,q,e,hn,L,V,e2,hI⟩;have e2:Vs=al L V:=e2;subst e2
 cases q with
 |nil=>
  rw[Uc]at e;subst e;refine cR.mono (cE T K hm bJ (last L hs V t hI).out hk hc) (λex s' t' m=>?_)
  cases ex with
  |normal=>obtain⟨_,_,_,f⟩:=m;exact f.elim
  |ret=>exact .inr ⟨by simp,m⟩
  |exit id=>exact .inr ⟨by simp,m⟩
 |cons a q=>
  refine cR.mono (cE T K hm bJ (step p a q L hs V t e hI).out hk hc) (λex s' t' m=>?_)
  cases ex with
  |normal=>exact .inl ⟨rfl,q.length,by simpa using hn.symm,p++[a],q,by rw[e];simp,rfl,m⟩
  |ret=>exact .inr ⟨by simp,m⟩
  |exit id=>exact .inr ⟨by simp,m⟩
theorem cR.NU(K:cj C)(hm:C.P.follows .mixedOrders=true)(bJ:∀n,ch C (cN C n)){c:Code}{L:Al}{V:Nat->PV}{h:aa}{t:ByteArray}{M:Ex->St->ByteArray->Prop}(k:Rn (hS T N B b i 10000 (.c c) (.top M) L V h t))(hc:codeOk N c=true):cR C N B b i c ⟨al L V,h⟩ t M:=
 cE (N:=N) (B:=B) (b:=b) (i:=i) T K hm bJ k.out rfl hc
theorem dE.lr{h h':aa}{v:PV}{sz:Nat}{es eD:List PV}{r:PV}(o:dE i h)(l:LR h v sz eD r h')(ho:Out sz h v es):dE i h':=by
 have hi:=ae o.1
 have hv:∀ep n,v≠.an i ep 0 n:=λep n hh=>by
  rcases ho with⟨h1,_⟩|⟨id,hY,h1,h2⟩;rw[h1]at hh;cases hh
  ·rw[h1]at hh
   cases hh
   rw[o.1]at h2
   cases h2
 refine⟨(l.fr i hi hv).trans o.1,λj x e hj=>?_⟩;rcases l.mu j x e with h |h;exact o.2 j x h hj;exact .inl h
theorem dE.gr{h k:aa}(o:dE i h)(hk:∀x∈k,x.mu=.m\/x.mu=.f):dE i (h++k):=by
 refine⟨by rw[TG (ae o.1)];exact o.1,λj x e hj=>?_⟩
 by_cases qd:j<h.length
 rw[TG qd]at e;exact o.2 j x e hj
 ·rw[TQ (by omega)]at e;exact hk x (TU e)
end Go.Pm
namespace Go.Pm
open Go.Proofs
theorem cc.grow{w w':World}(g:cc w w'):∃q RD,w'=Go.Sort.grow (w.drewN q) RD:=by
 refine⟨w'.drawn - w.drawn,w'.heap.extract w.heap.size w'.heap.size,?_⟩
 have hh:w'.heap=w.heap++w'.heap.extract w.heap.size w'.heap.size:=by
  apply Array.ext_getElem?
  intro i
  have hs:=g.size
  by_cases hi:i<w.heap.size
  rw[g.aB i hi,Array.getElem?_append_left hi]
  ·rw[Array.getElem?_append_right (by omega),Array.getElem?_extract]
   by_cases h2:i<w'.heap.size
   rw[if_pos (by omega)];congr 1;omega;rw[if_neg (by omega),UJ (by omega)]
 obtain⟨hp,tp,dr,os,out⟩:=w';have h1:=g.os;have h2:=g.tape;have h3:=g.output;have h4:=g.drawn trivial;simp only at h1 h2 h3 h4 hh;subst h1 h2 h3;simp only[Go.Sort.grow,World.drewN];rw[<-hh]
 congr 1
 omega
end Go.Pm
namespace Go.Pm
variable[iD:Inhabited Prop]
open Go.Proofs
section
variable{C:bZ}(T:kM C.P)
variable{ops:Array Oper}{i:Nat}{d:Nat}{ty:TypeId}{pos:String}{af:Array Edge}{r:List Oper}{V:Nat->PV}{L:List (Nat×PV)}{h:aa}{Q:St->Prop}
set_option maxRecDepth 100000
set_option maxHeartbeats 4000000
theorem oL{P:Program}{t el:TypeId}{id ep len b:Nat}{o:aC}{k:IntKind}(hu:P.underlying t=some (.slice el))(hs:bI P el=some o.aP)(hg:getM h id ep=some o)(hb:b<=len)(hle:len<=o.es.length):
  bO P h t (.an id ep 0 len) none (some (.int k (b:Int))) none=some (.an id ep 0 b):=by
 have h1:¬((len:Int)<(b:Int)):=by omega
 simp[bO,hu,hs,hg,hle,beyond,h1,ck,hb]
theorem mg{P:Program}{t el:TypeId}{id ep len a:Nat}{o:aC}{k:IntKind}(hu:P.underlying t=some (.slice el))(hs:bI P el=some o.aP)(hg:getM h id ep=some o)(ha:a<=len)(hle:len<=o.es.length):
  bO P h t (.an id ep 0 len) (some (.int k (a:Int))) none none=some (if a=0 then .an id ep 0 len else if len - a=0 then .ab false []else .an id ep a (len - a)):=by
 simp[bO,hu,hs,hg,hle,beyond,ck,ha]
 by_cases h0:a=0
 simp[h0]
 ·by_cases h1:len - a=0 <;>simp[h0,h1]
theorem Du{P:Program}{t el:TypeId}{id ep len a b:Nat}{o:aC}{k k' k2:IntKind}(hu:P.underlying t=some (.slice el))(hs:bI P el=some o.aP)(hg:getM h id ep=some o)(ha:a<=b)(hb:b<=len)(aU:a<len)(hle:len<=o.es.length):
  bO P h t (.an id ep 0 len) (some (.int k (a:Int))) (some (.int k' (b:Int))) (some (.int k2 (len:Int)))=some .any:=by
 have h1:¬len=a:=by omega
 simp[bO,hu,hs,hg,hle,beyond,ck,ha,hb,h1]
theorem sU{P:Program}{t el:TypeId}{id ep len a b:Nat}{o:aC}{k k':IntKind}(hu:P.underlying t=some (.slice el))(hs:bI P el=some o.aP)(hg:getM h id ep=some o)(ha:a<=len)(hb:len<b)(hle:b<=o.es.length):
  bO P h t (.an id ep 0 len) (some (.int k (a:Int))) (some (.int k' (b:Int))) none=some (if a=0 then .an id ep 0 b else .an id ep a (b - a)):=by
 have h1:(len:Int)<(b:Int):=by omega
 have h2:¬(b - a=0):=by omega
 have h3:len<=o.es.length:=by omega
 have h4:a<=b:=by omega
 simp[bO,hu,hs,hg,h3,beyond,h1,ck,hle,h4,h2]
 by_cases h0:a=0 <;>simp[h0]
theorem lD{P:Program}{t el:TypeId}{id ep len b:Nat}{o:aC}{k':IntKind}(hu:P.underlying t=some (.slice el))(hs:bI P el=some o.aP)(hg:getM h id ep=some o)(hb:len<b)(hle:b<=o.es.length):
  bO P h t (.an id ep 0 len) none (some (.int k' (b:Int))) none=some (.an id ep 0 b):=by
 have h1:(len:Int)<(b:Int):=by omega
 have h3:len<=o.es.length:=by omega
 simp[bO,hu,hs,hg,h3,beyond,h1,ck,hle]
theorem R.slice{t:TypeId}{x:Operand}{lo hi mx:Option Operand}{p q:PV}{plo phi pmx:Option PV}(hx:dn L x=some p)(h1:lo.map (ev (al L V))=plo)(h2:hi.map (ev (al L V))=phi)(h3:mx.map (ev (al L V))=pmx)(hs:bO C.P h t p plo phi pmx=some q)
  (kk:ag C ops r ⟨al ((d,q)::L) V,h⟩ Q):ag C ops (⟨some d,.slice t x lo hi mx,ty,pos,af,none⟩::r) ⟨al L V,h⟩ Q:=
 ag.fj (λrun=>by simp only[ak,aw,ah hx,h1,h2,h3,hs,TO]) kk
theorem D.slice{t:TypeId}{x:Operand}{lo hi mx:Option Operand}{p q:PV}{plo phi pmx:Option PV}(eJ:aL h=true)(hx:dn L x=some p)(hv:br (aI h) p=true)(h1:lo.map (ev (al L V))=plo)(h2:hi.map (ev (al L V))=phi)(h3:mx.map (ev (al L V))=pmx)
  (v1:plo.all (br (aI h))=true) (v2:phi.all (br (aI h))=true) (v3:pmx.all (br (aI h))=true) (hs:bO C.P h t p plo phi pmx=some q)
  (kk:bw C ops (i+1) r ⟨⟨al ((d,q)::L) V,h⟩,h.length,[]⟩ Q):bw C ops i (⟨some d,.slice t x lo hi mx,ty,pos,af,none⟩::r) ⟨⟨al L V,h⟩,h.length,[]⟩ Q:=by
 refine bw.read rfl eJ ?_ ⟨0,λn lv _ _=>by simp only[ak,aw,ah hx,h1,h2,h3,hs,TO]⟩ kk;rw[<-h1]at v1;rw[<-h2]at v2;rw[<-h3]at v3;rw[TH]
 intro y hy
 simp only[Op.operands]at hy
 cases lo <;>cases hi <;>cases mx <;>simp at hy v1 v2 v3 <;>rcases hy with rfl |hy <;>first
  |(rw[ah hx];exact hv)
  |(simp_all;done)
  |(rcases hy with rfl |hy <;>first |assumption |(rcases hy with rfl |rfl <;>assumption)|(subst hy;assumption))
theorem rp{st xt el qf:TypeId}{sz iU id ep k:Nat}{z u:PV}{ys:List PV}{o:aC}(hk:T.kd st=some (.sl el))(fv:T.kd xt=some (.sl qf))(hs:T.ts el=some (sz+1))(hb:T.tb el=some iU)(hz:T.tz el=some z)(fS:iU<=1000)(hl:(cells z).length=sz+1)(ho:(cells z).all aZ=true)
  (hu:bC h u=some ys) (hy:dw (sz+1) ys) (Lo:ys≠[]->nv id u=true) (hg:getM h id ep=some o) (hm:o.mu=.m) (Dv:o.aP=sz+1) (hle:k+ys.length<=o.es.length):
  cg C.P 2 h st xt (.an id ep 0 k) u=some (.an id ep 0 (k+ys.length),h.set id {o with es:=o.es.take k++ys++o.es.drop (k+ys.length)}):=by
 unfold cg;rw[aY (T.cI _ _ hk)];simp only[T.dF _ _ hs,T.tT _ _ hb,T.mC _ _ hz,cL,aY (T.cI _ _ fv),hu];unfold dw at hy;rw[if_pos ⟨by omega,by omega,⟨hl,ho⟩,hy⟩];simp only[hg];rw[if_pos ⟨by omega,Dv.symm⟩]
 cases ys with
 |nil=>
  have e1:o.es.take k++[]++o.es.drop (k+0)=o.es:=by simp
  have e2:h.set id {o with es:=o.es.take k++[]++o.es.drop (k+0)}=h:=by
   rw[e1];have h1:=(getM_some hg).1;have cx:=ae h1;rw[TJ cx]at h1;have:(h[id]:aC)={o with es:=o.es}:=TF h1;rw[<-this];exact List.set_getElem_self cx
  simp only[List.isEmpty_nil,if_true,Ut,UK]at e2 ⊢;rw[e2]
 |cons y ys=>
  have aU:(y::ys).isEmpty=false:=rfl;simp only[aU,TR,if_false];rw[if_pos ⟨trivial,TI _,hm,Lo (by simp),hle⟩]
theorem D.rp{st xt el qf:TypeId}{sz iU id ep k L0:Nat}{own:List Nat}{z u:PV}{ys:List PV}{o:aC}{x y:Operand}(gp:level ops (before ops) i=2)(hx:dn L x=some (.an id ep 0 k))(Iw:dn L y=some u)(hk:T.kd st=some (.sl el))(fv:T.kd xt=some (.sl qf))(hs:T.ts el=some (sz+1))(hb:T.tb el=some iU)(hz:T.tz el=some z)(fS:iU<=1000)(hl:(cells z).length=sz+1)(ho:(cells z).all aZ=true)
  (hu:bC h u=some ys) (hy:dw (sz+1) ys) (Lo:ys≠[]->nv id u=true) (hg:getM h id ep=some o) (hm:o.mu=.m) (Dv:o.aP=sz+1) (hle:k+ys.length<=o.es.length)
  (kk:bw C ops (i+1) r ⟨⟨al ((d,.an id ep 0 (k+ys.length))::L) V,h.set id {o with es:=o.es.take k++ys++o.es.drop (k+ys.length)}⟩,(h.set id {o with es:=o.es.take k++ys++o.es.drop (k+ys.length)}).length,[]⟩ Q):
  bw C ops i (⟨some d,.call ⟨.builtin .append,#[x,y],#[st,xt]⟩,ty,pos,af,none⟩::r) ⟨⟨al L V,h⟩,L0,own⟩ Q:=by
 refine bw.two rfl gp ⟨0,λn _=>?_⟩ kk;have sS:=Pm.rp T hk fv hs hb hz fS hl ho hu hy Lo hg hm Dv hle;simp only[ak,aT,TT,T5,ah hx,ah Iw,sS]
theorem R.Dw{t el:TypeId}{id ep off len:Nat}{z:PV}{o:aC}{x:Operand}(hx:dn L x=some (.an id ep off len))(hk:T.kd t=some (.sl el))(hs:T.ts el=some o.aP)(hz:T.tz el=some z)(hl:(cells z).length=o.aP)(ho:(cells z).all aZ=true)(hg:getM h id ep=some o)(hm:o.mu=.m)(hle:off+len<=o.es.length)
  (kk:ag C ops r ⟨al L V,h.set id {o with es:=o.es.take off++List.replicate len z++o.es.drop (off+len)}⟩ Q):ag C ops (⟨none,.call ⟨.builtin .clear,#[x],#[t]⟩,ty,pos,af,none⟩::r) ⟨al L V,h⟩ Q:=by
 refine ag.val (v:=.cT []) (h':=h.set id {o with es:=o.es.take off++List.replicate len z++o.es.drop (off+len)}) rfl (λrun=>?_) kk;simp only[ak,aT,TT,T5,ah hx,kW,aY (T.cI _ _ hk),T.dF _ _ hs,T.mC _ _ hz,hg];rw[if_pos ⟨TI _,hm,trivial,hle,hl,ho⟩]
end
attribute [local irreducible] aA az aH aF Ev ag ai aD bw
namespace Zero
set_option maxRecDepth 100000
set_option maxHeartbeats 4000000
theorem Ix(N:Nat){h:aa}{id ep len k:Nat}{o:aC}(hg:getM h id ep=some o)(hm:o.mu=.m)(hz:o.aP=5)(hle:len<=o.es.length)(hk:k<len)(hn:len<100000000)(eO:(o.es.take len).all (jB 5)=true)(eJ:aL h=true):
  ∃kO:List PV,kO.length=o.es.length/\kO.take (len - 1)=(o.es.take len).take k++(o.es.take len).drop (k+1)/\
   aD C0 352 [.an id ep 0 len,.int .i64 (k:Int),.int .i64 ((k:Int)+1)] h (λr h'=>r=.an id ep 0 (len - 1)/\h'=h.set id {o with es:=kO}):=by
 have Nq:=(getM_some hg).1;have cx:=ae Nq
 have lE:aI h id=true:=by
  unfold aI;rw[Nq];simp[hm]
 obtain⟨ys,ms⟩:∃ys,ys=(o.es.drop (k+1)).take (len - (k+1)):=⟨_,rfl⟩;have Lq:ys.length=len - (k+1):=by rw[ms];simp;omega
 have yV:dw 5 ys:=by
  unfold dw;rw[TH]at eO ⊢
  intro v hv
  rw[ms]at hv
  have ib:v∈o.es.take len:=by
   have:(o.es.drop (k+1)).take (len - (k+1))=(o.es.take len).drop (k+1):=by rw[List.drop_take]
   rw[this]at hv;exact Ug hv
  have:=eO v ib;unfold jB at this;simp only[TK]at this ⊢;exact⟨this.1.2,this.2⟩
 obtain⟨cS,ko⟩:∃cS,cS=o.es.take k++ys++o.es.drop (k+ys.length):=⟨_,rfl⟩;have gp:cS.length=o.es.length:=by rw[ko];simp;omega
 refine⟨cS.take (len - 1)++List.replicate 1 (.agg [.int .i64 0,.str ByteArray.empty,.int .i64 0,.ab true [],.int .i64 0])++cS.drop (len - 1+1),by simp;omega,?_,?_⟩
 ·have e1:(cS.take (len - 1)++List.replicate 1 (.agg [.int .i64 0,.str ByteArray.empty,.int .i64 0,.ab true [],.int .i64 0]:PV)++cS.drop (len - 1+1)).take (len - 1)=cS.take (len - 1):=by
   rw[UB,Ul (by simp;omega),UI];congr 1;omega
  rw[e1,ko];have e2:(o.es.take k++ys).length=len - 1:=by simp;omega
  rw[Ul (by omega),Ub (by omega),UI,ms]
  congr 1
  ·congr 1;omega
  rw[List.drop_take]
 ·refine aD.dD Tryz.func352 rfl ?_;have hu:C0.P.underlying 175=some (.slice 187):=aY (T6.cI 175 _ rfl);have ez:bI C0.P 187=some o.aP:=by rw[hz];exact T6.dF 187 5 rfl
  have PY:T6.ts 187=some o.aP:=by rw[hz];rfl
  have hj:((k:Int)+1)=((k+1:Nat):Int):=by omega
  refine wC ?_;apply R.yW T6 (o:=o);exact rfl;exact rfl;exact hg;exact(by omega)
  skip
  apply R.slice;exact rfl;exact rfl;exact rfl;exact rfl
  ·show bO C0.P h 175 (.an id ep 0 len) (some (.int .i64 (k:Int))) (some (.int .i64 ((k:Int)+1))) (some (.int .i64 (len:Int)))=some .any;rw[hj];exact Du hu ez hg (by omega) (by omega) (by omega) hle
  refine wF λhc=>?_;apply R.yW T6 (o:=o);exact rfl;exact rfl;exact hg;exact(by omega);refine wC ?_;apply D.slice;exact eJ;exact rfl;exact lE;exact rfl;exact rfl;exact rfl;exact rfl;exact rfl;exact rfl;exact oL (b:=k) (k:=.i64) hu ez hg (by omega) hle;refine wC ?_;apply D.slice;exact eJ;exact rfl;exact lE;exact rfl;exact rfl;exact rfl;exact rfl;exact rfl;exact rfl
  ·show bO C0.P h 175 (.an id ep 0 len) (some (.int .i64 ((k:Int)+1))) none none=_;rw[hj];exact mg hu ez hg (by omega) hle
  rw[if_neg (by omega)];apply D.rp T6 (ys:=ys) (o:=o) (sz:=4);exact rfl;exact rfl;exact rfl;exact rfl;exact rfl;exact rfl;exact rfl;exact rfl;exact(by decide);exact rfl;exact rfl
  ·split
   ·have:ys=[]:=T3 (by omega);rw[this];rfl
   ·simp only[bC,hg];rw[if_pos (by omega),ms]
  exact yV
  ·intro aU
   rw[if_neg (λhh=>aU (T3 (by omega)))];simp[nv]
  exact hg;exact hm;exact hz;omega;have Bk:k+ys.length=len - 1:=by omega
  have tF:h.set id {o with es:=o.es.take k++ys++o.es.drop (k+ys.length)}=h.set id {o with es:=cS}:=by rw[ko]
  have Iy:=(getM_some hg).2.1;have Fl:getM (h.set id {o with es:=cS}) id ep=some {o with es:=cS}:=bo (TM cx) Iy (by show o.mu≠.x;rw[hm];simp);refine bw.heap tF ?_;rw[Bk];clear tF;refine wC ?_;apply R.yW T6 (o:={o with es:=cS});exact rfl;exact rfl;exact Fl;exact(by show 0+(len - 1)<=cS.length;omega);refine wC ?_;apply R.slice;exact rfl;exact rfl;exact rfl;exact rfl;exact sU (o:={o with es:=cS}) (len:=len - 1) (a:=len - 1) (b:=len) (k:=.i64) (k':=.i64) hu ez Fl (TI _) (by omega) (by show len<=cS.length;omega)
  by_cases h1:len - 1=0
  ·rw[if_pos h1];have Lr:len=1:=by omega
   subst Lr;apply R.Dw T6 (o:={o with es:=cS}) (z:=.agg [.int .i64 0,.str ByteArray.empty,.int .i64 0,.ab true [],.int .i64 0]);exact rfl;exact rfl;exact PY;exact rfl;show 5=o.aP;omega
   rfl
   exact Fl;exact hm;show 0+1<=cS.length;omega;refine wC ?_;exact⟨rfl,by rw[UM]⟩
  ·rw[if_neg h1];have h2:len - (len - 1)=1:=by omega
   rw[h2];apply R.Dw T6 (o:={o with es:=cS}) (z:=.agg [.int .i64 0,.str ByteArray.empty,.int .i64 0,.ab true [],.int .i64 0]);exact rfl;exact rfl;exact PY;exact rfl;show 5=o.aP;omega
   rfl
   exact Fl;exact hm;show len - 1+1<=cS.length;omega;refine wC ?_;exact⟨rfl,by rw[UM]⟩
theorem yX:cW C0.P 352 mQ:=by
 intro args h r h' e w F Y vs H ha
 unfold mQ at e
 split at e
 ·rename_i id ep len i j
  split at e
  ·rename_i o hg
   split at e
   ·rename_i hc
    obtain⟨hm,hz,hle,Lt,rfl,hi,hn,eO,eJ⟩:=hc;obtain⟨rfl,rfl⟩:=TL (TF e);obtain⟨k,rfl⟩:=UU Lt;have hk:k<len:=by omega
    obtain⟨kO,l3,t3,f3⟩:=Ix 0 hg hm hz hle hk hn eO eJ;unfold aD at f3;obtain⟨r3,h3,⟨rfl,rfl⟩,n0,F0⟩:=f3;obtain⟨g1,g2,g3⟩:=getM_some hg;have cx:=ae g1;refine(S0 n0 _ (.inr (nB rfl)) _ h _ _ (F0 n0 (TI _)) w F Y vs H ha).mono ?_;rintro en w' ⟨v,Y1,rfl,q1,q2,q3,_⟩;have eo:(h.set id {o with es:=kO})[id]?=some {o with es:=kO}:=TM cx;obtain⟨bc,hb⟩:=cm q2.len eo;have Dv:0<({o with es:=kO}:aC).aP:=by show 0<o.aP;omega
    obtain⟨_,_,_,k2,_⟩:=(q2.obj id _ bc eo hb (by show o.mu≠.x;rw[hm];simp)).c Dv;have Ol:((o.es.take len).take k++(o.es.take len).drop (k+1)).length=len - 1:=by simp;omega
    have rs:=q2.kq eo hb hm ((o.es.take len).take k++(o.es.take len).drop (k+1)) (ep+1) (by show o.ep<ep+1;omega) (by rw[Ol];simp only at k2;omega) (λi e he=>by
     left
     show kO[i]?=some e;rw[<-t3]at he;rw[TX]at he
     split at he
     exact he
     cases he)
    have Dx:(h.set id {o with es:=kO}).set id {({o with es:=kO}:aC)with es:=(o.es.take len).take k++(o.es.take len).drop (k+1),ep:=ep+1}=h.set id {o with ep:=ep+1,es:=(o.es.take len).take (Int.toNat (k:Int))++(o.es.take len).drop (Int.toNat (k:Int)+1)}:=by
     rw[UM];rfl
    have vr:=ar.kq (A:=Av F (h.set id {o with ep:=ep+1,es:=(o.es.take len).take (Int.toNat (k:Int))++(o.es.take len).drop (Int.toNat (k:Int)+1)}) Y1) eo hb hm q1 g2 (by show len - 1<=kO.length;omega) ((o.es.take len).take k++(o.es.take len).drop (k+1)) (ep+1);rw[Dx]at rs vr;exact⟨v,Y1,rfl,vr,rs.1,q3.trans rs.2,λhh=>by omega⟩
   cases e
  cases e
 cases e
end Zero
end Go.Pm
namespace Go.Pm
open Go.Proofs
variable{w:World}{F:Nat->Prop}{Y:List (Nat×Nat)}{h:aa}
set_option maxRecDepth 100000
set_option maxHeartbeats 4000000
theorem R.xl{C:bZ}(T:kM C.P){ops:Array Oper}{d:Nat}{ty:TypeId}{pos:String}{af:Array Edge}{r:List Oper}{V:Nat->PV}{L:List (Nat×PV)}{Q:St->Prop}{st xt el qf:TypeId}{sz iU id ep len:Nat}{z:PV}{full:Bool}{ys:List PV}{o:aC}{x y:Operand}(hx:dn L x=some (.an id ep 0 len))(Iw:dn L y=some (.ab full ys))(hk:T.kd st=some (.sl el))(fv:T.kd xt=some (.sl qf))(hs:T.ts el=some (sz+1))(hb:T.tb el=some iU)(hz:T.tz el=some z)(fS:iU<=1000)(hl:(cells z).length=sz+1)(ho:(cells z).all aZ=true)
  (hy:dw (sz+1) ys) (aU:ys.isEmpty=false) (hn:len+ys.length<1000000000) (hg:getM h id ep=some o) (hm:o.mu=.m) (Dv:o.aP=sz+1) (hle:len<=o.es.length)
  (kk:ag C ops r ⟨al ((d,.an id (ep+1) 0 (len+ys.length))::L) V,h.set id {o with ep:=ep+1,es:=o.es.take len++ys}⟩ Q):
  ag C ops (⟨some d,.call ⟨.builtin .append,#[x,y],#[st,xt]⟩,ty,pos,af,none⟩::r) ⟨al L V,h⟩ Q:=by
 refine ag.fj (λrun=>?_) kk;have sS:=iB T (full:=full) hk fv hs hb hz fS hl ho hy aU hn hg hm Dv hle;simp only[ak,aT,TT,T5,ah hx,ah Iw,sS]
theorem uh{P:Program}{t el:TypeId}{fl:Bool}{sz:Nat}{k:IntKind}(hu:P.underlying t=some (.slice el))(hs:bI P el=some sz):bO P h t (.ab fl []) (some (.int k 0)) none none=some (.ab fl []):=by
 simp[bO,hu,hs,ck]
attribute [local irreducible] aA az aH aF Ev ag ai aD bw
theorem nS{sz:Nat}{e:PV}(h:jB sz e=true):dw sz [e]:=by
 unfold jB at h;simp only[TK]at h;unfold dw;simp only[U6,Vw,VW,TK];exact⟨h.1.2,h.2⟩
namespace Zero
theorem o8{h:aa}{fl:Bool}{e:PV}(he:jB 5 e=true):aD C0 351 [.ab true [],.int .i64 0,.ab fl [e]] h (λr h'=>r=.an h.length 0 0 1/\h'=h++[⟨.m,0,5,[e]⟩]):=by
 refine aD.dD Tryz.func351 rfl ?_;have hu:C0.P.underlying 175=some (.slice 187):=aY (T6.cI 175 _ rfl);have wX:([e]:List PV).length=1:=rfl;refine wC ?_;apply R.slice;exact rfl;exact rfl;exact rfl;exact rfl;exact uh hu (T6.dF 187 5 rfl)
 (repeat' (first |refine ag.nil ?_ |(apply R.move;exact rfl)|(apply R.assign;exact rfl)|(apply R.cmp;exact rfl;exact rfl;exact rfl;all_goals intro hc;all_goals(try(exfalso;omega)))|(apply R.qc T6;exact rfl;exact rfl)|refine Ev.seq ?_ |refine Ev.region ?_ |(apply Ev.ef;exact rfl)|refine Ev.skip ?_ |refine aA.normal ?_ |fail))
 all_goals try(exfalso;revert hc;decide)
 all_goals(
  apply R.gY T6;exact rfl;exact rfl;exact rfl;exact rfl;exact rfl;exact rfl;exact rfl;exact(by decide);exact rfl;exact rfl;exact nS he;exact(by simp);exact(by show 1<_;decide);refine wC ?_;exact⟨rfl,rfl⟩)
theorem o9{h:aa}{fl:Bool}{e:PV}{id ep len:Nat}{o:aC}(he:jB 5 e=true)(hg:getM h id ep=some o)(hm:o.mu=.m)(hz:o.aP=5)(hle:len<=o.es.length)(hn:len<100000000):
  aD C0 351 [.an id ep 0 len,.int .i64 (len:Int),.ab fl [e]] h (λr h'=>r=.an id (ep+1) 0 (len+1)/\h'=h.set id {o with ep:=ep+1,es:=o.es.take len++[e]}):=by
 refine aD.dD Tryz.func351 rfl ?_;have hu:C0.P.underlying 175=some (.slice 187):=aY (T6.cI 175 _ rfl);have wX:([e]:List PV).length=1:=rfl;have ez:bI C0.P 187=some o.aP:=by rw[hz];exact T6.dF 187 5 rfl
 refine wC ?_;apply R.slice;exact rfl;exact rfl;exact rfl;exact rfl;exact mg hu ez hg (TI _) hle;refine wF λhc=>?_
 all_goals try(exfalso;revert hc;decide)
 all_goals(
  apply R.yW T6 (o:=o);exact rfl;exact rfl;exact hg;exact(by omega);refine wF λhc=>?_;apply R.xl T6 (o:=o);exact rfl;exact rfl;exact rfl;exact rfl;exact rfl;exact rfl;exact rfl;exact(by decide);exact rfl;exact rfl;exact nS he;exact rfl;exact(by show len+1<_;omega);exact hg;exact hm;exact hz;exact hle;refine wC ?_;exact⟨rfl,rfl⟩)
end Zero
end Go.Pm
namespace Go.Pm
variable[iD:Inhabited Prop]
open Go.Proofs
variable{w:World}{F:Nat->Prop}{Y:List (Nat×Nat)}{h:aa}
set_option maxRecDepth 100000
set_option maxHeartbeats 4000000
theorem vu(H:aG w F Y h){v:Value}{id ep off len:Nat}{o:aC}(hv:ar w (Av F h Y) Y h v (.an id ep off len))(hg:getM h id ep=some o)(hle:off+len<=o.es.length):
  ∃bc:Nat×Nat,Y[id]?=some bc/\∃cap,v=.slice (some ⟨bc.1,off * o.aP,none⟩) len cap/\off+cap=bc.2:=by
 obtain⟨e1,e2,e3⟩:=getM_some hg;obtain⟨bc,hb⟩:=cm H.len e1;obtain⟨_,_,m3⟩:=hv.cO;exact⟨bc,hb,m3 o bc e1 hb e3 e2 hle⟩
theorem nQ{P:Program}{a:Act}{V:Nat->PV}(H:aG w F Y h)(R:fc w (Av F h Y) Y h a V){t el:TypeId}{x:Operand}{id ep len:Nat}{o:aC}{bc:Nat×Nat}(hu:P.underlying t=some (.slice el))(hx:ev V x=.an id ep 0 len)(hg:getM h id ep=some o)(hb:Y[id]?=some bc)(hle:len<=o.es.length):
  ∀oo:Oper,oo.op=.call ⟨.builtin .cap,#[x],#[t]⟩->qe P 2 w F Y h (execOp a.eval oo) (.int .i64 (bc.2:Int)) h:=by
 intro oo ho
 have hv:=R.ev H.di x;rw[hx]at hv;obtain⟨bW,ew,cap,e1,e2⟩:=vu H hv hg (by omega);obtain rfl:=TF (hb.symm.trans ew);have hc:cap=bc.2:=by omega
 subst hc;obtain⟨d,op,ty,pos,af,g⟩:=oo;simp only at ho;subst ho;refine⟨.int .i64 (bc.2:Int),w,Y,.inl ?_,.val (.int _ _),H,cP.refl w h Y,λ_=>cc.refl w⟩
 have h1:(Builtin.cap_ #[t] ty #[a.eval x]).run P w=.ok (.int .i64 (bc.2:Int)) w:=by
  simp[Builtin.cap_,e1,aR hu,goInt]
 simp only[execOp,resolve,Sem.run_bind,Sem.run_pure,Result.andThen_ok,invoke,builtin];simp[h1]
theorem mv{P:Program}(w:World)(tS tR e:TypeId)(ht:P.underlying tS=some (.slice e))(size:Nat)(hz:∀w,(Go.sizeOf e).run P w=.ok size w)
  (a b:Addr) (la ca lb cb:Nat) (aU:a.block≠b.block) (tA tB:TypeId) (kA kB:Nat)
  (Ku:w.shape? a.block=some (tA,kA)) (Kv:w.shape? b.block=some (tB,kB)) (OG:kA≠0)
  (RI:w.frozen? b=false) (OH:w.frozen? {block:=b.block,off:=kB}=false):
  (Extern.SlicesOverlaps.overlaps #[tS,tS] #[tR] #[.slice (some a) la ca,.slice (some b) lb cb]).run P w=.ok (.bool false) w:=by
 have FO:(a.block !=b.block)=true:=by simpa using aU
 have OI:(a.block==b.block)=false:=by simpa using aU
 conv=>lhs;arg 2;whnf
 have he:(#[tS,tS]:Array TypeId)[0]=tS:=rfl;have P9:∀{α Y:Type} (x:α) (f:α->Sem Y),(pure x:Sem α).bind f=f x:=λ_ _=>rfl
 by_cases h0:la=0\/lb=0\/size=0
 simp[Sem.run,Sem.bind,P9,he,ht,hz,h0]
 ·cases kA with
  |zero=>exact absurd rfl OG
  |succ kA=>
   cases h3:w.frozen? a <;>cases h4:w.frozen? {block:=a.block,off:=kA+1} <;>
    simp[Sem.run,Sem.bind,P9,he,ht,hz,h0,FO,OI,frozen,noView,viewAt,mayBeOne,stringish,shape,Ku,Kv,RI,OH,h3,h4]
theorem mG{P:Program}{a:Act}{V:Nat->PV}(H:aG w F Y h)(R:fc w (Av F h Y) Y h a V){t el tR:TypeId}{sz:Nat}{x y:Operand}{f:FuncId}{fn:Func}{fl:Bool}{e1:PV}{id ep off n:Nat}{o:aC}
  (hu:P.underlying t=some (.slice el)) (hs:bI P el=some sz) (hx:ev V x=.ab fl [e1]) (hy:ev V y=.an id ep off n) (hg:getM h id ep=some o) (hm:o.mu=.m) (hle:off+n<=o.es.length)
  (hf : P.funcs[f]? = some fn) (L3 : (fn.name == "runtime.NumGoroutine") = false) (yg : fn.body.isNone = true) (hn : Extern.findNext fn = none) (he : Extern.find fn = some (Extern.SlicesOverlaps.overlaps #[t, t] #[tR])) {DQ : Array TypeId} :
  ∀oo:Oper,oo.op=.call ⟨.value (.func f),#[x,y],DQ⟩->qe P 2 w F Y h (execOp a.eval oo) (.bool false) h:=by
 intro oo ho
 have Jp:=R.ev H.di x;rw[hx]at Jp;have Kw:=R.ev H.di y;rw[hy]at Kw;obtain⟨bc,hb,cap,ey,e2⟩:=vu H Kw hg hle;obtain⟨g1,g2,g3⟩:=getM_some hg;obtain⟨T,cs,k1,k2,k3,k4,k5⟩:=(H.obj id o bc g1 hb g3).c (Kw.cO.2.1 o g1).2;rcases Jp.dM.mb with h0 |⟨b,OJ,wY,Ay,j0,ex,RJ,ez,wX,OK,Gf⟩
 cases h0
 have Jq:b≠bc.1:=λhh=>RJ (.inr ⟨id,o,bc,g1,hb,hm,hh.symm⟩)
 have iO:=OK 0 0 (by simp) ez
 obtain⟨tA,kA,Ku,OG⟩:∃tA kA,w.shape? b=some (tA,kA)/\kA≠0:=by
  simp only[World.cell?]at iO
  split at iO
  ·rename_i c RK fr hh
   split at iO
   cases iO
   ·refine⟨RK,c.size,by simp[World.shape?,hh],?_⟩
    intro h0
    have:=(TY.1 iO).1;omega
  cases iO
 have Kv:w.shape? bc.1=some (T,cs.size):=by simp[World.shape?,k1]
 have Qa:∀of,w.frozen? ⟨bc.1,of,none⟩=false:=λof=>by simp[World.frozen?,k1]
 have RM:=mv (P:=P) w t tR el hu sz (λw=>bQ hs w) ⟨b,OJ,none⟩ ⟨bc.1,off * o.aP,none⟩ 1 wY n cap Jq tA T kA cs.size Ku Kv OG (Qa _) (Qa _);obtain⟨d,op,ty,pos,af,g⟩:=oo;simp only at ho;subst ho;refine⟨.bool false,w,Y,.inl ?_,.val (.bool _),H,cP.refl w h Y,λ_=>cc.refl w⟩;have hc:=run_callFunc_extern hf L3 yg hn he #[a.eval x,a.eval y] w;rw[ex,ey]at hc;rw[show([e1]:List PV).length=1 from rfl]at hc;rw[RM]at hc;have OL:a.eval (.func f)=.func (.func f) #[] #[]:=rfl;simp only[execOp,resolve,OL,Deferred.ofValue,Sem.run_bind,Sem.run_pure,Result.andThen_ok,invoke];simp only[Array.append_empty,VD,TT,T5,ex,ey];exact hc
theorem pP{P:Program}{a:Act}{V:Nat->PV}(H:aG w F Y h)(R:fc w (Av F h Y) Y h a V){st xt el:TypeId}{k:IntKind}{sz iU n:Nat}{z:PV}{x y:Operand}{id ep len:Nat}{o:aC}{bc:Nat×Nat}
  (hu:P.underlying st=some (.slice el)) (RN:P.underlying xt=some (.int k)) (hs:bI P el=some sz) (ku:0<sz) (hb:jz P el=some iU) (fS:iU<=1000) (hz:gv P el=some z) (hl:(cells z).length=sz) (oX:(cells z).all aZ=true)
  (hx:ev V x=.an id ep 0 len) (hy:ev V y=.int k (n:Int)) (hg:getM h id ep=some o) (j3:Y[id]?=some bc) (hle:len<=o.es.length) (ez:o.aP=sz) (gS:bc.2<len+n) (hn:len+n<1000000000):
  ∀oo:Oper,oo.op=.call ⟨.builtin .append,#[x,y],#[st,xt]⟩->qe P 2 w F Y h (execOp a.eval oo) (.an h.length 0 0 (len+n)) (h++[⟨.m,0,sz,o.es.take len++List.replicate n z⟩]):=by
 intro oo ho
 obtain⟨d,op,ty,pos,af,g⟩:=oo;simp only at ho;subst ho;have Jp:=R.ev H.di x;rw[hx]at Jp;have Kw:=R.ev H.di y;rw[hy]at Kw;obtain⟨bW,ew,cap,ex,e2⟩:=vu H Jp hg (by omega);obtain rfl:=TF (j3.symm.trans ew);have oB:cap=bc.2:=by omega
 subst oB;obtain⟨g1,g2,g3⟩:=getM_some hg;obtain⟨T,oC,k1,k2,k3,k4,k5⟩:=(H.obj id o bc g1 j3 g3).c (Jp.cO.2.1 o g1).2
 have main:vq P 2 w F Y h (Builtin.append_ #[st,xt] ty #[a.eval x,a.eval y]) (.an h.length 0 0 (len+n)) (h++[⟨.m,0,sz,o.es.take len++List.replicate n z⟩]):=by
  have Lq:(List.replicate n z).length=n:=Vi
  have cZ:(List.replicate n z).all (λv=>decide ((Pm.cells v).length=sz)&& (Pm.cells v).all aZ)=true:=by
   rw[TH]
   intro v hv
   obtain rfl:=Va hv;rw[hl,oX];simp
  have OM:cL P h z xt (.int k (n:Int))=some (List.replicate n z):=by
   simp only[cL,RN];rw[if_pos (by omega)];simp
  obtain⟨vz,z1,z2⟩:=gG (P:=P) hz;obtain⟨zb,d',a1,a2,news,a3,a4,a5,a6⟩:=nR (st:=st) (vz:=vz) H hs hb hz ku (by omega) Kw OM cZ;rw[Lq]at a5 a6;have zsz:vz.cells.size=sz:=by rw[((z2 w (Av F h Y) Y h).cells oX).1];exact hl
  have h9:bC h (.an id ep 0 len)=some ((o.es.drop 0).take len):=by simp only[bC,hg];rw[if_pos (by omega)]
  have CH:((o.es.drop 0).take len).length=len:=by simp;omega
  obtain⟨a',wY,Oh,_,cs,f1,f2⟩:=iY (P:=P) (sz:=sz) H Jp h9 (λy hy=>by
   obtain⟨k,hk⟩:=UN hy;rw[TX]at hk
   split at hk
   simp at hk;rw[<-ez];exact(k5 k y hk).1
   cases hk)
  simp only[U']at f1 CH f2;have DR:len+n<=17592186044416:=by omega
  have Jr:(len+n) * iU<=17592186044416:=by
   have:(len+n) * iU<=1000000000 * 1000:=Vy (by omega) fS
   omega
  obtain⟨c,c1,bJ⟩:=lL (P:=P) (w:=w) (ty:=ty) (ts:=#[st,xt]) (args:=#[a.eval x,a.eval y]) (olds:=cs) (sLen:=len) (sCap:=bc.2) (base:=some ⟨bc.1,0 * o.aP,none⟩) rfl rfl (by rw[ex];rfl) rfl hu hs a1 a2 hb (by omega) z1 a5 a6 (λw' yB=>by
   have:=f2 w' yB len (by omega);rw[Ub (by rw[f1.1,CH];exact TI _)]at this;rw[<-ex];exact this) (by omega) Jr DR
  have Hw:=f1.append a3;have arr:cs.toArray++news.toArray++Builtin.zeroCells vz.cells (c - (len+n))=(cs++news++(Builtin.zeroCells vz.cells (c - (len+n))).toList).toArray:=by apply UH;simp
  have arrsz:c * sz<=(cs.toArray++news.toArray++Builtin.zeroCells vz.cells (c - (len+n))).size:=by
   simp only[Array.size_append,VB,size_zeroCells,zsz,f1.1,a3.1,CH,Lq,<-Ur];rw[show len+n+(c - (len+n))=c by omega];exact TI _
  obtain⟨HH,S⟩:=aG.new H (w':=w.drew.alloc (.cells (cs.toArray++news.toArray++Builtin.zeroCells vz.cells (c - (len+n))) el)) el
   (cs.toArray++news.toArray++Builtin.zeroCells vz.cells (c - (len+n))) {mu:=.m,ep:=0,aP:=sz,es:=o.es.take len++List.replicate n z} c rfl rfl rfl rfl rfl (by simp;omega)
   arrsz ku (λi e he=>by
    rw[arr];exact Hw.obj (rest:=(Builtin.zeroCells vz.cells (c - (len+n))).toList) i e he)
  exact⟨_,_,_,bJ,H.qz,HH,S,λhh=>by omega⟩
 obtain⟨v,w',Y',r1,r2,r3,r4,r5⟩:=main;refine⟨v,w',Y',.inl ?_,r2,r3,r4,r5⟩;simp only[execOp,resolve,Sem.run_bind,Sem.run_pure,Result.andThen_ok,invoke,builtin];simp only[VD,TT,T5,r1,Result.andThen_ok]
theorem aG.DS{w w':World}{F:Nat->Prop}{Y:List (Nat×Nat)}{h:aa}(H:aG w F Y h){id:Nat}{o:aC}{bc:Nat×Nat}(eo:h[id]?=some o)(eb:Y[id]?=some bc)(em:o.mu=.m)
  (T:TypeId) (cs:Array Value) (eD:List PV) (hY:Nat) (bW:Nat×Nat)
  (ez:w.heap.size<=w'.heap.size) (dL:w'.heap[bW.1]?=some (.cells cs T (0,0))) (m':∀b,b<w.heap.size->w'.heap[b]?=w.heap[b]?)
  (uU:w.heap.size<=bW.1) (cx:o.ep<hY) (ho:w'.os=w.os) (ht:w'.tape=w.tape) (hu:w'.output=w.output)
  (h1:eD.length<=bW.2) (h2:bW.2 * o.aP<=cs.size)
  (h4:∀(i:Nat) (e:PV),eD[i]?=some e->(cells e).length=o.aP/\∀(j:Nat) (p:PV),(cells e)[j]?=some p->∃v:Value,cs[i * o.aP+j]?=some v/\ar w' (Av F (h.set id {o with es:=eD,ep:=hY}) (Y.set id bW)) (Y.set id bW) (h.set id {o with es:=eD,ep:=hY}) v p)
  (hd:yG->w.drawn<=w'.drawn:=by first |exact λ_=>TI _ |exact λ_=>Vn _) (H8:0<o.aP:=by first |assumption |omega):
  aG w' F (Y.set id bW) (h.set id {o with es:=eD,ep:=hY})/\cP w h Y w' (h.set id {o with es:=eD,ep:=hY}) (Y.set id bW):=by
 have hlen:=H.len;have bE:=ae eo;have Jl:0<o.aP:=H8;have im:(h.set id {o with es:=eD,ep:=hY})[id]?=some {o with es:=eD,ep:=hY}:=by simp[bE]
 have bself:(Y.set id bW)[id]?=some bW:=by simp[hlen,bE]
 have gV:∀k,k≠id->(h.set id {o with es:=eD,ep:=hY})[k]?=h[k]?:=λk hk=>TN (Um hk)
 have both:∀k,k≠id->(Y.set id bW)[k]?=Y[k]?:=λk hk=>TN (Um hk)
 have hs:cP w h Y w' (h.set id {o with es:=eD,ep:=hY}) (Y.set id bW):=by
  refine⟨ez,by simp,λb hb hm=>m' b hb,?_,?_,?_,ho,ht,hu,hd⟩
  ·rintro b hb ⟨k,o',c',e1,e2,e3,rfl⟩
   by_cases hk:k=id
   ·subst hk;rw[bself]at e2;obtain rfl:=TF e2;omega
   ·rw[gV k hk]at e1;rw[both k hk]at e2;exact⟨k,o',c',e1,e2,e3,rfl⟩
  ·intro k o' c' e1 e2 e3
   by_cases hk:k=id
   ·subst hk;rw[eo]at e1;rw[eb]at e2;obtain rfl:=TF e1;obtain rfl:=TF e2;exact⟨_,bW,im,bself,by rw[em];simp,⟨Nat.le_of_lt cx,λh=>h⟩,λe=>by simp at e;omega⟩
   exact⟨o',c',by rw[gV k hk];exact e1,by rw[both k hk];exact e2,e3,⟨TI _,λh=>h⟩,λ_=>⟨rfl,λ_=>rfl,rfl⟩⟩
  ·intro k o' e1 e2
   have hk:k≠id:=by
    rintro rfl;rw[eo]at e1;obtain rfl:=TF e1;exact e2 em
   exact⟨by rw[gV k hk];exact e1,both k hk⟩
 refine⟨⟨by simp[hlen],λb hb=>T4 (H.fin b hb) ez,?_,?_,?_,H.di.pG hs⟩,hs⟩
 ·intro k o' c' e1 e2 e3
  by_cases hk:k=id
  ·subst hk;rw[im]at e1;rw[bself]at e2;obtain rfl:=TF e1;obtain rfl:=TF e2;exact .inl ⟨T,cs,dL,h1,h2,Jl,h4⟩
  ·rw[gV k hk]at e1;rw[both k hk]at e2;have r:=H.obj k o' c' e1 e2 e3;exact gq.mono hs (m' _ r.lt) r
 ·intro k k' o1 o2 Fm zg aU e1 e2 e3 e4 m1 m2
  by_cases hk:k=id
  ·subst hk;have fv:k'≠k:=Um aU;rw[gV k' fv]at e2;rw[both k' fv]at e4;rw[bself]at e3;obtain rfl:=TF e3;have:=(H.obj k' o2 zg e2 e4 m2).lt;omega
  ·rw[gV k hk]at e1;rw[both k hk]at e3
   by_cases fv:k'=id
   ·subst fv;rw[bself]at e4;obtain rfl:=TF e4;have:=Mb.lt H ⟨k,o1,Fm,e1,e3,m1,rfl⟩;omega
   ·rw[gV k' fv]at e2;rw[both k' fv]at e4;exact H.eZ k k' o1 o2 Fm zg aU e1 e2 e3 e4 m1 m2
 ·intro k o' c' e1 e2 e3
  by_cases hk:k=id
  ·subst hk;rw[bself]at e2;obtain rfl:=TF e2
   intro hf;have:=H.fin _ hf;omega
  ·rw[gV k hk]at e1;rw[both k hk]at e2;exact H.out k o' c' e1 e2 e3
end Go.Pm
namespace Go.Pm
variable[iD:Inhabited Prop]
open Go.Proofs
section
variable{w:World}{F:Nat->Prop}{Y:List (Nat×Nat)}
variable{C:bZ}(T:kM C.P)
variable{ops:Array Oper}{i:Nat}{d:Nat}{ty:TypeId}{pos:String}{af:Array Edge}{r:List Oper}{V:Nat->PV}{L:List (Nat×PV)}{h:aa}{Q:St->Prop}
set_option maxRecDepth 100000
set_option maxHeartbeats 4000000
theorem bV{P:Program}{t el:TypeId}{id ep len a:Nat}{o:aC}{k:IntKind}(hu:P.underlying t=some (.slice el))(hs:bI P el=some o.aP)(hg:getM h id ep=some o)(ha:a<len)(hle:len<=o.es.length):
  bO P h t (.an id ep 0 len) (some (.int k (a:Int))) none none=some (.an id ep a (len - a)):=by
 rw[mg hu hs hg (by omega) hle]
 by_cases h0:a=0
 subst h0;simp;rw[if_neg h0,if_neg (by omega)]
theorem DU{dt el:TypeId}{sz id ep off len:Nat}{u:PV}{ys:List PV}{o:aC}(hk:T.kd dt=some (.sl el))(hs:T.ts el=some sz)(hu:bC h u=some ys)(hg:getM h id ep=some o)(hm:o.mu=.m)(hz:o.aP=sz)(hle:off+len<=o.es.length)
  (hy:ys.all (λv=>decide ((cells v).length=sz))=true) (Gg:(ys.take (min ys.length len)).all (λv=>decide ((cells v).length=sz)&& (cells v).all aZ)=true):
  tj C.P 2 h dt (.an id ep off len) u=some (.int .i64 (min ys.length len:Nat),h.set id {o with es:=o.es.take off++ys.take (min ys.length len)++o.es.drop (off+min ys.length len)}):=by
 unfold tj;rw[aY (T.cI _ _ hk),hu];simp only[T.dF _ _ hs,hg];rw[if_pos ⟨TI _,hm,hz.symm,hle,hy,Gg⟩]
theorem R.copy{dt xt el:TypeId}{sz id ep off len:Nat}{u:PV}{ys:List PV}{o:aC}{x y:Operand}(hx:dn L x=some (.an id ep off len))(Iw:dn L y=some u)(hk:T.kd dt=some (.sl el))(hs:T.ts el=some sz)(hu:bC h u=some ys)(hg:getM h id ep=some o)(hm:o.mu=.m)(hz:o.aP=sz)(hle:off+len<=o.es.length)
  (hy:ys.all (λv=>decide ((cells v).length=sz))=true) (Gg:(ys.take (min ys.length len)).all (λv=>decide ((cells v).length=sz)&& (cells v).all aZ)=true)
  (kk:ag C ops r ⟨al ((d,.int .i64 (min ys.length len:Nat))::L) V,h.set id {o with es:=o.es.take off++ys.take (min ys.length len)++o.es.drop (off+min ys.length len)}⟩ Q):
  ag C ops (⟨some d,.call ⟨.builtin .copy,#[x,y],#[dt,xt]⟩,ty,pos,af,none⟩::r) ⟨al L V,h⟩ Q:=by
 refine ag.fj (λrun=>?_) kk;have sS:=DU T hk hs hu hg hm hz hle hy Gg;simp only[ak,aT,TT,T5,ah hx,ah Iw,sS]
theorem D.copy{dt xt el:TypeId}{sz id ep off len L0:Nat}{own:List Nat}{u:PV}{ys:List PV}{o:aC}{x y:Operand}(gp:level ops (before ops) i=2)(hx:dn L x=some (.an id ep off len))(Iw:dn L y=some u)(hk:T.kd dt=some (.sl el))(hs:T.ts el=some sz)(hu:bC h u=some ys)(hg:getM h id ep=some o)(hm:o.mu=.m)(hz:o.aP=sz)(hle:off+len<=o.es.length)
  (hy:ys.all (λv=>decide ((cells v).length=sz))=true) (Gg:(ys.take (min ys.length len)).all (λv=>decide ((cells v).length=sz)&& (cells v).all aZ)=true)
  (kk:bw C ops (i+1) r ⟨⟨al ((d,.int .i64 (min ys.length len:Nat))::L) V,h.set id {o with es:=o.es.take off++ys.take (min ys.length len)++o.es.drop (off+min ys.length len)}⟩,(h.set id {o with es:=o.es.take off++ys.take (min ys.length len)++o.es.drop (off+min ys.length len)}).length,[]⟩ Q):
  bw C ops i (⟨some d,.call ⟨.builtin .copy,#[x,y],#[dt,xt]⟩,ty,pos,af,none⟩::r) ⟨⟨al L V,h⟩,L0,own⟩ Q:=by
 refine bw.two rfl gp ⟨0,λn _=>?_⟩ kk;have sS:=DU T hk hs hu hg hm hz hle hy Gg;simp only[ak,aT,TT,T5,ah hx,ah Iw,sS]
end
set_option maxRecDepth 100000
set_option maxHeartbeats 4000000
def ON:Nat->Code->Code
 |0,c=>c
 |n+1,.seq _ b=>ON n b
 |_,c=>c
attribute [local irreducible] aA az aH aF Ev ag ai aD bw
namespace Zero
noncomputable def DO:Code:=match Tryz.f351.body with |some c=>c |none=>.skip
theorem rC:Tryz.f351.body=some DO:=rfl
variable{w:World}{F:Nat->Prop}{Y:List (Nat×Nat)}
theorem nP{h:aa}{id ep len i N:Nat}{o:aC}{fl:Bool}{e:PV}{a:Act}{Q:Exit->Act->World->Prop}(hg:getM h id ep=some o)(hz:o.aP=5)(hle:len<=o.es.length)(hi:i<len)(hn:len<100000000)(hN:N=Tryz.f351.ntmps)
  (RR:SR N w F Y ⟨jm [.an id ep 0 len,.int .i64 (i:Int),.ab fl [e]],h⟩ a)
  (k:∀a' w' Y' V',SR N w' F Y' ⟨al [(0,.an id ep 0 len),(1,.int .i64 (i:Int)),(2,.ab fl [e]),(7,.int .i64 1),(8,.int .i64 (len:Int))] V',h⟩ a'->cP w h Y w' h Y'->(ON 6 DO).wp C0.P Q a' w'):DO.wp C0.P Q a w:=by
 subst hN;have hu:C0.P.underlying 175=some (.slice 187):=aY (T6.cI 175 _ rfl);have ez:bI C0.P 187=some o.aP:=by rw[hz];exact T6.dF 187 5 rfl
 have wX:([e]:List PV).length=1:=rfl;refine wp_seq ?_;refine bG K0 bj S0 (M:=λex s'=>ex=.normal/\∃V',s'=⟨al [(0,.an id ep 0 len),(1,.int .i64 (i:Int)),(2,.ab fl [e])] V',h⟩) rfl ?_ RR ?_
 ·rw[ek];refine wC ?_;exact⟨rfl,_,St.aB ⟨rfl,rfl,rfl,trivial⟩⟩
 rintro ex s' a1 w1 Y1 ⟨rfl,V1,rfl⟩ R1 S1;refine wp_seq ?_;refine bG K0 bj S0 (M:=λex s'=>ex=.normal/\∃V',s'=⟨al [(0,.an id ep 0 len),(1,.int .i64 (i:Int)),(2,.ab fl [e])] V',h⟩) rfl ?_ R1 ?_
 ·refine wC ?_;apply R.slice;exact rfl;exact rfl;exact rfl;exact rfl;exact bV hu ez hg hi hle;refine wC ?_;exact⟨rfl,_,St.aB ⟨rfl,rfl,rfl,trivial⟩⟩
 rintro ex s' a2 w2 Y2 ⟨rfl,V2,rfl⟩ R2 S2;refine wp_seq ?_;refine bG K0 bj S0 (M:=λex s'=>ex=.normal/\∃V',s'=⟨al [(0,.an id ep 0 len),(1,.int .i64 (i:Int)),(2,.ab fl [e]),(7,.int .i64 1)] V',h⟩) rfl ?_ R2 ?_
 ·refine wC ?_;exact⟨rfl,_,St.aB ⟨rfl,rfl,rfl,rfl,trivial⟩⟩
 rintro ex s' a3 w3 Y3 ⟨rfl,V3,rfl⟩ R3 S3;refine wp_seq ?_;refine bG K0 bj S0 (M:=λex s'=>ex=.normal/\∃V',s'=⟨al [(0,.an id ep 0 len),(1,.int .i64 (i:Int)),(2,.ab fl [e]),(7,.int .i64 1)] V',h⟩) rfl ?_ R3 ?_
 ·refine wF λhc=>?_;exact⟨rfl,_,St.aB ⟨rfl,rfl,rfl,rfl,trivial⟩⟩
 rintro ex s' a4 w4 Y4 ⟨rfl,V4,rfl⟩ R4 S4;refine wp_seq ?_;refine bG K0 bj S0 (M:=λex s'=>ex=.normal/\∃V',s'=⟨al [(0,.an id ep 0 len),(1,.int .i64 (i:Int)),(2,.ab fl [e]),(7,.int .i64 1),(8,.int .i64 (len:Int))] V',h⟩) rfl ?_ R4 ?_
 ·refine wC ?_;apply R.yW T6 (o:=o);exact rfl;exact rfl;exact hg;exact(by omega);refine wC ?_;exact⟨rfl,_,St.aB ⟨rfl,rfl,rfl,rfl,rfl,trivial⟩⟩
 rintro ex s' a5 w5 Y5 ⟨rfl,V5,rfl⟩ R5 S5;refine wp_seq ?_;refine bG K0 bj S0 (M:=λex s'=>ex=.normal/\∃V',s'=⟨al [(0,.an id ep 0 len),(1,.int .i64 (i:Int)),(2,.ab fl [e]),(7,.int .i64 1),(8,.int .i64 (len:Int))] V',h⟩) rfl ?_ R5 ?_
 ·refine wF λhc=>?_;exact⟨rfl,_,St.aB ⟨rfl,rfl,rfl,rfl,rfl,trivial⟩⟩
 rintro ex s' a6 w6 Y6 ⟨rfl,V6,rfl⟩ R6 S6;exact k _ _ _ _ R6 (((((S1.trans S2).trans S3).trans S4).trans S5).trans S6)
end Zero
end Go.Pm
namespace Go.Pm
variable[iD:Inhabited Prop]
open Go.Proofs
set_option maxRecDepth 100000
set_option maxHeartbeats 4000000
theorem rE{pre:List PV}{X e:PV}{i:Nat}(hi:i<pre.length){ys cS:List PV}(ms:ys=((pre++[X]).drop i).take (pre.length+1 - i))(ko:cS=(pre++[X]).take (i+1)++ys.take (pre.length - i)++(pre++[X]).drop (i+1+(pre.length - i))):
  ys.take (pre.length - i)=pre.drop i/\cS.length=pre.length+1/\cS.take i++[e]++cS.drop (i+1)=pre.take i++[e]++pre.drop i:=by
 have h1:ys.take (pre.length - i)=pre.drop i:=by
  rw[ms,UI,Vd (by omega)];rw[Ul (by simp;omega)];rw[Ub (by simp;omega)]
 have h2:(pre++[X]).drop (i+1+(pre.length - i))=[]:=Uf (by simp;omega);have h3:cS=(pre++[X]).take (i+1)++pre.drop i:=by rw[ko,h1,h2];simp
 have h4:((pre++[X]).take (i+1)).length=i+1:=by simp;omega
 refine⟨h1,by rw[h3];simp;omega,?_⟩
 congr 1
 ·congr 1
  rw[h3,Ul (by omega),UI,Ul (by omega)]
  congr 1;omega
 rw[h3,Vd (by omega),Uf (by omega),UP]
attribute [local irreducible] aA az aH aF Ev ag ai aD bw
namespace Zero
variable{w:World}{F:Nat->Prop}{Y:List (Nat×Nat)}
theorem oY{h:aa}{id ep len i:Nat}{o:aC}{fl:Bool}{e X:PV}{pre:List PV}{vs:List Value}(H:aG w F Y h)(ha:L2 (ar w (Av F h Y) Y h) vs [.an id ep 0 len,.int .i64 (i:Int),.ab fl [e]])
  (hg:getM h id ep=some o) (hm:o.mu=.m) (hz:o.aP=5) (h9:o.es=pre++[X]) (qA:pre.length=len) (hi:i<len) (hn:len<100000000) (eO:pre.all (jB 5)=true) (hX:(cells X).length=5) (he:jB 5 e=true) (eJ:aL h=true):
  jC C0.P 2 w F Y h 351 vs (.an id ep 0 (len+1)) (h.set id {o with es:=pre.take i++[e]++pre.drop i}):=by
 have eE:o.es.length=len+1:=by rw[h9];simp[qA]
 have hu:C0.P.underlying 175=some (.slice 187):=aY (T6.cI 175 _ rfl);have na:bI C0.P 187=some 5:=T6.dF 187 5 rfl;have ez:bI C0.P 187=some o.aP:=by rw[hz];exact na
 obtain⟨g1,g2,g3⟩:=getM_some hg;have cx:=ae g1;obtain⟨bc,j3⟩:=cm H.len g1;obtain⟨T,cs,k1,k2,k3,k4,k5⟩:=(H.obj id o bc g1 j3 g3).c (by omega);have oB:len+1<=bc.2:=by omega
 have lE:aI h id=true:=by unfold aI;rw[g1];simp[hm]
 have hj:((len:Int)+1)=((len+1:Nat):Int):=by omega
 have qd:((i:Int)+1)=((i+1:Nat):Int):=by omega
 have ew:∀{w':World} {Y':List (Nat×Nat)},cP w h Y w' h Y'->Y'[id]?=some bc:=by
  intro w' Y' S
  obtain⟨o',bW,f1,f2,f3,f4,f5⟩:=S.refs id o bc g1 j3 g3;obtain rfl:=TF (g1.symm.trans f1);rw[f2,(f5 rfl).2.2]
 refine ga (P:=C0.P) (c:=DO) Tryz.func351 rC H ha (λa RR=>nP hg hz (by omega) hi hn rfl RR (λa1 w1 Y1 V1 R1 S1=>?_));refine wp_seq ?_;refine wp_seq ?_;apply bm K0 S0 (pre:=[_,_,_,_]) (post:=[_]) (R:=R1) (M:=λs'=>∃V',s'=⟨al ((28,.int .i64 ((len:Int)+1))::(29,.an id ep 0 len)::[(0,.an id ep 0 len),(1,.int .i64 (i:Int)),(2,.ab fl [e]),(7,.int .i64 1),(8,.int .i64 (len:Int))]) V',h⟩) (M2:=λs'=>∃V',s'=⟨al ((31,.bool false)::[(0,.an id ep 0 len),(1,.int .i64 (i:Int)),(2,.ab fl [e]),(7,.int .i64 1),(8,.int .i64 (len:Int))]) V',h⟩)
 rfl
 rfl
 ·refine wC ?_;exact⟨_,St.aB ⟨rfl,rfl,rfl,rfl,rfl,rfl,rfl,trivial⟩⟩
 ·rintro s1 a2 w2 Y2 ⟨V2,rfl⟩ R2 S2;refine⟨.int .i64 (bc.2:Int),h,nQ (t:=175) (x:=.tmp 29) R2.hr R2.er hu (cC (t:=29) rfl V2) hg (ew (S1.trans S2)) (by omega) _ rfl,?_⟩;show ag C0 _ _ ⟨bh (al _ V2) (some 30) (.int .i64 (bc.2:Int)),h⟩ _;rw[bd];refine wF λhc=>?_;exact⟨_,St.aB ⟨rfl,rfl,rfl,rfl,rfl,rfl,trivial⟩⟩
 rintro s3 a3 w3 Y3 ⟨V3,rfl⟩ R3 S3;refine bG K0 bj S0 (M:=λex s'=>ex=.normal/\∃V',s'=⟨al [(0,.an id ep 0 len),(1,.int .i64 (i:Int)),(2,.ab fl [e]),(7,.int .i64 1),(8,.int .i64 (len:Int))] V',h⟩) rfl ?_ R3 ?_
 ·refine wC ?_;exact⟨rfl,_,St.aB ⟨rfl,rfl,rfl,rfl,rfl,trivial⟩⟩
 rintro ex s' a4 w4 Y4 ⟨rfl,V4,rfl⟩ R4 S4;refine wp_seq ?_;refine bG K0 bj S0 (M:=λex s'=>ex=.normal/\∃V',s'=⟨al [(0,.an id ep 0 (len+1)),(1,.int .i64 (i:Int)),(2,.ab fl [e]),(7,.int .i64 1)] V',h⟩) rfl ?_ R4 ?_
 ·refine wC ?_;apply R.slice;exact rfl;exact rfl;exact rfl;exact rfl
  ·show bO C0.P h 175 (.an id ep 0 len) none (some (.int .i64 ((len:Int)+1))) none=_;rw[hj];exact lD hu ez hg (by omega) (by omega)
  refine wC ?_;exact⟨rfl,_,St.aB ⟨rfl,rfl,rfl,rfl,trivial⟩⟩
 rintro ex s' a5 w5 Y5 ⟨rfl,V5,rfl⟩ R5 S5;refine wp_seq ?_;refine wp_seq ?_;apply bm K0 S0 (pre:=[_,_,_,_,_,_]) (post:=[_]) (R:=R5) (M:=λs'=>∃V',s'=⟨al ((61,.ab fl [e])::(66,.an id ep (i+1) (len+1 - (i+1)))::[(0,.an id ep 0 (len+1)),(1,.int .i64 (i:Int)),(2,.ab fl [e]),(7,.int .i64 1)]) V',h⟩) (M2:=λs'=>∃V',s'=⟨al ((68,.bool true)::[(0,.an id ep 0 (len+1)),(1,.int .i64 (i:Int)),(2,.ab fl [e]),(7,.int .i64 1)]) V',h⟩)
 rfl
 rfl
 ·refine wC ?_;apply R.slice;exact rfl;exact rfl;exact rfl;exact rfl
  ·show bO C0.P h 175 (.an id ep 0 (len+1)) (some (.int .i64 ((i:Int)+1))) none none=_;rw[qd];exact bV hu ez hg (by omega) (by omega)
  refine wC ?_;exact⟨_,St.aB ⟨rfl,rfl,rfl,rfl,rfl,rfl,trivial⟩⟩
 ·rintro s1 a6 w6 Y6 ⟨V6,rfl⟩ R6 S6;refine⟨.bool false,h,mG (t:=175) (tR:=4) (x:=.tmp 61) (y:=.tmp 66) (f:=379) R6.hr R6.er hu na (cC (t:=61) rfl V6) (cC (t:=66) rfl V6) hg hm (by omega) Tryz.func379 (by kernel_rfl) (by kernel_rfl) (by kernel_rfl) (by kernel_rfl) _ rfl,?_⟩;show ag C0 _ _ ⟨bh (al _ V6) (some 67) (.bool false),h⟩ _;rw[bd];refine wC ?_;exact⟨_,St.aB ⟨rfl,rfl,rfl,rfl,rfl,trivial⟩⟩
 rintro s7 a7 w7 Y7 ⟨V7,rfl⟩ R7 S7;obtain⟨ys,ms⟩:∃ys,ys=((pre++[X]).drop i).take (pre.length+1 - i):=⟨_,rfl⟩;obtain⟨cS,ko⟩:∃cS,cS=(pre++[X]).take (i+1)++ys.take (pre.length - i)++(pre++[X]).drop (i+1+(pre.length - i)):=⟨_,rfl⟩;obtain⟨l1,l2,l3⟩:=rE (e:=e) (by omega) ms ko;rw[qA]at l1 l2;have Lq:ys.length=len+1 - i:=by rw[ms];simp;omega
 have DT:∀v∈ys,(cells v).length=5:=by
  intro v hv
  rw[ms]at hv;have:=Ug (Un hv);rcases TP.1 this with hv |hv
  ·have:=TH.1 eO v hv;unfold jB at this;simp only[TK,decide_eq_true_eq]at this;exact this.1.2
  ·obtain rfl:=Ua.1 hv;exact hX
 have vt:(cells e).length=5/\(cells e).all aZ=true:=by
  unfold jB at he;simp only[TK,decide_eq_true_eq]at he;exact⟨he.1.2,he.2⟩
 have DP:min ys.length (len+1 - (i+1))=len - i:=by omega
 have tF:h.set id {o with es:=o.es.take (i+1)++ys.take (min ys.length (len+1 - (i+1)))++o.es.drop (i+1+min ys.length (len+1 - (i+1)))}=h.set id {o with es:=cS}:=by
  rw[DP,h9,ko,qA]
 have Fl:getM (h.set id {o with es:=cS}) id ep=some {o with es:=cS}:=bo (TM cx) g2 (by show o.mu≠.x;rw[hm];simp);have rD:min ([e]:List PV).length (len+1 - i)=1:=by show min 1 _=1;omega
 have rF:(h.set id {o with es:=cS}).set id {({o with es:=cS}:aC)with es:=cS.take i++[e].take (min ([e]:List PV).length (len+1 - i))++cS.drop (i+min ([e]:List PV).length (len+1 - i))}=h.set id {o with es:=pre.take i++[e]++pre.drop i}:=by
  rw[UM,rD,<-l3];rfl
 refine bG K0 bj S0 (M:=λex s'=>ex=.ret/\∃V',s'=⟨al [(6,.an id ep 0 (len+1))] V',h.set id {o with es:=pre.take i++[e]++pre.drop i}⟩) rfl ?_ R7 ?_
 ·refine wC ?_;apply D.slice;exact eJ;exact rfl;exact lE;exact rfl;exact rfl;exact rfl;exact rfl;exact rfl;exact rfl
  ·show bO C0.P h 175 (.an id ep 0 (len+1)) (some (.int .i64 ((i:Int)+1))) none none=_;rw[qd];exact bV hu ez hg (by omega) (by omega)
  refine wC ?_;apply D.slice;exact eJ;exact rfl;exact lE;exact rfl;exact rfl;exact rfl;exact rfl;exact rfl;exact rfl;exact bV hu ez hg (by omega) (by omega);apply D.copy T6 (ys:=ys) (o:=o) (sz:=5);exact rfl;exact rfl;exact rfl;exact rfl;exact rfl
  ·simp only[bC,hg];rw[if_pos (by omega),h9,ms,qA]
  exact hg;exact hm;exact hz;omega
  ·rw[TH]
   intro v hv
   simp[DT v hv]
  ·rw[DP,l1,TH]
   intro v hv
   have:=TH.1 eO v (Ug hv);unfold jB at this;simp only[TK]at this ⊢;exact⟨this.1.2,this.2⟩
  refine bw.heap tF ?_;refine wC ?_;apply R.slice;exact rfl;exact rfl;exact rfl;exact rfl;exact bV (o:={o with es:=cS}) hu ez Fl (by omega) (by show len+1<=cS.length;omega);refine wC ?_;apply R.copy T6 (ys:=[e]) (o:={o with es:=cS}) (sz:=5);exact rfl;exact rfl;exact rfl;exact rfl;exact rfl;exact Fl;exact hm;exact hz;show i+(len+1 - i)<=cS.length;omega;simp[vt.1];simp only[rD,UX,Vh,U6,Vw,vt.1,vt.2];rfl;refine wC ?_;exact⟨rfl,_,(congrArg (λhh=>(⟨_,hh⟩:St)) rF).trans (St.aB ⟨rfl,trivial⟩)⟩
 rintro ex s8 a8 w8 Y8 ⟨rfl,V8,rfl⟩ R8 S8;refine⟨.inr rfl,_,Y8,R8,(((((S1.trans S3).trans S4).trans S5).trans S7).trans S8),[.an id ep 0 (len+1)],?_,λu Jo=>⟨Y8,Jo,R8.hr,(((((S1.trans S3).trans S4).trans S5).trans S7).trans S8)⟩⟩;exact cX (L:=[(6,.an id ep 0 (len+1))]) rfl
 all_goals rfl
end Zero
end Go.Pm
