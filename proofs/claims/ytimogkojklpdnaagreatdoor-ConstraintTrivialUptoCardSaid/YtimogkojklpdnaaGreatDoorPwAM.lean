/-
  Pm, a part. Conditions: none.
-/
import Derived.Test.YtimogkojklpdnaaGreatDoorPwAL
set_option linter.unusedVariables false
set_option linter.unusedSimpArgs false
set_option linter.unnecessarySimpa false
namespace Go.Pm
namespace bC
open Go.Proofs
attribute [local irreducible] aD az aL aJ Ev ah aj ay bg bN
set_option maxRecDepth 4000
theorem SF(b:Nat)(H:ab)(hb:H[b]?=some ⟨.m,0,1,[.int .u64 1]⟩):ay C 326 [.ak b 0 0 1,.int .i64 0] H (λr h'=>r=.bool true/\h'=H):=by
 refine ay.x T6 Tryz.func326 rfl ?_;refine wA ?_;refine .raw 0 rfl ?_;refine wA ?_;refine .mk (c:=1) ?_ rfl (by decide);refine wA ?_;refine .mk 1 rfl ?_;refine wA ?_;exact⟨rfl,rfl⟩
theorem ci(b:Nat)(H:ab)(hH:HR H)(hb:H[b]?=some ⟨.m,0,1,[.int .u64 0]⟩):ay C 366 [.ak b 0 0 1,.int .i64 0] H (λr h'=>r=.cA []/\h'=H.set b ⟨.m,0,1,[.int .u64 1]⟩):=by
 have ee:=hH.closed;refine ay.x T6 Tryz.func366 rfl ?_;refine wA ?_;refine .raw 0 rfl ?_;refine wA ?_;refine .mk 1 rfl (by decide) ?_;refine wA ?_;refine .mk 1 rfl ?_;refine wA ?_;exact⟨rfl,rfl⟩
theorem Lq(b:Nat)(H:ab)(hb:H[b]?=some ⟨.m,0,1,[.int .u64 1]⟩):ay C 325 [.ak b 0 0 1,.int .i64 1] H (λr h'=>r=.int .i64 0/\h'=H):=by
 have hh:=SF b H hb;refine ay.x T6 Tryz.func325 rfl ?_;refine wA ?_;refine cU.nat T6 (λk L K=>L=[(0,.ak b 0 0 1),(6,.int .i64 1),(7,.int .i64 0)]/\K=H) 1 (.nx ⟨rfl,rfl⟩) ?_;rintro k _ _ O ⟨rfl,rfl⟩;refine wA ?_;refine .same (hh.mono λr h' h=>⟨h.1,h.2⟩) (λr hr=>?_);subst hr;refine wA ?_;exact⟨rfl,rfl⟩
structure Sys(h:ab)(x m1 m2 c ep:Nat)(u:Tm)(tl:List PV):Prop where
 hx:h[x]?=some ⟨.m,0,5,[.agg [.ak c ep 0 1,.int .i64 0,.cG m1,.cG m2,.aa true []]]⟩
 h1:h[m1]?=some ⟨.m,0,0,[]⟩
 h2:h[m2]?=some ⟨.m,0,0,[]⟩
 hc:h[c]?=some ⟨.m,ep,4,.agg [.int .i64 u.k,.str u.s,.int .i64 u.o,.aa false (ae u.l)]::tl⟩
 ht:ao tl=true
theorem Sys.of_eq{h h':ab}{x m1 m2 c ep:Nat}{u:Tm}{tl:List PV}(s:Sys h x m1 m2 c ep u tl)(n:Nat)(hn:x<n/\m1<n/\m2<n/\c<n)(e:∀j,j<n->h'[j]?=h[j]?):Sys h' x m1 m2 c ep u tl:=
 ⟨(e _ hn.1).trans s.hx,(e _ hn.2.1).trans s.h1,(e _ hn.2.2.1).trans s.h2,(e _ hn.2.2.2).trans s.hc,s.ht⟩
theorem WR(x m1 m2 c ep:Nat)(u:Tm)(tl:List PV)(hu:ax u<10000000)(H:ab)(hH:HR H)(s:Sys H x m1 m2 c ep u tl):ay C 368 [.ptr x 0 0 0,enc u] H (λr h'=>r=.int .i64 0/\iF H h'):=by
 have hb:=(EX [u] [] [] u rfl (by simp[fu]) (by simp) (λt ht=>by simp at ht;rw[ht];omega)).nine;have ee:=(hH.du (HV.one (ep:=0) (n:=4) (es:=[.agg [.int .i64 u.k,.str u.s,.int .i64 u.o,.aa false (ae u.l)]]) (by simp))).closed;have Oc:=ag s.hx;have Lr:=ag s.hc;have fx:(H++[(⟨.m,0,4,[.agg [.int .i64 u.k,.str u.s,.int .i64 u.o,.aa false (ae u.l)]]⟩:aw)])[x]?=some ⟨.m,0,5,[.agg [.ak c ep 0 1,.int .i64 0,.cG m1,.cG m2,.aa true []]]⟩:=by rw[abW Oc];exact s.hx
 have fc:(H++[(⟨.m,0,4,[.agg [.int .i64 u.k,.str u.s,.int .i64 u.o,.aa false (ae u.l)]]⟩:aw)])[c]?=some ⟨.m,ep,4,ae [u]++tl⟩:=by rw[abW Lr,s.hc,ae,ar];rfl
 have kV:Ax (H++[(⟨.m,0,4,[.agg [.int .i64 u.k,.str u.s,.int .i64 u.o,.aa false (ae u.l)]]⟩:aw)]) (.ak c ep 0 1) [u]:=⟨c,ep,tl,rfl,fc,s.ht⟩;rw[ar u]at hb ⊢;refine ay.x T6 Tryz.func368 rfl ?_;refine wA ?_;refine aj.op kV hb ?_;refine wA ?_;exact⟨rfl,(iF.refl _).db (HV.one (by simp))⟩
theorem xr{u a:Tm}{p q:List Tm}(e:[u]=p++a::q):p=[]/\a=u/\q=[]:=by
 cases p with
 |nil=>simp at e;exact⟨rfl,e.1.symm,e.2⟩
 |cons b p=>simp at e
theorem WS(x m1 m2 c ep:Nat)(u:Tm)(tl:List PV)(hu:ax u<10000000)(f1:dg u il=false)(f2:dg u u7=false)(H:ab)(hH:HR H)(s:Sys H x m1 m2 c ep u tl):
  ay C 324 [.ptr x 0 0 0,enc u] H (λr h'=>HR h'/\H.length<=h'.length/\(∀j,j<H.length->h'[j]?=H[j]?)/\∃b,r=.ak b 0 0 1/\H.length<=b/\h'[b]?=some ⟨.m,0,1,[.int .u64 1]⟩):=by
 have hs:=pt u f1 f2;have Oc:=ag s.hx;have Lr:=ag s.hc;have h1l:=ag s.h1;have h2l:=ag s.h2;obtain⟨H1,lF⟩:∃H1:ab,H1=H++[(⟨.m,0,4,[.agg [.int .i64 u.k,.str u.s,.int .i64 u.o,.aa false (ae u.l)]]⟩:aw)]:=⟨_,rfl⟩;have ext:∀J:ab,Sys (H++J) x m1 m2 c ep u tl:=λJ=>s.of_eq H.length ⟨Oc,h1l,h2l,Lr⟩ λj hj=>abW hj
 have aa0:H1.length=H.length+1:=by rw[lF];simp
 have WN:HR H1:=by rw[lF];exact hH.du (HV.one (by simp))
 have aa3:∀j,j<H.length->H1[j]?=H[j]?:=λj hj=>by rw[lF,abW hj]
 have WM:H1[H.length]?=some ⟨.m,0,4,[.agg [.int .i64 u.k,.str u.s,.int .i64 u.o,.aa false (ae u.l)]]⟩:=by rw[lF];simp
 have s1:Sys H1 x m1 m2 c ep u tl:=by rw[lF];exact ext _
 have fx:=s1.hx;have fc:=s1.hc;have uN:ae [u]=[.agg [.int .i64 u.k,.str u.s,.int .i64 u.o,.aa false (ae u.l)]]:=by rw[ae,ar];rfl
 rw[uN]at hs;rw[ar]at hs;rw[ar u];have XT:([]:List Tm).length=0:=rfl;have h01:[u].length=1:=rfl;have pF:∀K:ab,HR K->H.length+2<=K.length->(∀j,j<H.length->K[j]?=H[j]?)->Sys K x m1 m2 c ep u tl:=λK _ _ h=>s.of_eq H.length ⟨Oc,h1l,h2l,Lr⟩ h
 refine ay.x T6 Tryz.func324 rfl ?_;refine wA ?_;rw[<-lF];refine wA ?_;refine .raw 0 rfl ?_;refine wA ?_;have abL:(H1++[(⟨.m,0,0+1,List.replicate (0+1) (.int .u64 0)⟩:aw)])[H.length]?=some ⟨.m,0,4,[.agg [.int .i64 u.k,.str u.s,.int .i64 u.o,.aa false (ae u.l)]]⟩:=by rw[abW (by omega)];exact WM
 skip
 refine .p hs ?_;refine wA ?_;refine cU.zip T6 [u] (λp q L K=>L=[(0,.ptr x 0 0 0),(5,.ak H1.length 0 0 1),(17,.aa false [.agg [.int .i64 u.k,.str u.s,.int .i64 u.o,.aa false (ae u.l)]]),(18,.int .i64 1),(19,.int .i64 p.length)]/\HR K/\H1.length+1<=K.length/\(∀j,j<H1.length->K[j]?=H1[j]?)/\K[H1.length]?=some ⟨.m,0,1,[.int .u64 (if q.length=0 then 1 else 0)]⟩) (.nx ⟨rfl,WN.du (HV.one rfl),by simp,λj hj=>abW hj,by simp⟩) ?_ ?_
 ·rintro p a q _ K O e ⟨rfl,hK,Dr,z8,XK⟩;obtain⟨rfl,MK,rfl⟩:=xr e;have MK:=MK.symm;subst MK;have sK:Sys K x m1 m2 c ep u tl:=s1.of_eq H1.length (by omega) z8;have sK2:Sys (K++[(⟨.m,0,4,[.agg [.int .i64 u.k,.str u.s,.int .i64 u.o,.aa false (ae u.l)]]⟩:aw)]) x m1 m2 c ep u tl:=sK.of_eq K.length ⟨ag sK.hx,ag sK.h1,ag sK.h2,ag sK.hc⟩ λj hj=>abW hj
  have hc:=WR x m1 m2 c ep u tl hu (K++[(⟨.m,0,4,[.agg [.int .i64 u.k,.str u.s,.int .i64 u.o,.aa false (ae u.l)]]⟩:aw)]) (hK.du (HV.one (by simp))) sK2;rw[ar]at hc;refine wA ?_;refine .ex hc (λh' hE=>?_);obtain⟨J,hJ,rfl⟩:=hE;have Ae:(K++[(⟨.m,0,4,[.agg [.int .i64 u.k,.str u.s,.int .i64 u.o,.aa false (ae u.l)]]⟩:aw)]++J)[H1.length]?=some ⟨.m,0,1,[.int .u64 0]⟩:=by rw[acp,abW (by omega)];exact XK
  have hrr:HR (K++[(⟨.m,0,4,[.agg [.int .i64 u.k,.str u.s,.int .i64 u.o,.aa false (ae u.l)]]⟩:aw)]++J):=(hK.du (HV.one (by simp))).du hJ;have hf:=ci H1.length _ hrr Ae;refine wA ?_;refine .ln hf (λr h' hr=>by rw[hr.2];simp) (λr h' hr=>?_);obtain⟨rfl,rfl⟩:=hr;refine wA ?_;refine .nx ⟨rfl,hrr.set _ (by simp) (by simp[bG,bu]),by simp;omega,λj hj=>?_,abY (ag Ae)⟩;rw[ab0 (by omega),acp,abW (by omega)];exact z8 j hj
 ·rintro _ K O ⟨rfl,hK,Dr,z8,XK⟩;refine wA ?_;exact⟨hK,by omega,λj hj=>(z8 j (by omega)).trans (aa3 j hj),H1.length,rfl,by omega,XK⟩
theorem WT(x m1 m2 c ep b:Nat)(u:Tm)(tl:List PV)(H:ab)(hH:HR H)(s:Sys H x m1 m2 c ep u tl):
  ay C 323 [.ptr x 0 0 0,.ak b 0 0 1] H (λr h'=>r=.cA [.ak b 0 0 1,.ak H.length 0 0 1]/\h'=H++[⟨.m,0,1,[.int .u64 0]⟩]):=by
 have Oc:=ag s.hx;have Lr:=ag s.hc;have h1l:=ag s.h1;have h2l:=ag s.h2;have fx:=s.hx;have XT:([]:List Tm).length=0:=rfl;have h01:[u].length=1:=rfl;obtain⟨H1,lF⟩:∃H1:ab,H1=H++[(⟨.m,0,0+1,List.replicate (0+1) (.int .u64 0)⟩:aw)]:=⟨_,rfl⟩;have s1:Sys H1 x m1 m2 c ep u tl:=by rw[lF];exact s.of_eq H.length ⟨Oc,h1l,h2l,Lr⟩ λj hj=>abW hj
 have gx:=s1.hx;have gc:=s1.hc;have g1:=s1.h1;refine ay.x T6 Tryz.func323 rfl ?_;refine wA ?_;refine .raw 0 rfl ?_;refine wA ?_;rw[<-lF];refine wA ?_;refine cU.zip T6 [u] (λp q L K=>L=[(0,.ptr x 0 0 0),(1,.ak b 0 0 1),(6,.ak H.length 0 0 1),(21,.int .i64 1),(22,.int .i64 p.length)]/\K=H1) (.nx ⟨rfl,rfl⟩) ?_ ?_
 ·rintro p a q _ _ O e ⟨rfl,rfl⟩;obtain⟨rfl,MK,rfl⟩:=xr e;have MK:=MK.symm;subst MK;refine wA ?_;refine .Ot rfl ?_ g1;refine wA ?_;exact .nx ⟨rfl,rfl⟩
 ·rintro _ _ O ⟨rfl,rfl⟩;refine wA ?_;exact⟨rfl,lF⟩
theorem SG(a b:Tm)(ha:ax a<1000000000)(hb:ax b<1000000000):aI C 365 [enc a,enc b] (.bool (decide (aW a b=0))):=by
 have h1:=(eY a b ha hb).nine;rw[ar,ar]at h1 ⊢;refine aI.x T6 Tryz.func365 rfl ?_;refine wA ?_;refine .p h1 ?_;refine wC (λhc=>?_) λhc=>?_
 all_goals exact⟨_,rfl,by simp[aR, *]⟩
theorem _root_.Go.Pm.ZE{C:cW}(T:mD C.P){run:iR}{lv:Nat}{L:Al}{O:Nat->PV}{h:ab}{t el:TypeId}{x:Operand}{id ep len:Nat}{o:aw}(hx:cS L x=some (.ak id ep 0 len))(hk:T.kd t=some (.sl el))(hg:getM h id ep=some o)(hl:len<=o.es.length):au C run lv (.call ⟨.builtin .len,#[x],#[t]⟩) (al L O) h=some (.int .i64 len,h):=by
 simp[au,bt,an hx,pO,bB (T.cY _ _ hk),hg,hl]
theorem SH(u:Tm)(hu:ax u<10000000)(f1:dg u il=false)(f2:dg u u7=false):ay C 322 [.aa false [],enc u] [⟨.m,0,4,[enc u]⟩] (λr h'=>HR h'/\1<=h'.length/\(∀j,j<1->h'[j]?=[(⟨.m,0,4,[enc u]⟩:aw)][j]?)/\∃x m1 m2 c ep tl,r=.ptr x 0 0 0/\1<=x/\Sys h' x m1 m2 c ep u tl):=by
 have hs:=pt u f1 f2;have uN:ae [u]=[.agg [.int .i64 u.k,.str u.s,.int .i64 u.o,.aa false (ae u.l)]]:=by rw[ae,ar];rfl
 have XT:([]:List Tm).length=0:=rfl;have h01:[u].length=1:=rfl;rw[uN]at hs;rw[ar]at hs;rw[ar u]
 have hBr:HR [(⟨.m,0,4,[.agg [.int .i64 u.k,.str u.s,.int .i64 u.o,.aa false (ae u.l)]]⟩:aw),⟨.m,0,4,[.agg [.int .i64 u.k,.str u.s,.int .i64 u.o,.aa false (ae u.l)]]⟩,⟨.m,0,0,[]⟩,⟨.m,0,0,[]⟩,⟨.m,0,5,[.agg [.aa true [],.int .i64 0,.cG 2,.cG 3,.aa true []]]⟩]:=by
  intro o ho
  simp only[ab5,adh,or_false]at ho;rcases ho with rfl |rfl |rfl |rfl |rfl <;>simp[bG,bu,bm]
 have hBc:=hBr.closed;refine ay.x T6 Tryz.func322 rfl ?_;refine wH ?_;refine .raw (λO=>?_);have OI:bE 4 [.aa false []] ([(⟨.m,0,4,[.agg [.int .i64 u.k,.str u.s,.int .i64 u.o,.aa false (ae u.l)]]⟩:aw),⟨.m,0,4,[.agg [.int .i64 u.k,.str u.s,.int .i64 u.o,.aa false (ae u.l)]]⟩,⟨.m,0,0,[]⟩,⟨.m,0,0,[]⟩,⟨.m,0,5,[.agg [.aa true [],.int .i64 0,.cG 2,.cG 3,.aa true []]]⟩].map bY)=some (.aa true [],[(⟨.m,0,4,[.agg [.int .i64 u.k,.str u.s,.int .i64 u.o,.aa false (ae u.l)]]⟩:aw),⟨.m,0,4,[.agg [.int .i64 u.k,.str u.s,.int .i64 u.o,.aa false (ae u.l)]]⟩,⟨.m,0,0,[]⟩,⟨.m,0,0,[]⟩,⟨.m,0,5,[.agg [.aa true [],.int .i64 0,.cG 2,.cG 3,.aa true []]]⟩].map bY):=rfl;refine D.move rfl ?_;refine .F8 [(⟨.m,0,4,[.agg [.int .i64 u.k,.str u.s,.int .i64 u.o,.aa false (ae u.l)]]⟩:aw),⟨.m,0,4,[.agg [.int .i64 u.k,.str u.s,.int .i64 u.o,.aa false (ae u.l)]]⟩,⟨.m,0,0,[]⟩,⟨.m,0,0,[]⟩,⟨.m,0,5,[.agg [.aa true [],.int .i64 0,.cG 2,.cG 3,.aa true []]]⟩] [] ⟨0,λn _=>EA rfl rfl OI rfl⟩ ?_ rfl rfl hBc rfl rfl;refine .F8 [(⟨.m,0,4,[.agg [.int .i64 u.k,.str u.s,.int .i64 u.o,.aa false (ae u.l)]]⟩:aw),⟨.m,0,4,[.agg [.int .i64 u.k,.str u.s,.int .i64 u.o,.aa false (ae u.l)]]⟩,⟨.m,0,0,[]⟩,⟨.m,0,0,[]⟩,⟨.m,0,5,[.agg [.aa true [],.int .i64 0,.cG 2,.cG 3,.aa true []]]⟩] [] ⟨0,λn _=>KI T6 rfl rfl⟩ ?_ rfl rfl hBc rfl rfl;refine .F8 [(⟨.m,0,4,[.agg [.int .i64 u.k,.str u.s,.int .i64 u.o,.aa false (ae u.l)]]⟩:aw),⟨.m,0,4,[.agg [.int .i64 u.k,.str u.s,.int .i64 u.o,.aa false (ae u.l)]]⟩,⟨.m,0,0,[]⟩,⟨.m,0,0,[]⟩,⟨.m,0,5,[.agg [.aa true [],.int .i64 0,.cG 2,.cG 3,.aa true []]]⟩] [] ⟨0,λn _=>KH T6 (vs:=[.agg [.int .i64 u.k,.str u.s,.int .i64 u.o,.aa false (ae u.l)]]) (by exact rfl) (by simp)⟩ ?_ rfl rfl hBc rfl rfl
 refine bg.two rfl rfl ⟨0,λn _=>Ar rfl rfl (gJ T6 (lv:=2) (full:=true) (ys:=[.agg [.int .i64 u.k,.str u.s,.int .i64 u.o,.aa false (ae u.l)]]) (by omega) rfl rfl rfl rfl rfl (by decide) rfl rfl rfl rfl (by simp))⟩ ?_;refine bg.two rfl rfl ⟨0,λn _=>ZE T6 rfl rfl rfl (by simp)⟩ ?_;refine D.move rfl ?_;refine bg.nil ⟨_,_,rfl,?_⟩
 conv=>whnf
 have aa4:HR [(⟨.m,0,4,[.agg [.int .i64 u.k,.str u.s,.int .i64 u.o,.aa false (ae u.l)]]⟩:aw),⟨.m,0,4,[.agg [.int .i64 u.k,.str u.s,.int .i64 u.o,.aa false (ae u.l)]]⟩,⟨.m,0,0,[]⟩,⟨.m,0,0,[]⟩,⟨.m,0,5,[.agg [.aa true [],.int .i64 0,.cG 2,.cG 3,.aa true []]]⟩,⟨.m,0,4,[.agg [.int .i64 u.k,.str u.s,.int .i64 u.o,.aa false (ae u.l)]]⟩,⟨.m,0,4,[.agg [.int .i64 u.k,.str u.s,.int .i64 u.o,.aa false (ae u.l)]]⟩]:=by
  intro o ho
  simp only[ab5,adh,or_false]at ho;rcases ho with rfl |rfl |rfl |rfl |rfl |rfl |rfl <;>simp[bG,bu,bm]
 have abM:=aa4.closed
 have aa5:HR [(⟨.m,0,4,[.agg [.int .i64 u.k,.str u.s,.int .i64 u.o,.aa false (ae u.l)]]⟩:aw),⟨.m,0,4,[.agg [.int .i64 u.k,.str u.s,.int .i64 u.o,.aa false (ae u.l)]]⟩,⟨.m,0,0,[]⟩,⟨.m,0,0,[]⟩,⟨.m,0,5,[.agg [.ak 7 0 0 1,.int .i64 0,.cG 2,.cG 3,.aa true []]]⟩,⟨.m,0,4,[.agg [.int .i64 u.k,.str u.s,.int .i64 u.o,.aa false (ae u.l)]]⟩,⟨.m,0,4,[.agg [.int .i64 u.k,.str u.s,.int .i64 u.o,.aa false (ae u.l)]]⟩,⟨.m,0,4,[.agg [.int .i64 u.k,.str u.s,.int .i64 u.o,.aa false (ae u.l)]]⟩]:=by
  intro o ho
  simp only[ab5,adh,or_false]at ho;rcases ho with rfl |rfl |rfl |rfl |rfl |rfl |rfl |rfl <;>simp[bG,bu,bm]
 refine cU.zip T6 [u] (λp q L K=>L=[(0,.aa false []),(5,.ptr 4 0 0 0),(23,.ak 5 0 0 1),(24,.int .i64 1),(25,.int .i64 p.length)]/\((q.length=1/\K=[(⟨.m,0,4,[.agg [.int .i64 u.k,.str u.s,.int .i64 u.o,.aa false (ae u.l)]]⟩:aw),⟨.m,0,4,[.agg [.int .i64 u.k,.str u.s,.int .i64 u.o,.aa false (ae u.l)]]⟩,⟨.m,0,0,[]⟩,⟨.m,0,0,[]⟩,⟨.m,0,5,[.agg [.aa true [],.int .i64 0,.cG 2,.cG 3,.aa true []]]⟩,⟨.m,0,4,[.agg [.int .i64 u.k,.str u.s,.int .i64 u.o,.aa false (ae u.l)]]⟩])\/(q.length=0/\K=[(⟨.m,0,4,[.agg [.int .i64 u.k,.str u.s,.int .i64 u.o,.aa false (ae u.l)]]⟩:aw),⟨.m,0,4,[.agg [.int .i64 u.k,.str u.s,.int .i64 u.o,.aa false (ae u.l)]]⟩,⟨.m,0,0,[]⟩,⟨.m,0,0,[]⟩,⟨.m,0,5,[.agg [.ak 7 0 0 1,.int .i64 0,.cG 2,.cG 3,.aa true []]]⟩,⟨.m,0,4,[.agg [.int .i64 u.k,.str u.s,.int .i64 u.o,.aa false (ae u.l)]]⟩,⟨.m,0,4,[.agg [.int .i64 u.k,.str u.s,.int .i64 u.o,.aa false (ae u.l)]]⟩,⟨.m,0,4,[.agg [.int .i64 u.k,.str u.s,.int .i64 u.o,.aa false (ae u.l)]]⟩]))) (.nx ⟨rfl,.inl ⟨rfl,rfl⟩⟩) ?_ ?_
 ·rintro p a q _ K O e ⟨rfl,hK⟩;obtain⟨rfl,MK,rfl⟩:=xr e;obtain rfl:K=[(⟨.m,0,4,[.agg [.int .i64 u.k,.str u.s,.int .i64 u.o,.aa false (ae u.l)]]⟩:aw),⟨.m,0,4,[.agg [.int .i64 u.k,.str u.s,.int .i64 u.o,.aa false (ae u.l)]]⟩,⟨.m,0,0,[]⟩,⟨.m,0,0,[]⟩,⟨.m,0,5,[.agg [.aa true [],.int .i64 0,.cG 2,.cG 3,.aa true []]]⟩,⟨.m,0,4,[.agg [.int .i64 u.k,.str u.s,.int .i64 u.o,.aa false (ae u.l)]]⟩]:=by rcases hK with h |h;exact h.2;exact absurd h.1 (by simp)
  refine wA ?_;refine .mk (.aa false [.agg [.int .i64 u.k,.str u.s,.int .i64 u.o,.aa false (ae u.l)]]) (by simpa[aQ,cj,aZ]using hs) ?_;refine wA ?_;refine .sn (es:=[]) ?_ rfl (by simp);refine wA ?_;exact .nx ⟨rfl,.inr ⟨rfl,rfl⟩⟩
 ·rintro _ K O ⟨rfl,hK⟩;obtain rfl:K=[(⟨.m,0,4,[.agg [.int .i64 u.k,.str u.s,.int .i64 u.o,.aa false (ae u.l)]]⟩:aw),⟨.m,0,4,[.agg [.int .i64 u.k,.str u.s,.int .i64 u.o,.aa false (ae u.l)]]⟩,⟨.m,0,0,[]⟩,⟨.m,0,0,[]⟩,⟨.m,0,5,[.agg [.ak 7 0 0 1,.int .i64 0,.cG 2,.cG 3,.aa true []]]⟩,⟨.m,0,4,[.agg [.int .i64 u.k,.str u.s,.int .i64 u.o,.aa false (ae u.l)]]⟩,⟨.m,0,4,[.agg [.int .i64 u.k,.str u.s,.int .i64 u.o,.aa false (ae u.l)]]⟩,⟨.m,0,4,[.agg [.int .i64 u.k,.str u.s,.int .i64 u.o,.aa false (ae u.l)]]⟩]:=by rcases hK with h |h;exact absurd h.1 (by simp);exact h.2
  have eS:[(⟨.m,0,4,[.agg [.int .i64 u.k,.str u.s,.int .i64 u.o,.aa false (ae u.l)]]⟩:aw),⟨.m,0,4,[.agg [.int .i64 u.k,.str u.s,.int .i64 u.o,.aa false (ae u.l)]]⟩,⟨.m,0,0,[]⟩,⟨.m,0,0,[]⟩,⟨.m,0,5,[.agg [.ak 7 0 0 1,.int .i64 0,.cG 2,.cG 3,.aa true []]]⟩,⟨.m,0,4,[.agg [.int .i64 u.k,.str u.s,.int .i64 u.o,.aa false (ae u.l)]]⟩,⟨.m,0,4,[.agg [.int .i64 u.k,.str u.s,.int .i64 u.o,.aa false (ae u.l)]]⟩,⟨.m,0,4,[.agg [.int .i64 u.k,.str u.s,.int .i64 u.o,.aa false (ae u.l)]]⟩][7]?=some ⟨.m,0,4,ae [u]⟩:=by rw[uN];rfl
  have XV:=mN (ts:=[u]) eS (by simp) (λt ht=>by simp at ht;rw[ht];omega);have z7:eJ [u]=[u]:=rfl;rw[z7,uN]at XV;refine wA ?_;refine aj.cV rfl XV ?_;have hc:=qp _ rfl SG u [] ([(⟨.m,0,4,[.agg [.int .i64 u.k,.str u.s,.int .i64 u.o,.aa false (ae u.l)]]⟩:aw),⟨.m,0,4,[.agg [.int .i64 u.k,.str u.s,.int .i64 u.o,.aa false (ae u.l)]]⟩,⟨.m,0,0,[]⟩,⟨.m,0,0,[]⟩,⟨.m,0,5,[.agg [.ak 7 0 0 1,.int .i64 0,.cG 2,.cG 3,.aa true []]]⟩,⟨.m,0,4,[.agg [.int .i64 u.k,.str u.s,.int .i64 u.o,.aa false (ae u.l)]]⟩,⟨.m,0,4,[.agg [.int .i64 u.k,.str u.s,.int .i64 u.o,.aa false (ae u.l)]]⟩,⟨.m,0,4,[.agg [.int .i64 u.k,.str u.s,.int .i64 u.o,.aa false (ae u.l)]]⟩].set 7 ⟨.m,0,4,ae [u]⟩) (by rw[uN];exact aa5) 7 0 rfl (by simp) (λt ht=>by simp at ht;rw[ht];omega);have Vc:dd [u]=[u]:=rfl;rw[Vc,uN]at hc;refine wA ?_;refine .ln hc (λr h' hr=>by obtain⟨_,_,_,rfl⟩:=hr;simp) (λr h' hr=>?_);obtain⟨rfl,tl,hv,rfl⟩:=hr;refine wA ?_;refine cU.zip T6 ([]:List Tm) (λp q L K=>L=[(5,.ptr 4 0 0 0),(53,.aa false []),(54,.int .i64 0),(55,.int .i64 p.length)]/\K=(([(⟨.m,0,4,[.agg [.int .i64 u.k,.str u.s,.int .i64 u.o,.aa false (ae u.l)]]⟩:aw),⟨.m,0,4,[.agg [.int .i64 u.k,.str u.s,.int .i64 u.o,.aa false (ae u.l)]]⟩,⟨.m,0,0,[]⟩,⟨.m,0,0,[]⟩,⟨.m,0,5,[.agg [.ak 7 0 0 1,.int .i64 0,.cG 2,.cG 3,.aa true []]]⟩,⟨.m,0,4,[.agg [.int .i64 u.k,.str u.s,.int .i64 u.o,.aa false (ae u.l)]]⟩,⟨.m,0,4,[.agg [.int .i64 u.k,.str u.s,.int .i64 u.o,.aa false (ae u.l)]]⟩,⟨.m,0,4,[.agg [.int .i64 u.k,.str u.s,.int .i64 u.o,.aa false (ae u.l)]]⟩].set 7 ⟨.m,0,4,ae [u]⟩).set 7 ⟨.m,0,4,[.agg [.int .i64 u.k,.str u.s,.int .i64 u.o,.aa false (ae u.l)]]++tl⟩).set 4 ⟨.m,0,5,[.agg [.ak 7 0 0 1,.int .i64 0,.cG 2,.cG 3,.aa true []]]⟩) (.nx ⟨rfl,rfl⟩) ?_ ?_
  ·rintro p u q _ K O e _
   cases p <;>cases e
  ·rintro _ _ O ⟨rfl,rfl⟩;refine wA ?_;refine⟨?_,by simp,λj hj=>(by obtain rfl:j=0:=(by omega);rfl),4,2,3,7,0,tl,rfl,by omega,⟨rfl,rfl,rfl,rfl,hv⟩⟩
   intro o ho
   have ho:o∈[(⟨.m,0,4,[.agg [.int .i64 u.k,.str u.s,.int .i64 u.o,.aa false (ae u.l)]]⟩:aw),⟨.m,0,4,[.agg [.int .i64 u.k,.str u.s,.int .i64 u.o,.aa false (ae u.l)]]⟩,⟨.m,0,0,[]⟩,⟨.m,0,0,[]⟩,⟨.m,0,5,[.agg [.ak 7 0 0 1,.int .i64 0,.cG 2,.cG 3,.aa true []]]⟩,⟨.m,0,4,[.agg [.int .i64 u.k,.str u.s,.int .i64 u.o,.aa false (ae u.l)]]⟩,⟨.m,0,4,[.agg [.int .i64 u.k,.str u.s,.int .i64 u.o,.aa false (ae u.l)]]⟩,⟨.m,0,4,[.agg [.int .i64 u.k,.str u.s,.int .i64 u.o,.aa false (ae u.l)]]++tl⟩]:=ho;simp only[ab5,adh,or_false]at ho;have wQ:ao ([.agg [.int .i64 u.k,.str u.s,.int .i64 u.o,.aa false (ae u.l)]]++tl)=true:=by rw[dF,hv];simp
   rcases ho with rfl |rfl |rfl |rfl |rfl |rfl |rfl |rfl;exact⟨by simp,bm _ _ (by simp)⟩;exact⟨by simp,bm _ _ (by simp)⟩;exact⟨by simp,rfl⟩;exact⟨by simp,rfl⟩;exact⟨by simp,by simp[bG,bu]⟩;exact⟨by simp,bm _ _ (by simp)⟩;exact⟨by simp,bm _ _ (by simp)⟩;exact⟨by simp,bm _ _ wQ⟩
theorem Ll(u:Tm)(hv:valid u=0)(hu:ax u<10000000)(f1:dg u il=false)(f2:dg u u7=false):aI C 276 [.aa false [],enc u] (.cA [.aa false [],.int .i64 4]):=by
 have g1:=yT u hv hu;have g2:=SH u hu f1 f2;have uN:ae [u]=[.agg [.int .i64 u.k,.str u.s,.int .i64 u.o,.aa false (ae u.l)]]:=by rw[ae,ar];rfl
 rw[uN]at g1;rw[ar u]at g2 ⊢;refine aI.x T6 Tryz.func276 rfl ?_;refine wA ?_;refine .p g1 ?_;refine wA ?_;refine .fr (P:=λr h'=>∃x m1 m2 c ep tl,r=.ptr x 0 0 0/\1<=x/\Sys h' x m1 m2 c ep u tl) g2 (λr h hr hb=>?_) (λr h r1 r2 r3 r4=>?_)
 ·obtain⟨x,m1,m2,c,ep,tl,rfl,hx,_⟩:=hr;simp[dV,cN,dU]at hb;omega
 obtain⟨x,m1,m2,c,ep,tl,rfl,hx,hS⟩:=r4;have h0:h[0]?=some ⟨.m,0,4,[.agg [.int .i64 u.k,.str u.s,.int .i64 u.o,.aa false (ae u.l)]]⟩:=r3 0 (by simp);have g3:=WS x m1 m2 c ep u tl hu f1 f2 h r1 hS;rw[ar u]at g3;refine wA ?_;refine .fr (P:=λr h'=>∃b,r=.ak b 0 0 1/\h.length<=b/\h'[b]?=some ⟨.m,0,1,[.int .u64 1]⟩) g3 (λr k hr hb=>?_) (λr k k1 k2 k3 k4=>?_)
 ·obtain⟨b,rfl,Ae,_⟩:=hr;simp[dV,cN,dU]at hb;omega
 obtain⟨b,rfl,Ae,hb3⟩:=k4;have XW:Sys k x m1 m2 c ep u tl:=hS.of_eq h.length ⟨ag hS.hx,ag hS.h1,ag hS.h2,ag hS.hc⟩ k3;have g4:=WT x m1 m2 c ep b u tl k k1 XW;refine wA ?_;refine .fr (P:=λr h'=>r=.cA [.ak b 0 0 1,.ak k.length 0 0 1]/\h'=k++[⟨.m,0,1,[.int .u64 0]⟩]) (g4.mono λr h' hr=>?_) (λr k hr hb=>?_) (λr h' _ _ _ k4=>?_)
 ·obtain⟨rfl,rfl⟩:=hr;exact⟨k1.du (HV.one rfl),by simp,λj hj=>abW hj,rfl,rfl⟩
 ·obtain⟨rfl,_⟩:=hr;simp[dV,cN,dU]at hb
 obtain⟨rfl,rfl⟩:=k4;have hS3:Sys (k++[(⟨.m,0,1,[.int .u64 0]⟩:aw)]) x m1 m2 c ep u tl:=XW.of_eq k.length ⟨ag XW.hx,ag XW.h1,ag XW.h2,ag XW.hc⟩ λj hj=>abW hj
 have hb4:(k++[(⟨.m,0,1,[.int .u64 0]⟩:aw)])[b]?=some ⟨.m,0,1,[.int .u64 1]⟩:=by rw[abW (ag hb3)];exact hb3
 have g5:=Lq b _ hb4;have fx:=hS3.hx;have fc:=hS3.hc;refine wA ?_;refine .same (g5.mono λr h' h=>⟨h.1,h.2⟩) (λr hr=>?_);subst hr;refine wA ?_;exact⟨_,rfl,rfl⟩
end bC
open Go.Proofs
section
variable{C:cW}(T:mD C.P){ops:Array Oper}{i d:Nat}{ty:TypeId}{pos:String}{af:Array Edge}{r:List Oper}{O:Nat->PV}{L:List (Nat×PV)}{h:ab}{L0:Nat}{own:List Nat}{Q:St->Prop}
set_option maxRecDepth 4000
theorem bg.sP{op:Op}(hs:x5 T op L λv=>bg C ops (i+1) r ⟨⟨al ((d,v)::L) O,h⟩,L0,own⟩ Q):bg C ops i (⟨some d,op,ty,pos,af,none⟩::r) ⟨⟨al L O,h⟩,L0,own⟩ Q:=by
 obtain⟨hh,v,hv,k⟩:=qN T hs;exact bg.plain hh (λrun=>hv run 1 O h) k
theorem bg.sR{op:Op}(hs:vK T op L h λv=>bg C ops (i+1) r ⟨⟨al ((d,v)::L) O,h⟩,h.length,[]⟩ Q)(ee:aV h=true)(hv:Mc L h op.operands.toList):bg C ops i (⟨some d,op,ty,pos,af,none⟩::r) ⟨⟨al L O,h⟩,h.length,[]⟩ Q:=by
 obtain⟨hh,v,hc,k⟩:=lI T hs;exact bg.read hh ee (Iq hv) ⟨0,λn lv _ _=>hc _ lv O⟩ k
theorem bg.sW{op:Op}(hh:di op=true)(hl:level ops (before ops) i=2)(hs:wm T op L h λv h'=>bg C ops (i+1) r ⟨⟨al ((d,v)::L) O,h'⟩,h'.length,[]⟩ Q):bg C ops i (⟨some d,op,ty,pos,af,none⟩::r) ⟨⟨al L O,h⟩,L0,own⟩ Q:=by
 obtain⟨v,h',hc,k⟩:=rp T hs;exact bg.two hh hl ⟨0,λn _=>hc _ O⟩ k
theorem bg.Zy{x:Operand}{xs:List Operand}{Bu:Array TypeId}{f:FuncId}{args:List PV}{n:Nat}{P:ab->Prop}(hl:level ops (before ops) i=1)(ee:aV h=true)(hf:cS L x=some (.fn f []))(ha:zw L xs=some args)(hm:C.mode f=.opened)(iv:bG (aO h) args=true)
  (a:ay C f args (h.map bY) (λr' h'=>r'=.ak h.length 0 0 n/\∃D,h'=h.map bY++D/\(∀o∈D,o.mu≠.l)/\P D))
  (k:∀D,P D->bg C ops (i+1) r ⟨⟨al ((d,.ak h.length 0 0 n)::L) O,h++D⟩,h.length,List.replicate D.length i⟩ Q):bg C ops i (⟨some d,.call ⟨.value x,xs.toArray,Bu⟩,ty,pos,af,none⟩::r) ⟨⟨al L O,h⟩,h.length,[]⟩ Q:=by
 obtain⟨r',h',⟨rfl,D,rfl,hD,hP⟩,n0,hn⟩:=a;refine bg.step ⟨n0,λm h1=>?_⟩ (k D hP);have hM:cI ((before ops).getD i 0).testBit h.length [] h=h:=by simp[cI]
 have he:=ia (O:=O) ha;have AW:(h.map bY++D).drop h.length=D:=by rw[ac7 (by simp),acx (by simp)];simp
 have hDl:(D.all λo=>decide (o.mu≠.l))=true:=by rw[abX];exact λo ho=>decide_eq_true (hD o ho)
 have hb:dV h.length (.ak h.length 0 0 n)=false:=by simp[dV,cN,dU]
 have FK:dn C (fF C m) 1 f args h=some (.ak h.length 0 0 n,h++D):=by
  unfold dn;simp only[hm,iG,eF,hn m h1,AW,hDl];simp[hb]
 have kV:((Op.call ⟨.value x,xs.toArray,Bu⟩).operands.toList.all λy=>bu (aO h) (ev (al L O) y))=true:=by
  rw[abX]
  intro y hy
  simp[Op.operands,Call.operands]at hy;rcases hy with rfl |hy;rw[an hf];rfl
  ·rw[fX]at iv;have:ev (al L O) y∈args:=by rw[<-he];exact aci.2 ⟨y,hy,rfl⟩
   exact abX.1 iv _ this
 have dp:¬level ops (before ops) i=2:=by rw[hl];decide
 have jW:au C (fF C m) 1 (.call ⟨.value x,xs.toArray,Bu⟩) (al L O) h=some (.ak h.length 0 0 n,h++D):=by
  simp only[au,gA,an hf,he,ack,FK]
 have DU:(h++D).drop h.length=D:=by simp
 simp only[cD,bA,show di (.call ⟨.value x,xs.toArray,Bu⟩)=true from rfl,acH,if_false,dp,hM,ee,kV,and_self,if_true,jW,DU,hDl,cw,acD]
theorem vQ{D:ab}(ee:aV h=true):aV (h++D.map eX)=true:=by
 unfold aV at ee ⊢;rw[abX]at ee ⊢
 intro o ho
 rcases ab2.1 ho with ho |ho
 ·have:=ee o ho;rw[acs]at this ⊢;rcases this with h1 |h1;exact .inl h1
  ·refine .inr (eA (λi hi=>?_) _ h1);unfold aO at hi ⊢
   split at hi
   ·rename_i o ho
    rw[abW (ag ho),ho];exact hi
   cases hi
 ·obtain⟨o',_,rfl⟩:=aci.1 ho;simp[eX]
theorem Bj{D:ab}{e:Nat->Bool}{j:Nat}(he:e j=false):cI e h.length (List.replicate D.length j) (h++D)=h++D.map eX:=by
 unfold cI;rw[List.take_left' rfl,List.drop_left' rfl]
 congr 1
 induction D with
 |nil=>rfl
 |cons o D ih=>simp[List.replicate_succ,he,ih]
theorem bg.bZ{op:Op}{D:ab}{j:Nat}{v:PV}{E:ab}(hh:di op=true)(hl:level ops (before ops) i=1)(he:((before ops).getD i 0).testBit j=false)(ee:aV h=true)(kV:∀y∈op.operands.toList,aU (ev (al L O) y)=true)
  (hc:∀run,au C run 1 op (al L O) (h++D.map eX)=some (v,h++D.map eX++E)) (hE:∀o∈E,o.mu≠.l) (k:bg C ops (i+1) r ⟨⟨al ((d,v)::L) O,h++D++E⟩,h.length,List.replicate D.length j++List.replicate E.length i⟩ Q):
  bg C ops i (⟨some d,op,ty,pos,af,none⟩::r) ⟨⟨al L O,h++D⟩,h.length,List.replicate D.length j⟩ Q:=by
 refine bg.step ⟨0,λm _=>?_⟩ k;have dp:¬level ops (before ops) i=2:=by rw[hl];decide
 have hM:cI ((before ops).getD i 0).testBit h.length (List.replicate D.length j) (h++D)=h++D.map eX:=Bj he
 have abr:(op.operands.toList.all λy=>bu (aO (h++D.map eX)) (ev (al L O) y))=true:=by
  rw[abX];exact λy hy=>xl _ _ (kV y hy)
 have AW:(h++D.map eX++E).drop (h++D).length=E:=by
  rw[ac7 (by simp),acx (by simp)];simp
 have hEl:(E.all λo=>decide (o.mu≠.l))=true:=by rw[abX];exact λo ho=>decide_eq_true (hE o ho)
 simp only[cD,bA,hh,acH,if_false,dp,hM,vQ ee,abr,and_self,if_true,hc,AW,hEl,cw]
theorem bg.WH{x:Operand}{t el:TypeId}{D:ab}{j:Nat}{full:Bool}{es:List PV}(hl:level ops (before ops) i=1)(he:((before ops).getD i 0).testBit j=false)(ee:aV h=true)(hx:cS L x=some (.aa full es))(hk:T.kd t=some (.sl el))
  (k:bg C ops (i+1) r ⟨⟨al ((d,.int .i64 es.length)::L) O,h++D⟩,h.length,List.replicate D.length j⟩ Q):bg C ops i (⟨some d,.call ⟨.builtin .len,#[x],#[t]⟩,ty,pos,af,none⟩::r) ⟨⟨al L O,h++D⟩,h.length,List.replicate D.length j⟩ Q:=by
 refine bg.bZ (E:=[]) (v:=.int .i64 es.length) rfl hl he ee (λy hy=>?_) (λrun=>?_) (by simp) (by simpa using k)
 ·simp[Op.operands,Call.operands]at hy;subst hy;rw[an hx];rfl
 simp only[au,bt,acg,acr,an hx,pO,bB (T.cY _ _ hk),ab8,ack]
theorem bg.Ss{l:Operand}{t el:TypeId}{D:ab}{j:Nat}{kk:IntKind}{n sz gu:Nat}{z:PV}(hl:level ops (before ops) i=1)(he:((before ops).getD i 0).testBit j=false)(ee:aV h=true)(hx:cS L l=some (.int kk n))(hk:T.kd t=some (.sl el))(hs:T.ts el=some (sz+1))(hb:T.tb el=some gu)(hz:T.tz el=some z)
  (ju:gu<=65536) (Ra:(cells z).length=sz+1) (ho:(cells z).all bM=true) (hn:n<=1073741824)
  (k:bg C ops (i+1) r ⟨⟨al ((d,.ak (h.length+D.length) 0 0 n)::L) O,h++D++[⟨.m,0,sz+1,List.replicate n z⟩]⟩,h.length,List.replicate D.length j++[i]⟩ Q):bg C ops i (⟨some d,.makeSlice t l l,ty,pos,af,none⟩::r) ⟨⟨al L O,h++D⟩,h.length,List.replicate D.length j⟩ Q:=by
 refine bg.bZ (E:=[⟨.m,0,sz+1,List.replicate n z⟩]) (v:=.ak (h.length+D.length) 0 0 n) rfl hl he ee (λy hy=>?_) (λrun=>?_) (by simp) k
 ·simp[Op.operands]at hy;subst hy;rw[an hx];rfl
 ·simp only[au,aC,an hx,jS,bB (T.cY _ _ hk),T.ez _ _ hs,T.rE _ _ hb,T.nH _ _ hz];rw[if_pos ⟨by omega,by omega,by omega,by omega,by omega,ju,Ra,ho⟩];simp[newObj]
end
attribute [local irreducible] aD az aL aJ Ev ah aj ay bg
set_option maxRecDepth 4000
theorem Sr(cs:List Tm)(x:List Pw)(H:ab)(hs:fu cs)(hl:cs.length<100000000)(hb:∀t∈cs,ax t<1000000000)(hx:B9 x)(lx:x.length<100000000)(hm:∀p∈x,p.1∈cs):
  ay C 398 [.aa false (ae cs),.aa false (bq x)] H (λr h'=>r=.ak H.length 0 0 cs.length/\∃J:ab,h'=H++⟨.m,0,1,gb (cs.map (vI x))⟩::J/\∀o∈J,o.mu=.m/\ao o.es=true):=by
 have cz:=ai cs;have aay:=fw x;refine ay.x T6 Tryz.func398 rfl ?_;refine wA ?_
 refine cU.zip T6 x (λp q L h=>L=[(0,.aa false (ae cs)),(5,.ak H.length 0 0 (ae cs).length),(13,.aa false (bq x)),(14,.int .i64 (bq x).length),(15,.int .i64 p.length)]/\∃J:ab,h=H++⟨.m,0,1,gb (cs.map (vI p))⟩::J/\∀o∈J,o.mu=.m/\ao o.es=true)
  (.nx ⟨rfl,[],?_,by simp⟩) ?_ ?_
 ·have:gb (cs.map (vI []))=List.replicate (ae cs).length (.int .i64 0):=by rw[cz,gb,adY,<-List.map_const];rfl
  rw[this]
 ·rintro p ⟨u,n⟩ q _ h O e ⟨rfl,J,hJ,hJv⟩;have e1:h[H.length]?=some ⟨.m,0,1,gb (cs.map (vI p))⟩:=by rw[hJ];simp
  have h1:H.length<h.length:=by rw[hJ];simp
  have cC:=DW e;have dp:=lenE e;obtain⟨A,B,hc⟩:=List.append_of_mem (hm (u,n) (by rw[e];simp));dsimp only at hc;have K':=EX cs A B u hc hs hl hb;rw[ar]at K';have Rk:A.length<cs.length:=by rw[hc];simp
  have nh:(gb (cs.map (vI p)))[0+A.length]?=some (.int .i64 (vI p u)):=by rw[hc];simp[gb]
  have hlen:(gb (cs.map (vI p))).length=cs.length:=by simp
  have bO:∀y∈p,aW y.1 u≠0:=λy hy=>by
   rw[e]at hx;have:=(adE.1 hx).2.2 y hy (u,n) (by simp);simp only at this;omega
  refine wA ?_;refine .p K' ?_;have eT:(gb (cs.map (vI p))).set (0+A.length) (.int .i64 n)=gb (cs.map (vI (p++[(u,n)]))):=by rw[acf];exact SU hc hs bO
  refine wA ?_;rw[eT];refine .nx ⟨rfl,J++[⟨.m,0,5,[.agg [.int .i64 u.k,.str u.s,.int .i64 u.o,.aa false (ae u.l),.int .i64 n]]⟩],?_,?_⟩;rw[hJ,acp,aco,adm _ _ (abZ _),ade,List.set_cons_zero]
  ·intro o ho
   rcases ab2.1 ho with ho |ho;exact hJv o ho;rw[acv.1 ho];exact⟨rfl,by simp⟩
 ·rintro _ h O ⟨rfl,J,hJ,hJv⟩;refine wA ?_;exact⟨by rw[cz];rfl,J,hJ,hJv⟩
end Go.Pm
namespace Go.Pm
open Go.Proofs
set_option maxRecDepth 4000
structure Km(u:Tm)(k:ab)(x t p c:Nat):Prop where
 hr:HR k
 ex:∃i,k[x]?=some ⟨.m,0,4,[.agg [.aa false (ae [u]),.aa true [],.ak i 0 0 1,.bool false]]⟩/\k[i]?=some ⟨.m,0,1,[.int .i64 (-1)]⟩
 et:k[t]?=some ⟨.m,0,3,[.agg [.ak p 0 0 1,.ak c 0 0 0,.bool false]]⟩
 ep:k[p]?=some ⟨.m,0,1,[.int .i64 1]⟩
theorem Ln(u:Tm):vI [(u,1)] u=1:=Nk (p:=[]) (q:=[]) (by simp) (cc u)
namespace bC
attribute [local irreducible] aD az aL aJ Ev ah aj ay bg
theorem Sn(x:Nat)(cv pv:PV)(H:ab)(hR:HR H)(ex:H[x]?=some ⟨.m,0,4,[.agg [cv,.aa true [],pv,.bool false]]⟩):ay C 399 [.ptr x 0 0 0,.int .i64 0] H (λr h'=>r=.cA []/\h'=H):=by
 refine ay.x T6 Tryz.func399 rfl ?_;refine wA ?_;refine cU.nat T6 (λm L h=>m=0/\L=[(0,.ptr x 0 0 0),(1,.int .i64 0)]/\h=H) 0 (.nx ⟨rfl,rfl,rfl⟩) ?_;rintro m _ h O ⟨rfl,rfl,rfl⟩;refine wA ?_;refine cU.zip T6 ([]:List Nat) (λp q L' h'=>h'=h/\p=[]/\L'=[(0,.ptr x 0 0 0),(1,.int .i64 0),(4,.int .i64 (-1)),(5,.int .i64 0),(18,.aa true []),(19,.int .i64 0),(20,.int .i64 0)]) (.nx ⟨rfl,rfl,rfl⟩) ?_ ?_
 ·rintro p a q L' h' O e;simp at e
 ·rintro _ h O ⟨rfl,_,rfl⟩;refine wA ?_;exact⟨rfl,rfl⟩
theorem Sq(u:Tm)(H:ab)(x t p c:Nat)(K:Km u H x t p c):ay C 388 [.ptr x 0 0 0,.ptr t 0 0 0] H (λr h'=>r=.int .i64 0/\h'=H):=by
 obtain⟨hR,⟨i,ex,ei⟩,et,ep⟩:=K;have cz:(ae [u]).length=1:=ai [u];refine ay.x T6 Tryz.func388 rfl ?_;refine wA ?_;rw[cz];refine cU.zip T6 [(0:Nat)] (λp q L h=>L=[(0,.ptr x 0 0 0),(1,.ptr t 0 0 0),(12,.int .i64 1),(13,.int .i64 p.length)]/\h=H/\q≠[]) (.nx ⟨rfl,rfl,by simp⟩) ?_ ?_
 ·rintro p i q _ _ O e ⟨rfl,rfl,_⟩
  obtain rfl:p=[]:=by
   cases p with
   |nil=>rfl
   |cons b p=>simp at e
  refine wA ?_;exact⟨rfl,rfl⟩
 ·rintro _ _ O ⟨rfl,rfl,h⟩;exact absurd rfl h
theorem Lo(u:Tm)(hu:ax u<10000000)(h:dz u=false)(hv:valid u=0):
  ay C 387 [.aa false [],.aa false (bq [(u,1)])] [] (λr h'=>HR h'/\([]:ab).length<=h'.length/\(∀j,j<([]:ab).length->h'[j]?=([]:ab)[j]?)/\∃x t p c,r=.cA [.ptr x 0 0 0,.ptr t 0 0 0,.int .i64 0]/\Km u h' x t p c):=by
 have hvp:mo [(u,1)]=0:=by
  unfold mo;rw[if_neg (by simp),pq,if_neg (by simpa using hv),if_neg (by simp[h]),if_neg (by simp),if_neg (by simp),v7]
 have WG:∀q∈[(u,(1:Int))],ax q.1<100000000:=by simp;omega
 have XI:=(HB [(u,1)] WG (by simp)).nine;rw[hvp]at XI;have Ur:=ND [[(u,1)]] ⟨λx hx=>by simp at hx;subst hx;exact⟨WG,by simp⟩,by simp⟩;have hf:Ke [[(u,1)]]=[u]:=rfl;rw[hf]at Ur;have cz:(ae [u]).length=1:=ai [u];refine ay.x T6 Tryz.func387 rfl ?_;refine wH ?_;refine cU.zip T6 ([]:List Nat) (λp q L h=>p=[]/\L=[(0,.aa false []),(1,.aa false (bq [(u,1)])),(19,.aa false []),(20,.int .i64 0),(21,.int .i64 0)]/\h=[]) (.nx ⟨rfl,rfl,rfl⟩) ?_ ?_
 ·rintro p x q _ h O e;simp at e
 rintro _ h O ⟨_,rfl,rfl⟩;refine wH ?_;refine .p XI ?_;refine wH ?_;refine aj.cV rfl (show bE 1 [.aa false []] []=some (.aa true [],[])from rfl) ?_
 (repeat' (first |(refine Rn.go ?_;conv=>whnf)|((fail_if_success (show T0 _ _ _ _ _));refine .mk ?_)|refine .lp λv H lp=>?_ |fail))
 have zZ:=lp.hv;have zX:Out 1 H v (iU [[(u,1)]]):=lp.out;refine .po zX Ur (λh4 hh4=>?_)
 have hv4:HV h4:=by
  rcases hh4 with rfl |⟨_,_,_,rfl⟩;exact zZ;exact zZ.set _ (by simp) (by simp)
 clear hh4 zX zZ lp;have hx5:(h4++[(⟨.m,0,4,[.agg [.aa false (ae [u]),.aa true [],.aa true [],.bool false]]⟩:aw)])[h4.length]?=some ⟨.m,0,4,[.agg [.aa false (ae [u]),.aa true [],.aa true [],.bool false]]⟩:=by simp
 have hR5:HR (h4++[(⟨.m,0,4,[.agg [.aa false (ae [u]),.aa true [],.aa true [],.bool false]]⟩:aw)]):=hv4.hr.du (HV.one rfl);refine wH ?_;generalize h4++[(⟨.m,0,4,[.agg [.aa false (ae [u]),.aa true [],.aa true [],.bool false]]⟩:aw)]=h5 at *;generalize h4.length=x at *;clear hv4;refine cU.zip T6 ([]:List Nat) (λp q L k=>p=[]/\L=[(0,.aa false []),(1,.aa false (bq [(u,1)])),(11,.ptr x 0 0 0),(50,.aa false []),(51,.int .i64 0),(52,.int .i64 0)]/\k=h5) (.nx ⟨rfl,rfl,rfl⟩) ?_ ?_
 ·rintro p y q _ k O e;simp at e
 rintro _ h5 O ⟨_,rfl,rfl⟩;refine wH ?_;refine cU.nat T6 (λm L2 k=>(m=1/\L2=[(0,.aa false []),(1,.aa false (bq [(u,1)])),(11,.ptr x 0 0 0),(89,.int .i64 (ae [u]).length),(90,.int .i64 0)]/\k=h5)\/(m=0/\L2=[(0,.aa false []),(1,.aa false (bq [(u,1)])),(11,.ptr x 0 0 0),(89,.int .i64 (ae [u]).length),(90,.int .i64 1)]/\HR k/\∃i,k[x]?=some ⟨.m,0,4,[.agg [.aa false (ae [u]),.aa true [],.ak i 0 0 1,.bool false]]⟩/\k[i]?=some ⟨.m,0,1,[.int .i64 (-1)]⟩)) 1 (.nx (.inl ⟨rfl,rfl,rfl⟩)) ?_;rintro m _ k O (⟨rfl,rfl,rfl⟩|⟨rfl,rfl,hR,i,ex,ei⟩)
 ·have kx:=ag hx5;refine wH ?_;refine .sn (es:=[]) ?_ rfl (by simp);have ex:(k++[(⟨.m,0,1,[.int .i64 (-1)]⟩:aw)])[x]?=some ⟨.m,0,4,[.agg [.aa false (ae [u]),.aa true [],.aa true [],.bool false]]⟩:=by rw[abW kx];exact hx5
  have hR:HR (k++[(⟨.m,0,1,[.int .i64 (-1)]⟩:aw)]):=hR5.du (HV.one rfl);refine wH ?_;refine .nx ⟨0,by omega,.inr ⟨rfl,rfl,hR.set _ (by simp) (by simp[bG,bu]),k.length,abY (by simp;omega),?_⟩⟩;rw[ab0 (by omega)];simp
 refine wH ?_;refine cU.nat T6 (λm L2 K=>K=k/\((m=1/\L2=[(0,.aa false []),(1,.aa false (bq [(u,1)])),(11,.ptr x 0 0 0),(106,.int .i64 (ae [u]).length),(107,.int .i64 0)])\/(m=0/\L2=[(0,.aa false []),(1,.aa false (bq [(u,1)])),(11,.ptr x 0 0 0),(106,.int .i64 (ae [u]).length),(107,.int .i64 1)]))) 1 (.nx ⟨rfl,.inl ⟨rfl,rfl⟩⟩) ?_;rintro m _ K O ⟨rfl,(⟨rfl,rfl⟩|⟨rfl,rfl⟩)⟩
 ·refine wH ?_;refine .same (Sn x _ _ _ hR ex) λr hr=>?_;subst hr;refine wH ?_;exact .nx ⟨0,by omega,rfl,.inr ⟨rfl,rfl⟩⟩
 have OZ:=(Sr [u] [(u,1)] (K.map bY) (by simp[fu]) (by simp) (by simp;omega) (by simp[B9]) (by simp) (by simp)).nine;rw[acW]at OZ;refine wH ?_;refine .raw λO=>?_;refine bg.sP T6 ?_
 conv=>whnf
 refine bg.sP T6 ?_
 conv=>whnf
 refine bg.sP T6 ?_
 conv=>whnf
 refine bg.sP T6 ?_
 conv=>whnf
 refine bg.sR T6 ?_ hR.closed ⟨CO ex (by simp),trivial⟩
 conv=>whnf
 refine wA ?_;refine bg.sP T6 ?_
 conv=>whnf
 refine bg.Zy (n:=1) (P:=λD=>∃J:ab,D=⟨.m,0,1,[.int .i64 1]⟩::J/\∀o∈J,o.mu=.m/\ao o.es=true) rfl hR.closed rfl rfl rfl rfl (OZ.mono λr h' hh=>⟨hh.1,?_⟩) λD hD=>?_
 ·obtain⟨_,J,rfl,hJ⟩:=hh
  exact⟨_,rfl,λo ho=>by
   rcases ab5.1 ho with rfl |ho;simp;rw[(hJ o ho).1];simp,J,by simp[gb,Ln],hJ⟩
 obtain⟨J,hDJ,hJ⟩:=hD;refine bg.sP T6 ?_
 conv=>whnf
 refine bg.WH T6 rfl rfl hR.closed rfl rfl ?_;refine bg.Ss T6 (n:=0) rfl rfl hR.closed rfl rfl rfl rfl rfl (by decide) rfl rfl (by omega) ?_;refine bg.sP T6 ?_
 conv=>whnf
 refine bg.sW T6 rfl rfl ?_
 conv=>whnf
 refine wA ?_;refine bg.sP T6 ?_
 conv=>whnf
 refine bg.sP T6 ?_
 conv=>whnf
 refine bg.sP T6 ?_
 conv=>whnf
 obtain⟨kA,RX⟩:∃kA,kA=K++D++[(⟨.m,0,0+1,List.replicate 0 (.int .i64 0)⟩:aw)]++[(⟨.m,0,3,[.agg [.ak K.length 0 0 1,.ak (K.length+D.length) 0 0 0,.bool false]]⟩:aw)]:=⟨_,rfl⟩;have hlD:K.length+D.length+1=(K++D++[(⟨.m,0,0+1,List.replicate 0 (.int .i64 0)⟩:aw)]).length:=by simp;omega
 have lD:0<D.length:=by rw[hDJ];simp
 have aF:∀j,j<K.length->kA[j]?=K[j]?:=λj hj=>by rw[RX,acp,acp,abW hj]
 have a3:kA[K.length]?=some ⟨.m,0,1,[.int .i64 1]⟩:=by rw[RX,hDJ];simp
 have a2:kA[K.length+D.length+1]?=some ⟨.m,0,3,[.agg [.ak K.length 0 0 1,.ak (K.length+D.length) 0 0 0,.bool false]]⟩:=by
  rw[RX,hlD,ab6 (abZ _),ade];rfl
 have hRA:HR kA:=by
  rw[RX];refine HR.wT (HR.wT (hR.du λo ho=>?_) (by simp) (by simp[bG])) (by simp) (by simp[bG,bu];omega);rw[hDJ]at ho;rcases ab5.1 ho with rfl |ho;simp;rw[(hJ o ho).1];exact⟨by simp,(hJ o ho).2⟩
 have kx:=ag ex;have ki:=ag ei;rw[<-hlD,<-RX];refine bg.nil ⟨_,_,rfl,?_⟩
 conv=>whnf
 skip
 exact⟨hRA,adw _,λj hj=>absurd hj (Nat.not_lt_zero _),x,_,_,_,rfl,hRA,⟨i,by rw[aF _ kx];exact ex,by rw[aF _ ki];exact ei⟩,a2,a3⟩
theorem Lp(u:Tm)(hu:ax u<10000000)(h:dz u=false)(hv:valid u=0):
  ay C 372 [.aa false [],.aa false (bq [(u,1)])] [] (λr h'=>HR h'/\([]:ab).length<=h'.length/\(∀j,j<([]:ab).length->h'[j]?=([]:ab)[j]?)/\∃x t p c,r=.cA [.ptr x 0 0 0,.ptr t 0 0 0,.int .i64 0,.int .i64 0]/\Km u h' x t p c):=by
 have z7:=Lo u hu h hv;refine ay.x T6 Tryz.func372 rfl ?_;refine wA ?_;refine .fr z7 (λr h hr hb=>?_) (λr h r1 r2 r3 r4=>?_)
 ·obtain⟨x,t,p,c,rfl,K⟩:=hr;simp[dV,cN,dU]at hb
 obtain⟨x,t,p,c,rfl,K⟩:=r4;have Qp:=Sq u _ x t p c K;obtain⟨i,ex,ei⟩:=K.ex;refine wA ?_;refine .same Qp λr hr=>?_;subst hr;refine wA ?_;exact⟨r1,r2,r3,x,t,p,c,rfl,K⟩
theorem EK(u:Tm)(hu:ax u<10000000)(h:dz u=false)(hv:valid u=0):∃x,aI C 328 [.aa false [],.aa false (bq [(u,1)])] (.cA [x,.int .i64 4]):=by
 have WI:=Lp u hu h hv;refine⟨.aa false [],?_⟩;refine aI.x T6 Tryz.func328 rfl ?_;refine wA ?_;refine .fr WI (λr h hr hb=>?_) (λr h r1 r2 r3 r4=>?_)
 ·obtain⟨x,t,p,c,rfl,K⟩:=hr;simp[dV,cN,dU]at hb
 obtain⟨x,t,p,c,rfl,K⟩:=r4;refine wA ?_;exact⟨_,rfl,rfl⟩
end bC
end Go.Pm
namespace Go.Pm
set_option maxRecDepth 4000
theorem vX{u:Tm}(h:iE u=true):dz u=false:=by
 obtain⟨h1,h2,_,_,_,h6⟩:=jL h;obtain⟨k,s,o,l⟩:=u
 have key:∀(n:ByteArray) (m:List UInt8),n.toList=m->dg (.mk k s o l) n=false->(decide (k=3)&&decide (s.toList=m))=false:=λn m e hh=>by
  subst e;simp only[dg,eP,Tm.k,Tm.s]at hh
  cases hk:decide (k=3)with
  |false=>rfl
  |true=>
   have e:k=3:=by simpa using hk
   subst e;simp at hh;simpa using hh
 have a1:=key yK vB MV h1;have a2:=key yL mJ MW h2;have a3:=key ql vC MX h6;show(decide (k=3)&& (decide (s.toList=vB)||decide (s.toList=mJ)||decide (s.toList=vC)))=false;rw[Bool.and_or_distrib_left,Bool.and_or_distrib_left,a1,a2,a3]
 rfl
theorem OV{u:Tm}(h:dz u=false)(hv:valid u=0):Jt u=([(u,1)],0):=by
 obtain⟨k,s,o,l⟩:=u;have ha:arity (.mk k s o l)=true:=by rw[arity,if_pos h]
 have hc:gF [] (.mk k s o l) 1=[(.mk k s o l,1)]:=by rw[gF,if_pos h];rfl
 rw[Jt,if_neg (by omega),if_neg (by rw[ha];simp),hc,if_neg (by simp)]
namespace bC
open Go.Proofs
attribute [local irreducible] aD az aL aJ Ev ah aj ay bg bN
theorem EI(u:Tm):bq [(u,1)]=[.agg [.int .i64 u.k,.str u.s,.int .i64 u.o,.aa false (ae u.l),.int .i64 1]]:=by obtain⟨k,s,o,l⟩:=u;rfl
theorem Sg(s:List Tm)(hs:kS s)(u:Tm)(hu:ax u<10000000)(id:Nat)(H:ab)(h0:H[id]?=some ⟨.m,0,1,[.aa false (ae s)]⟩):ay C 371 [.agg [.int .i64 u.k,.str u.s,.int .i64 u.o,.aa false (ae u.l),.int .i64 1],.ptr id 0 0 0] H (λr h'=>r=.bool (bJ s u)/\iF H h'):=by
 have h1:=hs.has hu;have cM:=ag h0;rw[ar]at h1;refine ay.x T6 Tryz.func371 rfl ?_;refine wA ?_;refine .p h1 ?_;refine wA ?_;exact⟨rfl,(iF.refl _).db (HV.one (by simp[ao,aU]))⟩
theorem CL(s:List Tm)(hs:kS s)(u:Tm)(hu:ax u<10000000)(hn:bJ s u=false):aI C 327 [.aa false (ae s),.aa false (bq [(u,1)])] (.aa false (bq [(u,1)])):=by
 rw[EI];obtain⟨B,hB⟩:∃B:ab,B=[⟨.m,0,1,[.aa false (ae s)]⟩,⟨.m,0,5,[.agg [.int .i64 u.k,.str u.s,.int .i64 u.o,.aa false (ae u.l),.int .i64 1]]⟩]:=⟨_,rfl⟩;have XG:B[0]?=some ⟨.m,0,1,[.aa false (ae s)]⟩:=by rw[hB];rfl
 have hB1:B[1]?=some ⟨.m,0,5,[.agg [.int .i64 u.k,.str u.s,.int .i64 u.o,.aa false (ae u.l),.int .i64 1]]⟩:=by rw[hB];rfl
 have WB:ay C 381 [.ak 1 0 0 1,.fn 371 [.ptr 0 0 0 0]] B (λr h'=>r=.int .i64 (-1)/\iF B h'):=by
  have XT:([]:List Tm).length=0:=rfl;have h01:[u].length=1:=rfl;refine ay.x T6 Tryz.func381 rfl ?_;refine wA ?_;refine cU.zip T6 [u] (λp q L K=>L=[(0,.ak 1 0 0 1),(1,.fn 371 [.ptr 0 0 0 0]),(7,.int .i64 1),(8,.int .i64 p.length)]/\iF B K) (.nx ⟨rfl,iF.refl _⟩) ?_ ?_
  ·rintro p a q _ K O e ⟨rfl,hE⟩;obtain⟨rfl,MK,rfl⟩:=xr e;have MK:=MK.symm;subst MK;have QA:=hE.at hB1;have hk:=Sg s hs u hu 0 K (hE.at XG);rw[hn]at hk;refine wA ?_;refine .ex hk (λh' WC=>?_);refine wA ?_;exact .nx ⟨rfl,hE.trans WC⟩
  ·rintro _ K O ⟨rfl,hE⟩;refine wA ?_;exact⟨rfl,hE⟩
 have DU:ay C 369 [.ak 1 0 0 1,.fn 371 [.ptr 0 0 0 0]] B (λr h'=>r=.ak 1 0 0 1/\iF B h'):=by
  refine ay.x T6 Tryz.func369 rfl ?_;refine wA ?_;refine .ex WB (λh' hE=>?_);refine wA ?_;exact⟨rfl,hE⟩
 have OI:bE 5 [.aa false [.agg [.int .i64 u.k,.str u.s,.int .i64 u.o,.aa false (ae u.l),.int .i64 1]]] [⟨.m,0,1,[.aa false (ae s)]⟩]=some (.ak 1 0 0 1,B):=by rw[hB];rfl
 refine aI.x T6 Tryz.func327 rfl ?_;refine wA ?_;refine aj.cV rfl OI ?_;refine wA ?_;refine .ex DU (λh' hE=>?_);have h1:=hE.at hB1;refine wA ?_;exact iL (tl:=[]) (es:=[.agg [.int .i64 u.k,.str u.s,.int .i64 u.o,.aa false (ae u.l),.int .i64 1]]) h1 rfl (by rw[<-EI];simp) (by rw[<-EI];simp)
theorem yN(s:List Tm)(hs:kS s)(hf:∀t∈s,iE t=true)(u:Tm)(hu:ax u<10000000)(hn:bJ s u=false)(EJ:iE u=true)(hv:valid u=0):aI C 280 [.aa false (ae s),.aa false (bq [(u,1)])] (.bool false):=by
 have cz:=ai s;have G7:=hs.len;have h1:=CL s hs u hu hn;obtain⟨x,h2⟩:=EK u hu (vX EJ) hv;rw[EI]at h1 h2 ⊢;refine aI.x T6 Tryz.func280 rfl ?_;refine wA ?_;refine .p h1 ?_;refine wC (λhc=>?_) λhc=>?_;exfalso;simp at hc;refine cU.zip T6 s (λp q L H=>L=[(0,.aa false (ae s)),(1,.aa false [.agg [.int .i64 u.k,.str u.s,.int .i64 u.o,.aa false (ae u.l),.int .i64 1]]),(5,.aa true []),(18,.aa false (ae s)),(19,.int .i64 (ae s).length),(20,.int .i64 p.length)]/\HV H) (.nx ⟨rfl,HV.nil⟩) ?_ ?_
 ·rintro p t q _ H O e ⟨rfl,hH⟩;have cC:=ba e;have dp:=lenE e;have h3:=By t;obtain⟨g1,g2,_⟩:=jL (hf t (by rw[e];simp));rw[show EF t=false by simp[EF,g1,g2],ar]at h3;refine wA ?_;refine .p h3 ?_;refine wA ?_;exact .nx ⟨rfl,hH.db (HV.one (by simp))⟩
 ·rintro _ H O ⟨rfl,hH⟩;refine wA ?_;refine .p h2 ?_;refine wA ?_;exact⟨_,rfl,rfl⟩
theorem wW(s:List Tm)(hs:kS s)(hf:∀t∈s,iE t=true)(u:Tm)(hu:ax u<10000000)(hn:bJ s u=false)(EJ:iE u=true)(hv:valid u=0):aI C 214 [.aa false (ae s),enc u] (.bool false):=by
 have h1:=(WD u (by omega)).nine;rw[OV (vX EJ) hv]at h1;have h2:=yN s hs hf u hu hn EJ hv;rw[EI]at h1 h2;rw[ar]at h1 ⊢;refine aI.x T6 Tryz.func214 rfl ?_;refine wA ?_;refine .p h1 ?_;refine wA ?_;refine .p h2 ?_;refine wA ?_;exact⟨_,rfl,rfl⟩
theorem EL(u:Tm)(EJ:iE u=true):aI C 277 [enc u] (.cA [enc u,.aa false []]):=by
 have h1:=oc u ⟨#[101,120,112]⟩;rw[show dg u ⟨#[101,120,112]⟩=false from(jL EJ).2.2.1]at h1;rw[ar]at h1 ⊢;refine aI.x T6 Tryz.func277 rfl ?_;refine wA ?_;refine .p h1 ?_;refine wA ?_;exact⟨_,rfl,by simp⟩
theorem Hz(u t:Tm)(hu:ax u<10000000)(ht:ax t<10000000)(hft:iE t=true)(bO:aW u t≠0)(i1 i2 i3:Nat)(H:ab)(hH:HV H)(h1:H[i1]?=some ⟨.m,0,4,[.agg [.int .i64 u.k,.str u.s,.int .i64 u.o,.aa false (ae u.l)]]⟩):
  ay C 278 [enc t,.ptr i1 0 0 0,.ptr i2 0 0 0,.ptr i3 0 0 0] H (λr h'=>r=.bool false/\iF H h'):=by
 have g1:=EL t hft;have g2:=nZ u t (by omega) (by omega);have WE:=ag h1;rw[decide_eq_false bO]at g2;rw[ar]at g1 g2 ⊢;rw[ar t]at g2
 have f1:(H++[(⟨.m,0,4,[.agg [.int .i64 t.k,.str t.s,.int .i64 t.o,.aa false (ae t.l)]]⟩:aw)]++[⟨.m,0,4,[.agg [.int .i64 t.k,.str t.s,.int .i64 t.o,.aa false (ae t.l)]]⟩])[i1]?=some ⟨.m,0,4,[.agg [.int .i64 u.k,.str u.s,.int .i64 u.o,.aa false (ae u.l)]]⟩:=by
  rw[abW (by simp;omega),abW WE];exact h1
 refine ay.x T6 Tryz.func278 rfl ?_;refine wA ?_;refine .p g1 ?_;refine wA ?_;refine .p g2 ?_;refine wA ?_;exact⟨rfl,((iF.refl _).db (HV.one (by simp))).db (HV.one (by simp))⟩
theorem EM(s:List Tm)(hs:kS s)(hf:∀t∈s,iE t=true)(u:Tm)(hu:ax u<10000000)(hn:bJ s u=false)(EJ:iE u=true):aI C 213 [.aa false (ae s),enc u] (.bool false):=by
 have h1:=EL u EJ;have hlen:=hs.len;obtain⟨B,hB⟩:∃B:ab,B=[⟨.m,0,1,[.aa false (ae s)]⟩,⟨.m,0,4,[.agg [.int .i64 u.k,.str u.s,.int .i64 u.o,.aa false (ae u.l)]]⟩,⟨.m,0,4,[.agg [.int .i64 u.k,.str u.s,.int .i64 u.o,.aa false (ae u.l)]]⟩,⟨.m,0,1,[.aa false []]⟩]:=⟨_,rfl⟩;have hB2:B[2]?=some ⟨.m,0,4,[.agg [.int .i64 u.k,.str u.s,.int .i64 u.o,.aa false (ae u.l)]]⟩:=by rw[hB];rfl
 have hBv:HV B:=by
  rw[hB];intro o ho;simp only[ab5,adh,or_false]at ho;rcases ho with rfl |rfl |rfl |rfl <;>simp[ao,aU]
 have hc:=Ju s 278 [.ptr 2 0 0 0,.ptr 3 0 0 0,.ptr 0 0 0 0] (λ_=>false) B (by omega) (λx hx=>iA.opened λH' hE=>Hz u x hu (hs.bk x hx) (hf x hx) (λh0=>by
  have:=bX.2 ((cy h0)▸hx);rw[hn]at this;cases this) 2 3 0 H' (hE.hv hBv) (hE.at hB2))
 have ha:(s.any λ_=>false)=false:=by simp
 rw[ha]at hc;rw[ar]at h1 ⊢;refine aI.x T6 Tryz.func213 rfl ?_;refine wA ?_;refine .p h1 ?_;refine wA ?_;rw[<-hB];refine .ex hc (λh' hE=>?_);refine wA ?_;exact⟨_,rfl,rfl⟩
end bC
structure Cl(u s r:List Tm):Prop where
 oB:fu r
 base:∀x∈s,x∈r
 EO:∀x∈r,x∈u/\oD u s x
def eQ(u r:List Tm):Nat:=u.countP λt=>!bJ r t
theorem Cl.len{u s r:List Tm}(U:xo u)(h:Cl u s r):r.length<=u.length:=by
 have:r=u.filter (bJ r):=mM h.oB (gN U.oB) λy=>by
  rw[acO,bX];exact⟨λhy=>⟨(h.EO y hy).1,hy⟩,λhy=>hy.2⟩
 rw[this];exact acV _ _
theorem OW{p q r:List Tm}{t:Tm}(h:bJ r t=false):eQ (p++t::q) (fC t r)<eQ (p++t::q) r:=by
 have hm:∀l:List Tm,eQ l (fC t r)<=eQ l r:=λl=>by
  refine aen λx _ hx=>?_;simp only[ac8]at hx ⊢
  cases hh:bJ r x with
  |false=>rfl
  |true=>
   rw[bX.2 ((oV t r x).2 (.inr (bX.1 hh)))]at hx
   cases hx
 have ht:bJ (fC t r) t=true:=bX.2 ((oV t r t).2 (.inl rfl));have h1:=hm p;have h2:=hm q;unfold eQ at *;rw[aef,aef,adx,adx,ht,h];simp;omega
theorem Cl.add{u s r:List Tm}(U:xo u)(h:Cl u s r){t:Tm}(ht:t∈u)(hs:oe r t=true):Cl u s (fC t r):=by
 refine⟨xZ h.oB,λx hx=>(oV _ _ _).2 (.inr (h.base x hx)),λx hx=>?_⟩;rcases(oV _ _ _).1 hx with rfl |hx;exact⟨ht,oD.step U h.EO ht hs⟩;exact h.EO x hx
namespace bC
open Go.Proofs
attribute [local irreducible] aD az aL aJ Ev ah aj ay bg bN
theorem Cl.ok{u s r:List Tm}(U:xo u)(h:Cl u s r)(hl:u.length<10000000)(hb:∀b∈u,ax b<10000000):kS r:=
 ⟨h.oB,by have:=h.len U;omega,λb eg=>hb b (h.EO b eg).1⟩
theorem EP(s:List Tm)(hs:kS s)(hf:∀t∈s,iE t=true)(u:Tm)(hu:ax u<10000000)(hn:bJ s u=false)(EJ:iE u=true)(hv:valid u=0):aI C 212 [.aa false (ae s),enc u] (.bool false):=by
 have cz:=ai s;have G7:=hs.len;have f1:=(jL EJ).2.2.2.2.1;have f2:=(jL EJ).2.2.2.1;have h1:=Lk u hv hu f1 f2;have h2:=Bz [u] (by simp) (λt ht=>by simp at ht;rw[ht];omega);have h3:=Ll u hv hu f1 f2;have hsu:fJ [u]=[u]:=rfl;have uN:ae [u]=[.agg [.int .i64 u.k,.str u.s,.int .i64 u.o,.aa false (ae u.l)]]:=by rw[ae,ar];rfl
 rw[hsu]at h2;rw[uN]at h1 h2;have gk:kS [u]:=⟨by simp[fu],by simp,λb hb=>by simp at hb;rw[hb];exact hu⟩;rw[ar]at h1 h3 ⊢;refine aI.x T6 Tryz.func212 rfl ?_;refine wA ?_;refine .p h1 ?_;refine wA ?_;refine cU.zip T6 s (λp q L H=>L=[(0,.aa false (ae s)),(3,.ptr 0 0 0 0),(5,.aa false [.agg [.int .i64 u.k,.str u.s,.int .i64 u.o,.aa false (ae u.l)]]),(22,.aa false (ae s)),(23,.int .i64 (ae s).length),(24,.int .i64 p.length)]/\HV H/\H[0]?=some ⟨.m,0,4,[.agg [.int .i64 u.k,.str u.s,.int .i64 u.o,.aa false (ae u.l)]]⟩) (.nx ⟨rfl,HV.one (by simp),rfl⟩) ?_ ?_
 ·rintro p t q _ H O e ⟨rfl,hH,h0⟩;have cC:=ba e;have dp:=lenE e;have g1:=oc t ⟨#[120,111,114]⟩;rw[show dg t ⟨#[120,111,114]⟩=false from(jL (hf t (by rw[e];simp))).2.2.2.1,ar]at g1;refine wA ?_;refine .p g1 ?_;refine wA ?_;exact .nx ⟨rfl,hH.db (HV.one (by simp)),by rw[abW (ag h0)];exact h0⟩
 ·rintro _ H O ⟨rfl,hH,h0⟩;refine wA ?_;refine .p h2 ?_;refine wA ?_;refine cU.zip T6 s (λp q L H=>L=[(3,.ptr 0 0 0 0),(11,.aa false [.agg [.int .i64 u.k,.str u.s,.int .i64 u.o,.aa false (ae u.l)]]),(12,.aa true []),(42,.aa false (ae s)),(43,.int .i64 (ae s).length),(44,.int .i64 p.length)]/\HV H/\H[0]?=some ⟨.m,0,4,[.agg [.int .i64 u.k,.str u.s,.int .i64 u.o,.aa false (ae u.l)]]⟩) (.nx ⟨rfl,hH,h0⟩) ?_ ?_
  ·rintro p t q _ H O e ⟨rfl,hH,h0⟩;have cC:=ba e;have dp:=lenE e;have ez:t∈s:=by rw[e];simp
   have g1:=oc t ⟨#[120,111,114]⟩;have g2:=gk.has (hs.bk t ez)
   have Uj:bJ [u] t=false:=by
    cases hh:bJ [u] t with
    |false=>rfl
    |true=>
     have h4:=bX.1 hh;simp at h4;rw[<-h4,bX.2 ez]at hn
     cases hn
   rw[Uj,uN]at g2;rw[show dg t ⟨#[120,111,114]⟩=false from(jL (hf t ez)).2.2.2.1]at g1;rw[ar]at g1 g2;refine wA ?_;refine .p g1 ?_;refine wA ?_;refine .p g2 ?_;refine wA ?_;exact .nx ⟨rfl,hH.db (HV.one (by simp)),by rw[abW (ag h0)];exact h0⟩
  ·rintro _ H O ⟨rfl,hH,h0⟩;refine wA ?_;refine .p h3 ?_;refine wA ?_;exact⟨_,rfl,rfl⟩
theorem OX(s:List Tm)(hs:kS s)(hf:∀t∈s,iE t=true)(GP:∀t∈s,gY t=0)(u:Tm)(hu:ax u<10000000)(EJ:iE u=true)(hv:valid u=0):aI C 164 [.aa false (ae s),enc u] (.bool (oe s u)):=by
 have Qr:u.l.length<10000000:=by obtain⟨k,n,o,l⟩:=u;have:=aY l;simp only[ax]at hu;simp only[Tm.l];omega
 have h1:=hs.has hu;have h2:=Ht u (by omega) (by omega);have h3:=CM s hs u hu;have h4:=HA s hs GP u hu;have h5:=EP s hs hf u hu;have h6:=EM s hs hf u hu;have h7:=wW s hs hf u hu;have hR:oe s u=(bJ s u ||nV u ||mn s u ||vY s u):=rfl;rw[hR];rw[ar]at h1 h2 h3 h4 h5 h6 h7 ⊢;refine aI.x T6 Tryz.func164 rfl ?_;refine wA ?_;refine .p h1 ?_
 cases hn:bJ s u
 ·refine wA ?_;refine .p h2 ?_
  cases nV u
  ·refine wA ?_;refine .p h3 ?_
   cases mn s u
   ·refine wA ?_;refine .p h4 ?_
    cases vY s u
    ·refine wA ?_;refine .p (h5 hn EJ hv) ?_;refine wA ?_;refine .p (h6 hn EJ) ?_;refine wA ?_;refine .p (h7 hn EJ hv) ?_;refine wA ?_;exact⟨_,rfl,rfl⟩
    ·refine wA ?_;exact⟨_,rfl,rfl⟩
   ·refine wA ?_;exact⟨_,rfl,rfl⟩
  ·refine wA ?_;exact⟨_,rfl,rfl⟩
 ·refine wA ?_;exact⟨_,rfl,rfl⟩
theorem EQ(u s:List Tm)(U:xo u)(hs:fu s)(hsu:∀x∈s,x∈u)(hl:u.length<10000000)(hb:∀b∈u,ax b<10000000):aI C 115 [.aa false (ae s),.aa false (ae u)] (.aa false (ae (qn u s))):=by
 have cz:=ai u;refine aI.x T6 Tryz.func115 rfl ?_;refine wA ?_;refine cU.nat T6 (λn L H=>∃r g,n=eQ u r+(if g then 1 else 0)/\L=[(0,.aa false (ae r)),(1,.aa false (ae u)),(5,.bool g)]/\Cl u s r/\(g=false->∀t∈u,oe r t=true->t∈r)/\HV H) (eQ u s+1) (.nx ⟨s,true,rfl,rfl,⟨hs,λ_ h=>h,λx hx=>⟨hsu x hx,.base hx⟩⟩,by simp,HV.nil⟩) ?_;rintro n _ H O ⟨r,g,rfl,rfl,hc,hg,hH⟩
 cases g with
 |false=>
  have hr:r=qn u s:=Jv U hc.oB hc.EO λt ht hd=>oD.fix U hc.base (λx hx=>(hc.EO x hx).1) (hg rfl) hd
  refine wA ?_;exact⟨_,rfl,by rw[<-hr];simp[aR,cj,aZ]⟩
 |true=>
  refine wA ?_;refine cU.zip T6 u (λp q L K=>∃r' g',L=[(0,.aa false (ae r')),(1,.aa false (ae u)),(5,.bool g'),(9,.aa false (ae u)),(10,.int .i64 (ae u).length),(11,.int .i64 p.length)]/\Cl u s r'/\(g'=true->eQ u r'<eQ u r)/\(g'=false->r'=r/\∀t∈p,oe r t=true->t∈r)/\HV K) (.nx ⟨r,false,rfl,hc,by simp,λ_=>⟨rfl,by simp⟩,hH⟩) ?_ ?_
  ·rintro p t q _ K O e ⟨r',g',rfl,ui,Jw,qQ,hK⟩;have cC:=ba e;have dp:=lenE e;have mU:t∈u:=by rw[e];simp
   have gk:kS r':=Cl.ok U ui hl hb;have h1:=gk.has (hb t mU);have h2:=OX r' gk (λx hx=>U.fr x (ui.EO x hx).1) (λx hx=>U.ok x (ui.EO x hx).1) t (hb t mU) (U.fr t mU) (fh.1 (U.ok t mU)).1;have h3:=La r' t ui.oB gk.len (λb eg=>by have:=gk.bk b eg;omega) (by have:=hb t mU;omega);rw[ar]at h1 h2 h3;refine wA ?_;refine .p h1 ?_
   cases hh:bJ r' t
   ·refine wA ?_;refine .p h2 ?_
    cases z7:oe r' t
    ·refine wA ?_;refine .nx ⟨r',g',rfl,ui,Jw,λh=>⟨(qQ h).1,λx hx rL=>?_⟩,hK.db (HV.one (by simp))⟩;rcases ab2.1 hx with hx |hx;exact(qQ h).2 x hx rL
     ·simp at hx;rw[hx,<-(qQ h).1,z7]at rL
      cases rL
    ·refine wA ?_;refine .p h3 ?_;refine wA ?_;refine .nx ⟨fC t r',true,rfl,ui.add U mU z7,λ_=>?_,by simp,hK.db (HV.one (by simp))⟩;have cM:eQ u (fC t r')<eQ u r':=by rw[e];exact OW hh
     cases ML:g' with
     |true=>have:=Jw ML;omega
     |false=>rw[(qQ ML).1]at cM;rw[(qQ ML).1];exact cM
   ·refine wA ?_;refine .nx ⟨r',g',rfl,ui,Jw,λh=>⟨(qQ h).1,λx hx rL=>?_⟩,hK.db (HV.one (by simp))⟩;rcases ab2.1 hx with hx |hx;exact(qQ h).2 x hx rL
    ·simp at hx;rw[hx,<-(qQ h).1];exact bX.1 hh
  ·rintro _ K O ⟨r',g',rfl,ui,Jw,qQ,hK⟩;refine wA ?_;refine .nx ⟨eQ u r'+(if g' then 1 else 0),?_,r',g',rfl,rfl,ui,λh=>?_,hK⟩
   ·cases g' with
    |true=>have:=Jw rfl;simp;omega
    |false=>rw[(qQ rfl).1];simp
   ·obtain⟨rfl,h2⟩:=qQ h;exact h2
theorem Aw(k:List Tm)(t:Tm)(hf:∀u∈k++[t],iE u=true)(hl:br (k++[t])<10000000):
  aI C 58 [.aa false (ae k),enc t] (.cA [.bool (mf k t),.int .i64 (fN k t)]):=by
 have vH:=aY (k++[t]);simp only[ab3,ab9,acz]at vH;have F9:∀u∈k++[t],ax u<10000000:=λu hu=>by have:=bD hu;omega
 have hUb:=uT F9;have hUl:=nX (k++[t]);have h1:=CN k t hf hl;have uN:ae [t]=[.agg [.int .i64 t.k,.str t.s,.int .i64 t.o,.aa false (ae t.l)]]:=by rw[ae,ar];rfl
 rw[uN]at h1
 by_cases hE:fN k t=0
 ·rw[if_neg (by omega),hE]at h1
  have hrk:gO (k++[t])=0:=by
   unfold fN at hE
   split at hE
   omega
   ·split at hE
    omega;omega
  have U:xo (de (k++[t])):=G6 λx hx=>⟨(uS (pg hrk x hx)).1,hf x hx⟩
  have hks:∀x∈fJ k,x∈de (k++[t]):=λx hx=>(cq _ _).2 (bF.2 ⟨x,by simp[(cq _ _).1 hx],eZ x⟩)
  have h2:=Bz k (by omega) (λx hx=>by have:=F9 x (by simp[hx]);omega);have h3:=EQ _ _ U (gp k) hks (by omega) hUb;have hd:kS (qn (de (k++[t])) (fJ k)):=⟨gN U.oB,by have:=acV (λx=>@decide (oD (de (k++[t])) (fJ k) x) (Classical.propDecidable _)) (de (k++[t]));unfold qn;omega,λb hb=>hUb b (xp.1 hb).1⟩;have h4:=hd.has (F9 t (by simp));have hR:mf k t=bJ (qn (de (k++[t])) (fJ k)) t:=by rw[mf,decide_eq_true hE,ada]
  rw[hR,hE];rw[ar]at h4 ⊢;refine aI.x T6 Tryz.func58 rfl ?_;refine wA ?_;refine .p h1 ?_;refine wA ?_;refine .p h2 ?_;refine wA ?_;refine .p h3 ?_;refine wA ?_;refine .p h4 ?_;refine wA ?_;exact⟨_,rfl,rfl⟩
 ·rw[if_pos hE]at h1;have hR:mf k t=false:=by rw[mf,decide_eq_false hE,Bool.false_and]
  rw[hR,ar];refine aI.x T6 Tryz.func58 rfl ?_;refine wA ?_;refine .p h1 ?_;refine wA ?_;exact⟨_,rfl,rfl⟩
end bC
theorem T1{C:cW}(T:mD C.P){H:ab}{st xt el ru:TypeId}{sz gu:Nat}{z v:PV}{full:Bool}{es ys:List PV}(hk:T.kd st=some (.sl el))(fZ:T.kd xt=some (.sl ru))(hs:T.ts el=some (sz+1))(hb:T.tb el=some gu)(hz:T.tz el=some z)(ju:gu<=1000)(hl:(cells z).length=sz+1)(ho:(cells z).all bM=true)
  (o:Out (sz+1) H v es) (hy:dC (sz+1) ys) (hn:es.length+ys.length<1000000000) (jt:ao es=true) (pK:ao ys=true) (hH:HV H):
  ∃r H',bT C.P 2 H st xt v (.aa full ys)=some (r,H')/\Out (sz+1) H' r (es++ys)/\HV H'/\H.length<=H'.length/\(∀(j:Nat) (o:aw),H[j]?=some o->o.mu≠.m->H'[j]?=some o)/\∀(j:Nat) (o:aw),H'[j]?=some o->o.mu≠.l\/H[j]?=some o:=by
 by_cases bO:ys=[]
 ·subst bO;refine⟨v,H,?_,by simpa using o,hH,abZ _,λ_ _ h _=>h,λ_ _ h=>.inr h⟩;unfold dC at hy;unfold bT;rw[bB (T.cY _ _ hk)];simp only[T.ez _ _ hs,T.rE _ _ hb,T.nH _ _ hz,cH,bB (T.cY _ _ fZ),cB];rw[if_pos ⟨by omega,by omega,⟨hl,ho⟩,hy⟩];rcases o with⟨rfl,_⟩|⟨id,ep,rfl,e⟩;simp
  ·simp only[bp e rfl (by simp:Mu.m≠Mu.x)];rw[if_pos ⟨by simp,trivial⟩];simp
 ·have Ci:ys.isEmpty=false:=by cases ys with |nil=>exact absurd rfl bO |cons=>rfl
  rcases o with⟨rfl,rfl⟩|⟨id,ep,rfl,e⟩
  ·refine⟨_,_,gJ T (h:=H) (lv:=2) (full:=full) (by omega) hk fZ hs hb hz ju hl ho hy Ci (by simpa using hn),.inr ⟨H.length,0,by simp,by simp⟩,hH.db (HV.one pK),by simp,λj o h _=>by rw[abW (ag h)];exact h,λj o h=>?_⟩
   by_cases hj:j<H.length
   rw[abW hj]at h;exact .inr h
   ·have cM:=ag h;simp at cM;have:j=H.length:=by omega
    subst this;simp at h;subst h;exact .inl (by simp)
  ·have cM:=ag e;have:=lH T (h:=H) (full:=full) (len:=es.length) hk fZ hs hb hz ju hl ho hy Ci hn (bp e rfl (by simp)) rfl rfl (abZ _);rw[ac2]at this;refine⟨_,_,this,.inr ⟨id,ep+1,by simp,abY cM⟩,hH.set id (by simp) (by simp[bw]at jt pK ⊢;exact⟨jt,pK⟩),by simp,λj o h hm=>?_,λj o h=>?_⟩
   ·by_cases hj:j=id
    subst hj;rw[e]at h;cases h;exact absurd rfl hm;rw[ab0 (by omega)];exact h
   ·by_cases hj:j=id
    subst hj;rw[abY cM]at h;cases h;exact .inl (by simp);rw[ab0 (by omega)]at h;exact .inr h
section
variable{C:cW}(T:mD C.P){run:iR}{ops:Array Oper}{b:List Nat}{h0:ab}{i:Nat}{L:Al}{O:Nat->PV}{h:ab}
theorem zW{o:Oper}{r:List Oper}{s s':St}(e:da C run ops b h0 i o s=some s'):cx C run ops b h0 i (o::r) s=cx C run ops b h0 (i+1) r s':=by rw[cx,e]
theorem kP{d:Nat}{op:Op}{v:PV}{y:TypeId}{s:String}{a:Array Edge}(hs:x5 T op L (λx=>x=v)):da C run ops b h0 i ⟨some d,op,y,s,a,none⟩ ⟨al L O,h⟩=some ⟨al ((d,v)::L) O,h⟩:=by
 obtain⟨hh,v',e,rfl⟩:=qN T hs;unfold da;simp only[bA,hh,if_true,e,cw]
theorem kR{d:Nat}{op:Op}{v:PV}{y:TypeId}{s:String}{a:Array Edge}(hs:vK T op L h (λx=>x=v))(hg:sJ op (al L O)=none)(hr:ie op=true:=by rfl):da C run ops b h0 i ⟨some d,op,y,s,a,none⟩ ⟨al L O,h⟩=some ⟨al ((d,v)::L) O,h⟩:=by
 obtain⟨hh,v',e,rfl⟩:=lI T hs;refine YA hh hr (by simp only[lP,hg]) ?_;have:=e run 1 O
 cases op <;>first |exact this |(cases hr)
end
theorem U6{C:cW}(T:mD C.P){L:Al}{O:Nat->PV}{M:ab}{t:TypeId}{n:Nat}{ps:Array (Nat×Operand)}{vs:List PV}(x:Ai T t n ps.toList L (λ_ es=>es=vs))(hv:ao vs=true):aC C.P 1 (.buildSlice t n ps) (al L O) M=some (.aa true vs,M):=by
 obtain⟨sz,es,rfl,e⟩:=nK T x;have:=e O M 1;rw[if_pos hv]at this;simpa only[aC]using this
theorem Gt{C:cW}{ops:Array Oper}{L L':Al}{H h':ab}(vH:∀O,gT ops (before ops) (al L O)=[])(Ah:sinks ops (before ops)=none)(zV:∀(j:Nat) (o:aw),h'[j]?=some o->o.mu≠.l\/H[j]?=some o)
  (nJ:∀run O,cx C run ops (before ops) H 0 ops.toList ⟨al L O,H⟩=some ⟨al L' O,h'⟩):∀run O,jy C run ops ⟨al L O,H⟩=some ⟨al L' O,h'⟩:=by
 intro run O
 have h1:∀x:ab,cK [] x=x:=λx=>by
  apply ac9
  intro i
  rw[lG];simp
 have h2:eG [] H h'=h':=by
  apply ac9
  intro i
  rw[nI];simp
 unfold jy;rw[vH,h1,nJ];dsimp only
 have hn:rQ [] H h'=true:=uy λj o h=>by
  rcases zV j o h with h |h;exact .inl h;exact .inr (.inr h)
 rw[if_pos ⟨hn,by simp only[rR,Ah]⟩,h2]
namespace bC
open Go.Proofs
attribute [local irreducible] aD az aL aJ Ev ah aj ay bg bN
theorem atM{l p q:List Tm}{u:Tm}{tl:List PV}(e:l=p++u::q):(ae l++tl)[0+p.length]?=some (.agg [.int .i64 u.k,.str u.s,.int .i64 u.o,.aa false (ae u.l)]):=by
 rw[acf,abW (by have:=congrArg List.length e;simp at this;rw[ai];omega)];exact ba e
theorem Sh(l:List Tm)(tl:List PV)(g:FuncId)(p:Tm->Bool)(id ep:Nat)(H:ab)(e0:H[id]?=some ⟨.m,ep,4,ae l++tl⟩)(hl:l.length<1000000000)(hp:∀x∈l,aI C g [enc x] (.bool (p x)))(hm:C.mode g=.pure):
  ay C 142 [.ak id ep 0 l.length,.fn g []] H (λr h'=>r=.int .i64 (wU p l)/\iF H h'):=by
 have cz:=ai l;refine ay.x T6 Tryz.func142 rfl ?_;refine wA ?_;refine cU.zip T6 l (λa q L K=>L=[(0,.ak id ep 0 l.length),(1,.fn g []),(7,.int .i64 l.length),(8,.int .i64 a.length)]/\iF H K/\∀y∈a,p y=false) (.nx ⟨rfl,iF.refl _,by simp⟩) ?_ ?_
 ·rintro a x q _ K O e ⟨rfl,hE,ha⟩;have cC:=atM (tl:=tl) e;have hK:=hE.at e0;have dp:=lenE e;have F6:=hp x (by rw[e];simp);have Yx:(ae l++tl).length=l.length+tl.length:=by rw[ab3,cz]
  rw[ar]at F6;refine wA ?_;refine aj.pure hm rfl (by simpa using F6) ?_
  cases hb:p x
  ·refine wA ?_;exact .nx ⟨rfl,hE,λy hy=>by rcases ab2.1 hy with h |h;exact ha y h;simp at h;rw[h];exact hb⟩
  ·refine wA ?_;exact⟨by rw[e,qV ha hb];rfl,hE⟩
 ·rintro _ K O ⟨rfl,hE,ha⟩;refine wA ?_;exact⟨by rw[lK ha];rfl,hE⟩
theorem _root_.Go.Pm.Zw{C:cW}(T:mD C.P){run:iR}{lv:Nat}{L:Al}{O:Nat->PV}{h:ab}{t el:TypeId}{x lo:Operand}{k:IntKind}{id ep len sz a:Nat}{o:aw}(hx:cS L x=some (.ak id ep 0 len))(zX:cS L lo=some (.int k a))(hk:T.kd t=some (.sl el))(hs:T.ts el=some sz)(hg:getM h id ep=some o)(gR:sz=o.bQ)(hl:len<=o.es.length)(ha:a<len):au C run lv (.slice t x (some lo) none none) (al L O) h=some (.ak id ep a (len - a),h):=by
 have h1:cQ (some (.int k a)) 0 len=some a:=by simp[cQ];omega
 have h2:cr C.P h t (.ak id ep 0 len) (some (.int k a)) none none=some (.ak id ep a (len - a)):=by
  unfold cr;rw[bB (T.cY _ _ hk)];simp only[T.ez _ _ hs,hg];rw[if_pos ⟨gR,by omega⟩];simp only[beyond,cQ];rw[if_pos ⟨by omega,by omega⟩]
  by_cases h0:a=0
  subst h0;simp;simp[h0];omega
 simp[au,aC,an hx,an zX,h2]
theorem _root_.Go.Pm.OY{C:cW}(T:mD C.P){run:iR}{lv:Nat}{L:Al}{O:Nat->PV}{h:ab}{t el:TypeId}{x hi:Operand}{k:IntKind}{id ep len sz b:Nat}{o:aw}(hx:cS L x=some (.ak id ep 0 len))(zY:cS L hi=some (.int k b))(hk:T.kd t=some (.sl el))(hs:T.ts el=some sz)(hg:getM h id ep=some o)(gR:sz=o.bQ)(hl:len<=o.es.length)(hb:b<=len):au C run lv (.slice t x none (some hi) none) (al L O) h=some (.ak id ep 0 b,h):=by
 have h2:cr C.P h t (.ak id ep 0 len) none (some (.int k b)) none=some (.ak id ep 0 b):=by
  unfold cr;rw[bB (T.cY _ _ hk)];simp only[T.ez _ _ hs,hg];rw[if_pos ⟨gR,by omega⟩];simp only[beyond,cQ];rw[if_neg (by omega)];simp;rw[if_pos hb]
 simp[au,aC,an hx,an zY,h2]
theorem _root_.Go.Pm.Zx{C:cW}(T:mD C.P){run:iR}{L:Al}{O:Nat->PV}{h:ab}{t el:TypeId}{x:Operand}{id ep off len:Nat}{o:aw}{z:PV}(hx:cS L x=some (.ak id ep off len))(hk:T.kd t=some (.sl el))(hs:T.ts el=some o.bQ)(hz:T.tz el=some z)(hg:getM h id ep=some o)(hm:o.mu=.m)(hl:off+len<=o.es.length)(h1:(cells z).length=o.bQ)(h2:(cells z).all bM=true):au C run 2 (.call ⟨.builtin .clear,#[x],#[t]⟩) (al L O) h=some (.cA [],h.set id {o with es:=o.es.take off++List.replicate len z++o.es.drop (off+len)}):=by
 have h3:mZ C.P 2 h t (.ak id ep off len)=some (.cA [],h.set id {o with es:=o.es.take off++List.replicate len z++o.es.drop (off+len)}):=by
  unfold mZ;rw[bB (T.cY _ _ hk)];simp only[T.ez _ _ hs,T.nH _ _ hz,hg];rw[if_pos (by simp only[hm,h1,h2,hl,and_self,abZ])]
 simp[au,bt,an hx,h3]
theorem Si(l:List Tm)(tl:List PV)(ht:ao tl=true)(g:FuncId)(p:Tm->Bool)(id ep:Nat)(H:ab)(hH:HR H)(e0:H[id]?=some ⟨.m,ep,4,ae l++tl⟩)(hl:l.length<1000000000)(hp:∀x∈l,aI C g [enc x] (.bool (p x)))(hm:C.mode g=.pure):
  ay C 104 [.ak id ep 0 l.length,.fn g []] H (λr h'=>(HR h'/\H.length<=h'.length/\∀j,j<H.length->j≠id->h'[j]?=H[j]?)/\r=.ak id ep 0 (l.filter λx=>!p x).length/\Ax h' r (l.filter λx=>!p x)):=by
 have WB:=Sh l tl g p id ep H e0 hl hp hm;have cz:=ai l
 by_cases rC:∀y∈l,p y=false
 ·rw[lK rC]at WB
  have Jc:(l.filter λx=>!p x)=l:=by
   rw[List.filter_eq_self]
   intro x hx
   rw[rC x hx];rfl
  rw[Jc];refine ay.x T6 Tryz.func104 rfl ?_;refine wA ?_;refine .ex WB (λh' hE=>?_);obtain⟨J,hJ,rfl⟩:=hE;refine wA ?_;exact⟨⟨hH.du hJ,by simp,λj hj _=>abW hj⟩,rfl,id,ep,tl,rfl,by rw[abW (ag e0)];exact e0,ht⟩
 ·obtain⟨a,x,b,e,ha,hx⟩:∃a x b,l=a++x::b/\(∀y∈a,p y=false)/\p x=true:=by
   clear WB hp e0 cz hl
   induction l with
   |nil=>exact absurd (by simp) rC
   |cons y l ih=>
    cases hy:p y with
    |true=>exact⟨[],y,l,rfl,by simp,hy⟩
    |false=>
     obtain⟨a,x,b,rfl,h1,h2⟩:=ih (λh=>rC λz hz=>by rcases ab5.1 hz with rfl |hz;exact hy;exact h z hz);exact⟨y::a,x,b,rfl,λz hz=>by rcases ab5.1 hz with rfl |hz;exact hy;exact h1 z hz,h2⟩
  have hi:wU p l=a.length:=by rw[e];exact qV ha hx
  rw[hi]at WB
  have XJ:(a.filter λx=>!p x)=a:=by
   rw[List.filter_eq_self]
   intro y hy
   rw[ha y hy];rfl
  have uj:=lenE e;refine ay.x T6 Tryz.func104 rfl ?_;refine wA ?_;refine .ex WB (λh' hE=>?_);obtain⟨J,hJ,rfl⟩:=hE;have aaW:=ag e0;have e1:(H++J)[id]?=some ⟨.m,ep,4,ae l++tl⟩:=by rw[abW aaW];exact e0
  refine wA ?_;refine cU.zip T6 b (λc q L K=>L=[(0,.ak id ep 0 l.length),(1,.fn g []),(5,.int .i64 (a++c.filter λx=>!p x).length),(6,.int .i64 (a.length+1+c.length))]/\(HR K/\H.length<=K.length/\∀j,j<H.length->j≠id->K[j]?=H[j]?)/\∃N,0<N.length/\K[id]?=some ⟨.m,ep,4,ae (a++c.filter λx=>!p x)++ae N++(ae q++tl)⟩/\(a++c.filter λx=>!p x).length+N.length+q.length=l.length) (.nx ⟨rfl,⟨hH.du hJ,by simp,λj hj _=>abW hj⟩,[x],by simp,?_,?_⟩) ?_ ?_;rw[e1,e,bS,ae];simp[ae];simp;omega
  ·rintro c u q _ K O e2 ⟨rfl,⟨hK,Dr,z8⟩,N,hM,hA,hn⟩;have F6:=hp u (by rw[e,e2];simp);rw[ar]at F6
   have hFs:a++(c++[u]).filter (λx=>!p x)=(a++c.filter λx=>!p x)++if p u then[]else[u]:=by
    rw[adJ,acp]
    cases hb:p u <;>simp[hb]
   rw[hFs];obtain⟨F,hF⟩:∃F,F=a++c.filter λx=>!p x:=⟨_,rfl⟩
   rw[<-hF]at hA hn ⊢;have hFl:=ai F;have hNl:=ai N;have dp:=congrArg List.length e2;simp only[ab3,ab9]at dp hn;have ee:F.length+N.length=a.length+1+c.length:=by omega
   obtain⟨A,QF⟩:∃A,A=ae F++ae N++(ae (u::q)++tl):=⟨_,rfl⟩;rw[<-QF]at hA
   have cC:A[0+(a.length+1+c.length)]?=some (.agg [.int .i64 u.k,.str u.s,.int .i64 u.o,.aa false (ae u.l)]):=by
    rw[QF,acf,ab6 (by simp;omega)];simp only[ab3];rw[show a.length+1+c.length - ((ae F).length+(ae N).length)=0 by omega,ae,ar]
    rfl
   have IT:A.length=l.length+tl.length:=by
    rw[QF];simp only[ab3,ab9,ai];omega
   have aaX:=ag hA;have f0:(K++[(⟨.m,0,4,[.agg [.int .i64 u.k,.str u.s,.int .i64 u.o,.aa false (ae u.l)]]⟩:aw)])[id]?=some ⟨.m,ep,4,A⟩:=by rw[abW aaX];exact hA
   have fb:(K++[(⟨.m,0,4,[.agg [.int .i64 u.k,.str u.s,.int .i64 u.o,.aa false (ae u.l)]]⟩:aw)])[K.length]?=some ⟨.m,0,4,[.agg [.int .i64 u.k,.str u.s,.int .i64 u.o,.aa false (ae u.l)]]⟩:=by simp
   have uN:ae (u::q)=.agg [.int .i64 u.k,.str u.s,.int .i64 u.o,.aa false (ae u.l)]::ae q:=by rw[ae,ar]
   have Qv:ae [u]=[.agg [.int .i64 u.k,.str u.s,.int .i64 u.o,.aa false (ae u.l)]]:=by rw[ae,ar];rfl
   refine wA ?_;refine aj.pure hm rfl (by simpa using F6) ?_
   cases hb:p u
   ·obtain⟨y,N2,rfl⟩:∃y N2,N=y::N2:=by
     cases N with
     |nil=>simp at hM
     |cons y M2=>exact⟨y,M2,rfl⟩
    have ey:A[0+F.length]?=some (.agg [.int .i64 y.k,.str y.s,.int .i64 y.o,.aa false (ae y.l)]):=by
     rw[QF,acf,acp,ab6 (by omega),hFl,ade,ae,ar];rfl
    have eT:A.set (0+F.length) (.agg [.int .i64 u.k,.str u.s,.int .i64 u.o,.aa false (ae u.l)])=ae (F++[u])++ae (N2++[u])++(ae q++tl):=by
     rw[QF,acf,acp,adm _ _ (by omega),hFl,ade,uN,bS,bS,Qv,ae];simp
    simp only[ab9]at ee hn;rw[if_neg (by simp)];refine wA ?_;refine .nx ⟨rfl,⟨(hK.du (HV.one (by simp))).set id (by simp) ?_,by simp;omega,λj h1 h2=>by rw[ab0 (by omega),abW (by omega)];exact z8 j h1 h2⟩,N2++[u],by simp,?_,by simp at hn ⊢;omega⟩
    ·rw[eT];exact bm _ _ (by rw[dF,dF,dF,ht];simp)
    ·rw[<-eT];exact abY (ag f0)
   ·rw[if_pos rfl,ack];refine wA ?_;refine .nx ⟨rfl,⟨hK.du (HV.one (by simp)),by simp;omega,λj h1 h2=>by rw[abW (by omega)];exact z8 j h1 h2⟩,N++[u],by simp,?_,by simp at hn ⊢;omega⟩;rw[f0,QF,uN,bS,Qv];simp
  ·rintro _ K O ⟨rfl,⟨hK,Dr,z8⟩,N,hM,hA,hn⟩;have pF:(l.filter λx=>!p x)=a++b.filter λx=>!p x:=by rw[e,adJ,XJ,List.filter_cons,if_neg (by simp[hx])]
   rw[pF];have hFl:=ai (a++b.filter λx=>!p x);have hNl:=ai N;generalize(a++b.filter λx=>!p x)=F at *;simp only[acz,adI]at hn;obtain⟨A,QF⟩:∃A,A=ae F++ae N++(ae []++tl):=⟨_,rfl⟩;rw[<-QF]at hA
   have IT:A.length=l.length+tl.length:=by
    rw[QF];simp only[ab3,ae,acz];omega
   have hg:getM K id ep=some ⟨.m,ep,4,A⟩:=bp hA rfl (by simp)
   have eT:A.take F.length++List.replicate (l.length - F.length) (PV.agg [.int .i64 0,.str ByteArray.empty,.int .i64 0,.aa true []])++A.drop (F.length+(l.length - F.length))=ae F++(List.replicate (l.length - F.length) (PV.agg [.int .i64 0,.str ByteArray.empty,.int .i64 0,.aa true []])++tl):=by
    rw[QF,acC (by simp <;>omega),acC (by omega),acu (by omega),acp]
    congr 2
    rw[show ae F++ae N++(ae []++tl)=(ae F++ae N)++tl by simp[ae],ac7 (by simp <;>omega),List.drop_of_length_le (by simp <;>omega),acD]
   have wQ:ao (List.replicate (l.length - F.length) (PV.agg [.int .i64 0,.str ByteArray.empty,.int .i64 0,.aa true []])++tl)=true:=by
    rw[dF,ht,adp,bw,abX]
    intro y hy
    rw[acY hy];rfl
   refine wA ?_;refine .mk (λrun lv O=>Zw T6 (o:=⟨.m,ep,4,A⟩) rfl rfl rfl rfl hg rfl (by show _<=A.length;omega) (by omega)) ?_;refine wA ?_;refine .mk (λrun O=>Zx T6 (o:=⟨.m,ep,4,A⟩) rfl rfl rfl rfl hg rfl (by show _<=A.length;omega) rfl rfl) ?_;rw[show(⟨.m,ep,4,A.take F.length++List.replicate (l.length - F.length) (PV.agg [.int .i64 0,.str ByteArray.empty,.int .i64 0,.aa true []])++A.drop (F.length+(l.length - F.length))⟩:aw)=⟨.m,ep,4,ae F++(List.replicate (l.length - F.length) (PV.agg [.int .i64 0,.str ByteArray.empty,.int .i64 0,.aa true []])++tl)⟩ by rw[eT]];have f1:(K.set id (⟨.m,ep,4,ae F++(List.replicate (l.length - F.length) (PV.agg [.int .i64 0,.str ByteArray.empty,.int .i64 0,.aa true []])++tl)⟩:aw))[id]?=some ⟨.m,ep,4,ae F++(List.replicate (l.length - F.length) (PV.agg [.int .i64 0,.str ByteArray.empty,.int .i64 0,.aa true []])++tl)⟩:=abY (ag hA);have U3:(ae F++(List.replicate (l.length - F.length) (PV.agg [.int .i64 0,.str ByteArray.empty,.int .i64 0,.aa true []])++tl)).length=l.length+tl.length:=by simp only[ab3,adz];omega
   have qQ:=bp f1 rfl (by simp);refine wA ?_;refine .mk (λrun lv O=>OY T6 (o:=⟨.m,ep,4,ae F++(List.replicate (l.length - F.length) (PV.agg [.int .i64 0,.str ByteArray.empty,.int .i64 0,.aa true []])++tl)⟩) rfl rfl rfl rfl qQ rfl (by rw[show(⟨.m,ep,4,ae F++(List.replicate (l.length - F.length) (PV.agg [.int .i64 0,.str ByteArray.empty,.int .i64 0,.aa true []])++tl)⟩:aw).es.length=_ from U3];omega) (by omega)) ?_;refine wA ?_;exact⟨⟨hK.set id (by simp) (bm _ _ (by rw[dF,wQ];simp)),by simp;omega,λj h1 h2=>by rw[ab0 (by omega)];exact z8 j h1 h2⟩,rfl,id,ep,_,rfl,f1,wQ⟩
theorem aj.del{f:FuncId}{args:List PV}{H:ab}{id ep:Nat}{F:List Tm}{Q:PV->ab->Prop}{fo:ab->Prop}(bZ:id<H.length)
  (a:ay C f args H (λr h'=>(HR h'/\H.length<=h'.length/\fo h')/\r=.ak id ep 0 F.length/\Ax h' r F))
  (q:∀k,HR k->Ax k (.ak id ep 0 F.length) F->Q (.ak id ep 0 F.length) k) (hm:C.mode f=.opened:=by rfl):aj C 2 f args H Q:=by
 refine aj.sm a (λr h' p=>⟨p.1.1,p.1.2.1⟩) (λr h' p=>?_) (λr h' p hr=>?_) hm
 ·obtain⟨⟨h1,_⟩,rfl,h3⟩:=p;exact q _ h1 h3
 ·obtain⟨⟨h1,h2,_⟩,rfl,eH,iC,tl,e1,e2,e3⟩:=p
  cases e1
  exact q _ hr ⟨id,ep,tl,rfl,by rw[acG bZ];exact e2,e3⟩
theorem Ax.Gy{h:ab}{r:PV}{l:List Tm}(o:Ax h r l):∃r1,rb h (aR [r])=some r1/\cj r1=.aa false (ae l):=by
 obtain⟨id,ep,tl,rfl,e,ht⟩:=o;exact iL e (by rw[ai]) (by simp) (by simp)
theorem Sj(H:ab)(hH:HR H):ay C 72 [.aa true []] H (λr h'=>r=.aa true []/\h'=H++[⟨.m,0,1,[.aa true []]⟩]):=by
 refine ay.x T6 Tryz.func72 rfl ?_;refine wA ?_;refine cU.zip T6 ([]:List Tm) (λp q L K=>L=[(3,.ptr H.length 0 0 0),(6,.aa true []),(7,.int .i64 0),(8,.int .i64 p.length)]/\K=H++[⟨.m,0,1,[.aa true []]⟩]) (.nx ⟨rfl,rfl⟩) ?_ ?_
 ·rintro p u q _ K O e _
  cases p <;>cases e
 ·rintro _ _ O ⟨rfl,rfl⟩;have e1:(H++[(⟨.m,0,1,[.aa true []]⟩:aw)])[H.length]?=some ⟨.m,0,1,[.aa true []]⟩:=by simp
  refine wA ?_;refine .ln (vZ _) (λr h' hr=>by rw[hr.2]) (λr h' hr=>?_);obtain⟨rfl,rfl⟩:=hr;refine wA ?_;exact⟨rfl,rfl⟩
theorem Sk(g:FuncId)(H:ab):ay C 142 [.aa true [],.fn g []] H (λr h'=>r=.int .i64 (-1)/\h'=H):=by
 refine ay.x T6 Tryz.func142 rfl ?_;refine wA ?_;refine cU.zip T6 ([]:List Tm) (λp q L K=>L=[(0,.aa true []),(1,.fn g []),(7,.int .i64 0),(8,.int .i64 p.length)]/\K=H) (.nx ⟨rfl,rfl⟩) ?_ ?_
 ·rintro p u q _ K O e _
  cases p <;>cases e
 ·rintro _ _ O ⟨rfl,rfl⟩;refine wA ?_;exact⟨rfl,rfl⟩
theorem Sl(g:FuncId)(H:ab):ay C 104 [.aa true [],.fn g []] H (λr h'=>r=.aa true []/\h'=H):=by
 refine ay.x T6 Tryz.func104 rfl ?_;refine wA ?_;refine .ln (Sk g H) (λr h' hr=>by rw[hr.2]) (λr h' hr=>?_);obtain⟨rfl,rfl⟩:=hr;refine wA ?_;exact⟨rfl,rfl⟩
theorem Lm(t:Tm):aI C 105 [enc t] (.bool (decide (t.k≠1))):=by
 rw[ar];refine aI.x T6 Tryz.func105 rfl ?_;refine wC (λhc=>?_) λhc=>?_
 all_goals exact⟨_,rfl,by simp[aR, *]⟩
def cO(l:List fq):List Tm:=l.flatMap λd=>d.kn++[d.tm]
theorem Au(l:List fq)(hl:l.length<1000000)(hb:br (cO l)<10000000):aI C 53 [.aa false (bV l)] (.aa false (ae (bH l))):=by
 have cz:=gv l
 have hR:bH l=(de (cO l)).filter λx=>!(decide (x.k≠1)):=by
  unfold bH cO
  congr 1
  funext x
  simp
 rw[hR];have cM:=aY (cO l);refine aI.x T6 Tryz.func53 rfl ?_;refine wA ?_;refine cU.zip T6 l (λp q L H=>∃v,L=[(3,v),(6,.aa false (bV l)),(7,.int .i64 (bV l).length),(8,.int .i64 p.length)]/\HV H/\Out 4 H v (ae (cO p))/\(p=[]->v=.aa true [])) (.nx ⟨_,rfl,HV.nil,.inl ⟨rfl,rfl⟩,λ_=>rfl⟩) ?_ ?_
 ·rintro p d q _ H O e ⟨v,rfl,hH,ho,_⟩;have cC:=gL e;have dp:=lenE e;have lE:cO (p++[d])=cO p++(d.kn++[d.tm]):=by simp[cO]
  have G7:(cO p).length+(d.kn++[d.tm]).length<=(cO l).length:=by rw[e];simp[cO]
  have hle:=ai (cO p);have hlu:=ai (d.kn++[d.tm]);have Bi:=uU d (by simp at G7;omega);rw[s9]at Bi;have lF:=hH.db (HV.one (ep:=0) (n:=5) (es:=[PV.agg [.aa false (ae d.kn),.int .i64 d.tm.k,.str d.tm.s,.int .i64 d.tm.o,.aa false (ae d.tm.l)]]) (by simp));have CA:=ho.db [⟨.m,0,5,[PV.agg [.aa false (ae d.kn),.int .i64 d.tm.k,.str d.tm.s,.int .i64 d.tm.o,.aa false (ae d.tm.l)]]⟩];refine wA ?_;refine .p Bi ?_;refine wG λv H lp=>?_;refine .nx ⟨_,rfl,lp.hv,?_,by simp⟩;have:=lp.out;rw[lE,bS];exact this
 ·rintro _ H O ⟨v,rfl,hH,ho,Di⟩;rcases ho with⟨rfl,e0⟩|⟨id,ep,rfl,e1⟩
  ·have e4:cO l=[]:=acd (by rw[<-ai,e0];rfl);rw[e4];refine wA ?_;refine aj.ex ((Sj H hH.hr).mono λr h' hr=>⟨hr.1,_,HV.one rfl,hr.2⟩) (λh' hE=>?_);refine wA ?_;refine .ln (Sl _ h') (λr h' hr=>by rw[hr.2]) (λr h' hr=>?_);obtain⟨rfl,rfl⟩:=hr;refine wA ?_;exact⟨_,rfl,rfl⟩
  by_cases h0:cO l=[]
  ·have:l=[]:=by
    cases l with
    |nil=>rfl
    |cons d l=>simp[cO]at h0
   cases Di this
  ·have z7:=pj (cO l) h0 H hH.hr id ep e1 hb;rw[ai]at *;refine wA ?_;refine .fr z7 (λr h' hr hb=>?_) (λr h' r1 r2 r3 r4=>?_)
   ·obtain⟨_,id,ep,n,rfl,bZ⟩:=hr;simp[dV,cN,dU]at hb;omega
   obtain⟨⟨id2,UT,tl,rfl,e2,e3⟩,id3,ep3,n,e4,bZ⟩:=r4;have hd:=Si (de (cO l)) tl e3 105 (λx=>decide (x.k≠1)) id2 UT h' r1 e2 (by have:=nX (cO l);omega) (λx _=>Lm x) rfl;refine wA ?_;refine aj.del (ag e2) hd (λk hk ho=>?_);refine wA ?_;exact ho.Gy
theorem Bo{S:List eE}:∀{l:List Tm},nM S l=0->∀t∈l,(ct S t).2=0
 |[],_,t,h=>by cases h
 |u::l,e,t,h=>by
  rw[nM]at e
  split at e
  ·rename_i hn;exact absurd e hn
  ·rcases ab5.1 h with rfl |h;omega;exact Bo e t h
end bC
def qi(n:Nat)(o:Int):Tm:=.mk 2 ⟨#[113,UInt8.ofNat (48+n)]⟩ o []
def gr:Nat->List Tm->List eE
 |_,[]=>[]
 |n,v::l=>⟨v,qi n v.o⟩::gr (n+1) l
def eO(l:List fq):List Tm:=(l.filter λd=>decide (d.tm.k=1)).map (·.tm)
theorem Jh:∀{l:List Tm} {n:Nat} {b:eE},b∈gr n l->∃i,l[i]?=some b.v/\b.t=qi (n+i) b.v.o
 |[],_,b,h=>by cases h
 |v::l,n,b,h=>by
  rw[gr]at h;rcases ab5.1 h with rfl |h;exact⟨0,rfl,rfl⟩
  ·obtain⟨i,h1,h2⟩:=Jh h;exact⟨i+1,by simpa using h1,by rw[h2,show n+(i+1)=n+1+i by omega]⟩
theorem Ji:∀{l:List Tm} {n:Nat} {v:Tm},v∈l->∃b∈gr n l,b.v=v
 |[],_,v,h=>by cases h
 |u::l,n,v,h=>by
  rw[gr];rcases ab5.1 h with rfl |h;exact⟨_,List.mem_cons_self,rfl⟩
  ·obtain⟨b,h1,h2⟩:=Ji (n:=n+1) h;exact⟨b,acX _ h1,h2⟩
theorem Eg:∀(l:List Tm) (n:Nat),(gr n l).length=l.length
 |[],_=>rfl
 |v::l,n=>by rw[gr,ab9,ab9,Eg l]
def Og(n:Nat)(v:Tm):Bool:=decide (Dn ⟨v,qi n v.o⟩=0)&& !(nV (qi n v.o))&&iE (qi n v.o)&&decide ((qi n v.o).s.toList.head?=some 113)&&decide (ax (qi n v.o)<=20)
theorem GZ:((List.range 4).all λn=>qT.all (Og n))=true:=by kernel_rfl
theorem tv{n:Nat}{v:Tm}(hn:n<4)(hv:v∈qT):Dn ⟨v,qi n v.o⟩=0/\nV (qi n v.o)=false/\iE (qi n v.o)=true/\(qi n v.o).s.toList.head?=some 113/\ax (qi n v.o)<=20:=by
 have h:=abX.1 (abX.1 GZ n (adP.2 hn)) v hv;simp only[Og,ab4,decide_eq_true_eq,ac8]at h;exact⟨h.1.1.1.1,h.1.1.1.2,h.1.1.2,h.1.2,h.2⟩
theorem RF:(qT.all λv=>v.l.isEmpty)=true:=by kernel_rfl
theorem vrL{v:Tm}(h:v∈qT):v.l=[]:=by simpa using abX.1 RF v h
theorem Oh{a c:Nat}{o o':Int}(ha:a<4)(hc:c<4)(e:qi a o=qi c o'):a=c:=by
 have h:=congrArg (λt:Tm=>t.s.data[1]?) e;simp only[qi,Tm.s]at h;have h:UInt8.ofNat (48+a)=UInt8.ofNat (48+c):=by simpa using h
 have:=congrArg UInt8.toNat h;simp at this;omega
structure KL(l:List fq):Prop where
 f:∀d∈l,∀t∈d.kn++[d.tm],Be t=true
 v:∀y∈bH l,y∈qT
 n:(bH l).length<=4
theorem qY{l:List fq}(D:KL l){b:eE}(hb:b∈gr 0 (bH l)):∃i,i<4/\(bH l)[i]?=some b.v/\b.v∈qT/\b.t=qi i b.v.o:=by
 obtain⟨i,h1,h2⟩:=Jh hb;rw[acf]at h2;have h3:=(ac6.1 h1).1;have h4:=D.n;exact⟨i,by omega,h1,D.v _ (acb h1),h2⟩
theorem Oi{l p q:List fq}{d:fq}(e:l=p++d::q):∀t∈(d.kn++eO p)++[d.tm],∃u∈l,t∈u.kn++[u.tm]:=λt ht=>by
 rcases ab2.1 ht with ht |ht
 ·rcases ab2.1 ht with ht |ht;exact⟨d,by rw[e];simp,ac0 _ ht⟩
  ·obtain⟨u,hu,rfl⟩:=aci.1 ht;exact⟨u,by rw[e];exact ac0 _ (acO.1 hu).1,by simp⟩
 ·simp at ht;exact⟨d,by rw[e];simp,by simp[ht]⟩
theorem G4{l p q:List fq}{d:fq}(e:l=p++d::q){z:Tm}(hz:z∈cd ((d.kn++eO p)++[d.tm])):∃u∈l,∃t∈u.kn++[u.tm],z∈pre t:=by
 obtain⟨t,ht,hz⟩:=bF.1 hz;obtain⟨u,hu,h⟩:=Oi e t ht;exact⟨u,hu,t,h,hz⟩
theorem Oj{l p q:List fq}{d:fq}(e:l=p++d::q)(D:KL l):Ee (gr 0 (bH l)) ((d.kn++eO p)++[d.tm]):=by
 have hz:∀z∈cd ((d.kn++eO p)++[d.tm]),∃u∈l,∃t∈u.kn++[u.tm],z∈pre t:=λz hz=>G4 e hz
 have gk:∀z∈cd ((d.kn++eO p)++[d.tm]),(z.k=1->z∈qT)/\z.s.toList.head?≠some 113:=λz h=>by
  obtain⟨u,hu,t,ht,hp⟩:=hz z h;exact I4 (gZ.1 (D.f u hu t ht)).2 hp
 refine⟨λz h hk=>vrL ((gk z h).1 hk),λb hb=>?_,λb hb h=>?_,λb hb c hc h=>?_,λz h hk=>?_⟩
 ·obtain⟨i,h1,h2,h3,h4⟩:=qY D hb;have h5:=tv h1 h3;rw[h4];exact⟨rfl,rfl,h5.2.1⟩
 ·obtain⟨i,h1,h2,h3,h4⟩:=qY D hb;have h5:=tv h1 h3;rw[<-h4]at h5;exact(gk _ h).2 h5.2.2.2.1
 ·obtain⟨i,h1,h2,h3,h4⟩:=qY D hb;obtain⟨j,g1,g2,g3,g4⟩:=qY D hc;have Ks:=Oh h1 g1 (by rw[<-h4,<-g4,h]);rw[Ks]at h2;exact abV (h2.symm.trans g2)
 ·obtain⟨u,hu,t,ht,hp⟩:=hz z h;exact Ji (Ec.2 ⟨u,hu,t,ht,(iM _ _).2 ⟨hp,hk⟩⟩)
theorem Ol{k:List Tm}{t:Tm}(h:mf k t=true):fN k t=0/\oD (de (k++[t])) (fJ k) t:=by
 unfold mf at h;simp only[ab4,decide_eq_true_eq]at h;exact⟨h.1,(xp.1 (bX.1 h.2)).2⟩
theorem Om{k:List Tm}{t:Tm}(h:fN k t=0)(hd:oD (de (k++[t])) (fJ k) t):mf k t=true:=by
 unfold mf;simp only[ab4,decide_eq_true_eq];exact⟨h,bX.2 (xp.2 ⟨(cq _ _).2 (nT (by simp)),hd⟩)⟩
theorem Eh{k:List Tm}{t:Tm}(h:fN k t=0)(hf:∀x∈k++[t],iE x=true):xo (de (k++[t])):=by
 refine G6 λx hx=>⟨?_,hf x hx⟩;unfold fN at h
 split at h
 omega
 ·split at h
  ·rename_i hn;exact absurd h hn
  ·rename_i hn;exact(uS (pg (by omega) x hx)).1
theorem tw{S:List eE}(hS:∀b∈S,iE b.t=true){k:List Tm}{t:Tm}(h:∀x∈k++[t],iE x=true):∀x∈bz S k++[bj S t],iE x=true:=λx hx=>by
 rcases ab2.1 hx with hx |hx
 ·rw[bI]at hx;obtain⟨y,hy,rfl⟩:=aci.1 hx;exact Jj hS y (h y (ac0 _ hy))
 ·simp at hx;rw[hx];exact Jj hS t (h t (by simp))
theorem KM(b:List (List Nat)):KL (l6 b):=by
 obtain⟨h1,h2⟩:=GO b;refine⟨λd hd t ht=>?_,h2,h1⟩;obtain⟨_,q1,q2,_⟩:=(yk b).2 d hd;rcases ab2.1 ht with h |h;exact(q1 t h).1;simp at h;rw[h];exact q2
theorem Bl:∀{l:List Tm} {n:Nat} {prev:Option Tm},fu l->(∀v∈l,v∈qT)->n+l.length<=4->(∀p,prev=some p->∀v∈l,aW p v<0)->pA prev (gr n l)=0
 |[],n,prev,_,_,_,_=>rfl
 |v::l,n,prev,hs,hv,hn,hp=>by
  have h1:=(tv (n:=n) (by simp at hn;omega) (hv v (by simp))).1
  have h2:behind prev v=true:=by
   cases prev with
   |none=>rfl
   |some p=>exact decide_eq_true (hp p rfl v (by simp))
  rw[gr,pA,if_neg (by omega),if_neg (by rw[h2];simp)];have Dj:=acm.1 hs
  exact Bl Dj.2 (λu hu=>hv u (by simp[hu])) (by simp at hn ⊢;omega) λp Wf u hu=>by
   obtain rfl:=abV Wf;exact Dj.1 u hu
theorem On{l:List fq}(D:KL l):qa (gr 0 (bH l))=0:=by
 have h1:=D.n;have h2:=Eg (bH l) 0;unfold qa;rw[if_neg (by omega)];exact Bl (gN (gp _)) D.v (by omega) (λp h=>by cases h)
structure N0(ids:List Nat)(h h':ab):Prop where
 len:h'.length=h.length
 same:∀j,j∉ids->h'[j]?=h[j]?
 oF:∀(j:Nat) (o:aw),h[j]?=some o->∃mu:Mu,h'[j]?=some ⟨mu,o.ep,o.bQ,o.es⟩/\(mu=o.mu\/mu=.f)
theorem N0.refl(ids:List Nat)(h:ab):N0 ids h h:=⟨rfl,λ_ _=>rfl,λj o e=>⟨o.mu,e,.inl rfl⟩⟩
theorem N0.hr{ids:List Nat}{h h':ab}(z:N0 ids h h')(H:HR h):HR h':=by
 intro o ho
 obtain⟨j,hj,rfl⟩:=aeu ho;have FZ:j<h.length:=by rw[<-z.len];exact hj
 obtain⟨mu,e,hm⟩:=z.oF j h[j] (ab1 FZ);rw[ab1 hj]at e;have e:=abV e;obtain⟨h1,h2⟩:=H h[j] (acB FZ);rw[e,z.len];refine⟨?_,h2⟩;rcases hm with rfl |rfl;exact h1;simp
theorem yl:∀{ids:List Nat} {h h':ab},fm h ids=some h'->N0 ids h h'
 |[],h,h',e=>by
  simp only[fm,acA]at e;subst e;exact .refl _ _
 |id::r,h,h',e=>by
  unfold fm at e
  split at e
  ·rename_i h1 e1
   have a:=yl e;unfold ku at e1
   split at e1
   ·rename_i o ho
    split at e1
    ·obtain rfl:=abV e1;refine⟨by rw[a.len,aer],λj hj=>?_,λj o' hj=>?_⟩
     ·rw[ab5,not_or]at hj;rw[a.same j hj.2,ab0 (λhh=>hj.1 hh.symm)]
     ·by_cases Af:id=j
      ·subst Af;obtain rfl:=abV (ho.symm.trans hj);obtain⟨mu,q1,q2⟩:=a.oF id _ (abY (ag ho));exact⟨mu,q1,.inr (by rcases q2 with rfl |rfl <;>rfl)⟩
      exact a.oF j o' (by rw[ab0 Af];exact hj)
    cases e1
   cases e1
  cases e
theorem aj.Y9{C:cW}{f:FuncId}{args args':List PV}{h:ab}{rv:PV}{Q:PV->ab->Prop}(hb:gC h args=some args')(Cs:ao args=false)(xW:∀id∈jd args,∃o:aw,h[id]?=some o/\ao o.es=true/\(o.mu=.m\/o.mu=.f))(a:aI C f (aQ args') rv)(q:∀h',N0 (jd args) h h'->Q rv h')(hm:C.mode f=.pure:=by rfl):aj C 2 f args h Q:=by
 obtain⟨n0,hn⟩:=a;obtain⟨hf,ef⟩:=N1 _ _ xW;refine⟨rv,if(dT rv ||lB h (jd args))=true then h else hf,q _ ?_,n0,λn h1=>?_⟩
 ·split
  exact .refl _ _;exact yl ef
 obtain⟨r0,hc,r1,e1,e3,e4⟩:=hn n h1;have zS:dT r1=dT rv:=by have:=ji r1;rw[e4]at this;exact this.symm
 unfold dn;rw[hm];simp only[dx,Cs,aca,if_false,hb,e1,e3,zS,e4]
 split
 rfl
 simp[ef]
inductive Aq(h:ab):List Nat->List PV->List fq->Prop
 |nil:Aq h [] [] []
 |snoc {ids:List Nat} {es:List PV} {ds:List fq} {w:PV} {d:fq}:Aq h ids es ds->Out 4 h w (ae d.kn)->Aq h (ids++b9 w) (es++[.agg [w,.int .i64 d.tm.k,.str d.tm.s,.int .i64 d.tm.o,.aa false (ae d.tm.l)]]) (ds++[d])
theorem Aq.len{h:ab}{ids:List Nat}{es:List PV}{ds:List fq}(n:Aq h ids es ds):es.length=ds.length:=by
 induction n with
 |nil=>rfl
 |snoc _ _ ih=>simp[ih]
theorem Aq.of_eq{h h':ab}{ids:List Nat}{es:List PV}{ds:List fq}(n:Aq h ids es ds):(∀i∈ids,h'[i]?=h[i]?)->Aq h' ids es ds:=by
 induction n with
 |nil=>exact λ_=>.nil
 |snoc _ o ih=>exact λhe=>.snoc (ih λi hi=>he i (by simp[hi])) (o.of_eq λi hi=>he i (by simp[hi]))
theorem Aq.lt{h:ab}{ids:List Nat}{es:List PV}{ds:List fq}(n:Aq h ids es ds):∀i∈ids,i<h.length:=by
 induction n with
 |nil=>intro i hi;cases hi
 |snoc _ o ih=>
  intro i hi
  rcases ab2.1 hi with hi |hi;exact ih i hi;exact o.ls i hi
theorem Aq.Uf{h:ab}{ids:List Nat}{es:List PV}{ds:List fq}(n:Aq h ids es ds):bG (λi=>decide (i<h.length)) es=true:=by
 induction n with
 |nil=>rfl
 |snoc _ o ih=>
  rw[fX,ac1,<-fX,ih];simp[bu,bG,o.bu]
theorem Aq.ok{h:ab}{ids:List Nat}{es:List PV}{ds:List fq}(n:Aq h ids es ds):∀e∈es,(cells e).length=5:=by
 induction n with
 |nil=>intro e he;cases he
 |snoc _ o ih=>
  intro e he
  rcases ab2.1 he with he |he;exact ih e he;simp at he;rw[he];rfl
theorem Bf{f:PV->Option PV}:∀{a b a' b':List PV},gE f a=some a'->gE f b=some b'->gE f (a++b)=some (a'++b')
 |[],b,a',b',h1,h2=>by
  simp only[gE,acA]at h1;subst h1;exact h2
 |c::a,b,a',b',h1,h2=>by
  simp only[gE]at h1
  split at h1
  ·rename_i c' r' e1 e2
   obtain rfl:=abV h1;simp[gE,e1,Bf e2 h2]
  cases h1
theorem Ug{n:Nat}{h:ab}{id ep len:Nat}{o:aw}{r:List PV}(hg:getM h id ep=some o)(hl:len<=o.es.length)(hm:o.mu=.m\/o.mu=.f)(hr:gE (qK n h) (o.es.take len)=some r):qK (n+1) h (.ak id ep 0 len)=some (.aa false r):=by
 rw[qK];simp only[hg];rw[if_pos ⟨by omega,hm⟩,ac3,hr]
 rfl
theorem N3{n:Nat}{h:ab}{cs r:List PV}(hr:gE (qK n h) cs=some r):qK (n+1) h (.agg cs)=some (.agg r):=by
 rw[qK,hr]
 rfl
theorem gi{f:PV->Option PV}{c c':PV}{r r':List PV}(h1:f c=some c')(h2:gE f r=some r'):gE f (c::r)=some (c'::r'):=by
 simp only[gE,h1,h2]
theorem Bg{n:Nat}{h:ab}{k:IntKind}{i:Int}:qK n h (.int k i)=some (.int k i):=by cases n <;>rfl
theorem N4{n:Nat}{h:ab}{s:ByteArray}:qK n h (.str s)=some (.str s):=by cases n <;>rfl
theorem I7{n:Nat}{h:ab}{f:Bool}{es:List PV}:qK n h (.aa f es)=some (.aa f es):=by cases n <;>rfl
theorem Rt(n:Nat)(h:ab)(t:Tm):qK (n+1) h (enc t)=some (enc t):=by
 rw[ar];exact N3 (gi Bg (gi N4 (gi Bg (gi I7 rfl))))
theorem Ea(n:Nat)(h:ab):∀l:List Tm,gE (qK (n+1) h) (ae l)=some (ae l)
 |[]=>rfl
 |t::l=>by rw[ae];exact gi (Rt n h t) (Ea n h l)
theorem VX{n:Nat}{h:ab}{w:PV}{d:fq}(o:Out 4 h w (ae d.kn)):∃r,qK (n+3) h (.agg [w,.int .i64 d.tm.k,.str d.tm.s,.int .i64 d.tm.o,.aa false (ae d.tm.l)])=some r/\cj r=s9 d:=by
 rcases o with⟨rfl,e⟩|⟨id,ep,rfl,e⟩;exact⟨.agg [.aa true [],.int .i64 d.tm.k,.str d.tm.s,.int .i64 d.tm.o,.aa false (ae d.tm.l)],N3 (gi I7 (gi Bg (gi N4 (gi Bg (gi I7 rfl))))),by simp[cj,aQ,aZ,o8,e]⟩
 ·refine⟨.agg [.aa false (ae d.kn),.int .i64 d.tm.k,.str d.tm.s,.int .i64 d.tm.o,.aa false (ae d.tm.l)],?_,by simp[cj,aQ,aZ,o8]⟩;have hg:=bp e rfl (by simp);have hm:=Ea n h d.kn;have h1:qK (n+2) h (.ak id ep 0 (ae d.kn).length)=some (.aa false (ae d.kn)):=Ug hg (abZ _) (.inl rfl) (by rw[ac2];exact hm);exact N3 (gi h1 (gi Bg (gi N4 (gi Bg (gi I7 rfl)))))
theorem Aq.qK{h:ab}{ids:List Nat}{es:List PV}{ds:List fq}(n:Aq h ids es ds)(k:Nat):∃eV,gE (qK (k+3) h) es=some eV/\aQ eV=bV ds:=by
 induction n with
 |nil=>exact⟨[],rfl,rfl⟩
 |snoc _ o ih=>
  obtain⟨a,h1,h2⟩:=ih;obtain⟨r,h3,h4⟩:=VX (n:=k) o;refine⟨a++[r],Bf h1 (by simp[gE,h3]),?_⟩;rw[cL,acK,<-cL,h2];simp[bV,h4]
theorem Aq.aaI{h:ab}{ids:List Nat}{es:List PV}{ds:List fq}(n:Aq h ids es ds):ao es=true->aQ es=bV ds:=by
 induction n with
 |nil=>exact λ_=>rfl
 | @snoc ids es ds w d _ o ih=>
  intro hv
  rw[bw,ac1,ab4,<-bw,<-bw]at hv;rw[cL,acK,<-cL,ih hv.1]
  have hw:aU w=true:=by
   have:=hv.2;simp[ao,aU]at this;exact this
  rcases o with⟨rfl,e⟩|⟨id,ep,rfl,e⟩;simp[cj,aQ,aZ,bV,o8,e];simp[aU]at hw
theorem Aq.ret{h:ab}{v:PV}{ids:List Nat}{es:List PV}{ds:List fq}(o:Out 5 h v es)(n:Aq h ids es ds):∃r1,AK h (aR [v])=some r1/\cj r1=.aa false (bV ds):=by
 show∃r1,AK h v=some r1/\cj r1=.aa false (bV ds);rcases o with⟨rfl,rfl⟩|⟨id,ep,rfl,e⟩
 ·have:=n.len;obtain rfl:=acd (show ds.length=0 by simpa using this.symm);exact⟨_,rfl,rfl⟩
 ·have hg:=bp e rfl (by simp)
  by_cases hv:ao es=true
  ·refine⟨.aa false es,?_,by simp[cj,n.aaI hv]⟩;simp[AK,rb,jP,pD,hg,hv]
  ·obtain⟨eV,h1,h2⟩:=n.qK 4;refine⟨.aa false eV,?_,by simp[cj,h2]⟩;have h3:rb h (.ak id ep 0 es.length)=none:=by simp[rb,jP,pD,hg,hv]
   simp only[AK,h3];exact Ug hg (abZ _) (.inl rfl) (by rw[ac2];exact h1)
structure Ky(H:ab)(v:PV)(sz:Nat)(es ys:List PV)(r:PV)(H':ab):Prop where
 out:Out sz H' r (es++ys)
 cs:(H'=H/\r=v/\ys=[])\/(H'=H++[⟨.m,0,sz,ys⟩]/\r=.ak H.length 0 0 ys.length/\es=[])\/∃id ep,v=.ak id ep 0 es.length/\H[id]?=some ⟨.m,ep,sz,es⟩/\H'=H.set id ⟨.m,ep+1,sz,es++ys⟩/\r=.ak id (ep+1) 0 (es.length+ys.length)
section
variable{H H':ab}{v r:PV}{sz:Nat}{es ys:List PV}
theorem Ky.len(a:Ky H v sz es ys r H'):H.length<=H'.length:=by
 rcases a.cs with⟨rfl,_⟩|⟨rfl,_⟩|⟨id,ep,_,_,rfl,_⟩ <;>simp
theorem Ky.fr(a:Ky H v sz es ys r H')(j:Nat)(hj:j<H.length)(hv:j∉b9 v):H'[j]?=H[j]?:=by
 rcases a.cs with⟨rfl,_⟩|⟨rfl,_⟩|⟨id,ep,rfl,_,rfl,_⟩
 rfl
 exact abW hj;exact ab0 (λh=>hv (by simp[b9,h]))
theorem Ky.b9(a:Ky H v sz es ys r H'):∀i∈Pm.b9 r,i∈Pm.b9 v\/H.length<=i:=by
 intro i hi
 rcases a.cs with⟨_,rfl,_⟩|⟨_,rfl,_⟩|⟨id,ep,rfl,_,_,rfl⟩;exact .inl hi;simp[Pm.b9]at hi;exact .inr (by omega);exact .inl (by simpa[Pm.b9]using hi)
theorem Ky.hr(a:Ky H v sz es ys r H')(hR:HR H)(GP:bG (λi=>decide (i<H.length)) (es++ys)=true):HR H':=by
 rcases a.cs with⟨rfl,_⟩|⟨rfl,_,rfl⟩|⟨id,ep,_,_,rfl,_⟩;exact hR;exact hR.wT (by simp) (eA (f:=λi=>decide (i<H.length)) (λi hi=>by have:=of_decide_eq_true hi;exact decide_eq_true (by omega)) _ (by simpa using GP));exact hR.set id (by simp) GP
theorem Ky.aT(a:Ky H v sz es ys r H'):∀(j:Nat) (o:aw),H[j]?=some o->o.mu≠.m->H'[j]?=some o:=by
 intro j o h hm
 rcases a.cs with⟨rfl,_⟩|⟨rfl,_⟩|⟨id,ep,_,e,rfl,_⟩;exact h;rw[abW (ag h)];exact h
 ·by_cases hj:id=j
  subst hj;rw[e]at h;cases h;exact absurd rfl hm;rw[ab0 hj];exact h
theorem Ky.N5(a:Ky H v sz es ys r H'):∀(j:Nat) (o:aw),H'[j]?=some o->o.mu≠.l\/H[j]?=some o:=by
 intro j o h
 rcases a.cs with⟨rfl,_⟩|⟨rfl,_⟩|⟨id,ep,_,e,rfl,_⟩;exact .inr h
 ·by_cases hj:j<H.length
  rw[abW hj]at h;exact .inr h
  ·have cM:=ag h;simp at cM;obtain rfl:j=H.length:=by omega
   simp at h;subst h;exact .inl (by simp)
 ·by_cases hj:id=j
  subst hj;rw[abY (ag e)]at h;cases h;exact .inl (by simp);rw[ab0 hj]at h;exact .inr h
end
theorem GQ{C:cW}(T:mD C.P){H:ab}{st xt el ru:TypeId}{sz gu:Nat}{z v u:PV}{es ys:List PV}(hk:T.kd st=some (.sl el))(fZ:T.kd xt=some (.sl ru))(hs:T.ts el=some (sz+1))(hb:T.tb el=some gu)(hz:T.tz el=some z)(ju:gu<=1000)(hl:(cells z).length=sz+1)(ho:(cells z).all bM=true)
  (o:Out (sz+1) H v es) (hu:cB H u=some ys) (VY:∀i∈b9 v,i∉b9 u) (hy:dC (sz+1) ys) (hn:es.length+ys.length<1000000000):∃r H',bT C.P 2 H st xt v u=some (r,H')/\Ky H v (sz+1) es ys r H':=by
 unfold dC at hy
 have hA:bT C.P 2 H st xt v u=match(generalizing:=false) v with
   | .aa full es=>if ys.isEmpty then some (v,H)else if full=true/\1<=2/\roomy (es.length+ys.length) gu=true/\es.all (λv=>decide ((cells v).length=sz+1)&& (cells v).all bM)=true then some (.ak H.length 0 0 (es.length+ys.length),newObj H (sz+1) (es++ys))else none
   | .ak id ep off len=>match getM H id ep with
    |some o=>if off+len<=o.es.length/\sz+1=o.bQ then
      if ys.isEmpty then some (v,H)
      else if off=0/\2<=2/\o.mu=.m/\iP id u=true/\len+ys.length<=o.es.length then some (.ak id ep 0 (len+ys.length),H.set id {o with es:=o.es.take len++ys++o.es.drop (len+ys.length)})
      else if off=0/\2<=2/\o.mu=.m/\roomy (len+ys.length) gu=true then some (.ak id (ep+1) 0 (len+ys.length),H.set id {o with ep:=ep+1,es:=o.es.take len++ys})else none
     else none
    |none=>none
   |_=>none:=by
  unfold bT;rw[bB (T.cY _ _ hk)];simp only[T.ez _ _ hs,T.rE _ _ hb,T.nH _ _ hz,cH,bB (T.cY _ _ fZ),hu];rw[if_pos ⟨by omega,by omega,⟨hl,ho⟩,hy⟩]
  rfl
 rw[hA]
 by_cases bO:ys=[]
 ·subst bO;rcases o with⟨rfl,rfl⟩|⟨id,ep,rfl,e⟩;exact⟨_,_,rfl,.inl ⟨rfl,rfl⟩,.inl ⟨rfl,rfl,rfl⟩⟩
  ·refine⟨.ak id ep 0 es.length,H,?_,.inr ⟨id,ep,by simp,by simpa using e⟩,.inl ⟨rfl,rfl,rfl⟩⟩;simp[bp e rfl (by simp:Mu.m≠Mu.x)]
 ·have Ci:ys.isEmpty=false:=by cases ys with |nil=>exact absurd rfl bO |cons=>rfl
  rcases o with⟨rfl,rfl⟩|⟨id,ep,rfl,e⟩
  ·refine⟨.ak H.length 0 0 ys.length,H++[⟨.m,0,sz+1,ys⟩],?_,.inr ⟨H.length,0,by simp,by simp⟩,.inr (.inl ⟨rfl,rfl,rfl⟩)⟩;have hr:roomy ys.length gu=true:=jB (by simpa using hn) ju
   simp[Ci,hr,newObj]
  ·refine⟨.ak id (ep+1) 0 (es.length+ys.length),H.set id ⟨.m,ep+1,sz+1,es++ys⟩,?_,.inr ⟨id,ep+1,by simp,abY (ag e)⟩,.inr (.inr ⟨id,ep,rfl,e,rfl,rfl⟩)⟩;have hr:roomy (es.length+ys.length) gu=true:=jB hn ju
   have Ni:iP id u=false:=by
    have:=VY id (by simp[b9])
    cases u <;>simp_all[iP,b9]
    omega
   simp[bp e rfl (by simp:Mu.m≠Mu.x),Ci,hr,Ni]
theorem N6{C:cW}(T:mD C.P){lv:Nat}(zZ:1<=lv){H:ab}{st xt el ru:TypeId}{sz gu:Nat}{z u:PV}{es ys:List PV}(hk:T.kd st=some (.sl el))(fZ:T.kd xt=some (.sl ru))(hs:T.ts el=some (sz+1))(hb:T.tb el=some gu)(hz:T.tz el=some z)(ju:gu<=1000)(hl:(cells z).length=sz+1)(ho:(cells z).all bM=true)
  (hu:cB H u=some ys) (jt:dC (sz+1) es) (hy:dC (sz+1) ys) (hn:es.length+ys.length<1000000000):∃r J,bT C.P lv H st xt (.aa true es) u=some (r,H++J)/\Ls (sz+1) (H++J) r (es++ys)/\(J=[]\/J=[⟨.m,0,sz+1,es++ys⟩])/\(∀i∈b9 r,H.length<=i)/\(es=[]->Out (sz+1) (H++J) r ys):=by
 unfold dC at hy jt
 have hA:bT C.P lv H st xt (.aa true es) u=if ys.isEmpty then some (.aa true es,H)else if true=true/\1<=lv/\roomy (es.length+ys.length) gu=true/\es.all (λv=>decide ((cells v).length=sz+1)&& (cells v).all bM)=true then some (.ak H.length 0 0 (es.length+ys.length),newObj H (sz+1) (es++ys))else none:=by
  unfold bT;rw[bB (T.cY _ _ hk)];simp only[T.ez _ _ hs,T.rE _ _ hb,T.nH _ _ hz,cH,bB (T.cY _ _ fZ),hu];rw[if_pos ⟨by omega,by omega,⟨hl,ho⟩,hy⟩]
 rw[hA]
 by_cases bO:ys=[]
 ·subst bO;exact⟨.aa true es,[],by simp,.inr ⟨true,by simp⟩,.inl rfl,by simp[b9],λh=>.inl ⟨by rw[h],rfl⟩⟩
 ·have Ci:ys.isEmpty=false:=by cases ys with |nil=>exact absurd rfl bO |cons=>rfl
  have hr:roomy (es.length+ys.length) gu=true:=jB hn ju
  refine⟨.ak H.length 0 0 (es.length+ys.length),[⟨.m,0,sz+1,es++ys⟩],by rw[Ci,if_neg (by simp),if_pos ⟨rfl,by omega,hr,jt⟩];rfl,.inl (.inr ⟨H.length,0,by simp,by simp⟩),.inr rfl,by simp[b9],λh=>.inr ⟨H.length,0,by simp[h],by simp[h]⟩⟩
theorem Ru{C:cW}{ops:Array Oper}{L L':Al}{H h':ab}{c:Nat}(vH:∀O,gT ops (before ops) (al L O)=[c])(Ah:sinks ops (before ops)=none)(hc:c<H.length)(zV:∀(j:Nat) (o:aw),h'[j]?=some o->o.mu≠.l\/(cK [c] H)[j]?=some o)
  (nJ:∀run O,cx C run ops (before ops) (cK [c] H) 0 ops.toList ⟨al L O,cK [c] H⟩=some ⟨al L' O,h'⟩):∀run O,jy C run ops ⟨al L O,H⟩=some ⟨al L' O,eG [c] H h'⟩:=by
 intro run O
 unfold jy;rw[vH,nJ];dsimp only
 have hn:rQ [c] H h'=true:=uy λj o h=>by
  rcases zV j o h with h |h;exact .inl h
  ·by_cases hj:j=c
   subst hj;exact .inr (.inl ⟨by simp,hc⟩)
   ·rw[lG]at h;have:([c].contains j)=false:=by simp;exact hj
    simp only[this,aca,if_false,aeh]at h;exact .inr (.inr h)
 rw[if_pos ⟨hn,by simp only[rR,Ah]⟩]
theorem VZ{H:ab}{c j:Nat}(h:j≠c):(cK [c] H)[j]?=H[j]?:=by
 rw[lG];have:([c].contains j)=false:=by simp;exact h
 simp only[this,aca,if_false,aeh]
theorem N7{H:ab}{c ep sz:Nat}{es:List PV}(h:H[c]?=some ⟨.m,ep,sz,es⟩):(cK [c] H)[c]?=some ⟨.l,ep,sz,es⟩:=by
 rw[lG,h];simp[bY]
theorem Cu{H:ab}{c:Nat}:(cK [c] H).length=H.length:=by simp[cK]
theorem GR{H h:ab}{c j:Nat}(hj:j≠c):(eG [c] H h)[j]?=h[j]?:=by
 rw[nI];have:([c].contains j)=false:=by simp;exact hj
 simp only[this,aca,if_false,aeh]
theorem N8{H h:ab}{c:Nat}{o:aw}(h0:H[c]?=some o)(hc:c<h.length):(eG [c] H h)[c]?=some o:=by
 rw[nI,h0,ab1 hc];simp
theorem I8{H h:ab}{c:Nat}:(eG [c] H h).length=h.length:=by simp[eG]
theorem HR.Rv{H:ab}{c:Nat}(hR:HR H):HR (cK [c] H):=by
 intro o ho
 obtain⟨j,hj,rfl⟩:=aeu ho;have vJ:j<H.length:=by rw[<-Cu (c:=c)];exact hj
 have e:=lG [c] H j;rw[ab1 hj,ab1 vJ]at e;simp only[ab8,acA]at e;obtain⟨h1,h2⟩:=hR _ (acB vJ);rw[e,Cu]
 split
 ·unfold bY
  split
  exact⟨by simp,h2⟩;exact⟨h1,h2⟩
 exact⟨h1,h2⟩
theorem HR.Rx{H h:ab}{c:Nat}(hR:HR h)(hR0:HR H)(hle:H.length<=h.length):HR (eG [c] H h):=by
 intro o ho
 obtain⟨j,hj,rfl⟩:=aeu ho;have vJ:j<h.length:=by rw[<-I8 (H:=H) (c:=c)];exact hj
 rw[I8]
 by_cases YK:j=c
 ·subst YK
  by_cases h0:j<H.length
  ·have e:=N8 (h:=h) (ab1 h0) vJ;rw[ab1 hj]at e;rw[abV e];obtain⟨h1,h2⟩:=hR0 _ (acB h0);exact⟨h1,eA (λi hi=>by have:=of_decide_eq_true hi;exact decide_eq_true (by omega)) _ h2⟩
  ·have e:=nI [j] H h j;rw[ab1 hj,ab1 vJ,ach (Nat.not_lt.1 h0)]at e;simp at e;rw[e];exact hR _ (acB vJ)
 ·have e:=GR (H:=H) (h:=h) YK;rw[ab1 hj,ab1 vJ]at e;rw[abV e];exact hR _ (acB vJ)
theorem kLd{C:cW}(T:mD C.P){run:iR}{ops:Array Oper}{b:List Nat}{h0:ab}{i:Nat}{L:Al}{O:Nat->PV}{h:ab}{d x c:Nat}{o:aw}{t:TypeId}{v:PV}{y:TypeId}{s:String}{a:Array Edge}
  (hx:lk L x=some (.ptr c 0 0 0)) (hc:h0[c]?=some o) (hm:o.mu≠.m) (hs:vK T (.load t (.tmp x)) L h (λy=>y=v)):da C run ops b h0 i ⟨some d,.load t (.tmp x),y,s,a,none⟩ ⟨al L O,h⟩=some ⟨al ((d,v)::L) O,h⟩:=by
 obtain⟨hh,v',e,rfl⟩:=lI T hs;have hp:al L O x=.ptr c 0 0 0:=dJ hx O;refine YA hh rfl ?_ (by have:=e run 1 O;exact this);have:sJ (.load t (.tmp x)) (al L O)=some c:=by simp only[sJ,ev,hp]
 simp only[lP,this,pP,hc];simp[hm]
theorem Y'{C:cW}(T:mD C.P){run:iR}{L:Al}{O:Nat->PV}{M G3:ab}{t:TypeId}{n z:Nat}{ps:Array (Nat×Operand)}{vs:List PV}{u:PV}(x:Ai T t n ps.toList L (λsz es=>es=vs/\sz=z))(h:(ao vs=true/\u=.aa true vs/\G3=M)\/(ao vs=false/\u=.ak M.length 0 0 n/\G3=newObj M z vs)):au C run 2 (.buildSlice t n ps) (al L O) M=some (u,G3):=by
 obtain⟨sz,es,⟨rfl,rfl⟩,e⟩:=nK T x;have:=e O M 2;rcases h with⟨hv,rfl,rfl⟩|⟨hv,rfl,rfl⟩
 ·rw[hv,if_pos rfl]at this;simpa only[au,aC]using this
 ·rw[hv,if_neg (by simp),if_pos (by omega)]at this;simpa only[au,aC]using this
namespace bC
open Go.Proofs
attribute [local irreducible] aD az aL aJ Ev ah aj ay bg bN
theorem Mr(p a:List Tm)(u:Tm):ry (p++[u]) a=fC u (ry p a):=by simp[ry]
theorem ub(l:List Tm)(hl:l.length<1000000)(hb:∀t∈l,ax t<100000000):aI C 70 [.aa false (ae l)] (.aa false (ae (fJ l))):=by
 have cz:=ai l;refine aI.x T6 Tryz.func70 rfl ?_;refine wA ?_;refine cU.zip T6 l (λp q L H=>∃f,L=[(0,.aa false (ae l)),(3,.aa f (ae (ry p []))),(4,.int .i64 p.length)]/\H=[]) (.nx ⟨true,rfl,rfl⟩) ?_ ?_
 ·rintro p u q _ _ O e ⟨f,rfl,rfl⟩;have cC:=ba e;have dp:=lenE e;have h1:=xY p [];simp only[acz]at h1
  have had:=(Nl u (ry p []) (by have:=hb u (by rw[e];simp);omega) (λx hx=>by
   rcases DN hx with h |h;have:=hb x (by rw[e];simp[h]);omega
   cases h) (by omega)).nine
  rw[ar]at had;refine wA ?_;refine .p had ?_;refine wA ?_;exact .nx ⟨_,by rw[Mr],rfl⟩
 ·rintro _ _ O ⟨f,rfl,rfl⟩;refine wA ?_;exact⟨_,rfl,by simp[aR,cj,fJ]⟩
theorem Bs(t:Tm)(n:Int)(hb:ax t<1000000):aI C 124 [enc t,.int .i64 n] (.aa false (ae (mQ n t))):=by
 have h1:=tZ t (by omega);have jR:=qR t;have cz:=ai (pre t);have hse:=ub (w9 n (pre t)) (by have:=xz n (pre t);omega) (λu hu=>by have:=nN t u (acO.1 hu).1;omega);rw[ar]at h1 ⊢;refine aI.x T6 Tryz.func124 rfl ?_;refine wA ?_;refine .p h1 ?_;refine wA ?_;refine cU.zip T6 (pre t) (λp q L H=>∃v,L=[(1,.int .i64 n),(5,v),(6,.aa false (ae (pre t))),(7,.int .i64 p.length)]/\HV H/\Out 4 H v (ae (w9 n p))) (.nx ⟨_,rfl,HV.one (by simp),.inl ⟨rfl,rfl⟩⟩) ?_ ?_
 ·rintro p u q _ H O e ⟨v,rfl,hH,ho⟩;have cC:=ba e;have dp:=lenE e;have hol:=xz n p;have hle:=ai (w9 n p);have e9:ae (w9 n p)++[.agg [.int .i64 u.k,.str u.s,.int .i64 u.o,.aa false (ae u.l)]]=ae (w9 n p++[u]):=by rw[bS,<-ar];rfl
  have lE:=JT n p [u];rw[FP]at lE;refine wK (λhc v H lp=>?_) λhc=>?_
  ·rw[if_pos (by assumption)]at lE;refine .nx ⟨_,rfl,lp.hv,?_⟩;have:=lp.out;rw[e9]at this;rw[lE];exact this
  ·rw[if_neg (by assumption)]at lE;refine .nx ⟨_,rfl,hH,?_⟩;rw[lE];simpa[w9]using ho
 ·rintro _ H O ⟨v,rfl,hH,ho⟩;refine wA ?_;refine .pl (.inl ho) hse (λh' fz=>?_);refine wA ?_;exact⟨_,rfl,by simp[aR,cj,mQ,w9]⟩
theorem nS(t:Tm)(hb:ax t<1000000):aI C 67 [enc t] (.aa false (ae (bL t))):=by
 have h1:=Bs t 1 hb;rw[ar]at h1 ⊢;refine aI.x T6 Tryz.func67 rfl ?_;refine wA ?_;refine .p h1 ?_;refine wA ?_;exact⟨_,rfl,by simp[aR,bL]⟩
theorem ua(l:List Tm)(t:Tm)(ht:ax t<1000000000)(hl:l.length<1000000000)(hb:∀u∈l,ax u<1000000000):aI C 91 [.aa false (ae l),enc t] (.bool (bJ l t)):=by
 have cz:=ai l;rw[ar];refine aI.x T6 Tryz.func91 rfl ?_;refine wA ?_;refine cU.zip T6 l (λp q L H=>L=[(0,.aa false (ae l)),(3,.ptr 0 0 0 0),(5,.int .i64 p.length)]/\H=[⟨.m,0,4,[.agg [.int .i64 t.k,.str t.s,.int .i64 t.o,.aa false (ae t.l)]]⟩]/\∀u∈p,aW u t≠0) (.nx ⟨rfl,rfl,by simp⟩) ?_ ?_
 ·rintro p u q _ _ O e ⟨rfl,rfl,hp⟩;have cC:=ba e;have dp:=lenE e;have XO:=(uX u t (hb u (by rw[e];simp)) ht).nine;rw[ar,ar t]at XO;refine wA ?_;refine .p XO ?_
  by_cases hc:aW u t=0
  ·rw[decide_eq_true hc];refine wA ?_;have hh:bJ l t=true:=bX.2 (by rw[<-cy hc,e];simp);exact⟨_,rfl,by rw[hh];rfl⟩
  ·rw[decide_eq_false hc];refine wA ?_;exact .nx ⟨rfl,rfl,λw hw=>by rcases ab2.1 hw with h |h;exact hp w h;simp at h;rw[h];exact hc⟩
 ·rintro _ _ O ⟨rfl,rfl,hp⟩;refine wA ?_
  have hh:bJ l t=false:=by
   cases hx:bJ l t with
   |false=>rfl
   |true=>exact absurd (cc t) (hp t (bX.1 hx))
  exact⟨_,rfl,by rw[hh];rfl⟩
theorem vR(l:List Tm)(hl:(l.flatMap bL).length<1000000)(uj:l.length<1000000)(hb:∀t∈l,ax t<1000000):aI C 21 [.aa false (ae l)] (.aa false (ae (fJ (l.flatMap bL)))):=by
 have cz:=ai l
 have hse:=ub (l.flatMap bL) hl (λu hu=>by
  obtain⟨t,ht,hu⟩:=acL.1 hu;have:=j4 hu;have:=hb t ht;omega)
 refine aI.x T6 Tryz.func21 rfl ?_;refine wA ?_;refine cU.zip T6 l (λp q L H=>∃v,L=[(0,.aa false (ae l)),(3,v),(4,.int .i64 p.length)]/\HV H/\Out 4 H v (ae (p.flatMap bL))) (.nx ⟨_,rfl,HV.nil,.inl ⟨rfl,rfl⟩⟩) ?_ ?_
 ·rintro p u q _ H O e ⟨v,rfl,hH,ho⟩;have cC:=ba e;have dp:=lenE e;have Bi:=nS u (hb u (by rw[e];simp));have lE:(p++[u]).flatMap bL=p.flatMap bL++bL u:=by simp
  have G7:(p.flatMap bL).length+(bL u).length<=(l.flatMap bL).length:=by rw[e];simp
  have hle:=ai (p.flatMap bL);have hlu:=ai (bL u);rw[ar]at Bi;refine wA ?_;refine .p Bi ?_;refine wG λv H lp=>?_;refine .nx ⟨_,rfl,lp.hv,?_⟩;have:=lp.out;rw[lE,bS];exact this
 ·rintro _ H O ⟨v,rfl,hH,ho⟩;refine wA ?_;refine .pl (.inl ho) hse (λh' fz=>?_);refine wA ?_;exact⟨_,rfl,by simp[aR,cj]⟩
theorem zJ(t:Tm)(hb:ax t<10000000):aI C 144 [enc t] (.int .i64 (cE t)):=by
 have h1:=qw t (by omega);have h2:=Ip t (by omega)
 have Bi:gY t=0->valid t=0:=λh=>by
  unfold gY at h
  split at h
  ·rename_i hn;exact absurd h hn
  omega
 have h3:gY t=0->aI C 67 [enc t] (.aa false (ae (bL t))):=λh=>nS t (by have:=fe (Bi h);omega)
 have h4:=(sV t (by omega)).nine;have RA:=fy t;have cz:=ai (bL t);rw[ar]at h1 h2 h3 h4 ⊢;refine aI.x T6 Tryz.func144 rfl ?_;refine wA ?_;refine .p h1 ?_;refine wC (λhc=>?_) λhc=>?_
 ·have hth:gY t=0:=by omega
  have h3:=h3 hth;have P7:cE t=if lq t=false\/(bL t).any Dl=true then 10 else if 60<size t then 3 else 0:=by rw[cE,if_neg (by omega)]
  refine .p h3 ?_;refine wA ?_;refine cU.zip T6 (bL t) (λp q L H=>L=[(1,.ptr 0 0 0 0),(4,.aa false (ae (bL t))),(5,.int .i64 p.length)]/\H=[⟨.m,0,4,[.agg [.int .i64 t.k,.str t.s,.int .i64 t.o,.aa false (ae t.l)]]⟩]/\∀u∈p,Dl u=false) (.nx ⟨rfl,rfl,by simp⟩) ?_ ?_
  ·rintro p u q _ _ O e ⟨rfl,rfl,hp⟩;have cC:=ba e;have dp:=lenE e;have hx:Dl u=true->cE t=10:=λh=>by rw[P7,if_pos (.inr (adn.2 ⟨u,by rw[e];simp,h⟩))]
   have hn:Dl u=false->∀w∈p++[u],Dl w=false:=λh w hw=>by rcases ab2.1 hw with h1 |h1;exact hp w h1;simp at h1;rw[h1];exact h
   refine wI (λhc=>?_) (λhc hc=>?_) λhc hc=>?_;exact⟨_,rfl,by rw[hx (by simp[Dl, *])];rfl⟩;exact⟨_,rfl,by rw[hx (by simp[Dl, *])];rfl⟩;exact .nx ⟨rfl,rfl,hn (by simp[Dl, *])⟩
  ·rintro _ _ O ⟨rfl,rfl,hp⟩;have ha:(bL t).any Dl=false:=by rw[adi];intro u hu;simp[hp u hu]
   refine wA ?_;refine .p h2 ?_
   cases hf:lq t
   ·refine wA ?_;exact⟨_,rfl,by rw[P7,if_pos (.inl hf)];rfl⟩
   ·rw[hf,ha,if_neg (by simp)]at P7;refine wA ?_;refine .p h4 ?_;refine wC (λhc=>?_) λhc=>?_;exact⟨_,rfl,by rw[P7,if_pos (by omega)];rfl⟩;exact⟨_,rfl,by rw[P7,if_neg (by omega)];rfl⟩
 exact⟨_,rfl,by rw[cE,if_pos (by assumption)];rfl⟩
theorem FQ{l:List Tm}{t:Tm}(h:∀u∈l,cE u=0):gh (l++[t])=cE t:=by
 induction l with
 |nil=>
  show(if cE t≠0 then cE t else 0)=cE t
  split
  rfl
  omega
 |cons v l ih=>
  show(if cE v≠0 then cE v else gh (l++[t]))=_;rw[if_neg (by rw[h v (by simp)];simp)];exact ih λu hu=>h u (by simp[hu])
def bM(d:fq):Int:=if 40<d.kn.length then 3 else gh (d.kn++[d.tm])
theorem Qd(d:fq)(hl:d.kn.length<1000000000)(hb:∀t∈d.kn++[d.tm],ax t<10000000):aI C 90 [s9 d] (.int .i64 (bC.bM d)):=by
 have cz:=ai d.kn;have UF:=zJ d.tm (hb d.tm (by simp));rw[ar]at UF;rw[o8];refine aI.x T6 Tryz.func90 rfl ?_;refine wC (λhc=>?_) λhc=>?_;exact⟨_,rfl,by rw[bC.bM,if_pos (by omega)];rfl⟩;have ho:bC.bM d=gh (d.kn++[d.tm]):=by rw[bC.bM,if_neg (by omega)]
 refine cU.zip T6 d.kn (λp q L H=>L=[(1,.ptr 0 0 0 0),(3,.int .i64 p.length)]/\H=[⟨.m,0,5,[.agg [.aa false (ae d.kn),.int .i64 d.tm.k,.str d.tm.s,.int .i64 d.tm.o,.aa false (ae d.tm.l)]]⟩]/\∀u∈p,cE u=0) (.nx ⟨rfl,rfl,by simp⟩) ?_ ?_
 ·rintro p u q _ _ O e ⟨rfl,rfl,hp⟩;have cC:=ba e;have dp:=lenE e;have Ya:=zJ u (hb u (by rw[e];simp));have hx:=BV (l:=d.kn++[d.tm]) (p:=p) (q:=q++[d.tm]) (u:=u) (by rw[e];simp) hp;rw[ar]at Ya;refine wA ?_;refine .p Ya ?_;refine wC (λhc=>?_) λhc=>?_;exact .nx ⟨rfl,rfl,λw hw=>by rcases ab2.1 hw with h |h;exact hp w h;simp at h;rw[h];assumption⟩;exact⟨_,rfl,by rw[ho,hx (by assumption)];rfl⟩
 ·rintro _ _ O ⟨rfl,rfl,hp⟩;refine wA ?_;refine .p UF ?_;refine wA ?_;exact⟨_,rfl,by rw[ho,FQ hp];rfl⟩
end bC
theorem aj.sp{C:cW}{f:FuncId}{sz:Nat}{s:ByteArray}{v:PV}{h:ab}{es eV:List PV}{rv:PV}{Q:PV->ab->Prop}(o:Out sz h v es)(a:aI C f [.str s,.aa false eV] rv)(q:∀h',Fz sz h v es h'->Q rv h')(hm:C.mode f=.pure:=by rfl)(hv:ao es=true:=by simp)(hn:aQ es=eV:=by simp):aj C 2 f [.str s,v] h Q:=by
 rcases o with⟨rfl,rfl⟩|⟨id,ep,rfl,e⟩
 ·refine aj.pure hm rfl ?_ (q h (.inl rfl));subst hn;simpa[aQ,cj]using a
 ·obtain⟨n0,TS⟩:=a
  have hrb:gC h [.str s,.ak id ep 0 es.length]=some [.str s,.aa false es]:=by
   simp[gC,jP,pD,getM,e,hv,aU]
  have MA:fm h [id]=some (h.set id ⟨.f,ep,sz,es⟩):=by
   simp[fm,ku,e,hv]
  have hnn:aQ [.str s,.aa false es]=[.str s,.aa false eV]:=by subst hn;simp[aQ,cj]
  refine⟨rv,if(dT rv ||lB h [id])=true then h else h.set id ⟨.f,ep,sz,es⟩,q _ ?_,n0,λn h1=>?_⟩
  ·split
   exact .inl rfl;exact .inr ⟨id,ep,rfl,rfl⟩
  ·obtain⟨r0,hc,r1,e1,e3,e4⟩:=TS n h1;have zS:dT r1=dT rv:=by have:=ji r1;rw[e4]at this;exact this.symm
   have xW:jd [.str s,.ak id ep 0 es.length]=[id]:=rfl;have Cs:ao [.str s,.ak id ep 0 es.length]=false:=rfl;unfold dn;rw[hm];simp only[dx,Cs,aca,if_false,hrb,hnn,e1,e3,zS,e4,xW,MA]
   split
   rfl
   rfl
namespace bC
open Go.Proofs
attribute [local irreducible] aD az aL aJ Ev ah aj ay bg bN
theorem kD(t:Tm)(n:ByteArray):aI C 224 [enc t,.str n] (.bool (dg t n)):=by
 rw[ar];refine aI.x T6 Tryz.func224 rfl ?_;refine wJ (λhc hc=>?_) (λhc hc=>?_) λhc=>?_;exact⟨_,rfl,by simp[aR,dg,eP, *]⟩;exact⟨_,rfl,by simp[aR,dg,eP, *]⟩;exact⟨_,rfl,by simp[aR,dg,eP, *]⟩
theorem Ft(t:Tm)(hb:ax t<1000000):aI C 117 [enc t] (.bool (decide (bL t=[]))):=by
 have h1:=nS t hb;have hl:=ai (bL t);rw[ar]at h1 ⊢;refine aI.x T6 Tryz.func117 rfl ?_;refine wA ?_;refine .p h1 ?_;refine wC (λhc=>?_) λhc=>?_
 ·have:bL t=[]:=acd (by omega);exact⟨_,rfl,by simp[aR,this]⟩
 ·have:bL t≠[]:=λh=>by
   have h0:(ae (bL t)).length=0:=by rw[h];rfl
   omega
  exact⟨_,rfl,by simp[aR,this]⟩
theorem HX(s:ByteArray)(l:List Tm)(hf:um s=true)(hl:l.length<10000000)(ih:∀t∈l,aI C 217 [enc t] (.cA [enc t,.int .i64 0])):aI C 217 [enc (.mk 3 s 0 l)] (.cA [enc (.mk 3 s 0 l),.int .i64 0]):=by
 have cz:=ai l;obtain⟨n1,n2,n3,n4,n5,n6,n7,n8,n9,n10,n11,n12⟩:=OT hf;have hk:=rc s;have Wn:=(xq hf).2;have oA:=(nR s l (by omega)).nine;rw[bh]at oA ⊢;refine aI.x T6 Tryz.func217 rfl ?_;refine wA ?_;refine cU.zip T6 l (λp q L H=>∃v,L=[(1,.ptr 0 0 0 0),(2,.ptr 1 0 0 0),(4,v),(5,.int .i64 p.length)]/\HV H/\H[0]?=some ⟨.m,0,4,[.agg [.int .i64 3,.str s,.int .i64 0,.aa false (ae l)]]⟩/\H[1]?=some ⟨.m,0,4,[.agg [.int .i64 0,.str ByteArray.empty,.int .i64 0,.aa true []]]⟩/\Out 4 H v (ae p)/\∀i∈b9 v,2<=i) (.nx ⟨_,rfl,(HV.one (by simp)).db (HV.one (by simp)),rfl,rfl,.inl ⟨rfl,rfl⟩,by simp[b9]⟩) ?_ ?_
 ·rintro p u q _ H O e ⟨v,rfl,hH,h0,h1,ho,hv⟩;have cC:=ba e;have dp:=lenE e;have hi:=ih u (by rw[e];simp);have hle:=ai p;have lF:HV (H++[(⟨.m,0,4,[.agg [.int .i64 u.k,.str u.s,.int .i64 u.o,.aa false (ae u.l)]]⟩:aw)]):=hH.db (HV.one (by simp));have CA:=ho.db [(⟨.m,0,4,[.agg [.int .i64 u.k,.str u.s,.int .i64 u.o,.aa false (ae u.l)]]⟩:aw)];have lE:ae p++[.agg [.int .i64 u.k,.str u.s,.int .i64 u.o,.aa false (ae u.l)]]=ae (p++[u]):=by rw[bS,<-ar];rfl
  have Cs:∀j,j<2->∀ep n,v≠.ak j ep 0 n:=λj hj ep n hh=>by have:=hv j (by rw[hh];simp[b9]);omega
  have l0:=ag h0;have l1:=ag h1;rw[ar]at hi;refine wA ?_;refine .p hi ?_;refine wG λv H lp=>?_;refine .nx ⟨_,rfl,lp.hv,?_,?_,?_,λi hi=>?_⟩;rw[lp.fr 0 (by simp) (Cs 0 (by omega)),abW l0];exact h0;rw[lp.fr 1 (by simp;omega) (Cs 1 (by omega)),abW l1];exact h1
  ·have:=lp.out;rw[lE]at this;exact this
  ·rcases lp.out with⟨hs,_⟩|⟨id,ep,hs,_⟩;rw[hs]at hi;simp[b9]at hi
   ·rcases lp.ref id ep _ hs with⟨iC,n',h⟩|h
    ·rw[hs]at hi;simp[b9]at hi;subst hi;exact hv _ (by rw[h];simp[b9])
    rw[hs]at hi;simp[b9]at hi;simp at h;omega
 ·rintro _ H O ⟨v,rfl,hH,h0,h1,ho,hv⟩;have l0:=ag h0;have l1:=ag h1;refine wA ?_;refine aj.sp ho oA (λh' fz=>?_)
  have bO:∀j,j<2->h'[j]?=H[j]?:=λj hj=>by
   rcases fz with rfl |⟨id,ep,rfl,rfl⟩
   rfl
   ·have:=hv id (by simp[b9]);rw[ab0 (by omega)]
  have g0:=(bO 0 (by omega)).trans h0;have g1:=(bO 1 (by omega)).trans h1;have k0:=ag g0;have k1:=ag g1;have Yz:=fz.hv hH (by simp);refine wA ?_;refine .p hk ?_;refine wA ?_;refine .mk ?_ (mg (T:=T6) rfl (abY (by simp;omega)) rfl rfl rfl rfl);exact⟨jE⟩
theorem Fu(t:Tm):gY t=0->iE t=true->ax t<10000000->aI C 217 [enc t] (.cA [enc t,.int .i64 0]):=by
 induction t using Tm.ind with
 |h k s o l ih=>
  intro hv hf hb
  by_cases hk:k=3
  ·subst hk;obtain rfl:=ED (fh.1 hv).1 rfl;have:=aY l;simp only[ax]at hb;refine HX s l ((qe.1 hf).1 rfl) (by omega) λt ht=>ih t ht (pf hv ht) ((qe.1 hf).2 t ht) (by have:=bD ht;omega)
  ·rw[bh];refine aI.x T6 Tryz.func217 rfl ?_;refine wA ?_;exact jE
theorem C1(t:Tm)(hf:iE t=true)(hb:ax t<10000000):aI C 167 [enc t] (.cA [enc (if gY t=0 then t else fW),.int .i64 (gY t)]):=by
 have h1:=qw t (by omega);have h2:=λh=>Fu t h hf hb
 have h3:=λh:gY t=0=>(zp t (by omega)).nine
 have hz:=mT;rw[ar t]at h1 h2 h3 ⊢
 by_cases hv:gY t=0
 ·have h2:=h2 hv;have h3:=h3 hv;rw[(fh.1 hv).1]at h3;rw[if_pos hv,hv,ar];rw[hv]at h1;refine aI.x T6 Tryz.func167 rfl ?_;refine wA ?_;refine .p h1 ?_;refine wA ?_;refine .p h2 ?_;refine wA ?_;refine .p h3 ?_;refine wA ?_;exact jE
 ·rw[if_neg hv,hz];refine aI.x T6 Tryz.func167 rfl ?_;refine wA ?_;refine .p h1 ?_;refine wA ?_;exact⟨_,rfl,rfl⟩
theorem HY(t:Tm)(hf:iE t=true)(hb:ax t<10000000):aI C 118 [enc t] (.bool (decide (gY t=0))):=by
 have h1:=C1 t hf hb
 by_cases hv:gY t=0
 ·have h3:=(uX t t (by omega) (by omega)).nine;rw[cc]at h3;have h4:=tZ t (by omega);have jR:=qR t;have cz:=ai (pre t);rw[if_pos hv,hv]at h1;rw[hv];rw[ar]at h1 h3 h4 ⊢;refine aI.x T6 Tryz.func118 rfl ?_;refine wA ?_;refine .p h1 ?_;refine wA ?_;refine .p h3 ?_;refine wA ?_;refine .p h4 ?_;refine wA ?_;refine cU.zip T6 (pre t) (λp q L H=>L=[(5,.aa false (ae (pre t))),(6,.int .i64 p.length)]/\HV H) (.nx ⟨rfl,(HV.one (by simp)).db (HV.one (by simp))⟩) ?_ ?_
  ·rintro p u q _ H O e ⟨rfl,hH⟩;have cC:=ba e;have dp:=lenE e;have hk:=rc u.s;have hu:u∈pre t:=by rw[e];simp
   have EJ:u.k=3->(ch u.s).k≠3:=λh=>(xq (Js (tg hf hu) h)).2
   by_cases Wn:u.k=3
   ·have hs3:=EJ Wn;refine wA ?_;refine .p hk ?_;refine wA ?_;exact .nx ⟨rfl,hH⟩
   ·refine wA ?_;exact .nx ⟨rfl,hH⟩
  ·rintro _ H O ⟨rfl,hH⟩;refine wA ?_;exact⟨_,rfl,rfl⟩
 ·rw[decide_eq_false hv];rw[if_neg hv,mT]at h1;rw[ar]at h1 ⊢;refine aI.x T6 Tryz.func118 rfl ?_;refine wA ?_;refine .p h1 ?_;refine wA ?_;exact⟨_,rfl,rfl⟩
theorem Pv(t:Tm)(hb:ax t<10000000):aI C 289 [enc t] (.cA [enc (ck t),.int .i64 (jH t)]):=by
 have h1:=qw t (by omega);have h2:=kD t ⟨#[101,110,99]⟩;have h3:=kD t ⟨#[97,101,110,99]⟩;have hE:jH t=if gY t≠0 then gY t else if dg t iW=true then 0 else if dg t fK=false then 10 else if dg (eN t 1) F4=false then 4 else 0:=rfl;have hV:ck t=if jH t≠0 then fW else if dg t iW=true then eN t 1 else eN (eN t 1) 0:=rfl;have n1:dg t ⟨#[101,110,99]⟩=dg t iW:=rfl;have n2:dg t ⟨#[97,101,110,99]⟩=dg t fK:=rfl;rw[n1]at h2;rw[n2]at h3;have hz:=mT;rw[ar t]at h1 h2 h3 ⊢
 by_cases hv:gY t=0
 ·rw[if_neg (by omega)]at hE
  cases hn:dg t iW
  ·rw[hn]at h2 hE hV;rw[if_neg (by simp)]at hE
   cases ha:dg t fK
   ·rw[ha,if_pos rfl]at hE;rw[ha]at h3;rw[if_pos (by omega)]at hV;rw[hV,hE,hz];refine aI.x T6 Tryz.func289 rfl ?_;refine wA ?_;refine .p h1 ?_;refine wA ?_;refine .p h2 ?_;refine wA ?_;refine .p h3 ?_;refine wA ?_;exact⟨_,rfl,rfl⟩
   ·rw[ha,if_neg (by simp)]at hE;rw[ha]at h3;have dp:=Ay hv ha yr.2.2.1;have cC:=nk (t:=t) (i:=1) (by omega);have h4:=kD (eN t 1) ⟨#[112,107]⟩;have n3:dg (eN t 1) ⟨#[112,107]⟩=dg (eN t 1) F4:=rfl;rw[n3,ar]at h4
    cases hp:dg (eN t 1) F4
    ·rw[hp,if_pos rfl]at hE;rw[hp]at h4;rw[if_pos (by omega)]at hV;rw[hV,hE,hz];refine aI.x T6 Tryz.func289 rfl ?_;refine wA ?_;refine .p h1 ?_;refine wA ?_;refine .p h2 ?_;refine wA ?_;refine .p h3 ?_;refine wA ?_;refine .p h4 ?_;refine wA ?_;exact⟨_,rfl,rfl⟩
    ·rw[hp,if_neg (by simp)]at hE;rw[hp]at h4;rw[if_neg (by omega),if_neg (by simp)]at hV;have iB:=kc (t:=t) (i:=1) (by omega);obtain⟨c,RY⟩:=tu (pf hv iB) hp yr.2.2.2.2;have xe:(eN t 1).l.length=1:=by rw[RY];rfl
     have nh:=nk (t:=eN t 1) (i:=0) (by omega);have b1:=fY iB;have b2:=fY (kc (t:=eN t 1) (i:=0) (by omega));rw[hV,hE];generalize hK:eN (eN t 1) 0=K at *;generalize hM:eN t 1=M at *;rw[ar];refine aI.x T6 Tryz.func289 rfl ?_;refine wA ?_;refine .p h1 ?_;refine wA ?_;refine .p h2 ?_;refine wA ?_;refine .p h3 ?_;refine wA ?_;refine .p h4 ?_;refine wA ?_;exact jE
  ·rw[hn,if_pos rfl]at hE;rw[hn]at h2 hV;rw[if_neg (by omega),if_pos rfl]at hV;have dp:=Ay hv hn yr.2.1;have cC:=nk (t:=t) (i:=1) (by omega);have b1:=fY (kc (t:=t) (i:=1) (by omega));rw[hV,hE];generalize hM:eN t 1=M at *;rw[ar];refine aI.x T6 Tryz.func289 rfl ?_;refine wA ?_;refine .p h1 ?_;refine wA ?_;refine .p h2 ?_;refine wA ?_;exact jE
 ·rw[if_pos hv]at hE;rw[if_pos (by omega)]at hV;rw[hV,hE,hz];refine aI.x T6 Tryz.func289 rfl ?_;refine wA ?_;refine .p h1 ?_;refine wA ?_;exact⟨_,rfl,rfl⟩
end bC
end Go.Pm
