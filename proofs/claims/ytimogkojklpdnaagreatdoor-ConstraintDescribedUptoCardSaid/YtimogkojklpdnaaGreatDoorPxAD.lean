/-
  Pm, a part. Conditions: none.
-/
import Derived.Test.YtimogkojklpdnaaGreatDoorPxAC
set_option linter.unusedVariables false
set_option linter.unusedSimpArgs false
set_option linter.unnecessarySimpa false
namespace Go.Pm
open Go.Proofs
attribute [local irreducible] aD az aL aJ Ev ah aj ay aY
set_option maxRecDepth 4000
set_option maxHeartbeats 4000000
theorem yQ(c:Int):nX c=decide ((97<=c/\c<=122)\/(65<=c/\c<=90)\/(48<=c/\c<=57)\/c=95\/c=35):=by
 unfold nX kq qb;simp only[<-Bool.decide_or]
 congr 1
 apply propext;omega
theorem yR(c:Int):aI C 191 [.int .u8 c] (.bool (kq c)):=by
 refine aI.of (ay.dG Tryz.func191 rfl ?_)
 (repeat' (first |refine ah.nil ?_ |(apply R.xy;exact rfl;exact rfl;exact rfl)|(apply R.oH;exact rfl;exact rfl;exact rfl)|(apply R.TP;exact rfl;exact rfl)|(apply R.move;exact rfl)|(apply R.assign;exact rfl)|(apply R.iY;exact rfl;exact rfl)|(apply R.iW;exact rfl;exact rfl)|(apply R.cmp;exact rfl;exact rfl;exact rfl;all_goals intro hc)|refine Ev.seq ?_ |refine Ev.region ?_ |refine Ev.ret ?_ |refine aD.normal ?_ |(apply aJ.ret;exact rfl)|fail))
 all_goals(refine⟨_,rfl,congrArg PV.bool ?_⟩;unfold kq;first |exact(decide_eq_true (by omega)).symm |exact(decide_eq_false (by omega)).symm)
theorem KL(c:Int):aI C 192 [.int .u8 c] (.bool (qb c)):=by
 refine aI.of (ay.dG Tryz.func192 rfl ?_)
 (repeat' (first |refine ah.nil ?_ |(apply R.xy;exact rfl;exact rfl;exact rfl)|(apply R.oH;exact rfl;exact rfl;exact rfl)|(apply R.move;exact rfl)|(apply R.assign;exact rfl)|(apply R.iY;exact rfl;exact rfl)|(apply R.iW;exact rfl;exact rfl)|(apply R.cmp;exact rfl;exact rfl;exact rfl;all_goals intro hc)|refine Ev.seq ?_ |refine Ev.region ?_ |refine Ev.ret ?_ |refine aD.normal ?_ |(apply aJ.ret;exact rfl)|fail))
 all_goals(refine⟨_,rfl,congrArg PV.bool ?_⟩;unfold qb;first |exact(decide_eq_true (by omega)).symm |exact(decide_eq_false (by omega)).symm)
theorem EO(c:Int):aI C 244 [.int .u8 c] (.bool (nX c)):=by
 refine aI.of (ay.dG Tryz.func244 rfl ?_)
 (repeat' (first |refine ah.nil ?_ |(apply R.xy;exact rfl;exact rfl;exact rfl)|(apply R.oH;exact rfl;exact rfl;exact rfl)|(apply R.TP;exact rfl;exact rfl)|(apply R.move;exact rfl)|(apply R.assign;exact rfl)|(apply R.iY;exact rfl;exact rfl)|(apply R.iW;exact rfl;exact rfl)|(apply R.cmp;exact rfl;exact rfl;exact rfl;all_goals intro hc)|refine Ev.seq ?_ |refine Ev.region ?_ |refine Ev.ret ?_ |refine aD.normal ?_ |(apply aJ.ret;exact rfl)|fail))
 all_goals(refine⟨_,rfl,congrArg PV.bool ?_⟩;rw[yQ];first |exact(decide_eq_true (by omega)).symm |exact(decide_eq_false (by omega)).symm)
theorem tF(s:ByteArray)(i:Nat)(h:i<s.toList.length):gT (s.toList.drop i)=(nX (s.toList[i]).toNat&&gT (s.toList.drop (i+1))):=by
 rw[ac3 h,gT]
theorem yS(s:ByteArray):(s.size=0/\s.toList=[])\/∃c l,s.toList=c::l/\s[0]?=some c/\s.size=l.length+1:=by
 have hl:=bsize s
 cases h:s.toList with
 |nil=>rw[h]at hl;exact .inl ⟨by simpa using hl.symm,rfl⟩
 |cons c l=>exact .inr ⟨c,l,rfl,Kr (i:=0) (by rw[h];rfl),by rw[<-hl,h];rfl⟩
theorem EP(s:ByteArray)(hb:s.size<1000000000):aI C 149 [.str s] (.bool (dR s)):=by
 refine aI.of (ay.dG Tryz.func149 rfl ?_);have hl:=bsize s;rcases yS s with⟨h0,hn⟩|⟨c,l,dw,Au,gM⟩
 ·have hs:dR s=false:=by unfold dR;rw[hn];rfl
  (repeat' (first |refine ah.nil ?_ |(apply R.xy;exact rfl;exact rfl;exact rfl)|(apply R.oH;exact rfl;exact rfl;exact rfl)|(apply R.move;exact rfl)|(apply R.assign;exact rfl)|(apply R.iY;exact rfl;exact rfl)|(apply R.iW;exact rfl;exact rfl)|(apply R.cmp;exact rfl;exact rfl;exact rfl;all_goals intro hc)|(apply R.yT T6;exact rfl;exact rfl)|refine Ev.seq ?_ |refine Ev.region ?_ |(apply Ev.fJ;exact rfl)|refine Ev.ret ?_ |refine aD.normal ?_ |refine aD.ret ?_ |(apply aJ.ret;exact rfl)|fail))
  ·exact⟨_,rfl,by rw[hs];rfl⟩
  ·omega
  ·omega
 ·have hs:dR s=(decide (l.length<24)&&kq c.toNat&&gT s.toList):=by unfold dR;rw[dw];rfl
  (repeat' (first |refine ah.nil ?_ |(apply R.xy;exact rfl;exact rfl;exact rfl)|(apply R.oH;exact rfl;exact rfl;exact rfl)|(apply R.move;exact rfl)|(apply R.assign;exact rfl)|(apply R.iY;exact rfl;exact rfl)|(apply R.iW;exact rfl;exact rfl)|(apply R.cmp;exact rfl;exact rfl;exact rfl;all_goals intro hc)|(apply R.yT T6;exact rfl;exact rfl)|refine Ev.seq ?_ |refine Ev.region ?_ |(apply Ev.fJ;exact rfl)|refine Ev.ret ?_ |refine aD.normal ?_ |refine aD.ret ?_ |(apply aJ.ret;exact rfl)|fail))
  ·omega
  ·refine⟨_,rfl,?_⟩;rw[hs,decide_eq_false (by omega)];rfl
  ·refine R.jG T6 (i:=0) rfl rfl rfl Au ?_;refine wB ?_;refine R.call rfl rfl (aj.pure rfl rfl (yR c.toNat) ?_)
   cases OC:kq c.toNat
   ·refine wB ?_;refine⟨_,rfl,?_⟩;rw[hs,OC];simp[b9,aO]
   ·refine wB ?_;have LQ:dR s=gT (s.toList.drop 0):=by rw[hs,OC,decide_eq_true (by omega)];simp
    refine Ev.loop (I:=λk' st=>∃(i:Nat) (ρ':Nat->PV),st=⟨al [(0,.str s),(3,.int .i64 i)] ρ',[]⟩/\k'+i=s.size/\dR s=gT (s.toList.drop i)) s.size ?_ ?_
    ·exact⟨0,_,St.aU ⟨rfl,rfl,trivial⟩,rfl,LQ⟩
    ·rintro k' _ ⟨i,ρ',rfl,hk,dS⟩;refine wE (λhc=>?_) λhc=>?_
     ·have lu:i<s.toList.length:=by omega
      have cm:=Kr (abo lu);rw[tF s i lu]at dS;refine R.jG T6 rfl rfl rfl cm ?_;generalize hx:s.toList[i]=x at dS cm;have qW:=yQ x.toNat
      skip
      refine R.call rfl rfl (aj.pure rfl rfl (yR x.toNat) ?_)
      cases OC:kq x.toNat
      ·refine wB ?_;refine R.jG T6 rfl rfl rfl cm ?_;refine wB ?_;refine R.call rfl rfl (aj.pure rfl rfl (KL x.toNat) ?_)
       cases Cq:qb x.toNat
       ·refine wB ?_;refine R.jG T6 rfl rfl rfl cm ?_;refine wE (λhc=>?_) λhc=>?_
        ·refine R.jG T6 rfl rfl rfl cm ?_;refine wE (λhc=>?_) λhc=>?_
         ·rename_i h95
          have h35:=hc;refine⟨_,rfl,?_⟩;rw[dS];unfold nX;rw[OC,Cq,decide_eq_false (by omega),decide_eq_false (by omega)];rfl
         ·refine⟨k' - 1,by omega,i+1,_,St.aU ⟨rfl,rfl,trivial⟩,by omega,?_⟩;rw[dS];unfold nX;rw[decide_eq_true (show(x.toNat:Int)=35 by omega)];simp
        ·refine⟨k' - 1,by omega,i+1,_,St.aU ⟨rfl,rfl,trivial⟩,by omega,?_⟩;rw[dS];unfold nX;rw[decide_eq_true (show(x.toNat:Int)=95 by omega)];simp
       ·refine wB ?_;refine⟨k' - 1,by omega,i+1,_,St.aU ⟨rfl,rfl,trivial⟩,by omega,?_⟩;rw[dS];unfold nX;rw[Cq];simp
      ·refine wB ?_;refine⟨k' - 1,by omega,i+1,_,St.aU ⟨rfl,rfl,trivial⟩,by omega,?_⟩;rw[dS];unfold nX;rw[OC];simp
     ·refine⟨_,rfl,?_⟩;rw[dS,abR (by omega)];rfl
theorem TQ:(ByteArray.mk #[]).toList=[]:=by rw[ByteArray.toList_eq]
theorem FY(s:ByteArray)(hb:s.size<1000000000):aI C 193 [.str s] (.bool (dR s)):=by
 refine aI.of (ay.dG Tryz.func193 rfl ?_);have hl:=bsize s;rcases yS s with⟨h0,hn⟩|⟨c,l,dw,Au,gM⟩
 ·have hs:dR s=false:=by unfold dR;rw[hn];rfl
  have RP:s.toList=(ByteArray.mk #[]).toList:=by rw[hn,TQ]
  refine wB ?_;exact⟨_,rfl,by rw[hs];rfl⟩
 ·have hs:dR s=(decide (l.length<24)&&kq c.toNat&&gT s.toList):=by unfold dR;rw[dw];rfl
  have qW:=yQ c.toNat;have hle:kq c.toNat=decide ((97<=(c.toNat:Int)/\(c.toNat:Int)<=122)\/(65<=(c.toNat:Int)/\(c.toNat:Int)<=90)):=rfl
  (repeat' (first |(apply R.jG T6 (i:=0);exact rfl;exact rfl;exact rfl;assumption)|refine ah.nil ?_ |(apply R.xy;exact rfl;exact rfl;exact rfl)|(apply R.oH;exact rfl;exact rfl;exact rfl)|(apply R.TP;exact rfl;exact rfl)|(apply R.move;exact rfl)|(apply R.assign;exact rfl)|(apply R.iY;exact rfl;exact rfl)|(apply R.iW;exact rfl;exact rfl)|(apply R.cmp;exact rfl;exact rfl;exact rfl;all_goals intro hc;all_goals(try(exfalso;omega)))|(apply R.TR;exact rfl;exact rfl;all_goals intro hc)|(apply R.yT T6;exact rfl;exact rfl)|refine Ev.seq ?_ |refine Ev.region ?_ |(apply Ev.fJ;exact rfl)|refine Ev.ret ?_ |refine aD.normal ?_ |refine aD.ret ?_ |(apply aJ.ret;exact rfl)|fail))
  ·rw[dw,TQ]at hc;cases hc
  ·refine⟨_,rfl,?_⟩;rw[hs,decide_eq_false (by omega)];rfl
  ·have h24:=hc;clear hc;refine R.call rfl rfl (aj.pure rfl rfl (EO c.toNat) ?_)
   cases V5:nX c.toNat
   ·refine wD ?_;refine⟨_,rfl,?_⟩;rw[V5]at qW;have:=of_decide_eq_false qW.symm;rw[hs,hle,decide_eq_false (p:=(97<=(c.toNat:Int)/\(c.toNat:Int)<=122)\/(65<=(c.toNat:Int)/\(c.toNat:Int)<=90)) (by omega)];simp[b9,aO]
   ·rw[V5]at qW;have qW:=of_decide_eq_true qW.symm
    by_cases hg:(97<=(c.toNat:Int)/\(c.toNat:Int)<=122)\/(65<=(c.toNat:Int)/\(c.toNat:Int)<=90)
    ·have LQ:dR s=gT (s.toList.drop 0):=by rw[hs,hle,decide_eq_true hg,decide_eq_true (by omega)];simp
     (repeat' (first |(apply R.jG T6 (i:=0);exact rfl;exact rfl;exact rfl;assumption)|refine ah.nil ?_ |(apply R.xy;exact rfl;exact rfl;exact rfl)|(apply R.move;exact rfl)|(apply R.iY;exact rfl;exact rfl)|(apply R.iW;exact rfl;exact rfl)|(apply R.cmp;exact rfl;exact rfl;exact rfl;all_goals intro hc;all_goals(try(exfalso;omega)))|(apply R.not;exact rfl;exact rfl)|(apply R.yT T6;exact rfl;exact rfl)|refine Ev.seq ?_ |refine Ev.region ?_ |(apply Ev.fJ;exact rfl)|refine Ev.skip ?_ |refine Ev.block ?_ |refine aD.normal ?_ |fail))
     refine Ev.loop (I:=λk' st=>∃(i:Nat) (ρ':Nat->PV),st=⟨al [(0,.str s),(38,.int .i64 s.size),(39,.int .i64 i)] ρ',[]⟩/\k'+i=s.size/\dR s=gT (s.toList.drop i)) s.size ?_ ?_
     ·exact⟨0,_,St.aU ⟨rfl,rfl,rfl,trivial⟩,rfl,LQ⟩
     ·rintro k' _ ⟨i,ρ',rfl,hk,dS⟩;refine wE (λhc=>?_) λhc=>?_
      ·have lu:i<s.toList.length:=by omega
       have cm:=Kr (abo lu);rw[tF s i lu]at dS;refine R.jG T6 rfl rfl rfl cm ?_;generalize hx:s.toList[i]=x at dS cm
       skip
       refine R.call rfl rfl (aj.pure rfl rfl (EO x.toNat) ?_)
       cases Co:nX x.toNat
       ·refine wB ?_;refine⟨_,rfl,?_⟩;rw[dS,Co];rfl
       ·refine wB ?_;refine⟨k' - 1,by omega,i+1,_,St.aU ⟨rfl,rfl,rfl,trivial⟩,by omega,?_⟩;rw[dS,Co];rfl
      ·refine⟨_,rfl,?_⟩;rw[dS,abR (by omega)];rfl
    ·have LQ:dR s=false:=by rw[hs,hle,decide_eq_false hg];simp
     (repeat' (first |(apply R.jG T6 (i:=0);exact rfl;exact rfl;exact rfl;assumption)|refine ah.nil ?_ |(apply R.xy;exact rfl;exact rfl;exact rfl)|(apply R.oH;exact rfl;exact rfl;exact rfl)|(apply R.move;exact rfl)|(apply R.assign;exact rfl)|(apply R.iY;exact rfl;exact rfl)|(apply R.iW;exact rfl;exact rfl)|(apply R.cmp;exact rfl;exact rfl;exact rfl;all_goals intro hc;all_goals(try(exfalso;omega)))|(apply R.not;exact rfl;exact rfl)|refine Ev.seq ?_ |refine Ev.region ?_ |(apply Ev.fJ;exact rfl)|refine Ev.ret ?_ |refine aD.normal ?_ |refine aD.ret ?_ |(apply aJ.ret;exact rfl)|fail))
     all_goals exact⟨_,rfl,by rw[LQ];rfl⟩
end Go.Pm
namespace Go.Pm
open Go.Proofs
attribute [local irreducible] aD az aL aJ Ev ah aj ay
set_option maxRecDepth 4000
set_option maxHeartbeats 4000000
theorem oR(a b:Int):aI C 181 [.int .i64 a,.int .i64 b] (.int .i64 (fw a b)):=by
 refine aI.of (ay.dG Tryz.func181 rfl ?_)
 (repeat' (first |refine ah.nil ?_ |(apply R.move;exact rfl)|(apply R.assign;exact rfl)|(apply R.cmp;exact rfl;exact rfl;exact rfl;all_goals intro hc)|refine Ev.seq ?_ |refine Ev.region ?_ |(apply Ev.fJ;exact rfl)|refine Ev.ret ?_ |refine Ev.skip ?_ |refine aD.normal ?_ |refine aD.ret ?_ |(apply aJ.ret;exact rfl)|fail))
 all_goals(refine⟨_,rfl,congrArg (PV.int .i64) ?_⟩;unfold fw;(repeat' split) <;>omega)
theorem tQ(a b:Int):aI C 101 [.int .i64 a,.int .i64 b] (.int .i64 (fw a b)):=by
 refine aI.of (ay.dG Tryz.func101 rfl ?_)
 (repeat' (first |refine ah.nil ?_ |(apply R.move;exact rfl)|(apply R.assign;exact rfl)|(apply R.cmp;exact rfl;exact rfl;exact rfl;all_goals intro hc)|refine Ev.seq ?_ |refine Ev.region ?_ |(apply Ev.fJ;exact rfl)|refine Ev.ret ?_ |refine Ev.skip ?_ |refine Ev.block ?_ |refine aD.normal ?_ |refine aD.ret ?_ |refine az.normal ?_ |refine az.ret ?_ |(apply aJ.ret;exact rfl)|fail))
 all_goals(refine⟨_,rfl,congrArg (PV.int .i64) ?_⟩;unfold fw;(repeat' split) <;>omega)
theorem Si(k s o l)(FK:bp l<1000000000)(ih:∀t∈l,aI C 176 [enc t] (.int .i64 (size t))):aI C 176 [enc (.mk k s o l)] (.int .i64 (size (.mk k s o l))):=by
 refine aI.of (ay.dG Tryz.func176 rfl ?_);rw[bh];have hlen:=ba l;have cr:=ai l;have gM:=de l;refine wB ?_;refine Ev.loop (I:=λk' st=>∃(i:Nat) (n:Int) (ρ':Nat->PV),st=⟨al [(1,.ptr 0 0 0 0),(3,.int .i64 n),(4,.int .i64 i)] ρ',[⟨.m,0,4,[.agg [.int .i64 k,.str s,.int .i64 o,.aa false (ae l)]]⟩]⟩/\k'+i=l.length/\0<=n/\1+dU l=n+dU (l.drop i)) l.length ?_ ?_
 ·exact⟨0,1,_,St.aU ⟨rfl,rfl,rfl,trivial⟩,rfl,by omega,rfl⟩
 ·rintro k' _ ⟨i,n,ρ',rfl,hk,hn,dS⟩;refine wE (λhc=>?_) λhc=>?_
  ·obtain⟨k1,s1,o1,l1,fu,cm,hd,lu,_⟩:=gE hc;refine R.ie T6 rfl rfl rfl rfl cm rfl rfl ?_;have MU:=bC fu;have P5:=gP (.mk k1 s1 o1 l1);have B8:=de (l.drop (i+1));rw[hd,dU]at dS;refine wB ?_;refine R.call rfl rfl ?_;show aj C 2 _ [.agg [.int .i64 k1,.str s1,.int .i64 o1,.aa false (ae l1)]] _ _;rw[<-bh];refine aj.pure (r:=.int .i64 (size (.mk k1 s1 o1 l1))) rfl (by simp[ar,ra]) (by simpa[aR,xj]using ih _ fu) ?_;refine wB ?_;exact⟨k' - 1,by omega,i+1,n+size (.mk k1 s1 o1 l1),_,St.aU ⟨rfl,rfl,rfl,trivial⟩,by omega,by omega,by omega⟩
  ·refine⟨_,rfl,?_⟩;simp only[b9,aO,size];rw[kF hc,dU]at dS;rw[dS];simp
theorem sS(t:Tm)(hb:ax t<1000000000):aI C 176 [enc t] (.int .i64 (size t)):=by
 induction t using Tm.ind with
 |h k s o l ih=>
  simp only[ax]at hb;exact Si k s o l (by omega) (λt ht=>ih t ht (by have:=bC ht;omega))
theorem O3(k s o l)(FK:bp l<1000000000)(ih:∀t∈l,aI C 102 [enc t] (.int .i64 (size t))):aI C 102 [enc (.mk k s o l)] (.int .i64 (size (.mk k s o l))):=by
 refine aI.of (ay.dG Tryz.func102 rfl ?_);rw[bh];have hlen:=ba l;have cr:=ai l;have gM:=de l;refine wB ?_;refine Ev.loop (I:=λk' st=>∃(i:Nat) (n:Int) (J:ab) (ρ':Nat->PV),st=⟨al [(1,.ptr 0 0 0 0),(3,.int .i64 n),(7,.aa false (ae l)),(8,.int .i64 (ae l).length),(9,.int .i64 i)] ρ',⟨.m,0,4,[.agg [.int .i64 k,.str s,.int .i64 o,.aa false (ae l)]]⟩::J⟩/\k'+i=l.length/\0<=n/\1+dU l=n+dU (l.drop i)) l.length ?_ ?_
 ·exact⟨0,1,[],_,St.aU ⟨rfl,rfl,rfl,rfl,rfl,trivial⟩,rfl,by omega,rfl⟩
 ·rintro k' _ ⟨i,n,J,ρ',rfl,hk,hn,dS⟩;refine wE (λhc=>?_) λhc=>?_
  ·obtain⟨k1,s1,o1,l1,fu,cm,hd,lu,_⟩:=gE hc;refine R.ie T6 rfl rfl rfl rfl cm rfl rfl ?_;have MU:=bC fu;have P5:=gP (.mk k1 s1 o1 l1);have B8:=de (l.drop (i+1));rw[hd,dU]at dS;refine wB ?_;refine R.call rfl rfl ?_;show aj C 2 _ [.agg [.int .i64 k1,.str s1,.int .i64 o1,.aa false (ae l1)]] _ _;rw[<-bh];refine aj.pure (r:=.int .i64 (size (.mk k1 s1 o1 l1))) rfl (by simp[ar,ra]) (by simpa[aR,xj]using ih _ fu) ?_;refine wB ?_;exact⟨k' - 1,by omega,i+1,n+size (.mk k1 s1 o1 l1),_,_,St.aU ⟨rfl,rfl,rfl,rfl,rfl,trivial⟩,by omega,by omega,by omega⟩
  ·refine⟨_,rfl,?_⟩;simp only[b9,aO,size];rw[kF hc,dU]at dS;rw[dS];simp
theorem uZ(t:Tm)(hb:ax t<1000000000):aI C 102 [enc t] (.int .i64 (size t)):=by
 induction t using Tm.ind with
 |h k s o l ih=>
  simp only[ax]at hb;exact O3 k s o l (by omega) (λt ht=>ih t ht (by have:=bC ht;omega))
end Go.Pm
namespace Go.Pm
open Go.Proofs
attribute [local irreducible] aD az aL aJ Ev ah aj ay aY
set_option maxRecDepth 4000
set_option maxHeartbeats 4000000
theorem Lr(k s o l)(hb:ax (.mk k s o l)<1000000000):aI C 235 [enc (.mk k s o l)] (.int .i64 (node (.mk k s o l))):=by
 refine aI.of (ay.dG Tryz.func235 rfl ?_);rw[bh];have cr:=ai l;have hlen:=ba l;have AS:s.size<1000000000:=by simp only[ax]at hb;omega
 (repeat' (first |refine ah.nil ?_ |(apply R.xy;exact rfl;exact rfl;exact rfl)|(apply R.oH;exact rfl;exact rfl;exact rfl)|(apply R.TP;exact rfl;exact rfl)|(apply R.move;exact rfl)|(apply R.assign;exact rfl)|(apply R.iY;exact rfl;exact rfl)|(apply R.iW;exact rfl;exact rfl)|(apply R.gD T6;exact rfl;exact rfl;exact rfl;exact rfl)|(apply R.fieldAddr T6;exact rfl;exact rfl;exact rfl;exact rfl)|(apply R.cmp;exact rfl;exact rfl;exact rfl;all_goals intro hc;all_goals(try(exfalso;omega)))|(apply R.not;exact rfl;exact rfl)|(apply R.rV T6;exact rfl;exact rfl)|(apply R.box;exact rfl;exact rfl;exact rfl;exact .nil)|refine Ev.seq ?_ |refine Ev.region ?_ |(apply Ev.fJ;exact rfl)|refine Ev.ret ?_ |refine Ev.skip ?_ |refine aD.normal ?_ |refine aD.ret ?_ |(apply aJ.ret;exact rfl)|fail))
 all_goals first
  |(refine⟨_,rfl,congrArg (PV.int .i64) ?_⟩;rw[node,if_pos (by omega)])
  |(refine R.call rfl rfl (aj.pure rfl rfl (EP s AS) ?_);cases hN:dR s <;>(repeat' (first |refine ah.nil ?_ |(apply R.assign;exact rfl)|(apply R.gD T6;exact rfl;exact rfl;exact rfl;exact rfl)|(apply R.fieldAddr T6;exact rfl;exact rfl;exact rfl;exact rfl)|(apply R.cmp;exact rfl;exact rfl;exact rfl;all_goals intro hc;all_goals(try(exfalso;omega)))|(apply R.not;exact rfl;exact rfl)|(apply R.rV T6;exact rfl;exact rfl)|refine Ev.seq ?_ |refine Ev.region ?_ |(apply Ev.fJ;exact rfl)|refine Ev.ret ?_ |refine Ev.skip ?_ |refine aD.normal ?_ |refine aD.ret ?_ |(apply aJ.ret;exact rfl)|fail)))
 all_goals first
  |(refine⟨_,rfl,congrArg (PV.int .i64) ?_⟩;rw[node,if_neg (by omega),if_pos hN])
  |(refine⟨_,rfl,congrArg (PV.int .i64) ?_⟩;rw[node,if_neg (by omega),if_neg (by rw[hN];simp),if_pos (by omega)])
  |(refine⟨_,rfl,congrArg (PV.int .i64) ?_⟩;rw[node,if_neg (by omega),if_neg (by rw[hN];simp),if_neg (by omega)])
theorem Lt(k s o l)(hb:ax (.mk k s o l)<1000000000)(ih:∀t∈l,aI C 175 [enc t] (.int .i64 (nodes t))):aI C 175 [enc (.mk k s o l)] (.int .i64 (nodes (.mk k s o l))):=by
 have zM:=Lr k s o l hb;refine aI.of (ay.dG Tryz.func175 rfl ?_);rw[bh]at zM ⊢;have hlen:=ba l;have cr:=ai l;simp only[ax]at hb;refine wB ?_;refine R.call rfl rfl (aj.pure rfl (by simp[ar,aW]) (by simpa[aR,b9,aZ]using zM) ?_);refine wE (λhc=>?_) λhc=>?_
 ·refine⟨_,rfl,?_⟩;rw[nodes,if_pos (by assumption)];rfl
 ·have h0:nodes (.mk k s o l)=ia l:=by rw[nodes,if_neg (by assumption)]
  refine Ev.loop (I:=λk' st=>∃(i:Nat) (ρ':Nat->PV),st=⟨al [(1,.ptr 0 0 0 0),(4,.int .i64 i)] ρ',[⟨.m,0,4,[.agg [.int .i64 k,.str s,.int .i64 o,.aa false (ae l)]]⟩]⟩/\k'+i=l.length/\ia l=ia (l.drop i)) l.length ?_ ?_
  ·exact⟨0,_,St.aU ⟨rfl,rfl,trivial⟩,rfl,rfl⟩
  ·rintro k' _ ⟨i,ρ',rfl,hk,dS⟩;refine wE (λhc=>?_) λhc=>?_
   ·obtain⟨k1,s1,o1,l1,fu,cm,hd,lu,_⟩:=gE hc;refine R.ie T6 rfl rfl rfl rfl cm rfl rfl ?_;have AT:=ih _ fu;rw[bh]at AT;rw[hd,ia]at dS;refine wB ?_;refine R.call rfl rfl (aj.pure rfl (by simp[ar,aW]) (by simpa[aR,b9,aZ]using AT) ?_);refine wE (λhc=>?_) λhc=>?_
    ·refine⟨_,rfl,?_⟩;rw[h0,dS,if_pos (by assumption)];rfl
    ·refine⟨k' - 1,by omega,i+1,_,St.aU ⟨rfl,rfl,trivial⟩,by omega,?_⟩;rw[dS,if_neg (by assumption)]
   ·refine⟨_,rfl,?_⟩;rw[h0,dS,kF hc];rfl
theorem HZ(t:Tm)(hb:ax t<1000000000):aI C 175 [enc t] (.int .i64 (nodes t)):=by
 induction t using Tm.ind with
 |h k s o l ih=>
  exact Lt k s o l hb (λt ht=>ih t ht (by have:=bC ht;simp only[ax]at hb;omega))
theorem Lu(k s o l)(hb:ax (.mk k s o l)<1000000000)(ih:∀t∈l,aI C 177 [enc t] (.int .i64 (depth t))):aI C 177 [enc (.mk k s o l)] (.int .i64 (depth (.mk k s o l))):=by
 refine aI.of (ay.dG Tryz.func177 rfl ?_);rw[bh];have hlen:=ba l;have cr:=ai l;have gM:=de l;have hds:=jx l;simp only[ax]at hb;refine wB ?_;refine Ev.loop (I:=λk' st=>∃(i:Nat) (n:Int) (ρ':Nat->PV),st=⟨al [(1,.ptr 0 0 0 0),(3,.int .i64 n),(4,.int .i64 i)] ρ',[⟨.m,0,4,[.agg [.int .i64 k,.str s,.int .i64 o,.aa false (ae l)]]⟩]⟩/\k'+i=l.length/\0<=n/\ic l=max n (ic (l.drop i))) l.length ?_ ?_
 ·exact⟨0,0,_,St.aU ⟨rfl,rfl,rfl,trivial⟩,rfl,by omega,by simp only[acv];omega⟩
 ·rintro k' _ ⟨i,n,ρ',rfl,hk,hn,dS⟩;refine wE (λhc=>?_) λhc=>?_
  ·obtain⟨k1,s1,o1,l1,fu,cm,hd,lu,_⟩:=gE hc;refine R.ie T6 rfl rfl rfl rfl cm rfl rfl ?_;have AT:=ih _ fu;rw[bh]at AT;rw[hd,ic]at dS;have Od:=oO (.mk k1 s1 o1 l1);refine wB ?_;refine R.call rfl rfl (aj.pure rfl (by simp[ar,aW]) (by simpa[aR,b9,aZ]using AT) ?_);refine wB ?_;exact⟨k' - 1,by omega,i+1,_,_,St.aU ⟨rfl,rfl,rfl,trivial⟩,by omega,by omega,by omega⟩
  ·rw[kF hc,ic]at dS
   skip
   refine⟨_,rfl,congrArg (PV.int .i64) ?_⟩;rw[depth];omega
theorem H4(t:Tm)(hb:ax t<1000000000):aI C 177 [enc t] (.int .i64 (depth t)):=by
 induction t using Tm.ind with
 |h k s o l ih=>
  exact Lu k s o l hb (λt ht=>ih t ht (by have:=bC ht;simp only[ax]at hb;omega))
theorem gL(t:Tm)(hb:ax t<1000000000):aI C 125 [enc t] (.int .i64 (valid t)):=by
 have h1:=HZ t hb;have h2:=sS t hb;have h3:=H4 t hb;obtain⟨k,s,o,l⟩:=t;refine aI.of (ay.dG Tryz.func125 rfl ?_);rw[bh]at h1 h2 h3 ⊢;refine wB ?_;refine R.call rfl rfl (aj.pure rfl (by simp[ar,aW]) (by simpa[aR,b9,aZ]using h1) ?_);refine wE (λhc=>?_) λhc=>?_
 ·refine⟨_,rfl,?_⟩;rw[valid,if_pos (by assumption)];rfl
 ·have h0:=hc;clear hc;refine R.call rfl rfl (aj.pure rfl (by simp[ar,aW]) (by simpa[aR,b9,aZ]using h2) ?_);refine wE (λhc=>?_) λhc=>?_
  ·refine⟨_,rfl,?_⟩;rw[valid,if_neg h0,if_pos (by omega)];rfl
  ·refine R.call rfl rfl (aj.pure rfl (by simp[ar,aW]) (by simpa[aR,b9,aZ]using h3) ?_);refine wE (λhc=>?_) λhc=>?_
   ·refine⟨_,rfl,?_⟩;rw[valid,if_neg h0,if_pos (by omega)];rfl
   ·refine⟨_,rfl,?_⟩;rw[valid,if_neg h0,if_neg (by omega)];rfl
set_option maxHeartbeats 2000000 in
theorem Qu(k s o l k' s' o' l')(hb:ax (.mk k s o l)<1000000000)(dS:ax (.mk k' s' o' l')<1000000000)
  (ih:∀t∈l,∀t'∈l',aI C 134 [enc t,enc t'] (.int .i64 (aT t t'))):aI C 134 [enc (.mk k s o l),enc (.mk k' s' o' l')] (.int .i64 (aT (.mk k s o l) (.mk k' s' o' l'))):=by
 refine aI.of (ay.dG Tryz.func134 rfl ?_);rw[bh,bh];have z1:=sS _ hb;have z2:=sS _ dS;have v1:ar (ae l)=true:=fk l;have v2:ar (ae l')=true:=fk l';have e1:=ai l;have e2:=ai l';have b1:l.length<1000000000:=by have:=ba l;simp only[ax]at hb;omega
 have b2:l'.length<1000000000:=by have:=ba l';simp only[ax]at dS;omega
 rw[bh]at z1 z2;refine wB ?_;refine D.kD rfl rfl rfl rfl (by simp[ar,aW,v1]) rfl rfl (by simpa[aR,b9,aZ]using z1) ?_;refine wB ?_;refine D.kD rfl rfl rfl rfl (by simp[ar,aW,v2]) rfl rfl (by simpa[aR,b9,aZ]using z2) ?_;refine D.kD rfl rfl rfl rfl rfl rfl rfl (oR _ _) ?_;refine wE (λhc=>?_) λhc=>?_
 ·exact⟨_,rfl,by simp only[b9,aO,aT];rw[if_pos hc]⟩
 have h1:=hc;clear hc;refine R.call rfl rfl (aj.pure rfl rfl (oR k k') ?_)
 (repeat' (first |refine ah.nil ?_ |(apply R.move;exact rfl)|(apply R.assign;exact rfl)|(apply R.gD T6;exact rfl;exact rfl;exact rfl;exact rfl)|(apply R.fieldAddr T6;exact rfl;exact rfl;exact rfl;exact rfl)|(apply R.cmp;exact rfl;exact rfl;exact rfl;all_goals intro hc)|(apply R.Up;exact rfl;exact rfl;exact rfl;all_goals intro hc)|refine Ev.seq ?_ |refine Ev.region ?_ |(apply Ev.fJ;exact rfl)|refine Ev.ret ?_ |refine Ev.skip ?_ |refine aD.normal ?_ |refine aD.ret ?_ |(apply aJ.ret;exact rfl)|fail))
 ·exact⟨_,rfl,by simp only[b9,aO,aT];rw[if_neg h1,if_pos hc]⟩
 ·rename_i h2
  have h3:=hc;exact⟨_,rfl,by simp only[b9,aO,aT];rw[if_neg h1,if_neg h2,if_pos h3]⟩
 ·rename_i h2 h3
  have h4:=hc;exact⟨_,rfl,by simp only[b9,aO,aT];rw[if_neg h1,if_neg h2,if_neg (by rw[h3];simp),if_pos h4]⟩
 rename_i h2 h3
 have h4:=hc;clear hc;refine R.call rfl rfl (aj.pure rfl rfl (oR o o') ?_);refine wE (λhc=>?_) λhc=>?_
 ·exact⟨_,rfl,by simp only[b9,aO,aT];rw[if_neg h1,if_neg h2,if_neg (by rw[h3];simp),if_neg (by rw[h4];simp),if_pos hc]⟩
 have h5:=hc;clear hc;refine R.call rfl rfl (aj.pure rfl rfl (oR (ae l).length (ae l').length) ?_);refine wE (λhc=>?_) λhc=>?_
 ·refine⟨_,rfl,?_⟩;simp only[b9,aO,aT];rw[e1,e2]at hc ⊢;rw[if_neg h1,if_neg h2,if_neg (by rw[h3];simp),if_neg (by rw[h4];simp),if_neg h5,if_pos hc]
 have h6:=hc;clear hc
 have tY:l.length=l'.length:=by
  rw[e1,e2]at h6;unfold fw at h6
  repeat' split at h6
  all_goals omega
 have Tn:aT (.mk k s o l) (.mk k' s' o' l')=mC l l':=by
  rw[e1,e2]at h6;rw[aT,if_neg h1,if_neg h2,if_neg (by rw[h3];simp),if_neg (by rw[h4];simp),if_neg h5,if_neg h6]
 refine Ev.loop (I:=λUq st=>∃(i:Nat) (ρ':Nat->PV),st=⟨al [(2,.ptr 0 0 0 0),(3,.ptr 1 0 0 0),(9,.int .i64 i)] ρ',[⟨.m,0,4,[.agg [.int .i64 k,.str s,.int .i64 o,.aa false (ae l)]]⟩,⟨.m,0,4,[.agg [.int .i64 k',.str s',.int .i64 o',.aa false (ae l')]]⟩]⟩/\Uq+i=l.length/\mC l l'=mC (l.drop i) (l'.drop i)) l.length ?_ ?_
 ·exact⟨0,_,St.aU ⟨rfl,rfl,rfl,trivial⟩,rfl,rfl⟩
 ·rintro Uq _ ⟨i,ρ',rfl,hk,zW⟩;refine wE (λhc=>?_) λhc=>?_
  ·obtain⟨k1,s1,o1,l1,fu,cm,hd,lu,_⟩:=gE hc;obtain⟨k2,s2,o2,l2,ML,Ur,LO,ZU,_⟩:=gE (l:=l') (i:=i) (by omega);have w1:ar (ae l1)=true:=fk l1;have w2:ar (ae l2)=true:=fk l2;have AT:=ih _ fu _ ML;rw[bh,bh]at AT;refine D.ie T6 rfl rfl rfl rfl rfl cm rfl rfl ?_;refine wB ?_;refine D.ie T6 rfl rfl rfl rfl rfl Ur rfl rfl ?_;refine wB ?_;refine D.kD rfl rfl rfl rfl (by simp[ar,aW,w1,w2]) rfl rfl (by simpa[aR,b9,aZ]using AT) ?_;refine wE (λhc=>?_) λhc=>?_
   ·refine⟨_,rfl,?_⟩;simp only[b9,aO];rw[Tn,zW,hd,LO,mC,if_pos (by assumption)]
   ·refine⟨Uq - 1,by omega,i+1,_,St.aU ⟨rfl,rfl,rfl,trivial⟩,by omega,?_⟩;rw[zW,hd,LO,mC,if_neg (by assumption)]
  ·refine⟨_,rfl,?_⟩;simp only[b9,aO];rw[Tn,zW,kF hc,mC]
theorem xM(t t':Tm)(hb:ax t<1000000000)(dS:ax t'<1000000000):aI C 134 [enc t,enc t'] (.int .i64 (aT t t')):=by
 induction t using Tm.ind generalizing t' with
 |h k s o l ih=>
  obtain⟨k',s',o',l'⟩:=t';refine Qu k s o l k' s' o' l' hb dS (λt ht t' ht'=>ih t ht t' ?_ ?_)
  ·have:=bC ht;simp only[ax]at hb;omega
  ·have:=bC ht';simp only[ax]at dS;omega
theorem oc(t t':Tm)(hb:ax t<1000000000)(dS:ax t'<1000000000):aI C 78 [enc t,enc t'] (.bool (decide (aT t t'=0))):=by
 have h1:=xM t t' hb dS;obtain⟨k,s,o,l⟩:=t;obtain⟨k',s',o',l'⟩:=t';refine aI.of (ay.dG Tryz.func78 rfl ?_);rw[bh,bh]at h1 ⊢;refine wB ?_;refine R.call rfl rfl (aj.pure rfl (by simp[ar,aW]) (by simpa[aR,b9,aZ]using h1) ?_);refine wE (λhc=>?_) λhc=>?_
 ·exact⟨_,rfl,congrArg PV.bool (decide_eq_true (by assumption)).symm⟩
 ·exact⟨_,rfl,congrArg PV.bool (decide_eq_false (by assumption)).symm⟩
theorem zk(k s o l):dT (.mk k s o l)=decide (k=3/\(s.toList=vf\/s.toList=mH\/s.toList=vg)):=by
 simp only[dT,<-Bool.decide_or,<-Bool.decide_and,or_assoc]
theorem Gf:(ByteArray.mk #[109,117,108]).toList=vf:=Mi
theorem xW:(ByteArray.mk #[105,110,118]).toList=mH:=Mj
theorem Gg:(ByteArray.mk #[111,110,101]).toList=vg:=Mk
theorem xV(k s o l):aI C 309 [enc (.mk k s o l)] (.bool (dT (.mk k s o l))):=by
 refine aI.of (ay.dG Tryz.func309 rfl ?_);rw[bh,zk]
 (repeat' (first |refine ah.nil ?_ |(apply R.xy;exact rfl;exact rfl;exact rfl)|(apply R.oH;exact rfl;exact rfl;exact rfl)|(apply R.TP;exact rfl;exact rfl)|(apply R.move;exact rfl)|(apply R.assign;exact rfl)|(apply R.iY;exact rfl;exact rfl)|(apply R.iW;exact rfl;exact rfl)|(apply R.gD T6;exact rfl;exact rfl;exact rfl;exact rfl)|(apply R.fieldAddr T6;exact rfl;exact rfl;exact rfl;exact rfl)|(apply R.cmp;exact rfl;exact rfl;exact rfl;all_goals intro hc)|(apply R.TR;exact rfl;exact rfl;all_goals intro hc)|(apply R.box;exact rfl;exact rfl;exact rfl;exact .nil)|refine Ev.seq ?_ |refine Ev.region ?_ |refine Ev.ret ?_ |refine aD.normal ?_ |(apply aJ.ret;exact rfl)|fail))
 all_goals try simp only[Gf,xW,Gg]at *
 all_goals first
  |exact⟨_,rfl,congrArg PV.bool (decide_eq_true (by simp[*])).symm⟩
  |exact⟨_,rfl,congrArg PV.bool (decide_eq_false (by simp[*])).symm⟩
theorem HW(a b:ByteArray):aI C 153 [.str a,.str b] (.int .i64 (CW a b)):=by
 have e:CW a b=Lib.compareBytes a.data.toList b.data.toList:=by unfold CW eY;rw[ByteArray.toList_eq,ByteArray.toList_eq]
 rw[e];refine aI.of (ay.dG Tryz.func153 rfl ?_);refine wB ?_;refine R.call rfl rfl (aj.ext rfl rfl rfl ?_);refine wB ?_;exact⟨_,rfl,rfl⟩
theorem Pe(a b:ByteArray):aI C 103 [.str a,.str b] (.int .i64 (CW a b)):=by
 refine aI.of (ay.dG Tryz.func103 rfl ?_);refine wB ?_;refine R.call rfl rfl (aj.pure rfl rfl (HW a b) ?_);refine wB ?_;exact⟨_,rfl,rfl⟩
theorem Sl(k s o l k' s' o' l')(hb:ax (.mk k s o l)<1000000000)(dS:ax (.mk k' s' o' l')<1000000000)
  (ih:∀t∈l,∀t'∈l',aI C 52 [enc t,enc t'] (.int .i64 (aT t t'))):aI C 52 [enc (.mk k s o l),enc (.mk k' s' o' l')] (.int .i64 (aT (.mk k s o l) (.mk k' s' o' l'))):=by
 refine aI.of (ay.dG Tryz.func52 rfl ?_);have CX:=ms k s o l k' s' o' l';have z1:=uZ _ hb;have z2:=uZ _ dS;rw[bh]at z1 z2;rw[bh,bh];generalize aT (.mk k s o l) (.mk k' s' o' l')=R0 at CX ⊢;have e1:=ai l;have e2:=ai l';have b1:l.length<1000000000:=by have:=ba l;simp only[ax]at hb;omega
 have b2:l'.length<1000000000:=by have:=ba l';simp only[ax]at dS;omega
 have tY:fw (ae l).length (ae l').length=0->l.length=l'.length:=λh=>by have:=jj h;omega
 rw[<-e1,<-e2]at CX;refine wB ?_;refine D.kD rfl rfl rfl rfl (by simp[ar,aW]) rfl rfl (by simpa[aR,b9,aZ]using z1) ?_;refine wB ?_;refine D.kD rfl rfl rfl rfl (by simp[ar,aW]) rfl rfl (by simpa[aR,b9,aZ]using z2) ?_;refine D.kD rfl rfl rfl rfl rfl rfl rfl (tQ _ _) ?_;generalize fw (size (.mk k s o l)) (size (.mk k' s' o' l'))=X1 at CX ⊢
 (repeat' (first |refine ah.nil ?_ |(apply R.move;exact rfl)|(apply R.assign;exact rfl)|(apply R.gD T6;exact rfl;exact rfl;exact rfl;exact rfl)|(apply R.fieldAddr T6;exact rfl;exact rfl;exact rfl;exact rfl)|(apply R.cmp;exact rfl;exact rfl;exact rfl;all_goals intro hc;all_goals(try(exfalso;omega)))|refine Ev.seq ?_ |refine Ev.region ?_ |refine aY.nil ?_ |(apply D.assign;exact rfl)|(apply Ev.fJ;exact rfl)|refine Ev.skip ?_ |refine Ev.block ?_ |refine aD.normal ?_ |fail))
 all_goals try(refine R.call rfl rfl (aj.pure rfl rfl (tQ k k') ?_);generalize fw k k'=X2 at CX ⊢;(repeat' (first |refine ah.nil ?_ |(apply R.move;exact rfl)|(apply R.assign;exact rfl)|(apply R.gD T6;exact rfl;exact rfl;exact rfl;exact rfl)|(apply R.fieldAddr T6;exact rfl;exact rfl;exact rfl;exact rfl)|(apply R.cmp;exact rfl;exact rfl;exact rfl;all_goals intro hc;all_goals(try(exfalso;omega)))|refine Ev.seq ?_ |refine Ev.region ?_ |(apply Ev.fJ;exact rfl)|refine Ev.skip ?_ |refine Ev.block ?_ |refine aD.normal ?_ |fail)))
 all_goals try(refine R.call rfl rfl (aj.pure rfl rfl (Pe s s') ?_);generalize CW s s'=X3 at CX ⊢;(repeat' (first |refine ah.nil ?_ |(apply R.move;exact rfl)|(apply R.assign;exact rfl)|(apply R.gD T6;exact rfl;exact rfl;exact rfl;exact rfl)|(apply R.fieldAddr T6;exact rfl;exact rfl;exact rfl;exact rfl)|(apply R.cmp;exact rfl;exact rfl;exact rfl;all_goals intro hc;all_goals(try(exfalso;omega)))|refine Ev.seq ?_ |refine Ev.region ?_ |(apply Ev.fJ;exact rfl)|refine Ev.skip ?_ |refine Ev.block ?_ |refine aD.normal ?_ |fail)))
 all_goals try(refine R.call rfl rfl (aj.pure rfl rfl (tQ o o') ?_);generalize fw o o'=X4 at CX ⊢;(repeat' (first |refine ah.nil ?_ |(apply R.move;exact rfl)|(apply R.assign;exact rfl)|(apply R.gD T6;exact rfl;exact rfl;exact rfl;exact rfl)|(apply R.fieldAddr T6;exact rfl;exact rfl;exact rfl;exact rfl)|(apply R.cmp;exact rfl;exact rfl;exact rfl;all_goals intro hc;all_goals(try(exfalso;omega)))|(apply R.rV T6;exact rfl;exact rfl)|refine Ev.seq ?_ |refine Ev.region ?_ |(apply Ev.fJ;exact rfl)|refine Ev.skip ?_ |refine Ev.block ?_ |refine aD.normal ?_ |fail)))
 all_goals try(refine R.call rfl rfl (aj.pure rfl rfl (tQ (ae l).length (ae l').length) ?_);generalize fw (ae l).length (ae l').length=X5 at CX tY ⊢;refine wD ?_)
 all_goals(
  refine Ev.loop (I:=λUq st=>∃(i:Nat) (c:Int) (ρ':Nat->PV),st=⟨al [(2,.ptr 0 0 0 0),(3,.ptr 1 0 0 0),(5,.int .i64 c),(6,.int .i64 i)] ρ',[⟨.m,0,4,[.agg [.int .i64 k,.str s,.int .i64 o,.aa false (ae l)]]⟩,⟨.m,0,4,[.agg [.int .i64 k',.str s',.int .i64 o',.aa false (ae l')]]⟩]⟩/\Uq+i=l.length/\R0=mr c (mC (l.drop i) (l'.drop i))/\(c=0->l.length=l'.length)) l.length ?_ ?_
  ·refine⟨0,_,_,St.aU ⟨rfl,rfl,rfl,rfl,trivial⟩,rfl,?_,?_⟩
   ·rw[CX];unfold mr;simp only[acv];(repeat' split) <;>first |rfl |omega
   ·first |exact tY |(intro h;exfalso;omega)
  ·clear CX tY;rintro Uq _ ⟨i,c,ρ',rfl,hk,zW,tY⟩
   (repeat' (first |refine ah.nil ?_ |(apply R.xy;exact rfl;exact rfl;exact rfl)|(apply R.oH;exact rfl;exact rfl;exact rfl)|(apply R.move;exact rfl)|(apply R.assign;exact rfl)|(apply R.iY;exact rfl;exact rfl)|(apply R.iW;exact rfl;exact rfl)|(apply R.gD T6;exact rfl;exact rfl;exact rfl;exact rfl)|(apply R.fieldAddr T6;exact rfl;exact rfl;exact rfl;exact rfl)|(apply R.cmp;exact rfl;exact rfl;exact rfl;all_goals intro hc;all_goals(try(exfalso;omega)))|(apply R.rV T6;exact rfl;exact rfl)|refine Ev.seq ?_ |refine Ev.region ?_ |refine Ev.mJ ?_ |(apply D.move;exact rfl)|(apply D.fieldAddr T6;exact rfl;exact rfl;exact rfl;exact rfl)|(apply D.gD T6;exact(by first |exact rfl |assumption);exact rfl;exact rfl;exact rfl;exact rfl;exact rfl)|(apply Ev.fJ;exact rfl)|refine Ev.ret ?_ |refine Ev.skip ?_ |refine Ev.exit ?_ |refine Ev.block ?_ |refine aD.normal ?_ |refine aD.exit ?_ |refine az.Mm ?_ |refine aL.exit ?_ |(apply aJ.ret;exact rfl)|fail))
   ·have tY:=tY (by assumption);obtain⟨k1,s1,o1,l1,fu,cm,hd,lu,_⟩:=gE hc;obtain⟨k2,s2,o2,l2,ML,Ur,LO,ZU,_⟩:=gE (l:=l') (i:=i) (by omega);have AT:=ih _ fu _ ML;rw[bh,bh]at AT;refine D.ie T6 rfl rfl rfl rfl rfl cm rfl rfl ?_;refine wB ?_;refine D.ie T6 rfl rfl rfl rfl rfl Ur rfl rfl ?_;refine wB ?_;refine D.kD rfl rfl rfl rfl (by simp[ar,aW]) rfl rfl (by simpa[aR,b9,aZ]using AT) ?_;refine wB ?_;refine⟨Uq - 1,by omega,i+1,_,_,St.aU ⟨rfl,rfl,rfl,rfl,trivial⟩,by omega,?_,λ_=>tY⟩;have Au:c=0:=by assumption
    rw[zW,Au,hd,LO,mv];rfl
   ·refine⟨_,rfl,congrArg (PV.int .i64) ?_⟩;have Au:c=0:=by assumption
    rw[zW,Au,kF hc,mC];rfl
   ·refine⟨_,rfl,congrArg (PV.int .i64) ?_⟩;rw[zW,mr,if_pos (by assumption)])
theorem eB(t t':Tm)(hb:ax t<1000000000)(dS:ax t'<1000000000):aI C 52 [enc t,enc t'] (.int .i64 (aT t t')):=by
 induction t using Tm.ind generalizing t' with
 |h k s o l ih=>
  obtain⟨k',s',o',l'⟩:=t';refine Sl k s o l k' s' o' l' hb dS (λt ht t' ht'=>ih t ht t' ?_ ?_)
  ·have:=bC ht;simp only[ax]at hb;omega
  ·have:=bC ht';simp only[ax]at dS;omega
theorem names{k s o l}(h:dT (.mk k s o l)=true):k=3/\
  ((s.toList=(ByteArray.mk #[109,117,108]).toList/\¬s.toList=(ByteArray.mk #[105,110,118]).toList/\¬s.toList=(ByteArray.mk #[111,110,101]).toList)\/
   (¬s.toList=(ByteArray.mk #[109,117,108]).toList/\s.toList=(ByteArray.mk #[105,110,118]).toList/\¬s.toList=(ByteArray.mk #[111,110,101]).toList)\/
   (¬s.toList=(ByteArray.mk #[109,117,108]).toList/\¬s.toList=(ByteArray.mk #[105,110,118]).toList/\s.toList=(ByteArray.mk #[111,110,101]).toList)):=by
 rw[zk]at h;obtain⟨h1,h2⟩:=of_decide_eq_true h;refine⟨h1,?_⟩;rw[Gf,xW,Gg];rcases h2 with h2 |h2 |h2 <;>rw[h2] <;>decide
theorem oD(k s o l n):xv (.mk k s o l,n)=.agg [.int .i64 k,.str s,.int .i64 o,.aa false (ae l),.int .i64 n]:=rfl
theorem fh(l:List Pw):(br l).length=l.length:=by simp[br]
theorem sJ{l:List Pw}{i:Nat}(hc:(i:Int)<((br l).length:Int)):∃k s o l' n,(.mk k s o l',n)∈l/\(br l)[i]?=some (.agg [.int .i64 k,.str s,.int .i64 o,.aa false (ae l'),.int .i64 n])/\l.drop i=(.mk k s o l',n)::l.drop (i+1)/\i<l.length/\l[i]?=some (.mk k s o l',n):=by
 have lu:i<l.length:=by have:=fh l;omega
 rcases hp:l[i]with⟨⟨k,s,o,l'⟩,n⟩;refine⟨k,s,o,l',n,hp▸abV lu,?_,?_,lu,?_⟩
 ·unfold br;rw[abB,abo lu,hp];rfl
 ·rw[ac3 lu,hp]
 ·rw[abo lu,hp]
theorem JA{l:List Pw}{i:Nat}(hc:¬(i:Int)<((br l).length:Int)):l.drop i=[]:=abR (by have:=fh l;omega)
theorem oE(l:List Pw):ar (br l)=true:=by
 induction l with
 |nil=>rfl
 |cons p l ih=>
  obtain⟨⟨k,s,o,l'⟩,n⟩:=p;simp only[br,abD,ar]at *;rw[ih];rfl
theorem rP(l:List Pw):aR (br l)=br l:=by
 induction l with
 |nil=>rfl
 |cons p l ih=>
  obtain⟨⟨k,s,o,l'⟩,n⟩:=p;simp only[br,abD,aR]at *;rw[ih,oD];simp[b9,aR,aZ]
def Sm(l:List Pw):Prop:=(∀p∈l,ax p.1<1000000000)/\l.length<100000000
def vj(t:Tm):List Pw->Nat
 |[]=>0
 |p::l=>if aT p.1 t<0 then vj t l+1 else 0
theorem FT(t:Tm):∀l:List Pw,vj t l<=l.length
 |[]=>by simp[vj]
 |p::l=>by
  have:=FT t l;rw[vj]
  split <;>simp <;>omega
theorem Ij(t:Tm):∀(l:List Pw),FU l->∀(m:Nat) (p:Pw),l[m]?=some p->(aT p.1 t<0↔m<vj t l)
 |[],_,m,p,h=>by simp at h
 |q::l,s,m,p,h=>by
  obtain⟨s1,s2⟩:=abG.1 s;rw[vj]
  cases m with
  |zero=>
   simp at h;subst h
   split
   ·simp;assumption
   ·simp;omega
  |succ m=>
   have h':l[m]?=some p:=by simpa using h
   have ih:=Ij t l s2 m p h';have hm:=s1 p (aby h')
   split
   ·rw[ih];omega
   ·rename_i hq
    constructor
    ·intro hp
     exact absurd (eU hm hp) hq
    ·intro hh;omega
def Qa(t:Tm)(l:List Pw):Bool:=match l[vj t l]? with |some p=>decide (aT p.1 t=0)|none=>false
theorem Ik(t:Tm)(n:Int):∀l:List Pw,Qa t l=false->jI t n l=l.take (vj t l)++[(t,n)]++l.drop (vj t l)
 |[],_=>by simp[jI,vj]
 |p::l,h=>by
  rw[jI,vj]
  by_cases hc:aT p.1 t<0
  ·have h':Qa t l=false:=by
    unfold Qa at h ⊢;rw[vj,if_pos hc]at h;simpa using h
   rw[if_pos hc,if_pos hc,Ik t n l h'];simp
  ·have h0:¬aT p.1 t=0:=by
    unfold Qa at h;rw[vj,if_neg hc]at h;simpa using h
   rw[if_neg hc,if_neg hc,if_neg h0];simp
theorem De(t:Tm)(n:Int):∀(l:List Pw) (p:Pw),l[vj t l]?=some p->aT p.1 t=0->
  jI t n l=if p.2+n=0 then l.take (vj t l)++l.drop (vj t l+1)else l.set (vj t l) (p.1,p.2+n)
 |[],p,h,_=>by simp at h
 |q::l,p,h,h0=>by
  rw[jI,vj]
  by_cases hc:aT q.1 t<0
  ·have h':l[vj t l]?=some p:=by
    rw[vj,if_pos hc]at h;simpa using h
   rw[if_pos hc,if_pos hc,De t n l p h' h0]
   split <;>simp
  ·have h':q=p:=by
    rw[vj,if_neg hc]at h;simpa using h
   subst h';rw[if_neg hc,if_neg hc,if_pos h0]
   split <;>simp
theorem R.SU{C:cR}(T:lQ C.P){ops:Array Oper}{d:Nat}{ty:TypeId}{pos:String}{af:Array Edge}{r:List Oper}{ρ:Nat->PV}{L:List (Nat×PV)}{h:ab}{Q:St->Prop}{s t:TypeId}{x:Operand}{k k':IntKind}{ks:Kd}{n n':Int}
  (hx:cM L x=some (.int k n)) (hs:T.kd s=some ks) (ht:T.kd t=some (.int k')) (hw:k'.wrap n=n') (kk:ah C ops r ⟨al ((d,.int k' n')::L) ρ,h⟩ Q):ah C ops (⟨some d,.convert s t x,ty,pos,af,none⟩::r) ⟨al L ρ,h⟩ Q:=by
 obtain⟨u,hu,_⟩:=mY (T.cT _ _ hs);exact ah.fe (λrun=>by simp[au,aC,an hx,xq,hu,pK (T.cT _ _ ht),hw]) kk
theorem R.ZH{C:cR}{ops:Array Oper}{d:Nat}{ty:TypeId}{pos:String}{af:Array Edge}{r:List Oper}{ρ:Nat->PV}{L:List (Nat×PV)}{h:ab}{Q:St->Prop}{t yt:TypeId}{x y:Operand}{k k':IntKind}{n n':Int}
  (hx:cM L x=some (.int k n)) (hy:cM L y=some (.int k' 1)) (hb:Nat.ble 1 k.bits=true) (hn:n / 2=n') (kk:ah C ops r ⟨al ((d,.int k n')::L) ρ,h⟩ Q):ah C ops (⟨some d,.binOp .shr t x y yt,ty,pos,af,none⟩::r) ⟨al L ρ,h⟩ Q:=by
 refine ah.fe (λrun=>?_) kk;have dS:=acu hb;have e1:min (1:Int).toNat k.bits=1:=by simp;omega
 simp only[au,aC,an hx,an hy,fE,qB];rw[if_neg (by decide)];simp only[e1];rw[<-hn,Int.fdiv_eq_ediv_of_nonneg _ (by decide)]
 rfl
theorem SV{n:Int}(h1:0<=n)(h2:n<=9223372036854775807):IntKind.u64.wrap n=n:=by
 have:IntKind.u64.wrap n=n % 18446744073709551616:=by simp[IntKind.wrap,IntKind.bits,IntKind.signed]
 rw[this];omega
theorem Ml(p:Pw)(t:Tm)(hp:ax p.1<1000000000)(ht:ax t<1000000000):aI C 350 [xv p,enc t] (.int .i64 (aT p.1 t)):=by
 have h1:=eB p.1 t hp ht;obtain⟨⟨k,s,o,l⟩,n⟩:=p;obtain⟨k',s',o',l'⟩:=t;refine aI.of (ay.dG Tryz.func350 rfl ?_);simp only[oD,bh]at h1 ⊢;refine wB ?_;refine R.call rfl rfl (aj.pure rfl (by simp[ar,aW]) (by simpa[aR,b9,aZ]using h1) ?_);refine wB ?_;exact⟨_,rfl,rfl⟩
theorem Qb(l:List Pw)(t:Tm)(hs:FU l)(hl:Sm l)(ht:ax t<1000000000):
  aI C 349 [.aa false (br l),enc t,.fn 350 []] (.ct [.int .i64 (vj t l),.bool (Qa t l)]):=by
 obtain⟨wQ,di⟩:=hl;have Fy:∀p∈l,aI C 350 [xv p,enc t] (.int .i64 (aT p.1 t)):=λp hp=>Ml p t (wQ p hp) ht
 have hle:=FT t l;have PF:=Ij t l hs;have pL:Qa t l=match l[vj t l]? with |some p=>decide (aT p.1 t=0)|none=>false:=rfl
 obtain⟨tk,ts,to,tl⟩:=t;rw[bh];simp only[bh]at Fy;generalize Qa (.mk tk ts to tl) l=FD at pL ⊢;generalize vj (.mk tk ts to tl) l=LB at hle PF pL ⊢;refine aI.of (ay.dG Tryz.func349 rfl ?_);have cr:=fh l;refine wB ?_;refine Ev.loop (I:=λk' st=>∃(i j:Nat) (ρ':Nat->PV),st=⟨al [(0,.aa false (br l)),(2,.fn 350 []),(4,.ptr 0 0 0 0),(8,.int .i64 (br l).length),(9,.int .i64 i),(10,.int .i64 j)] ρ',[⟨.m,0,4,[.agg [.int .i64 tk,.str ts,.int .i64 to,.aa false (ae tl)]]⟩]⟩/\k'=j - i/\i<=LB/\LB<=j/\j<=l.length) l.length ?_ ?_
 ·exact⟨0,(br l).length,_,St.aU ⟨rfl,rfl,rfl,rfl,rfl,rfl,trivial⟩,by omega,by omega,by omega,by omega⟩
 ·rintro k' _ ⟨i,j,ρ',rfl,hk,i1,i2,i3⟩
  (repeat' (first |refine ah.nil ?_ |(apply R.move;exact rfl)|(apply R.cmp;exact rfl;exact rfl;exact rfl;all_goals intro hc)|(apply R.arith;exact rfl;exact rfl;exact rfl;exact(mI (by omega) (by omega)))|refine Ev.seq ?_ |refine Ev.region ?_ |refine Ev.mJ ?_ |refine aY.nil ?_ |(apply D.move;exact rfl)|(apply D.assign;exact rfl)|(apply D.xy;exact rfl;exact rfl;exact rfl;exact rfl)|(apply D.oH;exact rfl;exact rfl;exact rfl)|(apply D.iW;exact rfl;exact rfl)|(apply D.cmp;exact rfl;exact rfl;exact rfl;all_goals intro hc)|(apply Ev.fJ;exact rfl)|refine Ev.ret ?_ |refine Ev.skip ?_ |refine Ev.exit ?_ |refine Ev.block ?_ |refine aD.normal ?_ |refine aD.exit ?_ |refine az.Mm ?_ |refine aL.exit ?_ |(apply aJ.ret;exact rfl)|fail))
  ·refine R.SU T6 rfl rfl rfl (SV (by omega) (by omega)) ?_;refine R.ZH rfl rfl rfl rfl ?_;refine R.SU T6 rfl rfl rfl (mI (by omega) (by omega)) ?_;obtain⟨m,hm⟩:∃m:Nat,((i:Int)+j) / 2=m:=⟨(i+j) / 2,by omega⟩;rw[hm];refine wB ?_;obtain⟨k1,s1,o1,l1,n1,fu,cm,hd,lu,wb⟩:=sJ (l:=l) (i:=m) (by omega);have rR:=Fy _ fu;have Qc:=PF m _ wb;simp only[oD]at rR Qc;refine D.ie T6 rfl rfl rfl rfl rfl cm rfl rfl ?_;refine wB ?_;refine D.kD rfl rfl rfl rfl rfl rfl rfl (by simpa[aR,b9,aZ]using rR) ?_;refine wE (λhc=>?_) λhc=>?_
   ·exact⟨j - (m+1),by omega,m+1,j,_,St.aU ⟨rfl,rfl,rfl,rfl,rfl,rfl,trivial⟩,rfl,by omega,by omega,by omega⟩
   ·exact⟨m - i,by omega,i,m,_,St.aU ⟨rfl,rfl,rfl,rfl,rfl,rfl,trivial⟩,rfl,by omega,by omega,by omega⟩
  ·have hi:i=LB:=by omega
   subst hi
   ·obtain⟨k1,s1,o1,l1,n1,fu,cm,hd,lu,wb⟩:=sJ (l:=l) (i:=i) (by omega);have rR:=Fy _ fu;rw[wb]at pL;simp only[oD]at rR;refine D.ie T6 rfl rfl rfl rfl rfl cm rfl rfl ?_;refine wB ?_;refine D.kD rfl rfl rfl rfl rfl rfl rfl (by simpa[aR,b9,aZ]using rR) ?_;refine wE (λhc=>?_) λhc=>?_
    ·refine⟨_,rfl,?_⟩;rw[pL];simp only[aO,b9,aR];rw[decide_eq_true (by assumption)]
    ·refine⟨_,rfl,?_⟩;rw[pL];simp only[aO,b9,aR];rw[decide_eq_false (by assumption)]
  ·have hi:i=LB:=by omega
   subst hi;refine⟨_,rfl,?_⟩;rw[pL,abC (by omega)]
   rfl
theorem oM(l:List Tm):((ae l).all λv=>decide ((cells v).length=4)&& (cells v).all bH)=true:=by
 rw[abk]
 intro v hv
 rw[c9]at hv;obtain⟨⟨k,s,o,l'⟩,_,rfl⟩:=abZ.1 hv;rw[bh];rfl
theorem xS(k s o l)(hb:ax (.mk k s o l)<1000000000)(ih:∀t∈l,aI C 252 [enc t] (enc t)):aI C 252 [enc (.mk k s o l)] (enc (.mk k s o l)):=by
 refine aI.of (ay.dG Tryz.func252 rfl ?_);rw[bh];have cr:=ai l;have hlen:=ba l;simp only[ax]at hb;refine wB ?_;refine ah.heap (h':=[⟨.m,0,4,[.agg [.int .i64 k,.str s,.int .i64 o,.aa false (ae l)]]⟩,⟨.m,0,4,[.agg [.int .i64 0,.str ByteArray.empty,.int .i64 0,.aa true []]]⟩]) rfl ?_;rcases hl:l with _ |⟨t0,l0⟩
 ·refine R.call rfl rfl (aj.cS (rv:=.aa true []) (h':=[⟨.m,0,4,[.agg [.int .i64 k,.str s,.int .i64 o,.aa false (ae [])]]⟩,⟨.m,0,4,[.agg [.int .i64 0,.str ByteArray.empty,.int .i64 0,.aa true []]]⟩]) rfl rfl ?_);refine wB ?_;refine R.iM T6 (n:=0) (o:=⟨.m,0,4,[.agg [.int .i64 k,.str s,.int .i64 o,.aa false (ae [])]]⟩) (i:=0) (e:=.agg [.int .i64 k,.str s,.int .i64 o,.aa false (ae [])]) rfl rfl rfl rfl rfl rfl rfl rfl (abn 4) ?_;refine ah.heap (h':=[⟨.m,0,4,[.agg [.int .i64 k,.str s,.int .i64 o,.aa true []]]⟩,⟨.m,0,4,[.agg [.int .i64 0,.str ByteArray.empty,.int .i64 0,.aa true []]]⟩]) rfl ?_;refine wB ?_;refine Ev.loop (I:=λk' st=>∃ρ',st=⟨al [(1,.ptr 0 0 0 0),(2,.ptr 1 0 0 0),(11,.int .i64 0),(12,.int .i64 0)] ρ',[⟨.m,0,4,[.agg [.int .i64 k,.str s,.int .i64 o,.aa true []]]⟩,⟨.m,0,4,[.agg [.int .i64 0,.str ByteArray.empty,.int .i64 0,.aa true []]]⟩]⟩) 0 ⟨_,St.aU ⟨rfl,rfl,rfl,rfl,trivial⟩⟩ ?_;rintro _ _ ⟨ρ',rfl⟩;refine wF λhc=>?_;refine R.iM T6 (n:=0) (o:=⟨.m,0,4,[.agg [.int .i64 0,.str ByteArray.empty,.int .i64 0,.aa true []]]⟩) (i:=0) (e:=.agg [.int .i64 0,.str ByteArray.empty,.int .i64 0,.aa true []]) rfl rfl rfl rfl rfl rfl rfl rfl (abn 4) ?_;refine wB ?_;exact⟨_,rfl,rfl⟩
 ·rw[<-hl];refine R.call rfl rfl (aj.cS (rv:=.ak 2 0 0 (ae l).length) (h':=[⟨.m,0,4,[.agg [.int .i64 k,.str s,.int .i64 o,.aa false (ae l)]]⟩,⟨.m,0,4,[.agg [.int .i64 0,.str ByteArray.empty,.int .i64 0,.aa true []]]⟩,⟨.m,0,4,ae l⟩]) rfl ?_ ?_)
  ·show bG 4 [.aa false (ae l)] _=_;have bN:(ae l).isEmpty=false:=by rw[hl];rfl
   simp only[bG,bN,abz,if_false,newObj];rw[if_pos ⟨oM l,by omega⟩]
   rfl
  rw[cr];refine wB ?_;refine R.iM T6 (n:=0) (o:=⟨.m,0,4,[.agg [.int .i64 k,.str s,.int .i64 o,.aa false (ae l)]]⟩) (i:=0) (e:=.agg [.int .i64 k,.str s,.int .i64 o,.aa false (ae l)]) rfl rfl rfl rfl rfl rfl rfl rfl (abn 4) ?_;refine ah.heap (h':=[⟨.m,0,4,[.agg [.int .i64 k,.str s,.int .i64 o,.ak 2 0 0 l.length]]⟩,⟨.m,0,4,[.agg [.int .i64 0,.str ByteArray.empty,.int .i64 0,.aa true []]]⟩,⟨.m,0,4,ae l⟩]) rfl ?_;refine wB ?_;refine R.zZ T6 (o:=⟨.m,0,4,ae l⟩) rfl rfl rfl (by show 0+l.length<=(ae l).length;omega) ?_;refine wB ?_;refine Ev.loop (I:=λk' st=>∃(i:Nat) (J:ab) (ρ':Nat->PV),st=⟨al [(1,.ptr 0 0 0 0),(2,.ptr 1 0 0 0),(10,.ak 2 0 0 l.length),(11,.int .i64 l.length),(12,.int .i64 i)] ρ',⟨.m,0,4,[.agg [.int .i64 k,.str s,.int .i64 o,.ak 2 0 0 l.length]]⟩::⟨.m,0,4,[.agg [.int .i64 0,.str ByteArray.empty,.int .i64 0,.aa true []]]⟩::⟨.m,0,4,ae l⟩::J⟩/\k'+i=l.length/\HV J) l.length ?_ ?_
  ·exact⟨0,[],_,St.aU ⟨rfl,rfl,rfl,rfl,rfl,trivial⟩,rfl,HV.nil⟩
  ·rintro k' _ ⟨i,J,ρ',rfl,hk,hJ⟩;refine wE (λhc=>?_) λhc=>?_
   ·obtain⟨k1,s1,o1,l1,fu,cm,hd,lu,_⟩:=gE (l:=l) (i:=i) (by omega);have AT:=ih _ fu;rw[bh]at AT;refine R.rW T6 (o:=⟨.m,0,4,ae l⟩) rfl rfl rfl rfl rfl (by omega) (by show 0+l.length<=(ae l).length;omega) ?_;have rn:(ae l)[0+i]?=some (.agg [.int .i64 k1,.str s1,.int .i64 o1,.aa false (ae l1)]):=by rw[abE];exact cm
    refine R.pn T6 (cs:=[.int .i64 k1,.str s1,.int .i64 o1,.aa false (ae l1)]) rfl rfl rfl ?_ (by repeat constructor) ?_
    ·simp[cN,getM,cm,cells]
    have DD:=hJ.cB (HV.one (ep:=0) (n:=4) (es:=[.agg [.int .i64 k1,.str s1,.int .i64 o1,.aa false (ae l1)]]) rfl);have dw:aV ([⟨.m,0,4,[.agg [.int .i64 k,.str s,.int .i64 o,.ak 2 0 0 l.length]]⟩,⟨.m,0,4,[.agg [.int .i64 0,.str ByteArray.empty,.int .i64 0,.aa true []]]⟩,⟨.m,0,4,ae l⟩]++(J++[⟨.m,0,4,[.agg [.int .i64 k1,.str s1,.int .i64 o1,.aa false (ae l1)]]⟩]))=true:=F7 (by simp[bw,bq,aQ,bj _ _ (fk l)]) DD;refine wB ?_;refine D.kD (by assumption) rfl rfl rfl rfl rfl rfl (by simpa[aR,b9,aZ]using AT) ?_;refine D.rW T6 (o:=⟨.m,0,4,ae l⟩) (by assumption) rfl rfl rfl rfl rfl (by omega) (by show 0+l.length<=(ae l).length;omega) ?_;refine D.iM T6 (o:=⟨.m,0,4,ae l⟩) (j:=0+i) rfl rfl rfl rfl rfl rfl rn rfl rfl (abn 4) ?_
    have eL:((⟨.m,0,4,[.agg [.int .i64 k,.str s,.int .i64 o,.ak 2 0 0 l.length]]⟩::⟨.m,0,4,[.agg [.int .i64 0,.str ByteArray.empty,.int .i64 0,.aa true []]]⟩::⟨.m,0,4,ae l⟩::J)++[⟨.m,0,4,[.agg [.int .i64 k1,.str s1,.int .i64 o1,.aa false (ae l1)]]⟩]:ab).set 2 {(⟨.m,0,4,ae l⟩:aw)with es:=(⟨.m,0,4,ae l⟩:aw).es.set (0+i) (eR 0 4 (.agg [.int .i64 k1,.str s1,.int .i64 o1,.aa false (ae l1)]) (.agg [.int .i64 k1,.str s1,.int .i64 o1,.aa false (ae l1)]))}=⟨.m,0,4,[.agg [.int .i64 k,.str s,.int .i64 o,.ak 2 0 0 l.length]]⟩::⟨.m,0,4,[.agg [.int .i64 0,.str ByteArray.empty,.int .i64 0,.aa true []]]⟩::⟨.m,0,4,ae l⟩::(J++[⟨.m,0,4,[.agg [.int .i64 k1,.str s1,.int .i64 o1,.aa false (ae l1)]]⟩]):=by
     have:(ae l).set (0+i) (.agg [.int .i64 k1,.str s1,.int .i64 o1,.aa false (ae l1)])=ae l:=by
      have cG:=ag rn;rw[abo cG]at rn;rw[<-abi rn];exact adI cG
     show⟨.m,0,4,[.agg [.int .i64 k,.str s,.int .i64 o,.ak 2 0 0 l.length]]⟩::⟨.m,0,4,[.agg [.int .i64 0,.str ByteArray.empty,.int .i64 0,.aa true []]]⟩::({(⟨.m,0,4,ae l⟩:aw)with es:=(ae l).set (0+i) (.agg [.int .i64 k1,.str s1,.int .i64 o1,.aa false (ae l1)])}:aw)::(J++[_])=_;rw[this]
    refine aY.heap eL ?_;refine wB ?_;exact⟨k' - 1,by omega,i+1,_,_,St.aU ⟨rfl,rfl,rfl,rfl,rfl,trivial⟩,by omega,DD⟩
   ·refine R.iM T6 (n:=0) (o:=⟨.m,0,4,[.agg [.int .i64 0,.str ByteArray.empty,.int .i64 0,.aa true []]]⟩) (i:=0) (e:=.agg [.int .i64 0,.str ByteArray.empty,.int .i64 0,.aa true []]) rfl rfl rfl rfl rfl rfl rfl rfl (abn 4) ?_;refine ah.heap (h':=⟨.m,0,4,[.agg [.int .i64 k,.str s,.int .i64 o,.ak 2 0 0 l.length]]⟩::⟨.m,0,4,[.agg [.int .i64 k,.str s,.int .i64 o,.ak 2 0 0 l.length]]⟩::⟨.m,0,4,ae l⟩::J) rfl ?_;refine wB ?_;refine⟨.agg [.int .i64 k,.str s,.int .i64 o,.aa false (ae l)],?_,by simp[b9,aR,aZ]⟩;have ht:(ae l).take l.length=ae l:=by rw[<-cr];exact ack
    simp[rb,ke,cells,aO];simp[nw,oB,getM,fk,aW,ht,cr]
theorem nK(t:Tm)(hb:ax t<1000000000):aI C 252 [enc t] (enc t):=by
 induction t using Tm.ind with
 |h k s o l ih=>exact xS k s o l hb (λt ht=>ih t ht (by have:=bC ht;simp only[ax]at hb;omega))
theorem D3(l:List Pw):(br l).all (kX 5)=true:=by
 rw[abk]
 intro v hv
 obtain⟨⟨⟨k,s,o,l'⟩,n⟩,_,rfl⟩:=abZ.1 hv
 rfl
theorem Kk(l:List Pw)(j:Nat)(p:Pw):(br l).take j++[xv p]++(br l).drop j=br (l.take j++[p]++l.drop j):=by simp[br]
theorem Kl(l:List Pw)(j:Nat):(br l).take j++(br l).drop (j+1)=br (l.take j++l.drop (j+1)):=by simp[br]
theorem JT(l:List Pw)(t:Tm)(n:Int)(H:ab)(v:PV)(hH:HV H)(ho:Out 5 H v (br l))(hs:FU l)(hl:Sm l)(ht:ax t<1000000000)(hB:Bd 1000000000 l)(hn: -1000000000<=n/\n<=1000000000):
  ay C 310 [v,xv (t,n)] H (λr h'=>LP H v 5 (br (jI t n l)) r h'):=by
 have Kn:=Qb l t hs hl ht;have dw:=nK t ht;have hle:=FT t l;have zM:=Ik t n l;have Rc:=De t n l;have pL:Qa t l=match l[vj t l]? with |some p=>decide (aT p.1 t=0)|none=>false:=rfl
 have cr:=fh l;have di:=hl.2;obtain⟨k,s,o,tl⟩:=t;refine ay.dG Tryz.func310 rfl ?_;rw[oD];rw[bh]at Kn dw;generalize hLB:vj (.mk k s o tl) l=LB at Kn hle zM Rc pL;refine wB ?_;obtain⟨H1,mB⟩:∃x,x=H++[⟨.m,0,5,[.agg [.int .i64 k,.str s,.int .i64 o,.aa false (ae tl),.int .i64 n]]⟩]:=⟨_,rfl⟩;have v1:HV H1:=by rw[mB];exact hH.cB (HV.one rfl)
 have b1:H1[H.length]?=some ⟨.m,0,5,[.agg [.int .i64 k,.str s,.int .i64 o,.aa false (ae tl),.int .i64 n]]⟩:=by rw[mB];simp
 have g1:H1.length=H.length+1:=by rw[mB];simp
 have p1:∀j,j<H.length->H1[j]?=H[j]?:=λj hj=>by rw[mB,abj hj]
 have o1:Out 5 H1 v (br l):=by rw[mB];exact ho.cB _
 have nv:∀ep n,v≠.ak H.length ep 0 n:=by
  rcases ho with⟨rfl,_⟩|⟨id,ep,rfl,e2⟩
  ·intro ep n hh;cases hh
  ·intro im n' hh
   have:=ag e2
   cases hh;omega
 refine ah.heap mB.symm ?_;clear mB
 skip
 refine R.call rfl rfl (aj.out rfl o1 (oE l) (by simp[ar,aW]) (by simpa[aR,b9,aZ,rP]using Kn) rfl ?_);have fin:∀{r:PV} {h':ab} {es:List PV},LP H1 v 5 es r h'->LP H v 5 es r h':=λ{r h' es} a=>⟨a.out,a.hv,by have:=a.len;omega,λj hj bN=>by rw[a.fr j (by omega) bN,p1 j hj],λj ep n hh=>(a.ref j ep n hh).elim .inl (λhh=>.inr (by omega))⟩
 cases hf:Qa (.mk k s o tl) l
 ·rw[zM hf];refine wB ?_;refine D.kD v1.closed rfl rfl rfl rfl rfl rfl (by simpa[aR,b9,aZ]using dw) ?_;refine wB ?_;refine D.buildSlice T6 v1.closed rfl rfl rfl rfl rfl (by decide) rfl rfl rfl rfl rfl ?_;obtain⟨rv,h',e1,e2⟩:=yu (full:=true) (e:=.agg [.int .i64 k,.str s,.int .i64 o,.aa false (ae tl),.int .i64 n]) (j:=LB) o1 v1 (by omega) (by omega) (D3 l) rfl;refine D.call rfl rfl rfl (aj.cS rfl e1 ?_);refine wB ?_;rw[<-oD,Kk]at e2;exact fin e2
 ·rw[hf]at pL
  obtain⟨p,hp,D4⟩:∃p,l[LB]?=some p/\aT p.1 (.mk k s o tl)=0:=by
   cases hg:l[LB]? with
   |none=>rw[hg]at pL;cases pL
   |some p=>rw[hg]at pL;exact⟨p,rfl,of_decide_eq_true pL.symm⟩
  have cG:=ag hp;have fu:=aby hp;have LX:=hB _ fu;rw[Rc p hp D4];obtain⟨⟨k1,s1,LY,l1⟩,n1⟩:=p;simp only at LX
  have cm:(br l)[0+LB]?=some (.agg [.int .i64 k1,.str s1,.int .i64 LY,.aa false (ae l1),.int .i64 n1]):=by
   rw[abE,br,abB,hp];rfl
  rcases o1 with⟨_,e1⟩|⟨id,ep,rfl,e1⟩
  ·rw[e1]at cr;simp at cr;omega
  have bW:id≠H.length:=λhh=>nv ep (br l).length (by rw[hh])
  have YF:=ag e1;have VF:=v1.closed;have ij:=v1.TA YF
  have hpc:cN H1 (.ptr id ep (0+LB) (0+4))=some [.int .i64 n1]:=by
   simp only[cN,bo e1 rfl (by simp),cm];rfl
  refine wB ?_;refine D.rW T6 (o:=⟨.m,ep,5,br l⟩) VF rfl rfl rfl (bo e1 rfl (by simp)) rfl (by omega) (by show 0+(br l).length<=(br l).length;omega) ?_;refine wB ?_;refine D.gD T6 VF rfl ij rfl rfl hpc ?_;refine wB ?_;refine D.rW T6 (o:=⟨.m,ep,5,br l⟩) VF rfl rfl rfl (bo e1 rfl (by simp)) rfl (by omega) (by show 0+(br l).length<=(br l).length;omega) ?_;refine wB ?_;refine D.iM T6 (o:=⟨.m,ep,5,br l⟩) (j:=0+LB) rfl rfl rfl rfl (bo e1 rfl (by simp)) rfl cm rfl rfl (abn 5) ?_;obtain⟨H2,oN⟩:∃x,x=H1.set id ⟨.m,ep,5,br (l.set LB (.mk k1 s1 LY l1,n1+n))⟩:=⟨_,rfl⟩
  have eL:H1.set id {(⟨.m,ep,5,br l⟩:aw)with es:=(br l).set (0+LB) (eR (0+4) 1 (.agg [.int .i64 k1,.str s1,.int .i64 LY,.aa false (ae l1),.int .i64 n1]) (.int .i64 (n1+n)))}=H2:=by
   rw[oN,abE]
   congr 2
   unfold br;rw[List.map_set]
   rfl
  refine aY.heap eL ?_;have e2:H2[id]?=some ⟨.m,ep,5,br (l.set LB (.mk k1 s1 LY l1,n1+n))⟩:=by rw[oN];exact abl YF
  have v2:HV H2:=by rw[oN];exact v1.set id (by simp) (oE _)
  have g2:H2.length=H.length+1:=by rw[oN];simp[g1]
  have p2:∀j,j≠id->j<H1.length->H2[j]?=H1[j]?:=λj hj _=>by rw[oN];exact abm (acd hj)
  have oS:(br (l.set LB (.mk k1 s1 LY l1,n1+n))).length=(br l).length:=by rw[fh,fh];simp
  have nf:(br (l.set LB (.mk k1 s1 LY l1,n1+n)))[0+LB]?=some (.agg [.int .i64 k1,.str s1,.int .i64 LY,.aa false (ae l1),.int .i64 (n1+n)]):=by
   rw[abE,br,abB,abl cG];rfl
  have aaf:cN H2 (.ptr id ep (0+LB) (0+4))=some [.int .i64 (n1+n)]:=by
   simp only[cN,bo e2 rfl (by simp),nf];rfl
  clear eL oN;refine wB ?_;refine R.rW T6 (o:=⟨.m,ep,5,br (l.set LB (.mk k1 s1 LY l1,n1+n))⟩) rfl rfl rfl (bo e2 rfl (by simp)) rfl (by omega) (by show 0+(br l).length<=(br _).length;omega) ?_;refine wB ?_;refine R.gD T6 rfl rfl rfl aaf ?_;refine wE (λhc=>?_) λhc=>?_
  ·rw[if_pos (by assumption)];obtain⟨rv,h',e3,e4⟩:=yv (j:=LB) e2 v2 (by rw[oS];omega) (by rw[oS];omega) (D3 _);rw[oS]at e3 e4;refine R.call rfl rfl (aj.cS rfl e3 ?_);refine wB ?_
   have aag:br ((l.set LB (.mk k1 s1 LY l1,n1+n)).take LB++(l.set LB (.mk k1 s1 LY l1,n1+n)).drop (LB+1))=br (l.take LB++l.drop (LB+1)):=by
    rw[List.take_set_of_le (abn LB),List.drop_set_of_lt (by omega)]
   rw[Kl,aag]at e4;exact fin ⟨e4.out,e4.hv,by have:=e4.len;omega,λj hj bN=>by rw[e4.fr j (by omega) bN,p2 j (λhh=>bN ep (br l).length (by rw[hh])) hj],λj ep n hh=>(e4.ref j ep n hh).elim .inl (λhh=>.inr (by omega))⟩
  ·rw[if_neg (by assumption)];refine fin ⟨.inr ⟨id,ep,by rw[oS];rfl,e2⟩,v2,by omega,λj hj bN=>p2 j (λhh=>bN ep (br l).length (by rw[hh])) hj,λj im n' hh=>.inl ⟨im,n',hh⟩⟩
structure CI(a:List Pw)(N:Int):Prop where
 oT:FU a
 nz:Nz a
 sm:∀p∈a,ax p.1<1000000000
 len:(a.length:Int)+N<=10000000
 bd:∃B:Int,0<=B/\B+N<=10000000/\Bd B a
theorem CI.Sm{a:List Pw}{N:Int}(c:CI a N)(h:0<=N):Sm a:=⟨c.sm,by have:=c.len;omega⟩
theorem CI.Bd{a:List Pw}{N:Int}(c:CI a N)(h:0<=N):Bd 1000000000 a:=by
 obtain⟨B,h1,h2,h3⟩:=c.bd
 intro p hp
 have:=h3 p hp;omega
theorem CI.le{a:List Pw}{N M:Int}(c:CI a N)(h:M<=N):CI a M:=by
 obtain⟨B,h1,h2,h3⟩:=c.bd;exact⟨c.oT,c.nz,c.sm,by have:=c.len;omega,B,h1,by omega,h3⟩
theorem CI.gB{a:List Pw}{N:Int}{t:Tm}{n:Int}(c:CI a (size t+N))(hb:ax t<1000000000)(hn:n=1\/n=-1):CI (gB a t n) N:=by
 obtain⟨B,h1,h2,h3⟩:=c.bd;obtain⟨g1,g2,_⟩:=Je t a n c.oT c.nz (by omega);have hs:=gP t;refine⟨g1,g2,?_,?_,B+size t,by omega,by omega,Jg t a n B (by omega) (by omega) h1 h3⟩
 ·refine Dc (Q:=λt=>ax t<1000000000) (P:=λt=>ax t<1000000000) (λ_ _ _ _ h _=>h) ?_ t a n hb c.sm
  intro k s o l h u hu
  have:=bC hu;simp only[ax]at h;omega
 ·have:=yU t a n;have:=c.len;omega
theorem CI.nil:CI [] 10000000:=⟨by simp[FU],(λp hp=>by cases hp),(λp hp=>by cases hp),by simp,0,by omega,by omega,(λp hp=>by cases hp)⟩
def IY(t:Tm):List Pw×Int:=if valid t≠0 then([],valid t)else if arity t=false then([],6)else if 200<(gB [] t 1).length then([],3)else(gB [] t 1,0)
structure zL(H:ab)(n d:Int):Prop where
 f1:H[1]?=some ⟨.m,0,1,[.int .i64 n]⟩
 f2:H[2]?=some ⟨.m,0,1,[.int .i64 d]⟩
 hv:HV H
 len:3<=H.length
def CkP(H:ab)(t:Tm)(wU n d:Int)(r:PV)(h':ab):Prop:=r=.int .i64 (nodes t)/\∃n' d',zL h' n' d'/\H.length<=h'.length/\(∀j,j≠1->j≠2->j<H.length->h'[j]?=H[j]?)/\(nodes t=0->n'=n+size t/\d'=max d (wU - 1+depth t))
theorem zL.cB{H:ab}{n d:Int}(c:zL H n d){K:ab}(hK:HV K):zL (H++K) n d:=by
 have:=c.len;exact⟨by rw[abj (by omega)];exact c.f1,by rw[abj (by omega)];exact c.f2,c.hv.cB hK,by simp;omega⟩
theorem zL.ZM{H:ab}{n d:Int}(c:zL H n d)(n':Int):zL (H.set 1 ⟨.m,0,1,[.int .i64 n']⟩) n' d:=by
 have:=c.len;exact⟨abl (by omega),by rw[abm (by omega)];exact c.f2,c.hv.set 1 (by simp) rfl,by simp;omega⟩
theorem zL.ZN{H:ab}{n d:Int}(c:zL H n d)(d':Int):zL (H.set 2 ⟨.m,0,1,[.int .i64 d']⟩) n d':=by
 have:=c.len;exact⟨by rw[abm (by omega)];exact c.f1,abl (by omega),c.hv.set 2 (by simp) rfl,by simp;omega⟩
theorem zL.take{H:ab}{n d:Int}(c:zL H n d)(m:Nat)(hm:3<=m):zL (H.take m) n d:=by
 have:=c.len;exact⟨by rw[ab1 (by omega)];exact c.f1,by rw[ab1 (by omega)];exact c.f2,λo ho=>c.hv o (ab3 ho),by simp;omega⟩
theorem Mz(k s o l)(hb:ax (.mk k s o l)<1000000000)
  (ih:∀t∈l,∀(H:ab) (wU n d:Int),zL H n d->0<=n->n+size t<=1000000000->0<=d->d<=1000000000->0<=wU->wU+depth t<=1000000000->ay C 152 [enc t,.int .i64 wU,.ptr 1 0 0 0,.ptr 2 0 0 0] H (CkP H t wU n d))
  (H:ab) (wU n d:Int) (hH:zL H n d) (n0:0<=n) (n1:n+size (.mk k s o l)<=1000000000) (d0:0<=d) (d1:d<=1000000000) (l0:0<=wU) (l1:wU+depth (.mk k s o l)<=1000000000):
  ay C 152 [enc (.mk k s o l),.int .i64 wU,.ptr 1 0 0 0,.ptr 2 0 0 0] H (CkP H (.mk k s o l) wU n d):=by
 refine ay.dG Tryz.func152 rfl ?_;rw[bh];have hlen:=ba l;have cr:=ai l;have gM:=de l;have hds:=jx l;have AS:s.size<1000000000:=by simp only[ax]at hb;omega
 have Du:bp l<1000000000:=by simp only[ax]at hb;omega
 simp only[size]at n1;simp only[depth]at l1;have hHl:=hH.len;refine wB ?_;obtain⟨H1,mB⟩:∃x,x=H++[⟨.m,0,4,[.agg [.int .i64 k,.str s,.int .i64 o,.aa false (ae l)]]⟩]:=⟨_,rfl⟩;have c1:zL H1 n d:=by rw[mB];exact hH.cB (HV.one rfl)
 have b1:H1[H.length]?=some ⟨.m,0,4,[.agg [.int .i64 k,.str s,.int .i64 o,.aa false (ae l)]]⟩:=by rw[mB];simp
 have g1:H1.length=H.length+1:=by rw[mB];simp
 have p1:∀j,j<H.length->H1[j]?=H[j]?:=λj hj=>by rw[mB,abj hj]
 refine ah.heap mB.symm ?_;clear mB;have u1:=c1.f1;have u2:=c1.f2;refine wB ?_;refine R.iM T6 (n:=0) (o:=⟨.m,0,1,[.int .i64 n]⟩) (i:=0) (e:=.int .i64 n) rfl rfl rfl (bo u1 rfl (by simp)) rfl rfl rfl rfl (abn 1) ?_;obtain⟨H2,oN⟩:∃x,x=H1.set 1 ⟨.m,0,1,[.int .i64 (n+1)]⟩:=⟨_,rfl⟩;have c2:zL H2 (n+1) d:=by rw[oN];exact c1.ZM _
 have b2:H2[H.length]?=some ⟨.m,0,4,[.agg [.int .i64 k,.str s,.int .i64 o,.aa false (ae l)]]⟩:=by rw[oN,abm (by omega)];exact b1
 have g2:H2.length=H.length+1:=by rw[oN];simp[g1]
 have p2:∀j,j≠1->j<H.length->H2[j]?=H[j]?:=λj h1 hj=>by rw[oN,abm (by omega)];exact p1 j hj
 refine ah.heap oN.symm ?_;clear oN c1 b1 g1 p1 u1 u2;have u1:=c2.f1;have u2:=c2.f2;refine wB ?_;refine R.iM T6 (n:=0) (o:=⟨.m,0,1,[.int .i64 d]⟩) (i:=0) (e:=.int .i64 d) rfl rfl rfl (bo u2 rfl (by simp)) rfl rfl rfl rfl (abn 1) ?_;obtain⟨H3,Ui⟩:∃x,x=H2.set 2 ⟨.m,0,1,[.int .i64 (max d wU)]⟩:=⟨_,rfl⟩;have c3:zL H3 (n+1) (max d wU):=by rw[Ui];exact c2.ZN _
 have b3:H3[H.length]?=some ⟨.m,0,4,[.agg [.int .i64 k,.str s,.int .i64 o,.aa false (ae l)]]⟩:=by rw[Ui,abm (by omega)];exact b2
 have g3:H3.length=H.length+1:=by rw[Ui];simp[g2]
 have p3:∀j,j≠1->j≠2->j<H.length->H3[j]?=H[j]?:=λj h1 h2 hj=>by rw[Ui,abm (by omega)];exact p2 j h1 hj
 refine ah.heap Ui.symm ?_;clear Ui c2 b2 g2 p2 u1 u2
 have bad:∀e:Int,node (.mk k s o l)=e->e≠0->CkP H (.mk k s o l) wU n d (.int .i64 e) H3:=λe h1 h2=>by
  have:nodes (.mk k s o l)=e:=by rw[nodes,if_pos (by rw[h1];exact h2),h1]
  exact⟨by rw[this],_,_,c3,by omega,p3,λh=>absurd (this▸h) h2⟩
 (repeat' (first |refine ah.nil ?_ |(apply R.xy;exact rfl;exact rfl;exact rfl)|(apply R.oH;exact rfl;exact rfl;exact rfl)|(apply R.move;exact rfl)|(apply R.assign;exact rfl)|(apply R.iY;exact rfl;exact rfl)|(apply R.iW;exact rfl;exact rfl)|(apply R.fieldAddr T6;exact rfl;exact rfl;exact rfl;exact rfl)|(apply R.cmp;exact rfl;exact rfl;exact rfl;all_goals intro hc;all_goals(try(exfalso;omega)))|(apply R.rV T6;exact rfl;exact rfl)|(apply R.rX T6;exact rfl;exact rfl;exact rfl;exact(by assumption);exact rfl)|refine Ev.seq ?_ |refine Ev.region ?_ |(apply Ev.fJ;exact rfl)|refine Ev.ret ?_ |refine Ev.skip ?_ |refine Ev.block ?_ |refine aD.normal ?_ |refine aD.ret ?_ |refine az.normal ?_ |refine az.ret ?_ |(apply aJ.ret;exact rfl)|fail))
 all_goals try(refine bad 1 ?_ (by decide);rw[node,if_pos (by omega)])
 all_goals(refine R.call rfl rfl (aj.pure rfl rfl (FY s AS) ?_);cases hN:dR s <;>(repeat' (first |refine ah.nil ?_ |(apply R.move;exact rfl)|(apply R.assign;exact rfl)|(apply R.fieldAddr T6;exact rfl;exact rfl;exact rfl;exact rfl)|(apply R.cmp;exact rfl;exact rfl;exact rfl;all_goals intro hc;all_goals(try(exfalso;omega)))|(apply R.not;exact rfl;exact rfl)|(apply R.rV T6;exact rfl;exact rfl)|(apply R.rX T6;exact rfl;exact rfl;exact rfl;exact(by assumption);exact rfl)|refine Ev.seq ?_ |refine Ev.region ?_ |(apply Ev.fJ;exact rfl)|refine Ev.ret ?_ |refine Ev.skip ?_ |refine Ev.block ?_ |refine aD.normal ?_ |refine aD.ret ?_ |(apply aJ.ret;exact rfl)|fail)))
 all_goals try(refine bad 2 ?_ (by decide);rw[node,if_neg (by omega),if_pos hN])
 all_goals try(refine bad 3 ?_ (by decide);rw[node,if_neg (by omega),if_neg (by rw[hN];simp),if_pos (by omega)])
 all_goals(
  have zM:node (.mk k s o l)=0:=by rw[node,if_neg (by omega),if_neg (by rw[hN];simp),if_neg (by omega)]
  have h0:nodes (.mk k s o l)=ia l:=by rw[nodes,if_neg (by rw[zM];simp)]
  clear bad hc
  refine Ev.loop (I:=λk' st=>∃(i:Nat) (Hc:ab) (nc dc:Int) (ρ':Nat->PV),st=⟨al [(1,.int .i64 wU),(2,.ptr 1 0 0 0),(3,.ptr 2 0 0 0),(4,.ptr H.length 0 0 0),(57,.aa false (ae l)),(58,.int .i64 (ae l).length),(59,.int .i64 i)] ρ',Hc⟩/\k'+i=l.length/\
   zL Hc nc dc/\Hc[H.length]?=some ⟨.m,0,4,[.agg [.int .i64 k,.str s,.int .i64 o,.aa false (ae l)]]⟩/\H.length<Hc.length/\(∀j,j≠1->j≠2->j<H.length->Hc[j]?=H[j]?)/\0<=nc/\nc+dU (l.drop i)=n+1+dU l/\wU<=dc/\dc<=1000000000/\max dc (wU+ic (l.drop i))=max d (wU+ic l)/\ia l=ia (l.drop i)) l.length ?_ ?_
  ·exact⟨0,H3,_,_,_,St.aU ⟨rfl,rfl,rfl,rfl,rfl,rfl,rfl,trivial⟩,rfl,c3,b3,by omega,p3,by omega,rfl,by omega,by omega,by simp only[acv];omega,rfl⟩
  ·clear c3 b3 g3 p3;rintro k' _ ⟨i,Hc,nc,dc,ρ',rfl,hk,c4,b4,g4,p4,m0,m1,m2,m3,m4,dS⟩;refine wE (λhc=>?_) λhc=>?_
   ·obtain⟨k1,s1,o1,l1',fu,cm,hd,lu,_⟩:=gE hc;refine R.ie T6 rfl rfl rfl rfl cm rfl rfl ?_;have B8:=de (l.drop (i+1));have aaZ:=jx (l.drop (i+1));have hdm:=rQ _ fu;have xL:=gP (.mk k1 s1 o1 l1');have Dv:=oO (.mk k1 s1 o1 l1');rw[hd,dU]at m1;rw[hd,ic]at m4;rw[hd,ia]at dS;refine wB ?_;obtain⟨H5,XA⟩:∃x,x=Hc++[⟨.m,0,4,[.agg [.int .i64 k1,.str s1,.int .i64 o1,.aa false (ae l1')]]⟩]:=⟨_,rfl⟩;have c5:zL H5 nc dc:=by rw[XA];exact c4.cB (HV.one rfl)
    have b5:H5[H.length]?=some ⟨.m,0,4,[.agg [.int .i64 k,.str s,.int .i64 o,.aa false (ae l)]]⟩:=by rw[XA,abj (by omega)];exact b4
    have g5:H5.length=Hc.length+1:=by rw[XA];simp
    have p5:∀j,j≠1->j≠2->j<H.length->H5[j]?=H[j]?:=λj h1 h2 hj=>by rw[XA,abj (by omega)];exact p4 j h1 h2 hj
    have AT:=ih _ fu H5 (wU+1) nc dc c5 m0 (by omega) (by omega) m3 (by omega) (by omega);rw[bh]at AT;refine R.call rfl rfl (aj.sO rfl XA.symm rfl rfl AT ?_);rintro r h' ⟨rfl,n',d',c6,g6,p6,e6⟩;refine⟨c6.hv,λ_=>?_,λhf=>Bool.noConfusion hf⟩;have c7:=c6.take H5.length (by omega);have b7:(h'.take H5.length)[H.length]?=some ⟨.m,0,4,[.agg [.int .i64 k,.str s,.int .i64 o,.aa false (ae l)]]⟩:=by rw[ab1 (by omega),p6 _ (by omega) (by omega) (by omega)];exact b5
    have g7:(h'.take H5.length).length=H5.length:=by simp;omega
    have p7:∀j,j≠1->j≠2->j<H.length->(h'.take H5.length)[j]?=H[j]?:=λj h1 h2 hj=>by rw[ab1 (by omega),p6 j h1 h2 (by omega)];exact p5 j h1 h2 hj
    generalize h'.take H5.length=H7 at c7 b7 g7 p7 ⊢;clear c6 p6;refine wE (λhc=>?_) λhc=>?_
    ·have bN:=hc;rw[if_pos bN]at dS;exact⟨by rw[h0,dS];rfl,_,_,c7,by omega,p7,λh=>absurd (by rw[<-dS,<-h0];exact h) bN⟩
    ·rw[if_neg (by assumption)]at dS;obtain⟨e7,e8⟩:=e6 (by omega);exact⟨k' - 1,by omega,i+1,H7,n',d',_,St.aU ⟨rfl,rfl,rfl,rfl,rfl,rfl,rfl,trivial⟩,by omega,c7,b7,by omega,p7,by omega,by omega,by omega,by omega,by omega,dS⟩
   ·rw[kF hc]at dS m1 m4;simp only[dU,ic,ia]at dS m1 m4;refine⟨by rw[h0,dS];rfl,_,_,c4,by omega,p4,λ_=>⟨?_,?_⟩⟩
    ·simp only[size];omega
    ·simp only[depth];omega)
theorem JM(t:Tm)(hb:ax t<1000000000):∀(H:ab) (wU n d:Int),zL H n d->0<=n->n+size t<=1000000000->0<=d->d<=1000000000->0<=wU->wU+depth t<=1000000000->ay C 152 [enc t,.int .i64 wU,.ptr 1 0 0 0,.ptr 2 0 0 0] H (CkP H t wU n d):=by
 induction t using Tm.ind with
 |h k s o l ih=>exact Mz k s o l hb (λt ht=>ih t ht (by have:=bC ht;simp only[ax]at hb;omega))
theorem fM(t:Tm)(hb:ax t<100000000):aI C 98 [enc t] (.int .i64 (valid t)):=by
 have hck:=JM t (by omega);have gM:=gP t;have hdp:=oO t;obtain⟨k,s,o,l⟩:=t;refine aI.of (ay.dG Tryz.func98 rfl ?_);rw[bh]at hck ⊢;refine wB ?_;refine R.iM T6 (n:=0) (o:=⟨.m,0,1,[.int .i64 0]⟩) (i:=0) (e:=.int .i64 0) rfl rfl rfl rfl rfl rfl rfl rfl (abn 1) ?_
 skip
 refine R.iM T6 (n:=0) (o:=⟨.m,0,1,[.int .i64 0]⟩) (i:=0) (e:=.int .i64 0) rfl rfl rfl rfl rfl rfl rfl rfl (abn 1) ?_;refine ah.heap (h':=[⟨.m,0,4,[.agg [.int .i64 k,.str s,.int .i64 o,.aa false (ae l)]]⟩,⟨.m,0,1,[.int .i64 0]⟩,⟨.m,0,1,[.int .i64 0]⟩]) rfl ?_;refine wB ?_
 have c0:zL [⟨.m,0,4,[.agg [.int .i64 k,.str s,.int .i64 o,.aa false (ae l)]]⟩,⟨.m,0,1,[.int .i64 0]⟩,⟨.m,0,1,[.int .i64 0]⟩] 0 0:=⟨rfl,rfl,λo ho=>by
  simp at ho;rcases ho with rfl |rfl <;>exact⟨by simp,rfl⟩,by simp⟩
 refine R.call rfl rfl (aj.sO rfl rfl rfl rfl (hck _ 1 0 0 c0 (by omega) (by omega) (by omega) (by omega) (by omega) (by omega)) ?_);rintro r h' ⟨rfl,n',d',c6,g6,p6,e6⟩;refine⟨c6.hv,λ_=>?_,λhf=>Bool.noConfusion hf⟩;have c7:=c6.take 3 (abn 3);refine ah.heap (h':=h'.take 3) rfl ?_;generalize h'.take 3=H7 at c7 ⊢;have u1:=c7.f1;have u2:=c7.f2;clear c6 p6 g6 hck;have hv:nodes (.mk k s o l)≠0->valid (.mk k s o l)=nodes (.mk k s o l):=λh=>by rw[valid,if_pos h]
 have Di:nodes (.mk k s o l)=0->valid (.mk k s o l)=if 400<size (.mk k s o l)\/40<depth (.mk k s o l)then 3 else 0:=λh=>by rw[valid,if_neg (by omega)]
 (repeat' (first |refine ah.nil ?_ |(apply R.xy;exact rfl;exact rfl;exact rfl)|(apply R.oH;exact rfl;exact rfl;exact rfl)|(apply R.move;exact rfl)|(apply R.assign;exact rfl)|(apply R.iY;exact rfl;exact rfl)|(apply R.iW;exact rfl;exact rfl)|(apply R.cmp;exact rfl;exact rfl;exact rfl;all_goals intro hc)|(apply R.rX T6;exact rfl;exact rfl;exact rfl;exact(by assumption);exact rfl)|refine Ev.seq ?_ |refine Ev.region ?_ |(apply Ev.fJ;exact rfl)|refine Ev.ret ?_ |refine Ev.skip ?_ |refine aD.normal ?_ |refine aD.ret ?_ |(apply aJ.ret;exact rfl)|fail))
 ·exact⟨_,rfl,by rw[hv (by assumption)];rfl⟩
 ·have h0:nodes (.mk k s o l)=0:=by omega
  obtain⟨e7,e8⟩:=e6 h0;exact⟨_,rfl,by rw[Di h0,if_pos (by omega)];rfl⟩
 ·have h0:nodes (.mk k s o l)=0:=by omega
  obtain⟨e7,e8⟩:=e6 h0;exact⟨_,rfl,by rw[Di h0,if_pos (by omega)];rfl⟩
 ·have h0:nodes (.mk k s o l)=0:=by omega
  obtain⟨e7,e8⟩:=e6 h0;exact⟨_,rfl,by rw[Di h0,if_neg (by omega)];rfl⟩
theorem LP.take{H:ab}{v:PV}{sz:Nat}{es:List PV}{r:PV}{h':ab}(a:LP H v sz es r h'){N:Nat}(hN:H.length<=N)(hr:cK N r=true):LP H v sz es r (h'.take N):=by
 refine⟨?_,a.hv.take N,by have:=a.len;simp;omega,λj hj bN=>by rw[ab1 (by omega)];exact a.fr j hj bN,a.ref⟩;rcases a.out with⟨rfl,e⟩|⟨id,ep,rfl,e⟩
 ·exact .inl ⟨rfl,e⟩
 ·have:id<N:=by simpa[cK,dY]using hr
  exact .inr ⟨id,ep,rfl,by rw[ab1 this];exact e⟩
theorem LP.start{H X:ab}{v:PV}{sz:Nat}{es:List PV}(o:Out sz H v es)(hH:HV H)(hX:HV X):LP H v sz es v (H++X):=
 ⟨o.cB X,hH.cB hX,by simp,λj hj _=>abj hj,λj ep n hh=>.inl ⟨ep,n,hh⟩⟩
theorem LP.trans{H Hc X K:ab}{v vc rv:PV}{sz:Nat}{es fA:List PV}(a:LP H v sz es vc Hc)(b:LP (Hc++X) vc sz fA rv K):LP H v sz fA rv K:=by
 have h1:=a.len;have h2:=b.len;simp at h2;refine⟨b.out,b.hv,by omega,λj hj bN=>?_,λj ep n hh=>?_⟩
 ·rw[b.fr j (by simp;omega) (λep n hh=>?_),abj (by omega),a.fr j hj bN];rcases a.ref j ep n hh with⟨im,n',h3⟩|h3
  ·exact bN im n' h3
  ·omega
 ·rcases b.ref j ep n hh with⟨im,n',h3⟩|h3
  ·exact a.ref j im n' h3
  ·simp at h3;exact .inr (by omega)
def rA(H:ab)(v:PV)(a:List Pw)(t:Tm)(n:Int)(r:PV)(h':ab):Prop:=
 if arity t=true then∃rv,r=.ct [rv,.bool true]/\LP H v 5 (br (gB a t n)) rv h' else r=.ct [.aa true [],.bool false]/\HV h'
theorem Ge(k s o l)(hb:ax (.mk k s o l)<1000000000)
  (ih:∀t∈l,∀(H:ab) (v:PV) (a:List Pw) (n:Int),HV H->Out 5 H v (br a)->CI a (size t)->(n=1\/n=-1)->ay C 250 [v,enc t,.int .i64 n] H (rA H v a t n))
  (H:ab) (v:PV) (a:List Pw) (n:Int) (hH:HV H) (ho:Out 5 H v (br a)) (hc:CI a (size (.mk k s o l))) (hn:n=1\/n=-1):
  ay C 250 [v,enc (.mk k s o l),.int .i64 n] H (rA H v a (.mk k s o l) n):=by
 have hsf:=xV k s o l;have gM:=gP (.mk k s o l);have aa1:=de l;have hlen:=ba l;have cr:=ai l;have Du:bp l<1000000000:=by simp only[ax]at hb;omega
 have To:=hc
 have okP:arity (.mk k s o l)=true->∀rv h',LP H v 5 (br (gB a (.mk k s o l) n)) rv h'->rA H v a (.mk k s o l) n (.ct [rv,.bool true]) h':=λh rv h' hh=>by
  unfold rA;rw[if_pos h];exact⟨rv,rfl,hh⟩
 have noP:arity (.mk k s o l)=false->∀h',HV h'->rA H v a (.mk k s o l) n (.ct [.aa true [],.bool false]) h':=λh h' hh=>by
  unfold rA;rw[if_neg (by rw[h];simp)];exact⟨rfl,hh⟩
 generalize rA H v a (.mk k s o l) n=PP at okP noP ⊢;refine ay.dG Tryz.func250 rfl ?_;rw[bh]at hsf ⊢;refine wB ?_;obtain⟨H1,mB⟩:∃x,x=H++[⟨.m,0,4,[.agg [.int .i64 k,.str s,.int .i64 o,.aa false (ae l)]]⟩]:=⟨_,rfl⟩;have lp1:LP H v 5 (br a) v H1:=by rw[mB];exact LP.start ho hH (HV.one rfl)
 have b1:H1[H.length]?=some ⟨.m,0,4,[.agg [.int .i64 k,.str s,.int .i64 o,.aa false (ae l)]]⟩:=by rw[mB];simp
 have g1:H1.length=H.length+1:=by rw[mB];simp
 refine ah.heap mB.symm ?_
 skip
 refine R.call rfl rfl (aj.pure rfl (by simp[ar,aW]) (by simpa[aR,b9,aZ]using hsf) ?_)
 cases JS:dT (.mk k s o l)
 ·have C7:arity (.mk k s o l)=true:=Dd JS;have Us:gB a (.mk k s o l) n=jI (.mk k s o l) n a:=FR JS a n;have jJ:=JT a (.mk k s o l) n H1 v lp1.hv lp1.out To.oT (To.Sm (by omega)) hb (To.Bd (by omega)) (by omega);rw[oD]at jJ;rw[Us]at okP;have lp0:LP H v 5 (br a) v H:=by simpa using LP.start (X:=[]) ho hH HV.nil
  refine wB ?_;refine R.call rfl rfl (aj.sO rfl rfl rfl rfl jJ ?_)
  intro r kk hr
  refine⟨hr.hv,λhb=>?_,λhb=>?_⟩
  ·have hA:cK H1.length r=true:=by
    rcases hr.out with⟨rfl,_⟩|⟨id,ep,rfl,_⟩
    ·rfl
    ·exact hb
   have:=hr.take (abn _) hA;rw[mB]at this;rw[mB];have:=lp0.trans this;refine wB ?_;exact okP C7 _ _ this
  ·rw[mB]at hr;have:=lp0.trans hr;refine wB ?_;exact okP C7 _ _ this
 ·have hun:arity (.mk k s o l)=if(s.toList=vf/\l.length<2)\/(s.toList=mH/\l.length≠1)\/(s.toList=vg/\l.length≠0)then false else mN l:=by
   rw[arity,if_neg (by rw[JS];simp)]
  have h0:gB a (.mk k s o l) n=iv a l (if s.toList=mH then -n else n):=by rw[gB,if_neg (by rw[JS];simp)]
  rw[<-Gf,<-xW,<-Gg]at hun;obtain⟨hk,Qy⟩:=names JS;generalize gB a (.mk k s o l) n=R0 at h0 okP;rcases Qy with⟨n1,n2,n3⟩|⟨n1,n2,n3⟩|⟨n1,n2,n3⟩ <;>refine wE (λhc=>?_) λhc=>?_
  all_goals try(
   have C7:arity (.mk k s o l)=false:=by
    rw[hun,if_pos];first |exact .inl ⟨n1,by omega⟩|exact .inr (.inl ⟨n2,by omega⟩)|exact .inr (.inr ⟨n3,by omega⟩)
   exact noP C7 _ lp1.hv)
  all_goals(
   have C7:arity (.mk k s o l)=mN l:=by
    rw[hun,if_neg];rintro(⟨a,b⟩|⟨a,b⟩|⟨a,b⟩) <;>first |omega |contradiction
   obtain⟨n',MS,MT,Us⟩:∃n',n'=(if s.toList=mH then -n else n)/\(n'=1\/n'=-1)/\R0=iv a l n':=⟨_,rfl,by split <;>omega,h0⟩
   first
    |rw[if_neg (by rw[<-xW];exact n2)]at MS
    |(rw[if_pos (by rw[<-xW];exact n2)]at MS;rw[<-Int.zero_sub]at MS)
   rw[<-MS];refine Ev.loop (I:=λk' st=>∃(i:Nat) (Hc:ab) (vc:PV) (acc:List Pw) (ρ':Nat->PV),st=⟨al [(0,vc),(2,.int .i64 n'),(52,.aa false (ae l)),(53,.int .i64 (ae l).length),(54,.int .i64 i)] ρ',Hc⟩/\k'+i=l.length/\LP H v 5 (br acc) vc Hc/\CI acc (dU (l.drop i))/\R0=iv acc (l.drop i) n'/\mN l=mN (l.drop i)) l.length ?_ ?_
   ·exact⟨0,H1,v,a,_,St.aU ⟨rfl,rfl,rfl,rfl,rfl,trivial⟩,rfl,lp1,To.le (by simp only[size,acv];omega),Us,rfl⟩
   ·clear MS h0 Us hsf hun;rintro k' _ ⟨i,Hc,vc,acc,ρ',rfl,Ta,lp,To,dS,Iv⟩;refine wE (λhc=>?_) λhc=>?_
    ·obtain⟨k1,s1,o1,l1,fu,cm,hd,lu,_⟩:=gE hc;refine R.ie T6 rfl rfl rfl rfl cm rfl rfl ?_;rw[hd,dU]at To;rw[hd,iv]at dS;rw[hd,mN]at Iv;have B8:=de (l.drop (i+1));have MU:=bC fu;have XP:=To.gB (n:=n') (by omega) MT;have AT:=ih _ fu (Hc++[⟨.m,0,4,[.agg [.int .i64 k1,.str s1,.int .i64 o1,.aa false (ae l1)]]⟩]) vc acc n' (lp.hv.cB (HV.one rfl)) (lp.out.cB _) (To.le (by omega)) MT;rw[bh]at AT;refine wB ?_;refine R.call rfl rfl (aj.sO rfl rfl rfl rfl AT ?_)
     intro r kk hr
     unfold rA at hr
     split at hr
     ·rename_i Ut
      obtain⟨rv,rfl,hr⟩:=hr;rw[if_neg (by rw[Ut];simp)]at Iv;refine⟨hr.hv,λhb=>?_,λhb=>?_⟩
      ·have hA:cK (Hc++[(⟨.m,0,4,[.agg [.int .i64 k1,.str s1,.int .i64 o1,.aa false (ae l1)]]⟩:aw)]).length rv=true:=by
        simp only[dZ,ace,abq]at hb;exact hb.1
       have lp2:=lp.trans (hr.take (abn _) hA);refine wB ?_;exact⟨k' - 1,by omega,i+1,_,rv,_,_,St.aU ⟨rfl,rfl,rfl,rfl,rfl,trivial⟩,by omega,lp2,XP,dS,Iv⟩
      ·have lp2:=lp.trans hr;refine wB ?_;exact⟨k' - 1,by omega,i+1,_,rv,_,_,St.aU ⟨rfl,rfl,rfl,rfl,rfl,trivial⟩,by omega,lp2,XP,dS,Iv⟩
     ·rename_i Ut
      obtain⟨rfl,hr⟩:=hr;rw[if_pos (by simpa using Ut)]at Iv;refine⟨hr,λhb=>?_,λhb=>Bool.noConfusion hb⟩;refine wB ?_;exact noP (by rw[C7,Iv]) _ (hr.take _)
    ·rw[kF hc]at Iv dS;rw[dS,iv]at okP;exact okP (by rw[C7,Iv,mN]) _ _ lp)
theorem DK(t:Tm)(hb:ax t<1000000000):∀(H:ab) (v:PV) (a:List Pw) (n:Int),HV H->Out 5 H v (br a)->CI a (size t)->(n=1\/n=-1)->ay C 250 [v,enc t,.int .i64 n] H (rA H v a t n):=by
 induction t using Tm.ind with
 |h k s o l ih=>exact Ge k s o l hb (λt ht=>ih t ht (by have:=bC ht;simp only[ax]at hb;omega))
theorem Out.ke{sz:Nat}{h:ab}{v:PV}{es:List PV}(o:Out sz h v es)(hv:ar es=true):∃r1,ke h v=some r1/\b9 r1=.aa false (aR es):=by
 rcases o with⟨rfl,rfl⟩|⟨id,ep,rfl,e2⟩
 ·exact⟨_,rfl,rfl⟩
 ·exact⟨.aa false es,by simp[Pm.ke,oB,getM,e2,hv],by simp[b9]⟩
theorem R.FX{C:cR}(T:lQ C.P){ops:Array Oper}{d:Nat}{ty:TypeId}{pos:String}{af:Array Edge}{r:List Oper}{ρ:Nat->PV}{L:List (Nat×PV)}{h:ab}{Q:St->Prop}{t el:TypeId}{x:Operand}{v:PV}{es:List PV}{sz:Nat}
  (hx:cM L x=some v) (hk:T.kd t=some (.sl el)) (o:Out sz h v es) (k:ah C ops r ⟨al ((d,(.int .i64 es.length))::L) ρ,h⟩ Q):
  ah C ops (⟨some d,.call ⟨.builtin .len,#[x],#[t]⟩,ty,pos,af,none⟩::r) ⟨al L ρ,h⟩ Q:=by
 rcases o with⟨rfl,rfl⟩|⟨id,ep,rfl,e2⟩
 ·exact R.rV T (xs:=[]) (ts:=[]) hx hk k
 ·exact R.zZ T (xs:=[]) (ts:=[]) (o:=⟨.m,ep,sz,es⟩) hx hk (bo e2 rfl (by simp)) (by show 0+es.length<=es.length;omega) k
theorem VK(t:Tm)(hb:ax t<100000000):aI C 197 [enc t] (.ct [.aa false (br (IY t).1),.int .i64 (IY t).2]):=by
 have h1:=fM t hb;have Us:=DK t (by omega);have TT:valid t=0->CI [] (size t):=λhv=>CI.nil.le (by have:=(fq.1 hv).2.1;omega)
 have hl:valid t=0->(br (gB [] t 1)).length<1000000000:=λhv=>by
  have:=yU t [] 1;have:=(fq.1 hv).2.1;rw[fh];simp at *;omega
 have cr:=fh (gB [] t 1);have r1:valid t≠0->IY t=([],valid t):=λh=>by rw[IY,if_pos h]
 have r2:valid t=0->arity t=false->IY t=([],6):=λh h'=>by rw[IY,if_neg (by omega),if_pos h']
 have r3:valid t=0->arity t=true->200<(gB [] t 1).length->IY t=([],3):=λh h' h2=>by rw[IY,if_neg (by omega),if_neg (by rw[h'];simp),if_pos h2]
 have r4:valid t=0->arity t=true->¬200<(gB [] t 1).length->IY t=(gB [] t 1,0):=λh h' h2=>by rw[IY,if_neg (by omega),if_neg (by rw[h'];simp),if_neg h2]
 obtain⟨k,s,o,l⟩:=t;refine aI.of (ay.dG Tryz.func197 rfl ?_);rw[bh]at h1 Us ⊢;refine wB ?_;refine R.call rfl rfl (aj.pure rfl (by simp[ar,aW]) (by simpa[aR,b9,aZ]using h1) ?_);refine wE (λhc=>?_) λhc=>?_
 ·refine⟨_,rfl,?_⟩;rw[r1 (by assumption)];rfl
 ·have h0:=Decidable.not_not.1 hc;clear hc;have hl:=hl h0;refine R.call rfl rfl (aj.sO rfl rfl rfl rfl (Us [⟨.m,0,4,[.agg [.int .i64 k,.str s,.int .i64 o,.aa false (ae l)]]⟩] (.aa true []) [] 1 (HV.one rfl) (Out.nil _ _) (TT h0) (.inl rfl)) ?_)
  intro r kk hr
  unfold rA at hr
  split at hr
  ·rename_i C7
   obtain⟨rv,rfl,hr⟩:=hr
   have fin:∀K:ab,LP [⟨.m,0,4,[.agg [.int .i64 k,.str s,.int .i64 o,.aa false (ae l)]]⟩] (.aa true []) 5 (br (gB [] (.mk k s o l) 1)) rv K->¬200<(gB [] (.mk k s o l) 1).length->∃r1,rb K (aO [rv,.int .i64 0])=some r1/\b9 r1=PV.ct [PV.aa false (br (IY (.mk k s o l)).1),PV.int .i64 (IY (.mk k s o l)).2]:=by
    intro K hK aaw
    obtain⟨r1,e1,e2⟩:=hK.out.ke (oE _);refine⟨.ct [r1,.int .i64 0],?_,?_⟩
    ·simp only[aO,rb,gz,e1];rfl
    ·rw[r4 h0 C7 aaw];simp only[b9,aR,e2,rP]
   refine⟨hr.hv,λhb=>?_,λhb=>?_⟩
   ·have hA:cK [(⟨.m,0,4,[.agg [.int .i64 k,.str s,.int .i64 o,.aa false (ae l)]]⟩:aw)].length rv=true:=by
     simp only[dZ,ace,abq]at hb;exact hb.1
    have hr:=hr.take (abn _) hA;refine wB ?_;refine R.FX T6 rfl rfl hr.out ?_;refine wE (λhc=>?_) λhc=>?_
    ·refine⟨_,rfl,?_⟩;rw[r3 h0 C7 (by omega)];rfl
    ·exact fin _ hr (by omega)
   ·refine wB ?_;refine R.FX T6 rfl rfl hr.out ?_;refine wE (λhc=>?_) λhc=>?_
    ·refine⟨_,rfl,?_⟩;rw[r3 h0 C7 (by omega)];rfl
    ·exact fin _ hr (by omega)
  ·rename_i C7
   obtain⟨rfl,hr⟩:=hr;refine⟨hr,λhb=>?_,λhb=>Bool.noConfusion hb⟩;refine wB ?_;refine⟨_,rfl,?_⟩;rw[r2 h0 (by simpa using C7)];rfl
def pd:Option Tm->List Pw->Int
 |_,[]=>0
 |pr,p::l=>if valid p.1≠0 then valid p.1 else if dT p.1=true then 1 else if p.2=0\/p.2< -1000\/1000<p.2 then 7 else
  if(match pr with |some q=>decide (0<=aT q p.1)|none=>false)=true then 5 else pd (some p.1) l
theorem tv(pr:Option Tm)(p:Pw)(l:List Pw):pd pr (p::l)=if valid p.1≠0 then valid p.1 else if dT p.1=true then 1 else if p.2=0\/p.2< -1000\/1000<p.2 then 7 else
  if(match pr with |some q=>decide (0<=aT q p.1)|none=>false)=true then 5 else pd (some p.1) l:=by
 cases pr <;>rfl
theorem vN(pr:Option Tm):pd pr []=0:=by cases pr <;>rfl
def qf(l:List Pw):Int:=if 200<l.length then 3 else pd none l
def TW(l:List Pw)(i:Nat):Option Tm:=match i with |0=>none |i+1=>(l[i]?).map (·.1)
set_option maxHeartbeats 8000000 in
theorem G'(l:List Pw)(hb:∀p∈l,ax p.1<100000000)(hl:l.length<100000000):aI C 251 [.aa false (br l)] (.int .i64 (qf l)):=by
 have cr:=fh l;have r1:200<l.length->qf l=3:=λh=>by rw[qf,if_pos h]
 have r2:¬200<l.length->qf l=pd none l:=λh=>by rw[qf,if_neg h]
 refine aI.of (ay.dG Tryz.func251 rfl ?_);generalize qf l=R0 at r1 r2 ⊢;refine wE (λhc=>?_) λhc=>?_
 ·exact⟨_,rfl,by rw[r1 (by omega)];rfl⟩
 ·have r2:=r2 (by omega);clear r1;refine Ev.loop (I:=λk' st=>∃(i:Nat) (J:ab) (ρ':Nat->PV),st=⟨al [(0,.aa false (br l)),(9,.aa false (br l)),(10,.int .i64 (br l).length),(11,.int .i64 i)] ρ',J⟩/\k'+i=l.length/\HV J/\R0=pd (TW l i) (l.drop i)) l.length ?_ ?_
  ·exact⟨0,[],_,St.aU ⟨rfl,rfl,rfl,rfl,trivial⟩,rfl,HV.nil,r2⟩
  ·clear r2;rintro k' _ ⟨i,J,ρ',rfl,hk,hJ,dS⟩;refine wE (λhc=>?_) λhc=>?_
   ·obtain⟨k1,s1,o1,l1,n1,fu,cm,hd,lu,wb⟩:=sJ hc;have DW:=fM _ (hb _ fu);have hsy:=xV k1 s1 o1 l1;rw[hd,tv]at dS;simp only at DW dS;rw[bh]at DW hsy;have DD:=hJ.cB (HV.one (ep:=0) (n:=5) (es:=[.agg [.int .i64 k1,.str s1,.int .i64 o1,.aa false (ae l1),.int .i64 n1]]) rfl);have dw:=DD.closed;clear hc;refine R.ie T6 rfl rfl rfl rfl cm rfl rfl ?_;refine wB ?_;refine R.call rfl rfl (aj.pure rfl (by simp[ar,aW]) (by simpa[aR,b9,aZ]using DW) ?_);refine wE (λhc=>?_) λhc=>?_
    ·rw[if_pos (by assumption)]at dS;exact⟨_,rfl,by rw[dS];rfl⟩
    ·rw[if_neg (by assumption)]at dS;refine R.call rfl rfl (aj.pure rfl (by simp[ar,aW]) (by simpa[aR,b9,aZ]using hsy) ?_)
     cases JS:dT (.mk k1 s1 o1 l1)
     ·rw[if_neg (by rw[JS];simp)]at dS
      (repeat' (first |refine ah.nil ?_ |(apply R.xy;exact rfl;exact rfl;exact rfl)|(apply R.oH;exact rfl;exact rfl;exact rfl)|(apply R.move;exact rfl)|(apply R.assign;exact rfl)|(apply R.iY;exact rfl;exact rfl)|(apply R.iW;exact rfl;exact rfl)|(apply R.fieldAddr T6;exact rfl;exact rfl;exact rfl;exact rfl)|(apply R.cmp;exact rfl;exact rfl;exact rfl;all_goals intro hc;all_goals(try(exfalso;omega)))|(apply R.arith;exact rfl;exact rfl;exact rfl;exact(mI (by omega) (by omega)))|(apply R.Jc T6;exact rfl;exact rfl;exact rfl;exact rfl)|refine Ev.seq ?_ |refine Ev.region ?_ |refine Ev.mJ ?_ |refine aY.nil ?_ |(apply D.move;exact rfl)|(apply D.assign;exact rfl)|(apply D.xy;exact rfl;exact rfl;exact rfl;exact rfl)|(apply D.oH;exact rfl;exact rfl;exact rfl)|(apply D.iW;exact rfl;exact rfl)|(apply D.cmp;exact rfl;exact rfl;exact rfl;all_goals intro hc;all_goals(try(exfalso;omega)))|(apply D.arith;exact rfl;exact rfl;exact rfl;exact(mI (by omega) (by omega)))|(apply Ev.fJ;exact rfl)|refine Ev.ret ?_ |refine Ev.skip ?_ |refine aD.normal ?_ |refine aD.ret ?_ |refine az.normal ?_ |refine az.ret ?_ |refine aL.normal ?_ |refine aL.ret ?_ |(apply aJ.ret;exact rfl)|fail))
      all_goals try(rw[if_pos (by omega)]at dS;exact⟨_,rfl,by rw[dS];rfl⟩)
      ·-- a factor before it
       rw[if_neg (by omega)]at dS;obtain⟨i',rfl⟩:∃i',i=i'+1:=⟨i - 1,by omega⟩;obtain⟨k2,s2,o2,l2,n2,Zc,nf,Gi,abc,Zd⟩:=sJ (l:=l) (i:=i') (by omega);have rR:=eB _ _ (by have:=hb _ Zc;simp only at this;omega:ax (.mk k2 s2 o2 l2)<1000000000) (by have:=hb _ fu;simp only at this;omega:ax (.mk k1 s1 o1 l1)<1000000000);rw[bh,bh]at rR;have CL:TW l (i'+1)=some (.mk k2 s2 o2 l2):=by simp only[TW,Zd];rfl
       rw[CL]at dS;simp only at dS;refine D.ie T6 (by assumption) rfl (congrArg (λz=>some (PV.int .i64 z)) (show((i'+1:Nat):Int) - 1=(i':Int) by omega)) rfl rfl nf rfl rfl ?_;refine wB ?_;refine D.kD (by assumption) rfl rfl rfl rfl rfl rfl (by simpa[aR,b9,aZ]using rR) ?_;refine wE (λhc=>?_) λhc=>?_
       ·rw[if_pos (decide_eq_true (by assumption))]at dS;exact⟨_,rfl,by rw[dS];rfl⟩
       ·rw[if_neg (by rw[decide_eq_false (by assumption)];simp)]at dS;refine⟨k' - 1,by omega,i'+1+1,_,_,St.aU ⟨rfl,rfl,rfl,rfl,trivial⟩,by omega,DD,?_⟩;have:TW l (i'+1+1)=some (.mk k1 s1 o1 l1):=by simp only[TW,wb];rfl
        rw[this];exact dS
      ·rw[if_neg (by omega)]at dS;obtain rfl:i=0:=by omega
       simp only[TW,abz,if_false]at dS;refine⟨k' - 1,by omega,0+1,_,_,St.aU ⟨rfl,rfl,rfl,rfl,trivial⟩,by omega,DD,?_⟩;have:TW l (0+1)=some (.mk k1 s1 o1 l1):=by simp only[TW,wb];rfl
       rw[this];exact dS
     ·rw[if_pos JS]at dS;refine wB ?_;exact⟨_,rfl,by rw[dS];rfl⟩
   ·rw[JA hc,vN]at dS;exact⟨_,rfl,by rw[dS];rfl⟩
end Go.Pm
namespace Go.Pm
open Go.Proofs
section
variable{C:cR}(T:lQ C.P)
variable{ops:Array Oper}{d:Nat}{ty:TypeId}{pos:String}{af:Array Edge}{r:List Oper}{ρ:Nat->PV}{L:List (Nat×PV)}{h:ab}{Q:St->Prop}
set_option maxRecDepth 4000
set_option maxHeartbeats 4000000
theorem Ev.oJ{c:Code}{s:St}{Q:Ex->St->Prop}(k:Ev C c s (aL (λs'=>Ev C (.loop c) s' Q) Q)):Ev C (.loop c) s Q:=by
 obtain⟨ex,s',q,n0,hn⟩:=k
 cases ex with
 |normal=>
  obtain⟨Xy,s2,q2,n1,FA⟩:=q;refine⟨Xy,s2,q2,max n0 n1+1,λn m h1 h2=>?_⟩;obtain⟨m,rfl⟩:∃i',m=i'+1:=⟨m - 1,by omega⟩;have e1:=hn n (m+1) (by omega) (by omega);have e2:=FA n m (by omega) (by omega);simp only[bR]at e2 ⊢;simp only[iter,e1];exact qE (λs x hh=>xK (λ_ _ _ _ hh=>hh) (ade m) c hh) (abn m) e2
 |exit id=>
  refine⟨_,_,q,n0+1,λn m h1 h2=>?_⟩;obtain⟨m,rfl⟩:∃i',m=i'+1:=⟨m - 1,by omega⟩;simp only[bR,iter,hn n (m+1) (by omega) (by omega)]
 |ret=>
  refine⟨_,_,q,n0+1,λn m h1 h2=>?_⟩;obtain⟨m,rfl⟩:∃i',m=i'+1:=⟨m - 1,by omega⟩;simp only[bR,iter,hn n (m+1) (by omega) (by omega)]
theorem R.Mw{t el:TypeId}{x:Operand}(hx:cM L x=some (.aa true []))(hk:T.kd t=some (.sl el))(k:ah C ops r ⟨al ((d,.int .i64 0)::L) ρ,h⟩ Q):
  ah C ops (⟨some d,.call ⟨.builtin .cap,#[x],#[t]⟩,ty,pos,af,none⟩::r) ⟨al L ρ,h⟩ Q:=
 ah.fe (λrun=>by simp[au,an hx,bt,T2,bz (T.cT _ _ hk)]) k
theorem R.Mx{t el:TypeId}{x y:Operand}{k:IntKind}{sz:Nat}(hx:cM L x=some (.aa true []))(hy:cM L y=some (.int k 0))(hk:T.kd t=some (.sl el))(hs:T.ts el=some sz)(kk:ah C ops r ⟨al ((d,.aa true [])::L) ρ,h⟩ Q):
  ah C ops (⟨some d,.slice t x none (some y) none,ty,pos,af,none⟩::r) ⟨al L ρ,h⟩ Q:=
 ah.fe (λrun=>by simp[au,aC,an hx,an hy,cf,bz (T.cT _ _ hk),T.dV _ _ hs,cJ]) kk
theorem R.Qm{t el:TypeId}{x y:Operand}{k:IntKind}{id ep len:Nat}{o:aw}(hx:cM L x=some (.ak id ep 0 len))(hy:cM L y=some (.int k 0))(hk:T.kd t=some (.sl el))(hg:getM h id ep=some o)(hs:T.ts el=some o.bM)(hle:len<=o.es.length)(kk:ah C ops r ⟨al ((d,.ak id ep 0 0)::L) ρ,h⟩ Q):
  ah C ops (⟨some d,.slice t x none (some y) none,ty,pos,af,none⟩::r) ⟨al L ρ,h⟩ Q:=
 ah.fe (λrun=>by
  have h1:¬((len:Int)<0):=by omega
  simp[au,aC,an hx,an hy,cf,bz (T.cT _ _ hk),T.dV _ _ hs,beyond,h1,cJ,hg,hle]) kk
theorem R.Qn{st xt el:TypeId}{sz gh n:Nat}{z:PV}{ki:IntKind}{x y:Operand}(hx:cM L x=some (.aa true []))(hy:cM L y=some (.int ki (n:Int)))(hk:T.kd st=some (.sl el))(gv:T.kd xt=some (.int ki))(hs:T.ts el=some (sz+1))(hb:T.tb el=some gh)(hz:T.tz el=some z)(jo:gh<=1000)(hl:(cells z).length=sz+1)(ho:(cells z).all bH=true)
  (Tc:0<n) (hn:n<1000000000) (kk:ah C ops r ⟨al ((d,.ak h.length 0 0 n)::L) ρ,h++[⟨.m,0,sz+1,List.replicate n z⟩]⟩ Q):
  ah C ops (⟨some d,.call ⟨.builtin .append,#[x,y],#[st,xt]⟩,ty,pos,af,none⟩::r) ⟨al L ρ,h⟩ Q:=by
 refine ah.fe (λrun=>?_) kk;have bN:(List.replicate n z).isEmpty=false:=by cases n with |zero=>omega |succ n=>rfl
 have eK:(List.replicate n z).all (λv=>decide ((cells v).length=sz+1)&& (cells v).all bH)=true:=by
  rw[abk];intro v hv;rw[(ac8.1 hv).2,hl,ho];simp
 have mK:bP C.P 2 h st xt (.aa true []) (.int ki (n:Int))=some (.ak h.length 0 0 n,h++[⟨.m,0,sz+1,List.replicate n z⟩]):=by
  unfold bP;rw[bz (T.cT _ _ hk)];simp only[T.dV _ _ hs,T.rU _ _ hb,T.nt _ _ hz,cC,pK (T.cT _ _ gv)];rw[if_pos ⟨by omega,by omega⟩];simp only[acI];rw[if_pos ⟨by omega,by omega,⟨hl,ho⟩,eK⟩];simp only[bN,abz,if_false,abX,abE,acS,abT,newObj,acQ];rw[if_pos ⟨trivial,by omega,jv hn jo,trivial⟩]
 simp only[au,bt,abD,abM,an hx,an hy,mK]
def Gr(H:ab)(sz:Nat)(h:ab)(v:PV)(es:List PV):Prop:=(v=.aa true []/\es=[]/\h=H)\/∃ep o,v=.ak H.length ep 0 es.length/\h=H++[⟨.m,ep,sz,o⟩]/\o.take es.length=es/\es.length<=o.length
theorem Out.cu{sz:Nat}{h:ab}{v:PV}{es:List PV}(o:Out sz h v es):cu h v=some es:=by
 rcases o with⟨rfl,rfl⟩|⟨id,ep,rfl,e2⟩
 ·rfl
 ·simp[Pm.cu,getM,e2]
def Ls(sz:Nat)(h:ab)(v:PV)(es:List PV):Prop:=Out sz h v es\/∃f,v=.aa f es
theorem Ls.cu{sz:Nat}{h:ab}{v:PV}{es:List PV}(o:Ls sz h v es):cu h v=some es:=by
 rcases o with o |⟨f,rfl⟩
 ·exact o.cu
 ·rfl
theorem Ls.cB{sz:Nat}{h:ab}{v:PV}{es:List PV}(o:Ls sz h v es)(J:ab):Ls sz (h++J) v es:=o.imp (λx=>x.cB J) id
theorem R.Is{H:ab}{st xt el rk:TypeId}{sz gh:Nat}{z:PV}{es ys:List PV}{x y:Operand}{v u:PV}{ep:Nat}{o:List PV}(hx:cM L x=some (.ak H.length ep 0 es.length))(hy:cM L y=some u)(hk:T.kd st=some (.sl el))(gv:T.kd xt=some (.sl rk))(hs:T.ts el=some (sz+1))(hb:T.tb el=some gh)(hz:T.tz el=some z)
  (jo:gh<=1000) (hl:(cells z).length=sz+1) (ho:(cells z).all bH=true) (AQ:dK (sz+1) ys) (hu:Ls (sz+1) H u ys) (hn:es.length+ys.length<1000000000) (g1:o.take es.length=es) (g2:es.length<=o.length)
  (kk:∀im o',o'.take (es++ys).length=es++ys->(es++ys).length<=o'.length->(ys≠[]->o'=es++ys)->(ys=[]->o'=o)->ah C ops r ⟨al ((d,.ak H.length im 0 (es++ys).length)::L) ρ,H++[⟨.m,im,sz+1,o'⟩]⟩ Q):
  ah C ops (⟨some d,.call ⟨.builtin .append,#[x,y],#[st,xt]⟩,ty,pos,af,none⟩::r) ⟨al L ρ,H++[⟨.m,ep,sz+1,o⟩]⟩ Q:=by
 have cr:=(hu.cB [⟨.m,ep,sz+1,o⟩]).cu;have hg:getM (H++[(⟨.m,ep,sz+1,o⟩:aw)]) H.length ep=some ⟨.m,ep,sz+1,o⟩:=by simp[getM]
 unfold dK at AQ
 cases pB:ys with
 |nil=>
  subst pB;refine ah.fe (λrun=>?_) (kk ep o (by simpa using g1) (by simpa using g2) (λh=>absurd rfl h) (λ_=>rfl))
  have mK:bP C.P 2 (H++[⟨.m,ep,sz+1,o⟩]) st xt (.ak H.length ep 0 es.length) u=some (.ak H.length ep 0 (es++[]).length,H++[⟨.m,ep,sz+1,o⟩]):=by
   unfold bP;rw[bz (T.cT _ _ hk)];simp only[T.dV _ _ hs,T.rU _ _ hb,T.nt _ _ hz,cC,bz (T.cT _ _ gv),cr];rw[if_pos ⟨by omega,by omega,⟨hl,ho⟩,AQ⟩];simp only[hg];rw[if_pos ⟨by omega,trivial⟩];simp
  simp only[au,bt,abD,abM,an hx,an hy,mK]
 |cons y0 ys0=>
  have bN:ys.isEmpty=false:=by rw[pB];rfl
  refine ah.fe (λrun=>?_) (kk (ep+1) (es++ys) ack (abn _) (λ_=>rfl) (λh=>by rw[h]at bN;cases bN))
  have mK:bP C.P 2 (H++[⟨.m,ep,sz+1,o⟩]) st xt (.ak H.length ep 0 es.length) u=some (.ak H.length (ep+1) 0 (es++ys).length,H++[⟨.m,ep+1,sz+1,es++ys⟩]):=by
   unfold bP;rw[bz (T.cT _ _ hk)];simp only[T.dV _ _ hs,T.rU _ _ hb,T.nt _ _ hz,cC,bz (T.cT _ _ gv),cr];rw[if_pos ⟨by omega,by omega,⟨hl,ho⟩,AQ⟩];simp only[hg];rw[if_pos ⟨by omega,trivial⟩];simp only[bN,abz,if_false]
   have My:iH H.length u=false:=by
    rcases hu with(⟨rfl,_⟩|⟨id,im,rfl,e2⟩)|⟨f,rfl⟩
    ·rfl
    rotate_left
    ·rfl
    ·have:=ag e2;simp[iH];omega
   rw[if_neg (by rw[My];simp),if_pos ⟨trivial,by omega,trivial,jv hn jo⟩,g1]
   have:(H++[(⟨.m,ep,sz+1,o⟩:aw)]).set H.length ⟨.m,ep+1,sz+1,es++ys⟩=H++[⟨.m,ep+1,sz+1,es++ys⟩]:=by
    refine(acA H.length _ (abn _)).trans ?_;simp
   rw[this,abr]
  simp only[au,bt,abD,abM,an hx,an hy,mK]
theorem R.It{st xt el rk:TypeId}{sz gh:Nat}{z:PV}{x y:Operand}{u:PV}(hx:cM L x=some (.aa true []))(hy:cM L y=some u)(hk:T.kd st=some (.sl el))(gv:T.kd xt=some (.sl rk))(hs:T.ts el=some (sz+1))(hb:T.tb el=some gh)(hz:T.tz el=some z)
  (jo:gh<=1000) (hl:(cells z).length=sz+1) (ho:(cells z).all bH=true) (hu:Ls (sz+1) h u []) (kk:ah C ops r ⟨al ((d,.aa true [])::L) ρ,h⟩ Q):
  ah C ops (⟨some d,.call ⟨.builtin .append,#[x,y],#[st,xt]⟩,ty,pos,af,none⟩::r) ⟨al L ρ,h⟩ Q:=by
 refine ah.fe (λrun=>?_) kk;have cr:=hu.cu
 have mK:bP C.P 2 h st xt (.aa true []) u=some (.aa true [],h):=by
  unfold bP;rw[bz (T.cT _ _ hk)];simp only[T.dV _ _ hs,T.rU _ _ hb,T.nt _ _ hz,cC,bz (T.cT _ _ gv),cr];rw[if_pos ⟨by omega,by omega,⟨hl,ho⟩,rfl⟩]
  rfl
 simp only[au,bt,abD,abM,an hx,an hy,mK]
end
section
variable{C:cR}(T:lQ C.P)
set_option maxRecDepth 4000
set_option maxHeartbeats 4000000
def X2(H:ab)(x v1 v2:PV):Prop:=x=.aa true [v1,v2]\/∃id,x=.ak id 0 0 2/\H[id]?=some ⟨.m,0,1,[v1,v2]⟩
theorem X2.cB{H:ab}{x v1 v2:PV}(a:X2 H x v1 v2)(J:ab):X2 (H++J) x v1 v2:=by
 rcases a with a |⟨id,e1,e2⟩
 ·exact .inl a
 ·exact .inr ⟨id,e1,by rw[abj (ag e2)];exact e2⟩
theorem Out.cells{sz:Nat}{h:ab}{v:PV}{es:List PV}(o:Out sz h v es):cells v=[v]:=by
 rcases o with⟨rfl,rfl⟩|⟨id,ep,rfl,e2⟩ <;>rfl
theorem Ls.cells{sz:Nat}{h:ab}{v:PV}{es:List PV}(o:Ls sz h v es):Pm.cells v=[v]:=by
 rcases o with o |⟨f,rfl⟩
 ·exact o.cells
 ·rfl
theorem R.Td{ops:Array Oper}{d:Nat}{ty:TypeId}{pos:String}{af:Array Edge}{r:List Oper}{ρ:Nat->PV}{L:List (Nat×PV)}{h:ab}{Q:St->Prop}{t el:TypeId}{x:Operand}{v:PV}{es:List PV}{sz:Nat}(hx:cM L x=some v)(hk:T.kd t=some (.sl el))(o:Ls sz h v es)(k:ah C ops r ⟨al ((d,(.int .i64 es.length))::L) ρ,h⟩ Q):
  ah C ops (⟨some d,.call ⟨.builtin .len,#[x],#[t]⟩,ty,pos,af,none⟩::r) ⟨al L ρ,h⟩ Q:=by
 rcases o with o |⟨f,rfl⟩
 ·exact R.FX T hx hk o k
 ·exact R.rV T (xs:=[]) (ts:=[]) hx hk k
theorem R.Uh{ops:Array Oper}{d:Nat}{ty:TypeId}{pos:String}{af:Array Edge}{r:List Oper}{ρ:Nat->PV}{L:List (Nat×PV)}{h:ab}{Q:St->Prop}{t el:TypeId}{x:Operand}{u v1 v2:PV}
  (hx:cM L x=some u) (hk:T.kd t=some (.sl el)) (a:X2 h u v1 v2) (k:ah C ops r ⟨al ((d,(.int .i64 2))::L) ρ,h⟩ Q):
  ah C ops (⟨some d,.call ⟨.builtin .len,#[x],#[t]⟩,ty,pos,af,none⟩::r) ⟨al L ρ,h⟩ Q:=by
 rcases a with rfl |⟨id,rfl,e2⟩
 ·exact R.rV T (xs:=[]) (ts:=[]) hx hk k
 ·exact R.zZ T (xs:=[]) (ts:=[]) (o:=⟨.m,0,1,[v1,v2]⟩) hx hk (bo e2 rfl (by simp)) (by show 0+2<=2;omega) k
theorem R.JK{ops:Array Oper}{d d2:Nat}{ty ty2:TypeId}{pos ZK:String}{af af2:Array Edge}{r:List Oper}{ρ:Nat->PV}{L:List (Nat×PV)}{h:ab}{Q:St->Prop}{t t2 el:TypeId}{x ix:Operand}{u v1 v2 v:PV}{i:Nat}{k:IntKind}
  (hx:cM L x=some u) (hi:cM L ix=some (.int k (i:Int))) (hk:T.kd t=some (.sl el)) (hs:T.ts el=some 1) (Te:T.ts t2=some 1) (ht2:T.ta t2=some false) (a:X2 h u v1 v2) (hv:[v1,v2][i]?=some v) (hc:cells v=[v])
  (kk:∀p,ah C ops r ⟨al ((d2,v)::(d,p)::L) ρ,h⟩ Q):
  ah C ops (⟨some d,.indexAddr t x ix,ty,pos,af,none⟩::⟨some d2,.load t2 (.tmp d),ty2,ZK,af2,none⟩::r) ⟨al L ρ,h⟩ Q:=by
 have vq:∀p,cM ((d,p)::L) (.tmp d)=some p:=λp=>by simp[cM,lk]
 rcases a with rfl |⟨id,rfl,e2⟩
 ·refine R.ie T hx hi hk (sz:=0) hs hv hc rfl ?_;exact R.gD T (vq _) Te ht2 (cs:=[]) rfl (kk _)
 ·have cG:i<2:=by have:=ag hv;simpa using this
  refine R.rW T (o:=⟨.m,0,1,[v1,v2]⟩) hx hi hk (bo e2 rfl (by simp)) hs cG (by show 0+2<=2;omega) ?_;refine R.gD T (vq _) Te ht2 (c:=v) (cs:=[]) ?_ (kk _);simp only[cN,bo e2 rfl (show Mu.m≠.x by simp),abE,hv,hc,acv]
end
attribute [local irreducible] aD az aL aJ Ev ah aj ay aY
set_option maxRecDepth 4000
set_option maxHeartbeats 4000000
theorem Qo(n:Nat)(hn:n<1000000000)(H:ab):ay C 203 [.aa true [],.int .i64 n] H (λr h'=>Gr H 4 h' r []/\(n=0->r=.aa true [])/\(r=.aa true []->n=0)):=by
 refine ay.dG Tryz.func203 rfl ?_;refine wF λhc=>?_;apply R.Mw T6;exact rfl;exact rfl;refine wD ?_;refine R.arith (c':=0) rfl rfl rfl (by decide) ?_
 (repeat' (first |refine ah.nil ?_ |(apply R.move;exact rfl)|(apply R.assign;exact rfl)|(apply R.cmp;exact rfl;exact rfl;exact rfl;all_goals intro hc;all_goals(try(exfalso;omega)))|(apply R.arith;exact rfl;exact rfl;exact rfl;exact(mI (by omega) (by omega)))|refine Ev.seq ?_ |refine Ev.region ?_ |(apply Ev.fJ;exact rfl)|refine Ev.ret ?_ |refine Ev.skip ?_ |refine aD.normal ?_ |(apply aJ.ret;exact rfl)|fail))
 ·apply R.Mw T6;exact rfl;exact rfl
  skip
  apply R.Mx T6;exact rfl;exact rfl;exact rfl;exact rfl;refine wD ?_;apply R.Qn T6 (n:=n)
  ·exact rfl
  ·exact(congrArg (λz=>some (PV.int .i64 z)) (by simp))
  all_goals first |exact rfl |exact(by decide:(_:Nat)<=1000)|omega |skip
  refine wD ?_;apply R.Qm T6 (o:=⟨.m,0,4,List.replicate n (.agg [.int .i64 0,.str ByteArray.empty,.int .i64 0,.aa true []])⟩)
  ·exact rfl
  ·exact rfl
  ·exact rfl
  ·exact lT
  ·exact rfl
  ·simp
  refine wD ?_;exact⟨.inr ⟨0,List.replicate n (.agg [.int .i64 0,.str ByteArray.empty,.int .i64 0,.aa true []]),rfl,rfl,rfl,by simp⟩,λh=>by omega,λh=>by cases h⟩
 ·exact⟨.inl ⟨rfl,rfl,rfl⟩,λ_=>rfl,λ_=>by omega⟩
theorem bT(a b:List Tm):ae (a++b)=ae a++ae b:=by rw[c9,c9,c9,ab6]
def ZL(H:ab)(l:List Tm)(r:PV)(h':ab):Prop:=(l=[]/\r=.aa true []/\h'=H)\/∃ep,r=.ak H.length ep 0 (ae l).length/\h'=H++[⟨.m,ep,4,ae l⟩]
set_option maxHeartbeats 8000000 in
theorem AR(a b:List Tm)(H:ab)(x v1 v2:PV)(hx:X2 H x v1 v2)(h1:Ls 4 H v1 (ae a))(h2:Ls 4 H v2 (ae b))(hl:a.length+b.length<100000000):
  ay C 158 [x] H (ZL H (a++b)):=by
 refine ay.dG Tryz.func158 rfl ?_;have e1:=ai a;have e2:=ai b;refine wD ?_;apply R.Uh T6;exact rfl;exact rfl;exact hx;refine wD ?_;apply Ev.oJ;refine wF λhc=>?_;apply R.JK T6 (i:=0);exact rfl;exact rfl;exact rfl;exact rfl;exact rfl;exact rfl;exact hx;exact rfl;exact h1.cells
 intro p1
 refine wD ?_;apply R.Td T6;exact rfl;exact rfl;exact h1;refine wF λhc=>?_;apply Ev.oJ;refine wF λhc=>?_;apply R.JK T6 (i:=1);exact rfl;exact rfl;exact rfl;exact rfl;exact rfl;exact rfl;exact hx;exact rfl;exact h2.cells
 intro p2
 refine wD ?_;apply R.Td T6;exact rfl;exact rfl;exact h2;refine wF λhc=>?_;apply Ev.oJ;refine wF λhc=>?_;refine R.call rfl rfl (aj.opened rfl ?_);refine ay.heap (args':=[.aa true [],.int .i64 ((a.length+b.length:Nat):Int)]) rfl (by simp[e1,e2]) ((Qo (a.length+b.length) (by omega) H).mono ?_);rintro r h' ⟨hg,hz,JL⟩
 have key:(if(dZ H.length r&& (h'.take H.length).all λo=>o.es.all (cK H.length))=true then h'.take H.length else h')=h':=by
  rcases hg with⟨_,_,rfl⟩|⟨ep,o,rfl,rfl,_,_⟩
  ·simp
  ·rw[if_neg (by simp[dZ,cK,dY])]
 rw[key]
 have Xz:X2 h' x v1 v2:=by
  rcases hg with⟨_,_,rfl⟩|⟨ep,o,rfl,rfl,_,_⟩
  ·exact hx
  ·exact hx.cB _
 by_cases PK:a.length+b.length=0
 ·have hr:=hz PK;subst hr;have ha:a=[]:=abA (by omega);have hb:b=[]:=abA (by omega);subst ha;subst hb;rcases hg with⟨_,_,rfl⟩|⟨ep,o,hh,_⟩
  ·refine wD ?_;apply R.Uh T6;exact rfl;exact rfl;exact Xz;refine wD ?_;apply Ev.oJ;refine wF λhc=>?_;apply R.JK T6 (i:=0);exact rfl;exact rfl;exact rfl;exact rfl;exact rfl;exact rfl;exact Xz;exact rfl;exact h1.cells
   intro p3
   refine wD ?_;refine R.It T6 rfl rfl rfl rfl rfl rfl rfl (by decide) rfl rfl h1 ?_;refine wD ?_;apply Ev.oJ;refine wF λhc=>?_;apply R.JK T6 (i:=1);exact rfl;exact rfl;exact rfl;exact rfl;exact rfl;exact rfl;exact Xz;exact rfl;exact h2.cells
   intro p4
   refine wD ?_;refine R.It T6 rfl rfl rfl rfl rfl rfl rfl (by decide) rfl rfl h2 ?_;refine wD ?_;apply Ev.oJ;refine wF λhc=>?_;exact .inl ⟨rfl,rfl,rfl⟩
  ·cases hh
 ·rcases hg with⟨hr,_,_⟩|⟨ep,o,rfl,rfl,g1,g2⟩
  ·exact absurd (JL hr) PK
  ·refine wD ?_;apply R.Uh T6;exact rfl;exact rfl;exact Xz;refine wD ?_;apply Ev.oJ;refine wF λhc=>?_;apply R.JK T6 (i:=0);exact rfl;exact rfl;exact rfl;exact rfl;exact rfl;exact rfl;exact Xz;exact rfl;exact h1.cells
   intro p3
   refine wD ?_;refine R.Is T6 (es:=[]) (ys:=ae a) (v:=.eE) rfl rfl rfl rfl rfl rfl rfl (by decide) rfl rfl (oM a) h1 (by simp;omega) g1 g2 ?_
   intro ep1 o1 t1 t2 t3 t4
   refine wD ?_;apply Ev.oJ;refine wF λhc=>?_;apply R.JK T6 (i:=1);exact rfl;exact rfl;exact rfl;exact rfl;exact rfl;exact rfl;exact(hx.cB _);exact rfl;exact h2.cells
   intro p4
   refine wD ?_;refine R.Is T6 (es:=ae a) (ys:=ae b) (v:=.eE) rfl rfl rfl rfl rfl rfl rfl (by decide) rfl rfl (oM b) h2 (by omega) t1 t2 ?_
   intro ep2 o2 u1 u2 u3 u4
   refine wD ?_;apply Ev.oJ;refine wF λhc=>?_
   have ho:o2=ae (a++b):=by
    rw[bT]
    by_cases hb:ae b=[]
    ·rw[u4 hb,hb,abJ];refine t3 (λha=>?_);rw[ha]at e1;rw[hb]at e2;simp at e1 e2;omega
    ·exact u3 hb
   refine .inr ⟨ep2,?_,by rw[ho]⟩;rw[bT];rfl
end Go.Pm
namespace Go.Pm
open Go.Proofs
set_option maxRecDepth 4000
set_option maxHeartbeats 4000000
def dM:Tm:=.mk 0 ByteArray.empty 0 []
theorem Out.lt{sz:Nat}{h:ab}{v:PV}{es:List PV}(o:Out sz h v es){j ep n:Nat}(hv:v=.ak j ep 0 n):j<h.length:=by
 rcases o with⟨rfl,_⟩|⟨id,im,rfl,e2⟩
 ·cases hv
 ·cases hv;exact ag e2
theorem LP.obj{H:ab}{v:PV}{sz:Nat}{es:List PV}{r:PV}{h':ab}(a:LP H v sz es r h'){b:Nat}{o:aw}(e:H[b]?=some o)(hb:∀ep n,v≠.ak b ep 0 n):h'[b]?=some o/\∀ep n,r≠.ak b ep 0 n:=by
 refine⟨by rw[a.fr b (ag e) hb];exact e,λep n hh=>?_⟩;rcases a.ref b ep n hh with⟨im,n',h3⟩|h3
 ·exact hb im n' h3
 ·have:=ag e;omega
end Go.Pm
