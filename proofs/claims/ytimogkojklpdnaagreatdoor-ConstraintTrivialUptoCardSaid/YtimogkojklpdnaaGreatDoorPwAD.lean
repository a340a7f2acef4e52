/-
  Pm, a part. Conditions: none.
-/
import Derived.Test.YtimogkojklpdnaaGreatDoorPwAC
set_option linter.unusedVariables false
set_option linter.unusedSimpArgs false
set_option linter.unnecessarySimpa false
namespace Go.Pm
open Go.Proofs
attribute [local irreducible] aD az aL aJ Ev ah aj ay bg
set_option maxRecDepth 4000
set_option maxHeartbeats 4000000
theorem yY(c:Int):og c=decide ((97<=c/\c<=122)\/(65<=c/\c<=90)\/(48<=c/\c<=57)\/c=95\/c=35):=by
 unfold og kC qk;simp only[<-Bool.decide_or]
 congr 1
 apply propext;omega
theorem yZ(c:Int):aI C 191 [.int .u8 c] (.bool (kC c)):=by
 refine aI.of (ay.dM Tryz.func191 rfl ?_)
 (repeat' (first |refine ah.nil ?_ |(apply R.xJ;exact rfl;exact rfl;exact rfl)|(apply R.oQ;exact rfl;exact rfl;exact rfl)|(apply R.Uw;exact rfl;exact rfl)|(apply R.move;exact rfl)|(apply R.assign;exact rfl)|(apply R.jg;exact rfl;exact rfl)|(apply R.je;exact rfl;exact rfl)|(apply R.cmp;exact rfl;exact rfl;exact rfl;all_goals intro hc)|refine Ev.seq ?_ |refine Ev.region ?_ |refine Ev.ret ?_ |refine aD.normal ?_ |(apply aJ.ret;exact rfl)|fail))
 all_goals(refine⟨_,rfl,congrArg PV.bool ?_⟩;unfold kC;first |exact(decide_eq_true (by omega)).symm |exact(decide_eq_false (by omega)).symm)
theorem Lw(c:Int):aI C 192 [.int .u8 c] (.bool (qk c)):=by
 refine aI.of (ay.dM Tryz.func192 rfl ?_)
 (repeat' (first |refine ah.nil ?_ |(apply R.xJ;exact rfl;exact rfl;exact rfl)|(apply R.oQ;exact rfl;exact rfl;exact rfl)|(apply R.move;exact rfl)|(apply R.assign;exact rfl)|(apply R.jg;exact rfl;exact rfl)|(apply R.je;exact rfl;exact rfl)|(apply R.cmp;exact rfl;exact rfl;exact rfl;all_goals intro hc)|refine Ev.seq ?_ |refine Ev.region ?_ |refine Ev.ret ?_ |refine aD.normal ?_ |(apply aJ.ret;exact rfl)|fail))
 all_goals(refine⟨_,rfl,congrArg PV.bool ?_⟩;unfold qk;first |exact(decide_eq_true (by omega)).symm |exact(decide_eq_false (by omega)).symm)
theorem E8(c:Int):aI C 244 [.int .u8 c] (.bool (og c)):=by
 refine aI.of (ay.dM Tryz.func244 rfl ?_)
 (repeat' (first |refine ah.nil ?_ |(apply R.xJ;exact rfl;exact rfl;exact rfl)|(apply R.oQ;exact rfl;exact rfl;exact rfl)|(apply R.Uw;exact rfl;exact rfl)|(apply R.move;exact rfl)|(apply R.assign;exact rfl)|(apply R.jg;exact rfl;exact rfl)|(apply R.je;exact rfl;exact rfl)|(apply R.cmp;exact rfl;exact rfl;exact rfl;all_goals intro hc)|refine Ev.seq ?_ |refine Ev.region ?_ |refine Ev.ret ?_ |refine aD.normal ?_ |(apply aJ.ret;exact rfl)|fail))
 all_goals(refine⟨_,rfl,congrArg PV.bool ?_⟩;rw[yY];first |exact(decide_eq_true (by omega)).symm |exact(decide_eq_false (by omega)).symm)
theorem tQ(s:ByteArray)(i:Nat)(h:i<s.toList.length):hG (s.toList.drop i)=(og (s.toList[i]).toNat&&hG (s.toList.drop (i+1))):=by
 rw[adB h,hG]
theorem y8(s:ByteArray):(s.size=0/\s.toList=[])\/∃c l,s.toList=c::l/\s[0]?=some c/\s.size=l.length+1:=by
 have hl:=bsize s
 cases h:s.toList with
 |nil=>rw[h]at hl;exact .inl ⟨by simpa using hl.symm,rfl⟩
 |cons c l=>exact .inr ⟨c,l,rfl,Lc (i:=0) (by rw[h];rfl),by rw[<-hl,h];rfl⟩
theorem E9(s:ByteArray)(hb:s.size<1000000000):aI C 149 [.str s] (.bool (dZ s)):=by
 refine aI.of (ay.dM Tryz.func149 rfl ?_);have hl:=bsize s;rcases y8 s with⟨h0,hn⟩|⟨c,l,ee,Fa,gR⟩
 ·have hs:dZ s=false:=by unfold dZ;rw[hn];rfl
  (repeat' (first |refine ah.nil ?_ |(apply R.xJ;exact rfl;exact rfl;exact rfl)|(apply R.oQ;exact rfl;exact rfl;exact rfl)|(apply R.move;exact rfl)|(apply R.assign;exact rfl)|(apply R.jg;exact rfl;exact rfl)|(apply R.je;exact rfl;exact rfl)|(apply R.cmp;exact rfl;exact rfl;exact rfl;all_goals intro hc)|(apply R.y9 T6;exact rfl;exact rfl)|refine Ev.seq ?_ |refine Ev.region ?_ |(apply Ev.fR;exact rfl)|refine Ev.ret ?_ |refine aD.normal ?_ |refine aD.ret ?_ |(apply aJ.ret;exact rfl)|fail))
  exact⟨_,rfl,by rw[hs];rfl⟩;omega;omega
 ·have hs:dZ s=(decide (l.length<24)&&kC c.toNat&&hG s.toList):=by unfold dZ;rw[ee];rfl
  (repeat' (first |refine ah.nil ?_ |(apply R.xJ;exact rfl;exact rfl;exact rfl)|(apply R.oQ;exact rfl;exact rfl;exact rfl)|(apply R.move;exact rfl)|(apply R.assign;exact rfl)|(apply R.jg;exact rfl;exact rfl)|(apply R.je;exact rfl;exact rfl)|(apply R.cmp;exact rfl;exact rfl;exact rfl;all_goals intro hc)|(apply R.y9 T6;exact rfl;exact rfl)|refine Ev.seq ?_ |refine Ev.region ?_ |(apply Ev.fR;exact rfl)|refine Ev.ret ?_ |refine aD.normal ?_ |refine aD.ret ?_ |(apply aJ.ret;exact rfl)|fail))
  omega
  ·refine⟨_,rfl,?_⟩;rw[hs,decide_eq_false (by omega)];rfl
  ·refine R.jM T6 (i:=0) rfl rfl rfl Fa ?_;refine wB ?_;refine R.call rfl rfl (aj.pure rfl rfl (yZ c.toNat) ?_)
   cases Pj:kC c.toNat
   ·refine wB ?_;refine⟨_,rfl,?_⟩;rw[hs,Pj];simp[cj,aR]
   ·refine wB ?_;have Dj:dZ s=hG (s.toList.drop 0):=by rw[hs,Pj,decide_eq_true (by omega)];simp
    refine Ev.loop (I:=λk' st=>∃(i:Nat) (O':Nat->PV),st=⟨al [(0,.str s),(3,.int .i64 i)] O',[]⟩/\k'+i=s.size/\dZ s=hG (s.toList.drop i)) s.size ?_ ?_;exact⟨0,_,St.aT ⟨rfl,rfl,trivial⟩,rfl,Dj⟩
    ·rintro k' _ ⟨i,O',rfl,hk,eg⟩;refine wE (λhc=>?_) λhc=>?_
     ·have lu:i<s.toList.length:=by omega
      have cC:=Lc (ab1 lu);rw[tQ s i lu]at eg;refine R.jM T6 rfl rfl rfl cC ?_;generalize hx:s.toList[i]=x at eg cC;have tT:=yY x.toNat
      skip
      refine R.call rfl rfl (aj.pure rfl rfl (yZ x.toNat) ?_)
      cases Pj:kC x.toNat
      ·refine wB ?_;refine R.jM T6 rfl rfl rfl cC ?_;refine wB ?_;refine R.call rfl rfl (aj.pure rfl rfl (Lw x.toNat) ?_)
       cases ZN:qk x.toNat
       ·refine wB ?_;refine R.jM T6 rfl rfl rfl cC ?_;refine wE (λhc=>?_) λhc=>?_
        ·refine R.jM T6 rfl rfl rfl cC ?_;refine wE (λhc=>?_) λhc=>?_
         ·rename_i h95
          have h35:=hc;refine⟨_,rfl,?_⟩;rw[eg];unfold og;rw[Pj,ZN,decide_eq_false (by omega),decide_eq_false (by omega)];rfl
         ·refine⟨k' - 1,by omega,i+1,_,St.aT ⟨rfl,rfl,trivial⟩,by omega,?_⟩;rw[eg];unfold og;rw[decide_eq_true (show(x.toNat:Int)=35 by omega)];simp
        ·refine⟨k' - 1,by omega,i+1,_,St.aT ⟨rfl,rfl,trivial⟩,by omega,?_⟩;rw[eg];unfold og;rw[decide_eq_true (show(x.toNat:Int)=95 by omega)];simp
       ·refine wB ?_;refine⟨k' - 1,by omega,i+1,_,St.aT ⟨rfl,rfl,trivial⟩,by omega,?_⟩;rw[eg];unfold og;rw[ZN];simp
      ·refine wB ?_;refine⟨k' - 1,by omega,i+1,_,St.aT ⟨rfl,rfl,trivial⟩,by omega,?_⟩;rw[eg];unfold og;rw[Pj];simp
     ·refine⟨_,rfl,?_⟩;rw[eg,acx (by omega)];rfl
theorem Ux:(ByteArray.mk #[]).toList=[]:=by rw[ByteArray.toList_eq]
theorem Gj(s:ByteArray)(hb:s.size<1000000000):aI C 193 [.str s] (.bool (dZ s)):=by
 refine aI.of (ay.dM Tryz.func193 rfl ?_);have hl:=bsize s;rcases y8 s with⟨h0,hn⟩|⟨c,l,ee,Fa,gR⟩
 ·have hs:dZ s=false:=by unfold dZ;rw[hn];rfl
  have SJ:s.toList=(ByteArray.mk #[]).toList:=by rw[hn,Ux]
  refine wB ?_;exact⟨_,rfl,by rw[hs];rfl⟩
 ·have hs:dZ s=(decide (l.length<24)&&kC c.toNat&&hG s.toList):=by unfold dZ;rw[ee];rfl
  have tT:=yY c.toNat;have hle:kC c.toNat=decide ((97<=(c.toNat:Int)/\(c.toNat:Int)<=122)\/(65<=(c.toNat:Int)/\(c.toNat:Int)<=90)):=rfl
  (repeat' (first |(apply R.jM T6 (i:=0);exact rfl;exact rfl;exact rfl;assumption)|refine ah.nil ?_ |(apply R.xJ;exact rfl;exact rfl;exact rfl)|(apply R.oQ;exact rfl;exact rfl;exact rfl)|(apply R.Uw;exact rfl;exact rfl)|(apply R.move;exact rfl)|(apply R.assign;exact rfl)|(apply R.jg;exact rfl;exact rfl)|(apply R.je;exact rfl;exact rfl)|(apply R.cmp;exact rfl;exact rfl;exact rfl;all_goals intro hc;all_goals(try(exfalso;omega)))|(apply R.Uy;exact rfl;exact rfl;all_goals intro hc)|(apply R.y9 T6;exact rfl;exact rfl)|refine Ev.seq ?_ |refine Ev.region ?_ |(apply Ev.fR;exact rfl)|refine Ev.ret ?_ |refine aD.normal ?_ |refine aD.ret ?_ |(apply aJ.ret;exact rfl)|fail))
  rw[ee,Ux]at hc;cases hc
  ·refine⟨_,rfl,?_⟩;rw[hs,decide_eq_false (by omega)];rfl
  ·have h24:=hc;clear hc;refine R.call rfl rfl (aj.pure rfl rfl (E8 c.toNat) ?_)
   cases WY:og c.toNat
   ·refine wD ?_;refine⟨_,rfl,?_⟩;rw[WY]at tT;have:=of_decide_eq_false tT.symm;rw[hs,hle,decide_eq_false (p:=(97<=(c.toNat:Int)/\(c.toNat:Int)<=122)\/(65<=(c.toNat:Int)/\(c.toNat:Int)<=90)) (by omega)];simp[cj,aR]
   ·rw[WY]at tT;have tT:=of_decide_eq_true tT.symm
    by_cases hg:(97<=(c.toNat:Int)/\(c.toNat:Int)<=122)\/(65<=(c.toNat:Int)/\(c.toNat:Int)<=90)
    ·have Dj:dZ s=hG (s.toList.drop 0):=by rw[hs,hle,decide_eq_true hg,decide_eq_true (by omega)];simp
     (repeat' (first |(apply R.jM T6 (i:=0);exact rfl;exact rfl;exact rfl;assumption)|refine ah.nil ?_ |(apply R.xJ;exact rfl;exact rfl;exact rfl)|(apply R.move;exact rfl)|(apply R.jg;exact rfl;exact rfl)|(apply R.je;exact rfl;exact rfl)|(apply R.cmp;exact rfl;exact rfl;exact rfl;all_goals intro hc;all_goals(try(exfalso;omega)))|(apply R.not;exact rfl;exact rfl)|(apply R.y9 T6;exact rfl;exact rfl)|refine Ev.seq ?_ |refine Ev.region ?_ |(apply Ev.fR;exact rfl)|refine Ev.skip ?_ |refine Ev.block ?_ |refine aD.normal ?_ |fail))
     refine Ev.loop (I:=λk' st=>∃(i:Nat) (O':Nat->PV),st=⟨al [(0,.str s),(38,.int .i64 s.size),(39,.int .i64 i)] O',[]⟩/\k'+i=s.size/\dZ s=hG (s.toList.drop i)) s.size ?_ ?_;exact⟨0,_,St.aT ⟨rfl,rfl,rfl,trivial⟩,rfl,Dj⟩
     ·rintro k' _ ⟨i,O',rfl,hk,eg⟩;refine wE (λhc=>?_) λhc=>?_
      ·have lu:i<s.toList.length:=by omega
       have cC:=Lc (ab1 lu);rw[tQ s i lu]at eg;refine R.jM T6 rfl rfl rfl cC ?_;generalize hx:s.toList[i]=x at eg cC
       skip
       refine R.call rfl rfl (aj.pure rfl rfl (E8 x.toNat) ?_)
       cases F6:og x.toNat
       ·refine wB ?_;refine⟨_,rfl,?_⟩;rw[eg,F6];rfl
       ·refine wB ?_;refine⟨k' - 1,by omega,i+1,_,St.aT ⟨rfl,rfl,rfl,trivial⟩,by omega,?_⟩;rw[eg,F6];rfl
      ·refine⟨_,rfl,?_⟩;rw[eg,acx (by omega)];rfl
    ·have Dj:dZ s=false:=by rw[hs,hle,decide_eq_false hg];simp
     (repeat' (first |(apply R.jM T6 (i:=0);exact rfl;exact rfl;exact rfl;assumption)|refine ah.nil ?_ |(apply R.xJ;exact rfl;exact rfl;exact rfl)|(apply R.oQ;exact rfl;exact rfl;exact rfl)|(apply R.move;exact rfl)|(apply R.assign;exact rfl)|(apply R.jg;exact rfl;exact rfl)|(apply R.je;exact rfl;exact rfl)|(apply R.cmp;exact rfl;exact rfl;exact rfl;all_goals intro hc;all_goals(try(exfalso;omega)))|(apply R.not;exact rfl;exact rfl)|refine Ev.seq ?_ |refine Ev.region ?_ |(apply Ev.fR;exact rfl)|refine Ev.ret ?_ |refine aD.normal ?_ |refine aD.ret ?_ |(apply aJ.ret;exact rfl)|fail))
     all_goals exact⟨_,rfl,by rw[Dj];rfl⟩
end Go.Pm
namespace Go.Pm
open Go.Proofs
attribute [local irreducible] aD az aL aJ Ev ah aj ay
set_option maxRecDepth 4000
set_option maxHeartbeats 4000000
theorem oW(a b:Int):aI C 181 [.int .i64 a,.int .i64 b] (.int .i64 (fH a b)):=by
 refine aI.of (ay.dM Tryz.func181 rfl ?_)
 (repeat' (first |refine ah.nil ?_ |(apply R.move;exact rfl)|(apply R.assign;exact rfl)|(apply R.cmp;exact rfl;exact rfl;exact rfl;all_goals intro hc)|refine Ev.seq ?_ |refine Ev.region ?_ |(apply Ev.fR;exact rfl)|refine Ev.ret ?_ |refine Ev.skip ?_ |refine aD.normal ?_ |refine aD.ret ?_ |(apply aJ.ret;exact rfl)|fail))
 all_goals(refine⟨_,rfl,congrArg (PV.int .i64) ?_⟩;unfold fH;(repeat' split) <;>omega)
theorem ud(a b:Int):aI C 101 [.int .i64 a,.int .i64 b] (.int .i64 (fH a b)):=by
 refine aI.of (ay.dM Tryz.func101 rfl ?_)
 (repeat' (first |refine ah.nil ?_ |(apply R.move;exact rfl)|(apply R.assign;exact rfl)|(apply R.cmp;exact rfl;exact rfl;exact rfl;all_goals intro hc)|refine Ev.seq ?_ |refine Ev.region ?_ |(apply Ev.fR;exact rfl)|refine Ev.ret ?_ |refine Ev.skip ?_ |refine Ev.block ?_ |refine aD.normal ?_ |refine aD.ret ?_ |refine az.normal ?_ |refine az.ret ?_ |(apply aJ.ret;exact rfl)|fail))
 all_goals(refine⟨_,rfl,congrArg (PV.int .i64) ?_⟩;unfold fH;(repeat' split) <;>omega)
theorem Tf(k s o l)(F9:br l<1000000000)(ih:∀t∈l,aI C 176 [enc t] (.int .i64 (size t))):aI C 176 [enc (.mk k s o l)] (.int .i64 (size (.mk k s o l))):=by
 refine aI.of (ay.dM Tryz.func176 rfl ?_);rw[bh];have hlen:=aY l;have cz:=ai l;have gR:=cX l;refine wB ?_;refine Ev.loop (I:=λk' st=>∃(i:Nat) (n:Int) (O':Nat->PV),st=⟨al [(1,.ptr 0 0 0 0),(3,.int .i64 n),(4,.int .i64 i)] O',[⟨.m,0,4,[.agg [.int .i64 k,.str s,.int .i64 o,.aa false (ae l)]]⟩]⟩/\k'+i=l.length/\0<=n/\1+dA l=n+dA (l.drop i)) l.length ?_ ?_;exact⟨0,1,_,St.aT ⟨rfl,rfl,rfl,trivial⟩,rfl,by omega,rfl⟩
 ·rintro k' _ ⟨i,n,O',rfl,hk,hn,eg⟩;refine wE (λhc=>?_) λhc=>?_
  ·obtain⟨k1,s1,o1,l1,ek,cC,hd,lu,_⟩:=gI hc;refine R.iq T6 rfl rfl rfl rfl cC rfl rfl ?_;have T4:=bD ek;have KZ:=gU (.mk k1 s1 o1 l1);have AW:=cX (l.drop (i+1));rw[hd,dA]at eg;refine wB ?_;refine R.call rfl rfl ?_;show aj C 2 _ [.agg [.int .i64 k1,.str s1,.int .i64 o1,.aa false (ae l1)]] _ _;rw[<-bh];refine aj.pure (r:=.int .i64 (size (.mk k1 s1 o1 l1))) rfl (by simp[ao,rk]) (by simpa[aQ,xy]using ih _ ek) ?_;refine wB ?_;exact⟨k' - 1,by omega,i+1,n+size (.mk k1 s1 o1 l1),_,St.aT ⟨rfl,rfl,rfl,trivial⟩,by omega,by omega,by omega⟩
  ·refine⟨_,rfl,?_⟩;simp only[cj,aR,size];rw[kJ hc,dA]at eg;rw[eg];simp
theorem sV(t:Tm)(hb:ax t<1000000000):aI C 176 [enc t] (.int .i64 (size t)):=by
 induction t using Tm.ind with
 |h k s o l ih=>
  simp only[ax]at hb;exact Tf k s o l (by omega) (λt ht=>ih t ht (by have:=bD ht;omega))
theorem PN(k s o l)(F9:br l<1000000000)(ih:∀t∈l,aI C 102 [enc t] (.int .i64 (size t))):aI C 102 [enc (.mk k s o l)] (.int .i64 (size (.mk k s o l))):=by
 refine aI.of (ay.dM Tryz.func102 rfl ?_);rw[bh];have hlen:=aY l;have cz:=ai l;have gR:=cX l;refine wB ?_;refine Ev.loop (I:=λk' st=>∃(i:Nat) (n:Int) (J:ab) (O':Nat->PV),st=⟨al [(1,.ptr 0 0 0 0),(3,.int .i64 n),(7,.aa false (ae l)),(8,.int .i64 (ae l).length),(9,.int .i64 i)] O',⟨.m,0,4,[.agg [.int .i64 k,.str s,.int .i64 o,.aa false (ae l)]]⟩::J⟩/\k'+i=l.length/\0<=n/\1+dA l=n+dA (l.drop i)) l.length ?_ ?_;exact⟨0,1,[],_,St.aT ⟨rfl,rfl,rfl,rfl,rfl,trivial⟩,rfl,by omega,rfl⟩
 ·rintro k' _ ⟨i,n,J,O',rfl,hk,hn,eg⟩;refine wE (λhc=>?_) λhc=>?_
  ·obtain⟨k1,s1,o1,l1,ek,cC,hd,lu,_⟩:=gI hc;refine R.iq T6 rfl rfl rfl rfl cC rfl rfl ?_;have T4:=bD ek;have KZ:=gU (.mk k1 s1 o1 l1);have AW:=cX (l.drop (i+1));rw[hd,dA]at eg;refine wB ?_;refine R.call rfl rfl ?_;show aj C 2 _ [.agg [.int .i64 k1,.str s1,.int .i64 o1,.aa false (ae l1)]] _ _;rw[<-bh];refine aj.pure (r:=.int .i64 (size (.mk k1 s1 o1 l1))) rfl (by simp[ao,rk]) (by simpa[aQ,xy]using ih _ ek) ?_;refine wB ?_;exact⟨k' - 1,by omega,i+1,n+size (.mk k1 s1 o1 l1),_,_,St.aT ⟨rfl,rfl,rfl,rfl,rfl,trivial⟩,by omega,by omega,by omega⟩
  ·refine⟨_,rfl,?_⟩;simp only[cj,aR,size];rw[kJ hc,dA]at eg;rw[eg];simp
theorem vv(t:Tm)(hb:ax t<1000000000):aI C 102 [enc t] (.int .i64 (size t)):=by
 induction t using Tm.ind with
 |h k s o l ih=>
  simp only[ax]at hb;exact PN k s o l (by omega) (λt ht=>ih t ht (by have:=bD ht;omega))
end Go.Pm
namespace Go.Pm
open Go.Proofs
attribute [local irreducible] aD az aL aJ Ev ah aj ay bg
set_option maxRecDepth 4000
set_option maxHeartbeats 4000000
theorem Mj(k s o l)(hb:ax (.mk k s o l)<1000000000):aI C 235 [enc (.mk k s o l)] (.int .i64 (node (.mk k s o l))):=by
 refine aI.of (ay.dM Tryz.func235 rfl ?_);rw[bh];have cz:=ai l;have hlen:=aY l;have IS:s.size<1000000000:=by simp only[ax]at hb;omega
 (repeat' (first |refine ah.nil ?_ |(apply R.xJ;exact rfl;exact rfl;exact rfl)|(apply R.oQ;exact rfl;exact rfl;exact rfl)|(apply R.Uw;exact rfl;exact rfl)|(apply R.move;exact rfl)|(apply R.assign;exact rfl)|(apply R.jg;exact rfl;exact rfl)|(apply R.je;exact rfl;exact rfl)|(apply R.gH T6;exact rfl;exact rfl;exact rfl;exact rfl)|(apply R.fieldAddr T6;exact rfl;exact rfl;exact rfl;exact rfl)|(apply R.cmp;exact rfl;exact rfl;exact rfl;all_goals intro hc;all_goals(try(exfalso;omega)))|(apply R.not;exact rfl;exact rfl)|(apply R.rX T6;exact rfl;exact rfl)|(apply R.box;exact rfl;exact rfl;exact rfl;exact .nil)|refine Ev.seq ?_ |refine Ev.region ?_ |(apply Ev.fR;exact rfl)|refine Ev.ret ?_ |refine Ev.skip ?_ |refine aD.normal ?_ |refine aD.ret ?_ |(apply aJ.ret;exact rfl)|fail))
 all_goals first
  |(refine⟨_,rfl,congrArg (PV.int .i64) ?_⟩;rw[node,if_pos (by omega)])
  |(refine R.call rfl rfl (aj.pure rfl rfl (E9 s IS) ?_);cases hN:dZ s <;>(repeat' (first |refine ah.nil ?_ |(apply R.assign;exact rfl)|(apply R.gH T6;exact rfl;exact rfl;exact rfl;exact rfl)|(apply R.fieldAddr T6;exact rfl;exact rfl;exact rfl;exact rfl)|(apply R.cmp;exact rfl;exact rfl;exact rfl;all_goals intro hc;all_goals(try(exfalso;omega)))|(apply R.not;exact rfl;exact rfl)|(apply R.rX T6;exact rfl;exact rfl)|refine Ev.seq ?_ |refine Ev.region ?_ |(apply Ev.fR;exact rfl)|refine Ev.ret ?_ |refine Ev.skip ?_ |refine aD.normal ?_ |refine aD.ret ?_ |(apply aJ.ret;exact rfl)|fail)))
 all_goals first
  |(refine⟨_,rfl,congrArg (PV.int .i64) ?_⟩;rw[node,if_neg (by omega),if_pos hN])
  |(refine⟨_,rfl,congrArg (PV.int .i64) ?_⟩;rw[node,if_neg (by omega),if_neg (by rw[hN];simp),if_pos (by omega)])
  |(refine⟨_,rfl,congrArg (PV.int .i64) ?_⟩;rw[node,if_neg (by omega),if_neg (by rw[hN];simp),if_neg (by omega)])
theorem Mk(k s o l)(hb:ax (.mk k s o l)<1000000000)(ih:∀t∈l,aI C 175 [enc t] (.int .i64 (nodes t))):aI C 175 [enc (.mk k s o l)] (.int .i64 (nodes (.mk k s o l))):=by
 have zV:=Mj k s o l hb;refine aI.of (ay.dM Tryz.func175 rfl ?_);rw[bh]at zV ⊢;have hlen:=aY l;have cz:=ai l;simp only[ax]at hb;refine wB ?_;refine R.call rfl rfl (aj.pure rfl (by simp[ao,aU]) (by simpa[aQ,cj,aZ]using zV) ?_);refine wE (λhc=>?_) λhc=>?_
 ·refine⟨_,rfl,?_⟩;rw[nodes,if_pos (by assumption)];rfl
 ·have h0:nodes (.mk k s o l)=gy l:=by rw[nodes,if_neg (by assumption)]
  refine Ev.loop (I:=λk' st=>∃(i:Nat) (O':Nat->PV),st=⟨al [(1,.ptr 0 0 0 0),(4,.int .i64 i)] O',[⟨.m,0,4,[.agg [.int .i64 k,.str s,.int .i64 o,.aa false (ae l)]]⟩]⟩/\k'+i=l.length/\gy l=gy (l.drop i)) l.length ?_ ?_;exact⟨0,_,St.aT ⟨rfl,rfl,trivial⟩,rfl,rfl⟩
  ·rintro k' _ ⟨i,O',rfl,hk,eg⟩;refine wE (λhc=>?_) λhc=>?_
   ·obtain⟨k1,s1,o1,l1,ek,cC,hd,lu,_⟩:=gI hc;refine R.iq T6 rfl rfl rfl rfl cC rfl rfl ?_;have AX:=ih _ ek;rw[bh]at AX;rw[hd,gy]at eg;refine wB ?_;refine R.call rfl rfl (aj.pure rfl (by simp[ao,aU]) (by simpa[aQ,cj,aZ]using AX) ?_);refine wE (λhc=>?_) λhc=>?_
    ·refine⟨_,rfl,?_⟩;rw[h0,eg,if_pos (by assumption)];rfl
    ·refine⟨k' - 1,by omega,i+1,_,St.aT ⟨rfl,rfl,trivial⟩,by omega,?_⟩;rw[eg,if_neg (by assumption)]
   ·refine⟨_,rfl,?_⟩;rw[h0,eg,kJ hc];rfl
theorem Iv(t:Tm)(hb:ax t<1000000000):aI C 175 [enc t] (.int .i64 (nodes t)):=by
 induction t using Tm.ind with
 |h k s o l ih=>
  exact Mk k s o l hb (λt ht=>ih t ht (by have:=bD ht;simp only[ax]at hb;omega))
theorem Ml(k s o l)(hb:ax (.mk k s o l)<1000000000)(ih:∀t∈l,aI C 177 [enc t] (.int .i64 (depth t))):aI C 177 [enc (.mk k s o l)] (.int .i64 (depth (.mk k s o l))):=by
 refine aI.of (ay.dM Tryz.func177 rfl ?_);rw[bh];have hlen:=aY l;have cz:=ai l;have gR:=cX l;have hds:=gW l;simp only[ax]at hb;refine wB ?_;refine Ev.loop (I:=λk' st=>∃(i:Nat) (n:Int) (O':Nat->PV),st=⟨al [(1,.ptr 0 0 0 0),(3,.int .i64 n),(4,.int .i64 i)] O',[⟨.m,0,4,[.agg [.int .i64 k,.str s,.int .i64 o,.aa false (ae l)]]⟩]⟩/\k'+i=l.length/\0<=n/\fG l=max n (fG (l.drop i))) l.length ?_ ?_;exact⟨0,0,_,St.aT ⟨rfl,rfl,rfl,trivial⟩,rfl,by omega,by simp only[ac3];omega⟩
 ·rintro k' _ ⟨i,n,O',rfl,hk,hn,eg⟩;refine wE (λhc=>?_) λhc=>?_
  ·obtain⟨k1,s1,o1,l1,ek,cC,hd,lu,_⟩:=gI hc;refine R.iq T6 rfl rfl rfl rfl cC rfl rfl ?_;have AX:=ih _ ek;rw[bh]at AX;rw[hd,fG]at eg;have OZ:=oU (.mk k1 s1 o1 l1);refine wB ?_;refine R.call rfl rfl (aj.pure rfl (by simp[ao,aU]) (by simpa[aQ,cj,aZ]using AX) ?_);refine wB ?_;exact⟨k' - 1,by omega,i+1,_,_,St.aT ⟨rfl,rfl,rfl,trivial⟩,by omega,by omega,by omega⟩
  ·rw[kJ hc,fG]at eg
   skip
   refine⟨_,rfl,congrArg (PV.int .i64) ?_⟩;rw[depth];omega
theorem Iw(t:Tm)(hb:ax t<1000000000):aI C 177 [enc t] (.int .i64 (depth t)):=by
 induction t using Tm.ind with
 |h k s o l ih=>
  exact Ml k s o l hb (λt ht=>ih t ht (by have:=bD ht;simp only[ax]at hb;omega))
theorem zp(t:Tm)(hb:ax t<1000000000):aI C 125 [enc t] (.int .i64 (valid t)):=by
 have h1:=Iv t hb;have h2:=sV t hb;have h3:=Iw t hb;obtain⟨k,s,o,l⟩:=t;refine aI.of (ay.dM Tryz.func125 rfl ?_);rw[bh]at h1 h2 h3 ⊢;refine wB ?_;refine R.call rfl rfl (aj.pure rfl (by simp[ao,aU]) (by simpa[aQ,cj,aZ]using h1) ?_);refine wE (λhc=>?_) λhc=>?_
 ·refine⟨_,rfl,?_⟩;rw[valid,if_pos (by assumption)];rfl
 ·have h0:=hc;clear hc;refine R.call rfl rfl (aj.pure rfl (by simp[ao,aU]) (by simpa[aQ,cj,aZ]using h2) ?_);refine wE (λhc=>?_) λhc=>?_
  ·refine⟨_,rfl,?_⟩;rw[valid,if_neg h0,if_pos (by omega)];rfl
  ·refine R.call rfl rfl (aj.pure rfl (by simp[ao,aU]) (by simpa[aQ,cj,aZ]using h3) ?_);refine wE (λhc=>?_) λhc=>?_
   ·refine⟨_,rfl,?_⟩;rw[valid,if_neg h0,if_pos (by omega)];rfl
   ·refine⟨_,rfl,?_⟩;rw[valid,if_neg h0,if_neg (by omega)];rfl
set_option maxHeartbeats 2000000 in
theorem Rc(k s o l k' s' o' l')(hb:ax (.mk k s o l)<1000000000)(eg:ax (.mk k' s' o' l')<1000000000)
  (ih:∀t∈l,∀t'∈l',aI C 134 [enc t,enc t'] (.int .i64 (aW t t'))):aI C 134 [enc (.mk k s o l),enc (.mk k' s' o' l')] (.int .i64 (aW (.mk k s o l) (.mk k' s' o' l'))):=by
 refine aI.of (ay.dM Tryz.func134 rfl ?_);rw[bh,bh];have z1:=sV _ hb;have z2:=sV _ eg;have v1:ao (ae l)=true:=fD l;have v2:ao (ae l')=true:=fD l';have e1:=ai l;have e2:=ai l';have b1:l.length<1000000000:=by have:=aY l;simp only[ax]at hb;omega
 have b2:l'.length<1000000000:=by have:=aY l';simp only[ax]at eg;omega
 rw[bh]at z1 z2;refine wB ?_;refine D.nA rfl rfl rfl rfl (by simp[ao,aU,v1]) rfl rfl (by simpa[aQ,cj,aZ]using z1) ?_;refine wB ?_;refine D.nA rfl rfl rfl rfl (by simp[ao,aU,v2]) rfl rfl (by simpa[aQ,cj,aZ]using z2) ?_;refine D.nA rfl rfl rfl rfl rfl rfl rfl (oW _ _) ?_;refine wE (λhc=>?_) λhc=>?_;exact⟨_,rfl,by simp only[cj,aR,aW];rw[if_pos hc]⟩;have h1:=hc;clear hc;refine R.call rfl rfl (aj.pure rfl rfl (oW k k') ?_)
 (repeat' (first |refine ah.nil ?_ |(apply R.move;exact rfl)|(apply R.assign;exact rfl)|(apply R.gH T6;exact rfl;exact rfl;exact rfl;exact rfl)|(apply R.fieldAddr T6;exact rfl;exact rfl;exact rfl;exact rfl)|(apply R.cmp;exact rfl;exact rfl;exact rfl;all_goals intro hc)|(apply R.U7;exact rfl;exact rfl;exact rfl;all_goals intro hc)|refine Ev.seq ?_ |refine Ev.region ?_ |(apply Ev.fR;exact rfl)|refine Ev.ret ?_ |refine Ev.skip ?_ |refine aD.normal ?_ |refine aD.ret ?_ |(apply aJ.ret;exact rfl)|fail))
 exact⟨_,rfl,by simp only[cj,aR,aW];rw[if_neg h1,if_pos hc]⟩
 ·rename_i h2
  have h3:=hc;exact⟨_,rfl,by simp only[cj,aR,aW];rw[if_neg h1,if_neg h2,if_pos h3]⟩
 ·rename_i h2 h3
  have h4:=hc;exact⟨_,rfl,by simp only[cj,aR,aW];rw[if_neg h1,if_neg h2,if_neg (by rw[h3];simp),if_pos h4]⟩
 rename_i h2 h3
 have h4:=hc;clear hc;refine R.call rfl rfl (aj.pure rfl rfl (oW o o') ?_);refine wE (λhc=>?_) λhc=>?_;exact⟨_,rfl,by simp only[cj,aR,aW];rw[if_neg h1,if_neg h2,if_neg (by rw[h3];simp),if_neg (by rw[h4];simp),if_pos hc]⟩;have h5:=hc;clear hc;refine R.call rfl rfl (aj.pure rfl rfl (oW (ae l).length (ae l').length) ?_);refine wE (λhc=>?_) λhc=>?_
 ·refine⟨_,rfl,?_⟩;simp only[cj,aR,aW];rw[e1,e2]at hc ⊢;rw[if_neg h1,if_neg h2,if_neg (by rw[h3];simp),if_neg (by rw[h4];simp),if_neg h5,if_pos hc]
 have h6:=hc;clear hc
 have uj:l.length=l'.length:=by
  rw[e1,e2]at h6;unfold fH at h6
  repeat' split at h6
  all_goals omega
 have T2:aW (.mk k s o l) (.mk k' s' o' l')=mF l l':=by
  rw[e1,e2]at h6;rw[aW,if_neg h1,if_neg h2,if_neg (by rw[h3];simp),if_neg (by rw[h4];simp),if_neg h5,if_neg h6]
 refine Ev.loop (I:=λU8 st=>∃(i:Nat) (O':Nat->PV),st=⟨al [(2,.ptr 0 0 0 0),(3,.ptr 1 0 0 0),(9,.int .i64 i)] O',[⟨.m,0,4,[.agg [.int .i64 k,.str s,.int .i64 o,.aa false (ae l)]]⟩,⟨.m,0,4,[.agg [.int .i64 k',.str s',.int .i64 o',.aa false (ae l')]]⟩]⟩/\U8+i=l.length/\mF l l'=mF (l.drop i) (l'.drop i)) l.length ?_ ?_;exact⟨0,_,St.aT ⟨rfl,rfl,rfl,trivial⟩,rfl,rfl⟩
 ·rintro U8 _ ⟨i,O',rfl,hk,Ae⟩;refine wE (λhc=>?_) λhc=>?_
  ·obtain⟨k1,s1,o1,l1,ek,cC,hd,lu,_⟩:=gI hc;obtain⟨k2,s2,o2,l2,Nv,U9,Cd,aax,_⟩:=gI (l:=l') (i:=i) (by omega);have w1:ao (ae l1)=true:=fD l1;have w2:ao (ae l2)=true:=fD l2;have AX:=ih _ ek _ Nv;rw[bh,bh]at AX;refine D.iq T6 rfl rfl rfl rfl rfl cC rfl rfl ?_;refine wB ?_;refine D.iq T6 rfl rfl rfl rfl rfl U9 rfl rfl ?_;refine wB ?_;refine D.nA rfl rfl rfl rfl (by simp[ao,aU,w1,w2]) rfl rfl (by simpa[aQ,cj,aZ]using AX) ?_;refine wE (λhc=>?_) λhc=>?_
   ·refine⟨_,rfl,?_⟩;simp only[cj,aR];rw[T2,Ae,hd,Cd,mF,if_pos (by assumption)]
   ·refine⟨U8 - 1,by omega,i+1,_,St.aT ⟨rfl,rfl,rfl,trivial⟩,by omega,?_⟩;rw[Ae,hd,Cd,mF,if_neg (by assumption)]
  ·refine⟨_,rfl,?_⟩;simp only[cj,aR];rw[T2,Ae,kJ hc,mF]
theorem DK(t t':Tm)(hb:ax t<1000000000)(eg:ax t'<1000000000):aI C 134 [enc t,enc t'] (.int .i64 (aW t t')):=by
 induction t using Tm.ind generalizing t' with
 |h k s o l ih=>
  obtain⟨k',s',o',l'⟩:=t';refine Rc k s o l k' s' o' l' hb eg (λt ht t' RD=>ih t ht t' ?_ ?_);have:=bD ht;simp only[ax]at hb;omega;have:=bD RD;simp only[ax]at eg;omega
theorem uX(t t':Tm)(hb:ax t<1000000000)(eg:ax t'<1000000000):aI C 78 [enc t,enc t'] (.bool (decide (aW t t'=0))):=by
 have h1:=DK t t' hb eg;obtain⟨k,s,o,l⟩:=t;obtain⟨k',s',o',l'⟩:=t';refine aI.of (ay.dM Tryz.func78 rfl ?_);rw[bh,bh]at h1 ⊢;refine wB ?_;refine R.call rfl rfl (aj.pure rfl (by simp[ao,aU]) (by simpa[aQ,cj,aZ]using h1) ?_);refine wE (λhc=>?_) λhc=>?_;exact⟨_,rfl,congrArg PV.bool (decide_eq_true (by assumption)).symm⟩;exact⟨_,rfl,congrArg PV.bool (decide_eq_false (by assumption)).symm⟩
theorem zu(k s o l):dz (.mk k s o l)=decide (k=3/\(s.toList=vB\/s.toList=mJ\/s.toList=vC)):=by
 simp only[dz,<-Bool.decide_or,<-Bool.decide_and,or_assoc]
theorem GB:(ByteArray.mk #[109,117,108]).toList=vB:=MV
theorem x9:(ByteArray.mk #[105,110,118]).toList=mJ:=MW
theorem GC:(ByteArray.mk #[111,110,101]).toList=vC:=MX
theorem x8(k s o l):aI C 309 [enc (.mk k s o l)] (.bool (dz (.mk k s o l))):=by
 refine aI.of (ay.dM Tryz.func309 rfl ?_);rw[bh,zu]
 (repeat' (first |refine ah.nil ?_ |(apply R.xJ;exact rfl;exact rfl;exact rfl)|(apply R.oQ;exact rfl;exact rfl;exact rfl)|(apply R.Uw;exact rfl;exact rfl)|(apply R.move;exact rfl)|(apply R.assign;exact rfl)|(apply R.jg;exact rfl;exact rfl)|(apply R.je;exact rfl;exact rfl)|(apply R.gH T6;exact rfl;exact rfl;exact rfl;exact rfl)|(apply R.fieldAddr T6;exact rfl;exact rfl;exact rfl;exact rfl)|(apply R.cmp;exact rfl;exact rfl;exact rfl;all_goals intro hc)|(apply R.Uy;exact rfl;exact rfl;all_goals intro hc)|(apply R.box;exact rfl;exact rfl;exact rfl;exact .nil)|refine Ev.seq ?_ |refine Ev.region ?_ |refine Ev.ret ?_ |refine aD.normal ?_ |(apply aJ.ret;exact rfl)|fail))
 all_goals try simp only[GB,x9,GC]at *
 all_goals first
  |exact⟨_,rfl,congrArg PV.bool (decide_eq_true (by simp[*])).symm⟩
  |exact⟨_,rfl,congrArg PV.bool (decide_eq_false (by simp[*])).symm⟩
theorem Is(a b:ByteArray):aI C 153 [.str a,.str b] (.int .i64 (C' a b)):=by
 have e:C' a b=Lib.compareBytes a.data.toList b.data.toList:=by unfold C' fj;rw[ByteArray.toList_eq,ByteArray.toList_eq]
 rw[e];refine aI.of (ay.dM Tryz.func153 rfl ?_);refine wB ?_;refine R.call rfl rfl (aj.ext rfl rfl rfl ?_);refine wB ?_;exact⟨_,rfl,rfl⟩
theorem P0(a b:ByteArray):aI C 103 [.str a,.str b] (.int .i64 (C' a b)):=by
 refine aI.of (ay.dM Tryz.func103 rfl ?_);refine wB ?_;refine R.call rfl rfl (aj.pure rfl rfl (Is a b) ?_);refine wB ?_;exact⟨_,rfl,rfl⟩
theorem Ti(k s o l k' s' o' l')(hb:ax (.mk k s o l)<1000000000)(eg:ax (.mk k' s' o' l')<1000000000)
  (ih:∀t∈l,∀t'∈l',aI C 52 [enc t,enc t'] (.int .i64 (aW t t'))):aI C 52 [enc (.mk k s o l),enc (.mk k' s' o' l')] (.int .i64 (aW (.mk k s o l) (.mk k' s' o' l'))):=by
 refine aI.of (ay.dM Tryz.func52 rfl ?_);have Da:=my k s o l k' s' o' l';have z1:=vv _ hb;have z2:=vv _ eg;rw[bh]at z1 z2;rw[bh,bh];generalize aW (.mk k s o l) (.mk k' s' o' l')=R0 at Da ⊢;have e1:=ai l;have e2:=ai l';have b1:l.length<1000000000:=by have:=aY l;simp only[ax]at hb;omega
 have b2:l'.length<1000000000:=by have:=aY l';simp only[ax]at eg;omega
 have uj:fH (ae l).length (ae l').length=0->l.length=l'.length:=λh=>by have:=jo h;omega
 rw[<-e1,<-e2]at Da;refine wB ?_;refine D.nA rfl rfl rfl rfl (by simp[ao,aU]) rfl rfl (by simpa[aQ,cj,aZ]using z1) ?_;refine wB ?_;refine D.nA rfl rfl rfl rfl (by simp[ao,aU]) rfl rfl (by simpa[aQ,cj,aZ]using z2) ?_;refine D.nA rfl rfl rfl rfl rfl rfl rfl (ud _ _) ?_;generalize fH (size (.mk k s o l)) (size (.mk k' s' o' l'))=dM at Da ⊢
 (repeat' (first |refine ah.nil ?_ |(apply R.move;exact rfl)|(apply R.assign;exact rfl)|(apply R.gH T6;exact rfl;exact rfl;exact rfl;exact rfl)|(apply R.fieldAddr T6;exact rfl;exact rfl;exact rfl;exact rfl)|(apply R.cmp;exact rfl;exact rfl;exact rfl;all_goals intro hc;all_goals(try(exfalso;omega)))|refine Ev.seq ?_ |refine Ev.region ?_ |refine bg.nil ?_ |(apply D.assign;exact rfl)|(apply Ev.fR;exact rfl)|refine Ev.skip ?_ |refine Ev.block ?_ |refine aD.normal ?_ |fail))
 all_goals try(refine R.call rfl rfl (aj.pure rfl rfl (ud k k') ?_);generalize fH k k'=dS at Da ⊢;(repeat' (first |refine ah.nil ?_ |(apply R.move;exact rfl)|(apply R.assign;exact rfl)|(apply R.gH T6;exact rfl;exact rfl;exact rfl;exact rfl)|(apply R.fieldAddr T6;exact rfl;exact rfl;exact rfl;exact rfl)|(apply R.cmp;exact rfl;exact rfl;exact rfl;all_goals intro hc;all_goals(try(exfalso;omega)))|refine Ev.seq ?_ |refine Ev.region ?_ |(apply Ev.fR;exact rfl)|refine Ev.skip ?_ |refine Ev.block ?_ |refine aD.normal ?_ |fail)))
 all_goals try(refine R.call rfl rfl (aj.pure rfl rfl (P0 s s') ?_);generalize C' s s'=dW at Da ⊢;(repeat' (first |refine ah.nil ?_ |(apply R.move;exact rfl)|(apply R.assign;exact rfl)|(apply R.gH T6;exact rfl;exact rfl;exact rfl;exact rfl)|(apply R.fieldAddr T6;exact rfl;exact rfl;exact rfl;exact rfl)|(apply R.cmp;exact rfl;exact rfl;exact rfl;all_goals intro hc;all_goals(try(exfalso;omega)))|refine Ev.seq ?_ |refine Ev.region ?_ |(apply Ev.fR;exact rfl)|refine Ev.skip ?_ |refine Ev.block ?_ |refine aD.normal ?_ |fail)))
 all_goals try(refine R.call rfl rfl (aj.pure rfl rfl (ud o o') ?_);generalize fH o o'=eq at Da ⊢;(repeat' (first |refine ah.nil ?_ |(apply R.move;exact rfl)|(apply R.assign;exact rfl)|(apply R.gH T6;exact rfl;exact rfl;exact rfl;exact rfl)|(apply R.fieldAddr T6;exact rfl;exact rfl;exact rfl;exact rfl)|(apply R.cmp;exact rfl;exact rfl;exact rfl;all_goals intro hc;all_goals(try(exfalso;omega)))|(apply R.rX T6;exact rfl;exact rfl)|refine Ev.seq ?_ |refine Ev.region ?_ |(apply Ev.fR;exact rfl)|refine Ev.skip ?_ |refine Ev.block ?_ |refine aD.normal ?_ |fail)))
 all_goals try(refine R.call rfl rfl (aj.pure rfl rfl (ud (ae l).length (ae l').length) ?_);generalize fH (ae l).length (ae l').length=fd at Da uj ⊢;refine wD ?_)
 all_goals(
  refine Ev.loop (I:=λU8 st=>∃(i:Nat) (c:Int) (O':Nat->PV),st=⟨al [(2,.ptr 0 0 0 0),(3,.ptr 1 0 0 0),(5,.int .i64 c),(6,.int .i64 i)] O',[⟨.m,0,4,[.agg [.int .i64 k,.str s,.int .i64 o,.aa false (ae l)]]⟩,⟨.m,0,4,[.agg [.int .i64 k',.str s',.int .i64 o',.aa false (ae l')]]⟩]⟩/\U8+i=l.length/\R0=mw c (mF (l.drop i) (l'.drop i))/\(c=0->l.length=l'.length)) l.length ?_ ?_
  ·refine⟨0,_,_,St.aT ⟨rfl,rfl,rfl,rfl,trivial⟩,rfl,?_,?_⟩
   ·rw[Da];unfold mw;simp only[ac3];(repeat' split) <;>first |rfl |omega
   ·first |exact uj |(intro h;exfalso;omega)
  ·clear Da uj;rintro U8 _ ⟨i,c,O',rfl,hk,Ae,uj⟩
   (repeat' (first |refine ah.nil ?_ |(apply R.xJ;exact rfl;exact rfl;exact rfl)|(apply R.oQ;exact rfl;exact rfl;exact rfl)|(apply R.move;exact rfl)|(apply R.assign;exact rfl)|(apply R.jg;exact rfl;exact rfl)|(apply R.je;exact rfl;exact rfl)|(apply R.gH T6;exact rfl;exact rfl;exact rfl;exact rfl)|(apply R.fieldAddr T6;exact rfl;exact rfl;exact rfl;exact rfl)|(apply R.cmp;exact rfl;exact rfl;exact rfl;all_goals intro hc;all_goals(try(exfalso;omega)))|(apply R.rX T6;exact rfl;exact rfl)|refine Ev.seq ?_ |refine Ev.region ?_ |refine Ev.mL ?_ |(apply D.move;exact rfl)|(apply D.fieldAddr T6;exact rfl;exact rfl;exact rfl;exact rfl)|(apply D.gH T6;exact(by first |exact rfl |assumption);exact rfl;exact rfl;exact rfl;exact rfl;exact rfl)|(apply Ev.fR;exact rfl)|refine Ev.ret ?_ |refine Ev.skip ?_ |refine Ev.exit ?_ |refine Ev.block ?_ |refine aD.normal ?_ |refine aD.exit ?_ |refine az.IJ ?_ |refine aL.exit ?_ |(apply aJ.ret;exact rfl)|fail))
   ·have uj:=uj (by assumption);obtain⟨k1,s1,o1,l1,ek,cC,hd,lu,_⟩:=gI hc;obtain⟨k2,s2,o2,l2,Nv,U9,Cd,aax,_⟩:=gI (l:=l') (i:=i) (by omega);have AX:=ih _ ek _ Nv;rw[bh,bh]at AX;refine D.iq T6 rfl rfl rfl rfl rfl cC rfl rfl ?_;refine wB ?_;refine D.iq T6 rfl rfl rfl rfl rfl U9 rfl rfl ?_;refine wB ?_;refine D.nA rfl rfl rfl rfl (by simp[ao,aU]) rfl rfl (by simpa[aQ,cj,aZ]using AX) ?_;refine wB ?_;refine⟨U8 - 1,by omega,i+1,_,_,St.aT ⟨rfl,rfl,rfl,rfl,trivial⟩,by omega,?_,λ_=>uj⟩;have Fa:c=0:=by assumption
    rw[Ae,Fa,hd,Cd,mz];rfl
   ·refine⟨_,rfl,congrArg (PV.int .i64) ?_⟩;have Fa:c=0:=by assumption
    rw[Ae,Fa,kJ hc,mF];rfl
   ·refine⟨_,rfl,congrArg (PV.int .i64) ?_⟩;rw[Ae,mw,if_pos (by assumption)])
theorem eY(t t':Tm)(hb:ax t<1000000000)(eg:ax t'<1000000000):aI C 52 [enc t,enc t'] (.int .i64 (aW t t')):=by
 induction t using Tm.ind generalizing t' with
 |h k s o l ih=>
  obtain⟨k',s',o',l'⟩:=t';refine Ti k s o l k' s' o' l' hb eg (λt ht t' RD=>ih t ht t' ?_ ?_);have:=bD ht;simp only[ax]at hb;omega;have:=bD RD;simp only[ax]at eg;omega
theorem names{k s o l}(h:dz (.mk k s o l)=true):k=3/\
  ((s.toList=(ByteArray.mk #[109,117,108]).toList/\¬s.toList=(ByteArray.mk #[105,110,118]).toList/\¬s.toList=(ByteArray.mk #[111,110,101]).toList)\/
   (¬s.toList=(ByteArray.mk #[109,117,108]).toList/\s.toList=(ByteArray.mk #[105,110,118]).toList/\¬s.toList=(ByteArray.mk #[111,110,101]).toList)\/
   (¬s.toList=(ByteArray.mk #[109,117,108]).toList/\¬s.toList=(ByteArray.mk #[105,110,118]).toList/\s.toList=(ByteArray.mk #[111,110,101]).toList)):=by
 rw[zu]at h;obtain⟨h1,h2⟩:=of_decide_eq_true h;refine⟨h1,?_⟩;rw[GB,x9,GC];rcases h2 with h2 |h2 |h2 <;>rw[h2] <;>decide
theorem oN(k s o l n):xH (.mk k s o l,n)=.agg [.int .i64 k,.str s,.int .i64 o,.aa false (ae l),.int .i64 n]:=rfl
theorem fw(l:List Pw):(bq l).length=l.length:=by simp[bq]
theorem sN{l:List Pw}{i:Nat}(hc:(i:Int)<((bq l).length:Int)):∃k s o l' n,(.mk k s o l',n)∈l/\(bq l)[i]?=some (.agg [.int .i64 k,.str s,.int .i64 o,.aa false (ae l'),.int .i64 n])/\l.drop i=(.mk k s o l',n)::l.drop (i+1)/\i<l.length/\l[i]?=some (.mk k s o l',n):=by
 have lu:i<l.length:=by have:=fw l;omega
 rcases hp:l[i]with⟨⟨k,s,o,l'⟩,n⟩;refine⟨k,s,o,l',n,hp▸acB lu,?_,?_,lu,?_⟩
 ·unfold bq;rw[ace,ab1 lu,hp];rfl
 rw[adB lu,hp];rw[ab1 lu,hp]
theorem J0{l:List Pw}{i:Nat}(hc:¬(i:Int)<((bq l).length:Int)):l.drop i=[]:=acx (by have:=fw l;omega)
theorem oO(l:List Pw):ao (bq l)=true:=by
 induction l with
 |nil=>rfl
 |cons p l ih=>
  obtain⟨⟨k,s,o,l'⟩,n⟩:=p;simp only[bq,acg,ao]at *;rw[ih];rfl
theorem rS(l:List Pw):aQ (bq l)=bq l:=by
 induction l with
 |nil=>rfl
 |cons p l ih=>
  obtain⟨⟨k,s,o,l'⟩,n⟩:=p;simp only[bq,acg,aQ]at *;rw[ih,oN];simp[cj,aQ,aZ]
def Sm(l:List Pw):Prop:=(∀p∈l,ax p.1<1000000000)/\l.length<100000000
def vE(t:Tm):List Pw->Nat
 |[]=>0
 |p::l=>if aW p.1 t<0 then vE t l+1 else 0
theorem Gf(t:Tm):∀l:List Pw,vE t l<=l.length
 |[]=>by simp[vE]
 |p::l=>by
  have:=Gf t l;rw[vE]
  split <;>simp <;>omega
theorem IH(t:Tm):∀(l:List Pw),B9 l->∀(m:Nat) (p:Pw),l[m]?=some p->(aW p.1 t<0↔m<vE t l)
 |[],_,m,p,h=>by simp at h
 |q::l,s,m,p,h=>by
  obtain⟨s1,s2⟩:=acm.1 s;rw[vE]
  cases m with
  |zero=>
   simp at h;subst h
   split
   simp;assumption;simp;omega
  |succ m=>
   have h':l[m]?=some p:=by simpa using h
   have ih:=IH t l s2 m p h';have hm:=s1 p (acb h')
   split
   rw[ih];omega
   ·rename_i hq
    constructor
    ·intro hp
     exact absurd (eC hm hp) hq
    intro hh;omega
def QL(t:Tm)(l:List Pw):Bool:=match l[vE t l]? with |some p=>decide (aW p.1 t=0)|none=>false
theorem II(t:Tm)(n:Int):∀l:List Pw,QL t l=false->jO t n l=l.take (vE t l)++[(t,n)]++l.drop (vE t l)
 |[],_=>by simp[jO,vE]
 |p::l,h=>by
  rw[jO,vE]
  by_cases hc:aW p.1 t<0
  ·have h':QL t l=false:=by
    unfold QL at h ⊢;rw[vE,if_pos hc]at h;simpa using h
   rw[if_pos hc,if_pos hc,II t n l h'];simp
  ·have h0:¬aW p.1 t=0:=by
    unfold QL at h;rw[vE,if_neg hc]at h;simpa using h
   rw[if_neg hc,if_neg hc,if_neg h0];simp
theorem Dx(t:Tm)(n:Int):∀(l:List Pw) (p:Pw),l[vE t l]?=some p->aW p.1 t=0->
  jO t n l=if p.2+n=0 then l.take (vE t l)++l.drop (vE t l+1)else l.set (vE t l) (p.1,p.2+n)
 |[],p,h,_=>by simp at h
 |q::l,p,h,h0=>by
  rw[jO,vE]
  by_cases hc:aW q.1 t<0
  ·have h':l[vE t l]?=some p:=by
    rw[vE,if_pos hc]at h;simpa using h
   rw[if_pos hc,if_pos hc,Dx t n l p h' h0]
   split <;>simp
  ·have h':q=p:=by
    rw[vE,if_neg hc]at h;simpa using h
   subst h';rw[if_neg hc,if_neg hc,if_pos h0]
   split <;>simp
theorem R.TL{C:cW}(T:mD C.P){ops:Array Oper}{d:Nat}{ty:TypeId}{pos:String}{af:Array Edge}{r:List Oper}{O:Nat->PV}{L:List (Nat×PV)}{h:ab}{Q:St->Prop}{s t:TypeId}{x:Operand}{k k':IntKind}{ks:Kd}{n n':Int}
  (hx:cS L x=some (.int k n)) (hs:T.kd s=some ks) (ht:T.kd t=some (.int k')) (hw:k'.wrap n=n') (kk:ah C ops r ⟨al ((d,.int k' n')::L) O,h⟩ Q):ah C ops (⟨some d,.convert s t x,ty,pos,af,none⟩::r) ⟨al L O,h⟩ Q:=by
 obtain⟨u,hu,_⟩:=m' (T.cY _ _ hs);exact ah.fo (λrun=>by simp[au,aC,an hx,xE,hu,oP (T.cY _ _ ht),hw]) kk
theorem R.aak{C:cW}{ops:Array Oper}{d:Nat}{ty:TypeId}{pos:String}{af:Array Edge}{r:List Oper}{O:Nat->PV}{L:List (Nat×PV)}{h:ab}{Q:St->Prop}{t yt:TypeId}{x y:Operand}{k k':IntKind}{n n':Int}
  (hx:cS L x=some (.int k n)) (hy:cS L y=some (.int k' 1)) (hb:Nat.ble 1 k.bits=true) (hn:n / 2=n') (kk:ah C ops r ⟨al ((d,.int k n')::L) O,h⟩ Q):ah C ops (⟨some d,.binOp .shr t x y yt,ty,pos,af,none⟩::r) ⟨al L O,h⟩ Q:=by
 refine ah.fo (λrun=>?_) kk;have eg:=adb hb;have e1:min (1:Int).toNat k.bits=1:=by simp;omega
 simp only[au,aC,an hx,an hy,fL,qJ];rw[if_neg (by decide)];simp only[e1];rw[<-hn,Int.fdiv_eq_ediv_of_nonneg _ (by decide)]
 rfl
theorem TM{n:Int}(h1:0<=n)(h2:n<=9223372036854775807):IntKind.u64.wrap n=n:=by
 have:IntKind.u64.wrap n=n % 18446744073709551616:=by simp[IntKind.wrap,IntKind.bits,IntKind.signed]
 rw[this];omega
theorem MY(p:Pw)(t:Tm)(hp:ax p.1<1000000000)(ht:ax t<1000000000):aI C 350 [xH p,enc t] (.int .i64 (aW p.1 t)):=by
 have h1:=eY p.1 t hp ht;obtain⟨⟨k,s,o,l⟩,n⟩:=p;obtain⟨k',s',o',l'⟩:=t;refine aI.of (ay.dM Tryz.func350 rfl ?_);simp only[oN,bh]at h1 ⊢;refine wB ?_;refine R.call rfl rfl (aj.pure rfl (by simp[ao,aU]) (by simpa[aQ,cj,aZ]using h1) ?_);refine wB ?_;exact⟨_,rfl,rfl⟩
theorem QM(l:List Pw)(t:Tm)(hs:B9 l)(hl:Sm l)(ht:ax t<1000000000):
  aI C 349 [.aa false (bq l),enc t,.fn 350 []] (.cA [.int .i64 (vE t l),.bool (QL t l)]):=by
 obtain⟨xe,dp⟩:=hl;have FW:∀p∈l,aI C 350 [xH p,enc t] (.int .i64 (aW p.1 t)):=λp hp=>MY p t (xe p hp) ht
 have hle:=Gf t l;have Qm:=IH t l hs;have pU:QL t l=match l[vE t l]? with |some p=>decide (aW p.1 t=0)|none=>false:=rfl
 obtain⟨tk,ts,to,tl⟩:=t;rw[bh];simp only[bh]at FW;generalize QL (.mk tk ts to tl) l=FD at pU ⊢;generalize vE (.mk tk ts to tl) l=LB at hle Qm pU ⊢;refine aI.of (ay.dM Tryz.func349 rfl ?_);have cz:=fw l;refine wB ?_;refine Ev.loop (I:=λk' st=>∃(i j:Nat) (O':Nat->PV),st=⟨al [(0,.aa false (bq l)),(2,.fn 350 []),(4,.ptr 0 0 0 0),(8,.int .i64 (bq l).length),(9,.int .i64 i),(10,.int .i64 j)] O',[⟨.m,0,4,[.agg [.int .i64 tk,.str ts,.int .i64 to,.aa false (ae tl)]]⟩]⟩/\k'=j - i/\i<=LB/\LB<=j/\j<=l.length) l.length ?_ ?_;exact⟨0,(bq l).length,_,St.aT ⟨rfl,rfl,rfl,rfl,rfl,rfl,trivial⟩,by omega,by omega,by omega,by omega⟩
 ·rintro k' _ ⟨i,j,O',rfl,hk,i1,i2,i3⟩
  (repeat' (first |refine ah.nil ?_ |(apply R.move;exact rfl)|(apply R.cmp;exact rfl;exact rfl;exact rfl;all_goals intro hc)|(apply R.arith;exact rfl;exact rfl;exact rfl;exact(mK (by omega) (by omega)))|refine Ev.seq ?_ |refine Ev.region ?_ |refine Ev.mL ?_ |refine bg.nil ?_ |(apply D.move;exact rfl)|(apply D.assign;exact rfl)|(apply D.xJ;exact rfl;exact rfl;exact rfl;exact rfl)|(apply D.oQ;exact rfl;exact rfl;exact rfl)|(apply D.je;exact rfl;exact rfl)|(apply D.cmp;exact rfl;exact rfl;exact rfl;all_goals intro hc)|(apply Ev.fR;exact rfl)|refine Ev.ret ?_ |refine Ev.skip ?_ |refine Ev.exit ?_ |refine Ev.block ?_ |refine aD.normal ?_ |refine aD.exit ?_ |refine az.IJ ?_ |refine aL.exit ?_ |(apply aJ.ret;exact rfl)|fail))
  ·refine R.TL T6 rfl rfl rfl (TM (by omega) (by omega)) ?_;refine R.aak rfl rfl rfl rfl ?_;refine R.TL T6 rfl rfl rfl (mK (by omega) (by omega)) ?_;obtain⟨m,hm⟩:∃m:Nat,((i:Int)+j) / 2=m:=⟨(i+j) / 2,by omega⟩;rw[hm];refine wB ?_;obtain⟨k1,s1,o1,l1,n1,ek,cC,hd,lu,wy⟩:=sN (l:=l) (i:=m) (by omega);have rU:=FW _ ek;have QN:=Qm m _ wy;simp only[oN]at rU QN;refine D.iq T6 rfl rfl rfl rfl rfl cC rfl rfl ?_;refine wB ?_;refine D.nA rfl rfl rfl rfl rfl rfl rfl (by simpa[aQ,cj,aZ]using rU) ?_;refine wE (λhc=>?_) λhc=>?_;exact⟨j - (m+1),by omega,m+1,j,_,St.aT ⟨rfl,rfl,rfl,rfl,rfl,rfl,trivial⟩,rfl,by omega,by omega,by omega⟩;exact⟨m - i,by omega,i,m,_,St.aT ⟨rfl,rfl,rfl,rfl,rfl,rfl,trivial⟩,rfl,by omega,by omega,by omega⟩
  ·have hi:i=LB:=by omega
   subst hi
   ·obtain⟨k1,s1,o1,l1,n1,ek,cC,hd,lu,wy⟩:=sN (l:=l) (i:=i) (by omega);have rU:=FW _ ek;rw[wy]at pU;simp only[oN]at rU;refine D.iq T6 rfl rfl rfl rfl rfl cC rfl rfl ?_;refine wB ?_;refine D.nA rfl rfl rfl rfl rfl rfl rfl (by simpa[aQ,cj,aZ]using rU) ?_;refine wE (λhc=>?_) λhc=>?_
    ·refine⟨_,rfl,?_⟩;rw[pU];simp only[aR,cj,aQ];rw[decide_eq_true (by assumption)]
    ·refine⟨_,rfl,?_⟩;rw[pU];simp only[aR,cj,aQ];rw[decide_eq_false (by assumption)]
  ·have hi:i=LB:=by omega
   subst hi;refine⟨_,rfl,?_⟩;rw[pU,ach (by omega)]
   rfl
theorem oT(l:List Tm):((ae l).all λv=>decide ((cells v).length=4)&& (cells v).all bM)=true:=by
 rw[abX]
 intro v hv
 rw[dm]at hv;obtain⟨⟨k,s,o,l'⟩,_,rfl⟩:=aci.1 hv;rw[bh];rfl
theorem x4(k s o l)(hb:ax (.mk k s o l)<1000000000)(ih:∀t∈l,aI C 252 [enc t] (enc t)):aI C 252 [enc (.mk k s o l)] (enc (.mk k s o l)):=by
 refine aI.of (ay.dM Tryz.func252 rfl ?_);rw[bh];have cz:=ai l;have hlen:=aY l;simp only[ax]at hb;refine wB ?_;refine ah.heap (h':=[⟨.m,0,4,[.agg [.int .i64 k,.str s,.int .i64 o,.aa false (ae l)]]⟩,⟨.m,0,4,[.agg [.int .i64 0,.str ByteArray.empty,.int .i64 0,.aa true []]]⟩]) rfl ?_;rcases hl:l with _ |⟨t0,l0⟩
 ·refine R.call rfl rfl (aj.cV (rv:=.aa true []) (h':=[⟨.m,0,4,[.agg [.int .i64 k,.str s,.int .i64 o,.aa false (ae [])]]⟩,⟨.m,0,4,[.agg [.int .i64 0,.str ByteArray.empty,.int .i64 0,.aa true []]]⟩]) rfl rfl ?_);refine wB ?_;refine R.jX T6 (n:=0) (o:=⟨.m,0,4,[.agg [.int .i64 k,.str s,.int .i64 o,.aa false (ae [])]]⟩) (i:=0) (e:=.agg [.int .i64 k,.str s,.int .i64 o,.aa false (ae [])]) rfl rfl rfl rfl rfl rfl rfl rfl (abZ 4) ?_;refine ah.heap (h':=[⟨.m,0,4,[.agg [.int .i64 k,.str s,.int .i64 o,.aa true []]]⟩,⟨.m,0,4,[.agg [.int .i64 0,.str ByteArray.empty,.int .i64 0,.aa true []]]⟩]) rfl ?_;refine wB ?_;refine Ev.loop (I:=λk' st=>∃O',st=⟨al [(1,.ptr 0 0 0 0),(2,.ptr 1 0 0 0),(11,.int .i64 0),(12,.int .i64 0)] O',[⟨.m,0,4,[.agg [.int .i64 k,.str s,.int .i64 o,.aa true []]]⟩,⟨.m,0,4,[.agg [.int .i64 0,.str ByteArray.empty,.int .i64 0,.aa true []]]⟩]⟩) 0 ⟨_,St.aT ⟨rfl,rfl,rfl,rfl,trivial⟩⟩ ?_;rintro _ _ ⟨O',rfl⟩;refine wF λhc=>?_;refine R.jX T6 (n:=0) (o:=⟨.m,0,4,[.agg [.int .i64 0,.str ByteArray.empty,.int .i64 0,.aa true []]]⟩) (i:=0) (e:=.agg [.int .i64 0,.str ByteArray.empty,.int .i64 0,.aa true []]) rfl rfl rfl rfl rfl rfl rfl rfl (abZ 4) ?_;refine wB ?_;exact⟨_,rfl,rfl⟩
 ·rw[<-hl];refine R.call rfl rfl (aj.cV (rv:=.ak 2 0 0 (ae l).length) (h':=[⟨.m,0,4,[.agg [.int .i64 k,.str s,.int .i64 o,.aa false (ae l)]]⟩,⟨.m,0,4,[.agg [.int .i64 0,.str ByteArray.empty,.int .i64 0,.aa true []]]⟩,⟨.m,0,4,ae l⟩]) rfl ?_ ?_)
  ·show bE 4 [.aa false (ae l)] _=_;have bO:(ae l).isEmpty=false:=by rw[hl];rfl
   simp only[bE,bO,aca,if_false,newObj];rw[if_pos ⟨oT l,by omega⟩]
   rfl
  rw[cz];refine wB ?_;refine R.jX T6 (n:=0) (o:=⟨.m,0,4,[.agg [.int .i64 k,.str s,.int .i64 o,.aa false (ae l)]]⟩) (i:=0) (e:=.agg [.int .i64 k,.str s,.int .i64 o,.aa false (ae l)]) rfl rfl rfl rfl rfl rfl rfl rfl (abZ 4) ?_;refine ah.heap (h':=[⟨.m,0,4,[.agg [.int .i64 k,.str s,.int .i64 o,.ak 2 0 0 l.length]]⟩,⟨.m,0,4,[.agg [.int .i64 0,.str ByteArray.empty,.int .i64 0,.aa true []]]⟩,⟨.m,0,4,ae l⟩]) rfl ?_;refine wB ?_;refine R.Ag T6 (o:=⟨.m,0,4,ae l⟩) rfl rfl rfl (by show 0+l.length<=(ae l).length;omega) ?_;refine wB ?_;refine Ev.loop (I:=λk' st=>∃(i:Nat) (J:ab) (O':Nat->PV),st=⟨al [(1,.ptr 0 0 0 0),(2,.ptr 1 0 0 0),(10,.ak 2 0 0 l.length),(11,.int .i64 l.length),(12,.int .i64 i)] O',⟨.m,0,4,[.agg [.int .i64 k,.str s,.int .i64 o,.ak 2 0 0 l.length]]⟩::⟨.m,0,4,[.agg [.int .i64 0,.str ByteArray.empty,.int .i64 0,.aa true []]]⟩::⟨.m,0,4,ae l⟩::J⟩/\k'+i=l.length/\HV J) l.length ?_ ?_;exact⟨0,[],_,St.aT ⟨rfl,rfl,rfl,rfl,rfl,trivial⟩,rfl,HV.nil⟩
  ·rintro k' _ ⟨i,J,O',rfl,hk,hJ⟩;refine wE (λhc=>?_) λhc=>?_
   ·obtain⟨k1,s1,o1,l1,ek,cC,hd,lu,_⟩:=gI (l:=l) (i:=i) (by omega);have AX:=ih _ ek;rw[bh]at AX;refine R.rY T6 (o:=⟨.m,0,4,ae l⟩) rfl rfl rfl rfl rfl (by omega) (by show 0+l.length<=(ae l).length;omega) ?_;have rz:(ae l)[0+i]?=some (.agg [.int .i64 k1,.str s1,.int .i64 o1,.aa false (ae l1)]):=by rw[acf];exact cC
    refine R.pz T6 (cs:=[.int .i64 k1,.str s1,.int .i64 o1,.aa false (ae l1)]) rfl rfl rfl ?_ (by repeat constructor) ?_;simp[cT,getM,cC,cells];have DR:=hJ.db (HV.one (ep:=0) (n:=4) (es:=[.agg [.int .i64 k1,.str s1,.int .i64 o1,.aa false (ae l1)]]) rfl);have ee:aV ([⟨.m,0,4,[.agg [.int .i64 k,.str s,.int .i64 o,.ak 2 0 0 l.length]]⟩,⟨.m,0,4,[.agg [.int .i64 0,.str ByteArray.empty,.int .i64 0,.aa true []]]⟩,⟨.m,0,4,ae l⟩]++(J++[⟨.m,0,4,[.agg [.int .i64 k1,.str s1,.int .i64 o1,.aa false (ae l1)]]⟩]))=true:=Gs (by simp[bG,bu,aO,bm _ _ (fD l)]) DR;refine wB ?_;refine D.nA (by assumption) rfl rfl rfl rfl rfl rfl (by simpa[aQ,cj,aZ]using AX) ?_;refine D.rY T6 (o:=⟨.m,0,4,ae l⟩) (by assumption) rfl rfl rfl rfl rfl (by omega) (by show 0+l.length<=(ae l).length;omega) ?_;refine D.jX T6 (o:=⟨.m,0,4,ae l⟩) (j:=0+i) rfl rfl rfl rfl rfl rfl rz rfl rfl (abZ 4) ?_
    have eT:((⟨.m,0,4,[.agg [.int .i64 k,.str s,.int .i64 o,.ak 2 0 0 l.length]]⟩::⟨.m,0,4,[.agg [.int .i64 0,.str ByteArray.empty,.int .i64 0,.aa true []]]⟩::⟨.m,0,4,ae l⟩::J)++[⟨.m,0,4,[.agg [.int .i64 k1,.str s1,.int .i64 o1,.aa false (ae l1)]]⟩]:ab).set 2 {(⟨.m,0,4,ae l⟩:aw)with es:=(⟨.m,0,4,ae l⟩:aw).es.set (0+i) (fE 0 4 (.agg [.int .i64 k1,.str s1,.int .i64 o1,.aa false (ae l1)]) (.agg [.int .i64 k1,.str s1,.int .i64 o1,.aa false (ae l1)]))}=⟨.m,0,4,[.agg [.int .i64 k,.str s,.int .i64 o,.ak 2 0 0 l.length]]⟩::⟨.m,0,4,[.agg [.int .i64 0,.str ByteArray.empty,.int .i64 0,.aa true []]]⟩::⟨.m,0,4,ae l⟩::(J++[⟨.m,0,4,[.agg [.int .i64 k1,.str s1,.int .i64 o1,.aa false (ae l1)]]⟩]):=by
     have:(ae l).set (0+i) (.agg [.int .i64 k1,.str s1,.int .i64 o1,.aa false (ae l1)])=ae l:=by
      have cM:=ag rz;rw[ab1 cM]at rz;rw[<-abV rz];exact aem cM
     show⟨.m,0,4,[.agg [.int .i64 k,.str s,.int .i64 o,.ak 2 0 0 l.length]]⟩::⟨.m,0,4,[.agg [.int .i64 0,.str ByteArray.empty,.int .i64 0,.aa true []]]⟩::({(⟨.m,0,4,ae l⟩:aw)with es:=(ae l).set (0+i) (.agg [.int .i64 k1,.str s1,.int .i64 o1,.aa false (ae l1)])}:aw)::(J++[_])=_;rw[this]
    refine bg.heap eT ?_;refine wB ?_;exact⟨k' - 1,by omega,i+1,_,_,St.aT ⟨rfl,rfl,rfl,rfl,rfl,trivial⟩,by omega,DR⟩
   ·refine R.jX T6 (n:=0) (o:=⟨.m,0,4,[.agg [.int .i64 0,.str ByteArray.empty,.int .i64 0,.aa true []]]⟩) (i:=0) (e:=.agg [.int .i64 0,.str ByteArray.empty,.int .i64 0,.aa true []]) rfl rfl rfl rfl rfl rfl rfl rfl (abZ 4) ?_;refine ah.heap (h':=⟨.m,0,4,[.agg [.int .i64 k,.str s,.int .i64 o,.ak 2 0 0 l.length]]⟩::⟨.m,0,4,[.agg [.int .i64 k,.str s,.int .i64 o,.ak 2 0 0 l.length]]⟩::⟨.m,0,4,ae l⟩::J) rfl ?_;refine wB ?_;refine⟨.agg [.int .i64 k,.str s,.int .i64 o,.aa false (ae l)],?_,by simp[cj,aQ,aZ]⟩;have ht:(ae l).take l.length=ae l:=by rw[<-cz];exact ac2
    simp[rb,jP,cells,aR];simp[oJ,pD,getM,fD,aU,ht,cz]
theorem nL(t:Tm)(hb:ax t<1000000000):aI C 252 [enc t] (enc t):=by
 induction t using Tm.ind with
 |h k s o l ih=>exact x4 k s o l hb (λt ht=>ih t ht (by have:=bD ht;simp only[ax]at hb;omega))
theorem Et(l:List Pw):(bq l).all (kY 5)=true:=by
 rw[abX]
 intro v hv
 obtain⟨⟨⟨k,s,o,l'⟩,n⟩,_,rfl⟩:=aci.1 hv
 rfl
theorem K8(l:List Pw)(j:Nat)(p:Pw):(bq l).take j++[xH p]++(bq l).drop j=bq (l.take j++[p]++l.drop j):=by simp[bq]
theorem K9(l:List Pw)(j:Nat):(bq l).take j++(bq l).drop (j+1)=bq (l.take j++l.drop (j+1)):=by simp[bq]
theorem Kk(l:List Pw)(t:Tm)(n:Int)(H:ab)(v:PV)(hH:HV H)(ho:Out 5 H v (bq l))(hs:B9 l)(hl:Sm l)(ht:ax t<1000000000)(hB:Bd 1000000000 l)(hn: -1000000000<=n/\n<=1000000000):
  ay C 310 [v,xH (t,n)] H (λr h'=>LP H v 5 (bq (jO t n l)) r h'):=by
 have K':=QM l t hs hl ht;have ee:=nL t ht;have hle:=Gf t l;have zV:=II t n l;have Sc:=Dx t n l;have pU:QL t l=match l[vE t l]? with |some p=>decide (aW p.1 t=0)|none=>false:=rfl
 have cz:=fw l;have dp:=hl.2;obtain⟨k,s,o,tl⟩:=t;refine ay.dM Tryz.func310 rfl ?_;rw[oN];rw[bh]at K' ee;generalize hLB:vE (.mk k s o tl) l=LB at K' hle zV Sc pU;refine wB ?_;obtain⟨H1,lF⟩:∃x,x=H++[⟨.m,0,5,[.agg [.int .i64 k,.str s,.int .i64 o,.aa false (ae tl),.int .i64 n]]⟩]:=⟨_,rfl⟩;have v1:HV H1:=by rw[lF];exact hH.db (HV.one rfl)
 have b1:H1[H.length]?=some ⟨.m,0,5,[.agg [.int .i64 k,.str s,.int .i64 o,.aa false (ae tl),.int .i64 n]]⟩:=by rw[lF];simp
 have g1:H1.length=H.length+1:=by rw[lF];simp
 have p1:∀j,j<H.length->H1[j]?=H[j]?:=λj hj=>by rw[lF,abW hj]
 have o1:Out 5 H1 v (bq l):=by rw[lF];exact ho.db _
 have nv:∀ep n,v≠.ak H.length ep 0 n:=by
  rcases ho with⟨rfl,_⟩|⟨id,ep,rfl,e2⟩
  intro ep n hh;cases hh
  ·intro iC n' hh
   have:=ag e2
   cases hh;omega
 refine ah.heap lF.symm ?_;clear lF
 skip
 refine R.call rfl rfl (aj.out rfl o1 (oO l) (by simp[ao,aU]) (by simpa[aQ,cj,aZ,rS]using K') rfl ?_);have fin:∀{r:PV} {h':ab} {es:List PV},LP H1 v 5 es r h'->LP H v 5 es r h':=λ{r h' es} a=>⟨a.out,a.hv,by have:=a.len;omega,λj hj bO=>by rw[a.fr j (by omega) bO,p1 j hj],λj ep n hh=>(a.ref j ep n hh).elim .inl (λhh=>.inr (by omega))⟩
 cases hf:QL (.mk k s o tl) l
 ·rw[zV hf];refine wB ?_;refine D.nA v1.closed rfl rfl rfl rfl rfl rfl (by simpa[aQ,cj,aZ]using ee) ?_;refine wB ?_;refine D.buildSlice T6 v1.closed rfl rfl rfl rfl rfl (by decide) rfl rfl rfl rfl rfl ?_;obtain⟨rv,h',e1,e2⟩:=yG (full:=true) (e:=.agg [.int .i64 k,.str s,.int .i64 o,.aa false (ae tl),.int .i64 n]) (j:=LB) o1 v1 (by omega) (by omega) (Et l) rfl;refine D.call rfl rfl rfl (aj.cV rfl e1 ?_);refine wB ?_;rw[<-oN,K8]at e2;exact fin e2
 ·rw[hf]at pU
  obtain⟨p,hp,Dq⟩:∃p,l[LB]?=some p/\aW p.1 (.mk k s o tl)=0:=by
   cases hg:l[LB]? with
   |none=>rw[hg]at pU;cases pU
   |some p=>rw[hg]at pU;exact⟨p,rfl,of_decide_eq_true pU.symm⟩
  have cM:=ag hp;have ek:=acb hp;have QC:=hB _ ek;rw[Sc p hp Dq];obtain⟨⟨k1,s1,QE,l1⟩,n1⟩:=p;simp only at QC
  have cC:(bq l)[0+LB]?=some (.agg [.int .i64 k1,.str s1,.int .i64 QE,.aa false (ae l1),.int .i64 n1]):=by
   rw[acf,bq,ace,hp];rfl
  rcases o1 with⟨_,e1⟩|⟨id,ep,rfl,e1⟩;rw[e1]at cz;simp at cz;omega;have bZ:id≠H.length:=λhh=>nv ep (bq l).length (by rw[hh])
  have Zr:=ag e1;have Wy:=v1.closed;have iv:=v1.Uf Zr
  have hpc:cT H1 (.ptr id ep (0+LB) (0+4))=some [.int .i64 n1]:=by
   simp only[cT,bp e1 rfl (by simp),cC];rfl
  refine wB ?_;refine D.rY T6 (o:=⟨.m,ep,5,bq l⟩) Wy rfl rfl rfl (bp e1 rfl (by simp)) rfl (by omega) (by show 0+(bq l).length<=(bq l).length;omega) ?_;refine wB ?_;refine D.gH T6 Wy rfl iv rfl rfl hpc ?_;refine wB ?_;refine D.rY T6 (o:=⟨.m,ep,5,bq l⟩) Wy rfl rfl rfl (bp e1 rfl (by simp)) rfl (by omega) (by show 0+(bq l).length<=(bq l).length;omega) ?_;refine wB ?_;refine D.jX T6 (o:=⟨.m,ep,5,bq l⟩) (j:=0+LB) rfl rfl rfl rfl (bp e1 rfl (by simp)) rfl cC rfl rfl (abZ 5) ?_;obtain⟨H2,pE⟩:∃x,x=H1.set id ⟨.m,ep,5,bq (l.set LB (.mk k1 s1 QE l1,n1+n))⟩:=⟨_,rfl⟩
  have eT:H1.set id {(⟨.m,ep,5,bq l⟩:aw)with es:=(bq l).set (0+LB) (fE (0+4) 1 (.agg [.int .i64 k1,.str s1,.int .i64 QE,.aa false (ae l1),.int .i64 n1]) (.int .i64 (n1+n)))}=H2:=by
   rw[pE,acf]
   congr 2
   unfold bq;rw[List.map_set]
   rfl
  refine bg.heap eT ?_;have e2:H2[id]?=some ⟨.m,ep,5,bq (l.set LB (.mk k1 s1 QE l1,n1+n))⟩:=by rw[pE];exact abY Zr
  have v2:HV H2:=by rw[pE];exact v1.set id (by simp) (oO _)
  have g2:H2.length=H.length+1:=by rw[pE];simp[g1]
  have p2:∀j,j≠id->j<H1.length->H2[j]?=H1[j]?:=λj hj _=>by rw[pE];exact ab0 (acS hj)
  have oX:(bq (l.set LB (.mk k1 s1 QE l1,n1+n))).length=(bq l).length:=by rw[fw,fw];simp
  have nh:(bq (l.set LB (.mk k1 s1 QE l1,n1+n)))[0+LB]?=some (.agg [.int .i64 k1,.str s1,.int .i64 QE,.aa false (ae l1),.int .i64 (n1+n)]):=by
   rw[acf,bq,ace,abY cM];rfl
  have aaS:cT H2 (.ptr id ep (0+LB) (0+4))=some [.int .i64 (n1+n)]:=by
   simp only[cT,bp e2 rfl (by simp),nh];rfl
  clear eT pE;refine wB ?_;refine R.rY T6 (o:=⟨.m,ep,5,bq (l.set LB (.mk k1 s1 QE l1,n1+n))⟩) rfl rfl rfl (bp e2 rfl (by simp)) rfl (by omega) (by show 0+(bq l).length<=(bq _).length;omega) ?_;refine wB ?_;refine R.gH T6 rfl rfl rfl aaS ?_;refine wE (λhc=>?_) λhc=>?_
  ·rw[if_pos (by assumption)];obtain⟨rv,h',e3,e4⟩:=yH (j:=LB) e2 v2 (by rw[oX];omega) (by rw[oX];omega) (Et _);rw[oX]at e3 e4;refine R.call rfl rfl (aj.cV rfl e3 ?_);refine wB ?_
   have aaT:bq ((l.set LB (.mk k1 s1 QE l1,n1+n)).take LB++(l.set LB (.mk k1 s1 QE l1,n1+n)).drop (LB+1))=bq (l.take LB++l.drop (LB+1)):=by
    rw[List.take_set_of_le (abZ LB),List.drop_set_of_lt (by omega)]
   rw[K9,aaT]at e4;exact fin ⟨e4.out,e4.hv,by have:=e4.len;omega,λj hj bO=>by rw[e4.fr j (by omega) bO,p2 j (λhh=>bO ep (bq l).length (by rw[hh])) hj],λj ep n hh=>(e4.ref j ep n hh).elim .inl (λhh=>.inr (by omega))⟩
  ·rw[if_neg (by assumption)];refine fin ⟨.inr ⟨id,ep,by rw[oX];rfl,e2⟩,v2,by omega,λj hj bO=>p2 j (λhh=>bO ep (bq l).length (by rw[hh])) hj,λj iC n' hh=>.inl ⟨iC,n',hh⟩⟩
structure CI(a:List Pw)(N:Int):Prop where
 oB:B9 a
 nz:Nz a
 sm:∀p∈a,ax p.1<1000000000
 len:(a.length:Int)+N<=10000000
 bd:∃B:Int,0<=B/\B+N<=10000000/\Bd B a
theorem CI.Sm{a:List Pw}{N:Int}(c:CI a N)(h:0<=N):Sm a:=⟨c.sm,by have:=c.len;omega⟩
theorem CI.Bd{a:List Pw}{N:Int}(c:CI a N)(h:0<=N):Bd 1000000000 a:=by
 obtain⟨B,h1,h2,h3⟩:=c.bd
 intro p hp
 have:=h3 p hp;omega
theorem CI.le{a:List Pw}{N M:Int}(c:CI a N)(h:M<=N):CI a M:=by
 obtain⟨B,h1,h2,h3⟩:=c.bd;exact⟨c.oB,c.nz,c.sm,by have:=c.len;omega,B,h1,by omega,h3⟩
theorem CI.gF{a:List Pw}{N:Int}{t:Tm}{n:Int}(c:CI a (size t+N))(hb:ax t<1000000000)(hn:n=1\/n=-1):CI (gF a t n) N:=by
 obtain⟨B,h1,h2,h3⟩:=c.bd;obtain⟨g1,g2,_⟩:=JH t a n c.oB c.nz (by omega);have hs:=gU t;refine⟨g1,g2,?_,?_,B+size t,by omega,by omega,JJ t a n B (by omega) (by omega) h1 h3⟩
 ·refine Dv (Q:=λt=>ax t<1000000000) (P:=λt=>ax t<1000000000) (λ_ _ _ _ h _=>h) ?_ t a n hb c.sm
  intro k s o l h u hu
  have:=bD hu;simp only[ax]at h;omega
 ·have:=zc t a n;have:=c.len;omega
theorem CI.nil:CI [] 10000000:=⟨by simp[B9],(λp hp=>by cases hp),(λp hp=>by cases hp),by simp,0,by omega,by omega,(λp hp=>by cases hp)⟩
def Jt(t:Tm):List Pw×Int:=if valid t≠0 then([],valid t)else if arity t=false then([],6)else if 200<(gF [] t 1).length then([],3)else(gF [] t 1,0)
structure zU(H:ab)(n d:Int):Prop where
 f1:H[1]?=some ⟨.m,0,1,[.int .i64 n]⟩
 f2:H[2]?=some ⟨.m,0,1,[.int .i64 d]⟩
 hv:HV H
 len:3<=H.length
def CkP(H:ab)(t:Tm)(xj n d:Int)(r:PV)(h':ab):Prop:=r=.int .i64 (nodes t)/\∃n' d',zU h' n' d'/\H.length<=h'.length/\(∀j,j≠1->j≠2->j<H.length->h'[j]?=H[j]?)/\(nodes t=0->n'=n+size t/\d'=max d (xj - 1+depth t))
theorem zU.db{H:ab}{n d:Int}(c:zU H n d){K:ab}(hK:HV K):zU (H++K) n d:=by
 have:=c.len;exact⟨by rw[abW (by omega)];exact c.f1,by rw[abW (by omega)];exact c.f2,c.hv.db hK,by simp;omega⟩
theorem zU.aap{H:ab}{n d:Int}(c:zU H n d)(n':Int):zU (H.set 1 ⟨.m,0,1,[.int .i64 n']⟩) n' d:=by
 have:=c.len;exact⟨abY (by omega),by rw[ab0 (by omega)];exact c.f2,c.hv.set 1 (by simp) rfl,by simp;omega⟩
theorem zU.aaq{H:ab}{n d:Int}(c:zU H n d)(d':Int):zU (H.set 2 ⟨.m,0,1,[.int .i64 d']⟩) n d':=by
 have:=c.len;exact⟨by rw[ab0 (by omega)];exact c.f1,abY (by omega),c.hv.set 2 (by simp) rfl,by simp;omega⟩
theorem zU.take{H:ab}{n d:Int}(c:zU H n d)(m:Nat)(hm:3<=m):zU (H.take m) n d:=by
 have:=c.len;exact⟨by rw[acG (by omega)];exact c.f1,by rw[acG (by omega)];exact c.f2,λo ho=>c.hv o (acI ho),by simp;omega⟩
theorem Nj(k s o l)(hb:ax (.mk k s o l)<1000000000)
  (ih:∀t∈l,∀(H:ab) (xj n d:Int),zU H n d->0<=n->n+size t<=1000000000->0<=d->d<=1000000000->0<=xj->xj+depth t<=1000000000->ay C 152 [enc t,.int .i64 xj,.ptr 1 0 0 0,.ptr 2 0 0 0] H (CkP H t xj n d))
  (H:ab) (xj n d:Int) (hH:zU H n d) (n0:0<=n) (n1:n+size (.mk k s o l)<=1000000000) (d0:0<=d) (d1:d<=1000000000) (l0:0<=xj) (l1:xj+depth (.mk k s o l)<=1000000000):
  ay C 152 [enc (.mk k s o l),.int .i64 xj,.ptr 1 0 0 0,.ptr 2 0 0 0] H (CkP H (.mk k s o l) xj n d):=by
 refine ay.dM Tryz.func152 rfl ?_;rw[bh];have hlen:=aY l;have cz:=ai l;have gR:=cX l;have hds:=gW l;have IS:s.size<1000000000:=by simp only[ax]at hb;omega
 have DJ:br l<1000000000:=by simp only[ax]at hb;omega
 simp only[size]at n1;simp only[depth]at l1;have hHl:=hH.len;refine wB ?_;obtain⟨H1,lF⟩:∃x,x=H++[⟨.m,0,4,[.agg [.int .i64 k,.str s,.int .i64 o,.aa false (ae l)]]⟩]:=⟨_,rfl⟩;have c1:zU H1 n d:=by rw[lF];exact hH.db (HV.one rfl)
 have b1:H1[H.length]?=some ⟨.m,0,4,[.agg [.int .i64 k,.str s,.int .i64 o,.aa false (ae l)]]⟩:=by rw[lF];simp
 have g1:H1.length=H.length+1:=by rw[lF];simp
 have p1:∀j,j<H.length->H1[j]?=H[j]?:=λj hj=>by rw[lF,abW hj]
 refine ah.heap lF.symm ?_;clear lF;have u1:=c1.f1;have u2:=c1.f2;refine wB ?_;refine R.jX T6 (n:=0) (o:=⟨.m,0,1,[.int .i64 n]⟩) (i:=0) (e:=.int .i64 n) rfl rfl rfl (bp u1 rfl (by simp)) rfl rfl rfl rfl (abZ 1) ?_;obtain⟨H2,pE⟩:∃x,x=H1.set 1 ⟨.m,0,1,[.int .i64 (n+1)]⟩:=⟨_,rfl⟩;have c2:zU H2 (n+1) d:=by rw[pE];exact c1.aap _
 have b2:H2[H.length]?=some ⟨.m,0,4,[.agg [.int .i64 k,.str s,.int .i64 o,.aa false (ae l)]]⟩:=by rw[pE,ab0 (by omega)];exact b1
 have g2:H2.length=H.length+1:=by rw[pE];simp[g1]
 have p2:∀j,j≠1->j<H.length->H2[j]?=H[j]?:=λj h1 hj=>by rw[pE,ab0 (by omega)];exact p1 j hj
 refine ah.heap pE.symm ?_;clear pE c1 b1 g1 p1 u1 u2;have u1:=c2.f1;have u2:=c2.f2;refine wB ?_;refine R.jX T6 (n:=0) (o:=⟨.m,0,1,[.int .i64 d]⟩) (i:=0) (e:=.int .i64 d) rfl rfl rfl (bp u2 rfl (by simp)) rfl rfl rfl rfl (abZ 1) ?_;obtain⟨H3,U0⟩:∃x,x=H2.set 2 ⟨.m,0,1,[.int .i64 (max d xj)]⟩:=⟨_,rfl⟩;have c3:zU H3 (n+1) (max d xj):=by rw[U0];exact c2.aaq _
 have b3:H3[H.length]?=some ⟨.m,0,4,[.agg [.int .i64 k,.str s,.int .i64 o,.aa false (ae l)]]⟩:=by rw[U0,ab0 (by omega)];exact b2
 have g3:H3.length=H.length+1:=by rw[U0];simp[g2]
 have p3:∀j,j≠1->j≠2->j<H.length->H3[j]?=H[j]?:=λj h1 h2 hj=>by rw[U0,ab0 (by omega)];exact p2 j h1 hj
 refine ah.heap U0.symm ?_;clear U0 c2 b2 g2 p2 u1 u2
 have bad:∀e:Int,node (.mk k s o l)=e->e≠0->CkP H (.mk k s o l) xj n d (.int .i64 e) H3:=λe h1 h2=>by
  have:nodes (.mk k s o l)=e:=by rw[nodes,if_pos (by rw[h1];exact h2),h1]
  exact⟨by rw[this],_,_,c3,by omega,p3,λh=>absurd (this▸h) h2⟩
 (repeat' (first |refine ah.nil ?_ |(apply R.xJ;exact rfl;exact rfl;exact rfl)|(apply R.oQ;exact rfl;exact rfl;exact rfl)|(apply R.move;exact rfl)|(apply R.assign;exact rfl)|(apply R.jg;exact rfl;exact rfl)|(apply R.je;exact rfl;exact rfl)|(apply R.fieldAddr T6;exact rfl;exact rfl;exact rfl;exact rfl)|(apply R.cmp;exact rfl;exact rfl;exact rfl;all_goals intro hc;all_goals(try(exfalso;omega)))|(apply R.rX T6;exact rfl;exact rfl)|(apply R.rZ T6;exact rfl;exact rfl;exact rfl;exact(by assumption);exact rfl)|refine Ev.seq ?_ |refine Ev.region ?_ |(apply Ev.fR;exact rfl)|refine Ev.ret ?_ |refine Ev.skip ?_ |refine Ev.block ?_ |refine aD.normal ?_ |refine aD.ret ?_ |refine az.normal ?_ |refine az.ret ?_ |(apply aJ.ret;exact rfl)|fail))
 all_goals try(refine bad 1 ?_ (by decide);rw[node,if_pos (by omega)])
 all_goals(refine R.call rfl rfl (aj.pure rfl rfl (Gj s IS) ?_);cases hN:dZ s <;>(repeat' (first |refine ah.nil ?_ |(apply R.move;exact rfl)|(apply R.assign;exact rfl)|(apply R.fieldAddr T6;exact rfl;exact rfl;exact rfl;exact rfl)|(apply R.cmp;exact rfl;exact rfl;exact rfl;all_goals intro hc;all_goals(try(exfalso;omega)))|(apply R.not;exact rfl;exact rfl)|(apply R.rX T6;exact rfl;exact rfl)|(apply R.rZ T6;exact rfl;exact rfl;exact rfl;exact(by assumption);exact rfl)|refine Ev.seq ?_ |refine Ev.region ?_ |(apply Ev.fR;exact rfl)|refine Ev.ret ?_ |refine Ev.skip ?_ |refine Ev.block ?_ |refine aD.normal ?_ |refine aD.ret ?_ |(apply aJ.ret;exact rfl)|fail)))
 all_goals try(refine bad 2 ?_ (by decide);rw[node,if_neg (by omega),if_pos hN])
 all_goals try(refine bad 3 ?_ (by decide);rw[node,if_neg (by omega),if_neg (by rw[hN];simp),if_pos (by omega)])
 all_goals(
  have zV:node (.mk k s o l)=0:=by rw[node,if_neg (by omega),if_neg (by rw[hN];simp),if_neg (by omega)]
  have h0:nodes (.mk k s o l)=gy l:=by rw[nodes,if_neg (by rw[zV];simp)]
  clear bad hc
  refine Ev.loop (I:=λk' st=>∃(i:Nat) (Hc:ab) (nc dc:Int) (O':Nat->PV),st=⟨al [(1,.int .i64 xj),(2,.ptr 1 0 0 0),(3,.ptr 2 0 0 0),(4,.ptr H.length 0 0 0),(57,.aa false (ae l)),(58,.int .i64 (ae l).length),(59,.int .i64 i)] O',Hc⟩/\k'+i=l.length/\
   zU Hc nc dc/\Hc[H.length]?=some ⟨.m,0,4,[.agg [.int .i64 k,.str s,.int .i64 o,.aa false (ae l)]]⟩/\H.length<Hc.length/\(∀j,j≠1->j≠2->j<H.length->Hc[j]?=H[j]?)/\0<=nc/\nc+dA (l.drop i)=n+1+dA l/\xj<=dc/\dc<=1000000000/\max dc (xj+fG (l.drop i))=max d (xj+fG l)/\gy l=gy (l.drop i)) l.length ?_ ?_
  exact⟨0,H3,_,_,_,St.aT ⟨rfl,rfl,rfl,rfl,rfl,rfl,rfl,trivial⟩,rfl,c3,b3,by omega,p3,by omega,rfl,by omega,by omega,by simp only[ac3];omega,rfl⟩
  ·clear c3 b3 g3 p3;rintro k' _ ⟨i,Hc,nc,dc,O',rfl,hk,c4,b4,g4,p4,m0,m1,m2,m3,m4,eg⟩;refine wE (λhc=>?_) λhc=>?_
   ·obtain⟨k1,s1,o1,l1',ek,cC,hd,lu,_⟩:=gI hc;refine R.iq T6 rfl rfl rfl rfl cC rfl rfl ?_;have AW:=cX (l.drop (i+1));have abC:=gW (l.drop (i+1));have hdm:=rT _ ek;have TU:=gU (.mk k1 s1 o1 l1');have FX:=oU (.mk k1 s1 o1 l1');rw[hd,dA]at m1;rw[hd,fG]at m4;rw[hd,gy]at eg;refine wB ?_;obtain⟨H5,Yw⟩:∃x,x=Hc++[⟨.m,0,4,[.agg [.int .i64 k1,.str s1,.int .i64 o1,.aa false (ae l1')]]⟩]:=⟨_,rfl⟩;have c5:zU H5 nc dc:=by rw[Yw];exact c4.db (HV.one rfl)
    have b5:H5[H.length]?=some ⟨.m,0,4,[.agg [.int .i64 k,.str s,.int .i64 o,.aa false (ae l)]]⟩:=by rw[Yw,abW (by omega)];exact b4
    have g5:H5.length=Hc.length+1:=by rw[Yw];simp
    have p5:∀j,j≠1->j≠2->j<H.length->H5[j]?=H[j]?:=λj h1 h2 hj=>by rw[Yw,abW (by omega)];exact p4 j h1 h2 hj
    have AX:=ih _ ek H5 (xj+1) nc dc c5 m0 (by omega) (by omega) m3 (by omega) (by omega);rw[bh]at AX;refine R.call rfl rfl (aj.sT rfl Yw.symm rfl rfl AX ?_);rintro r h' ⟨rfl,n',d',c6,g6,p6,e6⟩;refine⟨c6.hv,λ_=>?_,λhf=>Bool.noConfusion hf⟩;have c7:=c6.take H5.length (by omega);have b7:(h'.take H5.length)[H.length]?=some ⟨.m,0,4,[.agg [.int .i64 k,.str s,.int .i64 o,.aa false (ae l)]]⟩:=by rw[acG (by omega),p6 _ (by omega) (by omega) (by omega)];exact b5
    have g7:(h'.take H5.length).length=H5.length:=by simp;omega
    have p7:∀j,j≠1->j≠2->j<H.length->(h'.take H5.length)[j]?=H[j]?:=λj h1 h2 hj=>by rw[acG (by omega),p6 j h1 h2 (by omega)];exact p5 j h1 h2 hj
    generalize h'.take H5.length=H7 at c7 b7 g7 p7 ⊢;clear c6 p6;refine wE (λhc=>?_) λhc=>?_
    ·have bO:=hc;rw[if_pos bO]at eg;exact⟨by rw[h0,eg];rfl,_,_,c7,by omega,p7,λh=>absurd (by rw[<-eg,<-h0];exact h) bO⟩
    ·rw[if_neg (by assumption)]at eg;obtain⟨e7,e8⟩:=e6 (by omega);exact⟨k' - 1,by omega,i+1,H7,n',d',_,St.aT ⟨rfl,rfl,rfl,rfl,rfl,rfl,rfl,trivial⟩,by omega,c7,b7,by omega,p7,by omega,by omega,by omega,by omega,by omega,eg⟩
   ·rw[kJ hc]at eg m1 m4;simp only[dA,fG,gy]at eg m1 m4;refine⟨by rw[h0,eg];rfl,_,_,c4,by omega,p4,λ_=>⟨?_,?_⟩⟩;simp only[size];omega;simp only[depth];omega)
theorem Kb(t:Tm)(hb:ax t<1000000000):∀(H:ab) (xj n d:Int),zU H n d->0<=n->n+size t<=1000000000->0<=d->d<=1000000000->0<=xj->xj+depth t<=1000000000->ay C 152 [enc t,.int .i64 xj,.ptr 1 0 0 0,.ptr 2 0 0 0] H (CkP H t xj n d):=by
 induction t using Tm.ind with
 |h k s o l ih=>exact Nj k s o l hb (λt ht=>ih t ht (by have:=bD ht;simp only[ax]at hb;omega))
theorem fU(t:Tm)(hb:ax t<100000000):aI C 98 [enc t] (.int .i64 (valid t)):=by
 have hck:=Kb t (by omega);have gR:=gU t;have hdp:=oU t;obtain⟨k,s,o,l⟩:=t;refine aI.of (ay.dM Tryz.func98 rfl ?_);rw[bh]at hck ⊢;refine wB ?_;refine R.jX T6 (n:=0) (o:=⟨.m,0,1,[.int .i64 0]⟩) (i:=0) (e:=.int .i64 0) rfl rfl rfl rfl rfl rfl rfl rfl (abZ 1) ?_
 skip
 refine R.jX T6 (n:=0) (o:=⟨.m,0,1,[.int .i64 0]⟩) (i:=0) (e:=.int .i64 0) rfl rfl rfl rfl rfl rfl rfl rfl (abZ 1) ?_;refine ah.heap (h':=[⟨.m,0,4,[.agg [.int .i64 k,.str s,.int .i64 o,.aa false (ae l)]]⟩,⟨.m,0,1,[.int .i64 0]⟩,⟨.m,0,1,[.int .i64 0]⟩]) rfl ?_;refine wB ?_
 have c0:zU [⟨.m,0,4,[.agg [.int .i64 k,.str s,.int .i64 o,.aa false (ae l)]]⟩,⟨.m,0,1,[.int .i64 0]⟩,⟨.m,0,1,[.int .i64 0]⟩] 0 0:=⟨rfl,rfl,λo ho=>by
  simp at ho;rcases ho with rfl |rfl <;>exact⟨by simp,rfl⟩,by simp⟩
 refine R.call rfl rfl (aj.sT rfl rfl rfl rfl (hck _ 1 0 0 c0 (by omega) (by omega) (by omega) (by omega) (by omega) (by omega)) ?_);rintro r h' ⟨rfl,n',d',c6,g6,p6,e6⟩;refine⟨c6.hv,λ_=>?_,λhf=>Bool.noConfusion hf⟩;have c7:=c6.take 3 (abZ 3);refine ah.heap (h':=h'.take 3) rfl ?_;generalize h'.take 3=H7 at c7 ⊢;have u1:=c7.f1;have u2:=c7.f2;clear c6 p6 g6 hck;have hv:nodes (.mk k s o l)≠0->valid (.mk k s o l)=nodes (.mk k s o l):=λh=>by rw[valid,if_pos h]
 have zR:nodes (.mk k s o l)=0->valid (.mk k s o l)=if 400<size (.mk k s o l)\/40<depth (.mk k s o l)then 3 else 0:=λh=>by rw[valid,if_neg (by omega)]
 (repeat' (first |refine ah.nil ?_ |(apply R.xJ;exact rfl;exact rfl;exact rfl)|(apply R.oQ;exact rfl;exact rfl;exact rfl)|(apply R.move;exact rfl)|(apply R.assign;exact rfl)|(apply R.jg;exact rfl;exact rfl)|(apply R.je;exact rfl;exact rfl)|(apply R.cmp;exact rfl;exact rfl;exact rfl;all_goals intro hc)|(apply R.rZ T6;exact rfl;exact rfl;exact rfl;exact(by assumption);exact rfl)|refine Ev.seq ?_ |refine Ev.region ?_ |(apply Ev.fR;exact rfl)|refine Ev.ret ?_ |refine Ev.skip ?_ |refine aD.normal ?_ |refine aD.ret ?_ |(apply aJ.ret;exact rfl)|fail))
 exact⟨_,rfl,by rw[hv (by assumption)];rfl⟩
 ·have h0:nodes (.mk k s o l)=0:=by omega
  obtain⟨e7,e8⟩:=e6 h0;exact⟨_,rfl,by rw[zR h0,if_pos (by omega)];rfl⟩
 ·have h0:nodes (.mk k s o l)=0:=by omega
  obtain⟨e7,e8⟩:=e6 h0;exact⟨_,rfl,by rw[zR h0,if_pos (by omega)];rfl⟩
 ·have h0:nodes (.mk k s o l)=0:=by omega
  obtain⟨e7,e8⟩:=e6 h0;exact⟨_,rfl,by rw[zR h0,if_neg (by omega)];rfl⟩
theorem LP.take{H:ab}{v:PV}{sz:Nat}{es:List PV}{r:PV}{h':ab}(a:LP H v sz es r h'){N:Nat}(hN:H.length<=N)(hr:cN N r=true):LP H v sz es r (h'.take N):=by
 refine⟨?_,a.hv.take N,by have:=a.len;simp;omega,λj hj bO=>by rw[acG (by omega)];exact a.fr j hj bO,a.ref⟩;rcases a.out with⟨rfl,e⟩|⟨id,ep,rfl,e⟩;exact .inl ⟨rfl,e⟩
 ·have:id<N:=by simpa[cN,dU]using hr
  exact .inr ⟨id,ep,rfl,by rw[acG this];exact e⟩
theorem LP.start{H fo:ab}{v:PV}{sz:Nat}{es:List PV}(o:Out sz H v es)(hH:HV H)(hX:HV fo):LP H v sz es v (H++fo):=
 ⟨o.db fo,hH.db hX,by simp,λj hj _=>abW hj,λj ep n hh=>.inl ⟨ep,n,hh⟩⟩
theorem LP.trans{H Hc fo K:ab}{v vc rv:PV}{sz:Nat}{es eV:List PV}(a:LP H v sz es vc Hc)(b:LP (Hc++fo) vc sz eV rv K):LP H v sz eV rv K:=by
 have h1:=a.len;have h2:=b.len;simp at h2;refine⟨b.out,b.hv,by omega,λj hj bO=>?_,λj ep n hh=>?_⟩
 ·rw[b.fr j (by simp;omega) (λep n hh=>?_),abW (by omega),a.fr j hj bO];rcases a.ref j ep n hh with⟨iC,n',h3⟩|h3;exact bO iC n' h3;omega
 ·rcases b.ref j ep n hh with⟨iC,n',h3⟩|h3;exact a.ref j iC n' h3;simp at h3;exact .inr (by omega)
def rG(H:ab)(v:PV)(a:List Pw)(t:Tm)(n:Int)(r:PV)(h':ab):Prop:=
 if arity t=true then∃rv,r=.cA [rv,.bool true]/\LP H v 5 (bq (gF a t n)) rv h' else r=.cA [.aa true [],.bool false]/\HV h'
theorem GA(k s o l)(hb:ax (.mk k s o l)<1000000000)
  (ih:∀t∈l,∀(H:ab) (v:PV) (a:List Pw) (n:Int),HV H->Out 5 H v (bq a)->CI a (size t)->(n=1\/n=-1)->ay C 250 [v,enc t,.int .i64 n] H (rG H v a t n))
  (H:ab) (v:PV) (a:List Pw) (n:Int) (hH:HV H) (ho:Out 5 H v (bq a)) (hc:CI a (size (.mk k s o l))) (hn:n=1\/n=-1):
  ay C 250 [v,enc (.mk k s o l),.int .i64 n] H (rG H v a (.mk k s o l) n):=by
 have hsf:=x8 k s o l;have gR:=gU (.mk k s o l);have abE:=cX l;have hlen:=aY l;have cz:=ai l;have DJ:br l<1000000000:=by simp only[ax]at hb;omega
 have T3:=hc
 have okP:arity (.mk k s o l)=true->∀rv h',LP H v 5 (bq (gF a (.mk k s o l) n)) rv h'->rG H v a (.mk k s o l) n (.cA [rv,.bool true]) h':=λh rv h' hh=>by
  unfold rG;rw[if_pos h];exact⟨rv,rfl,hh⟩
 have noP:arity (.mk k s o l)=false->∀h',HV h'->rG H v a (.mk k s o l) n (.cA [.aa true [],.bool false]) h':=λh h' hh=>by
  unfold rG;rw[if_neg (by rw[h];simp)];exact⟨rfl,hh⟩
 generalize rG H v a (.mk k s o l) n=PP at okP noP ⊢;refine ay.dM Tryz.func250 rfl ?_;rw[bh]at hsf ⊢;refine wB ?_;obtain⟨H1,lF⟩:∃x,x=H++[⟨.m,0,4,[.agg [.int .i64 k,.str s,.int .i64 o,.aa false (ae l)]]⟩]:=⟨_,rfl⟩;have lp1:LP H v 5 (bq a) v H1:=by rw[lF];exact LP.start ho hH (HV.one rfl)
 have b1:H1[H.length]?=some ⟨.m,0,4,[.agg [.int .i64 k,.str s,.int .i64 o,.aa false (ae l)]]⟩:=by rw[lF];simp
 have g1:H1.length=H.length+1:=by rw[lF];simp
 refine ah.heap lF.symm ?_
 skip
 refine R.call rfl rfl (aj.pure rfl (by simp[ao,aU]) (by simpa[aQ,cj,aZ]using hsf) ?_)
 cases Kj:dz (.mk k s o l)
 ·have Dk:arity (.mk k s o l)=true:=Dw Kj;have Va:gF a (.mk k s o l) n=jO (.mk k s o l) n a:=Ge Kj a n;have iB:=Kk a (.mk k s o l) n H1 v lp1.hv lp1.out T3.oB (T3.Sm (by omega)) hb (T3.Bd (by omega)) (by omega);rw[oN]at iB;rw[Va]at okP;have lp0:LP H v 5 (bq a) v H:=by simpa using LP.start (fo:=[]) ho hH HV.nil
  refine wB ?_;refine R.call rfl rfl (aj.sT rfl rfl rfl rfl iB ?_)
  intro r kk hr
  refine⟨hr.hv,λhb=>?_,λhb=>?_⟩
  ·have hA:cN H1.length r=true:=by
    rcases hr.out with⟨rfl,_⟩|⟨id,ep,rfl,_⟩
    rfl
    exact hb
   have:=hr.take (abZ _) hA;rw[lF]at this;rw[lF];have:=lp0.trans this;refine wB ?_;exact okP Dk _ _ this
  ·rw[lF]at hr;have:=lp0.trans hr;refine wB ?_;exact okP Dk _ _ this
 ·have hun:arity (.mk k s o l)=if(s.toList=vB/\l.length<2)\/(s.toList=mJ/\l.length≠1)\/(s.toList=vC/\l.length≠0)then false else mO l:=by
   rw[arity,if_neg (by rw[Kj];simp)]
  have h0:gF a (.mk k s o l) n=iH a l (if s.toList=mJ then -n else n):=by rw[gF,if_neg (by rw[Kj];simp)]
  rw[<-GB,<-x9,<-GC]at hun;obtain⟨hk,NE⟩:=names Kj;generalize gF a (.mk k s o l) n=R0 at h0 okP;rcases NE with⟨n1,n2,n3⟩|⟨n1,n2,n3⟩|⟨n1,n2,n3⟩ <;>refine wE (λhc=>?_) λhc=>?_
  all_goals try(
   have Dk:arity (.mk k s o l)=false:=by
    rw[hun,if_pos];first |exact .inl ⟨n1,by omega⟩|exact .inr (.inl ⟨n2,by omega⟩)|exact .inr (.inr ⟨n3,by omega⟩)
   exact noP Dk _ lp1.hv)
  all_goals(
   have Dk:arity (.mk k s o l)=mO l:=by
    rw[hun,if_neg];rintro(⟨a,b⟩|⟨a,b⟩|⟨a,b⟩) <;>first |omega |contradiction
   obtain⟨n',NF,I0,Va⟩:∃n',n'=(if s.toList=mJ then -n else n)/\(n'=1\/n'=-1)/\R0=iH a l n':=⟨_,rfl,by split <;>omega,h0⟩
   first
    |rw[if_neg (by rw[<-x9];exact n2)]at NF
    |(rw[if_pos (by rw[<-x9];exact n2)]at NF;rw[<-Int.zero_sub]at NF)
   rw[<-NF];refine Ev.loop (I:=λk' st=>∃(i:Nat) (Hc:ab) (vc:PV) (acc:List Pw) (O':Nat->PV),st=⟨al [(0,vc),(2,.int .i64 n'),(52,.aa false (ae l)),(53,.int .i64 (ae l).length),(54,.int .i64 i)] O',Hc⟩/\k'+i=l.length/\LP H v 5 (bq acc) vc Hc/\CI acc (dA (l.drop i))/\R0=iH acc (l.drop i) n'/\mO l=mO (l.drop i)) l.length ?_ ?_;exact⟨0,H1,v,a,_,St.aT ⟨rfl,rfl,rfl,rfl,rfl,trivial⟩,rfl,lp1,T3.le (by simp only[size,ac3];omega),Va,rfl⟩
   ·clear NF h0 Va hsf hun;rintro k' _ ⟨i,Hc,vc,acc,O',rfl,TQ,lp,T3,eg,IV⟩;refine wE (λhc=>?_) λhc=>?_
    ·obtain⟨k1,s1,o1,l1,ek,cC,hd,lu,_⟩:=gI hc;refine R.iq T6 rfl rfl rfl rfl cC rfl rfl ?_;rw[hd,dA]at T3;rw[hd,iH]at eg;rw[hd,mO]at IV;have AW:=cX (l.drop (i+1));have T4:=bD ek;have YM:=T3.gF (n:=n') (by omega) I0;have AX:=ih _ ek (Hc++[⟨.m,0,4,[.agg [.int .i64 k1,.str s1,.int .i64 o1,.aa false (ae l1)]]⟩]) vc acc n' (lp.hv.db (HV.one rfl)) (lp.out.db _) (T3.le (by omega)) I0;rw[bh]at AX;refine wB ?_;refine R.call rfl rfl (aj.sT rfl rfl rfl rfl AX ?_)
     intro r kk hr
     unfold rG at hr
     split at hr
     ·rename_i Vb
      obtain⟨rv,rfl,hr⟩:=hr;rw[if_neg (by rw[Vb];simp)]at IV;refine⟨hr.hv,λhb=>?_,λhb=>?_⟩
      ·have hA:cN (Hc++[(⟨.m,0,4,[.agg [.int .i64 k1,.str s1,.int .i64 o1,.aa false (ae l1)]]⟩:aw)]).length rv=true:=by
        simp only[dV,acT,ab4]at hb;exact hb.1
       have lp2:=lp.trans (hr.take (abZ _) hA);refine wB ?_;exact⟨k' - 1,by omega,i+1,_,rv,_,_,St.aT ⟨rfl,rfl,rfl,rfl,rfl,trivial⟩,by omega,lp2,YM,eg,IV⟩
      ·have lp2:=lp.trans hr;refine wB ?_;exact⟨k' - 1,by omega,i+1,_,rv,_,_,St.aT ⟨rfl,rfl,rfl,rfl,rfl,trivial⟩,by omega,lp2,YM,eg,IV⟩
     ·rename_i Vb
      obtain⟨rfl,hr⟩:=hr;rw[if_pos (by simpa using Vb)]at IV;refine⟨hr,λhb=>?_,λhb=>Bool.noConfusion hb⟩;refine wB ?_;exact noP (by rw[Dk,IV]) _ (hr.take _)
    ·rw[kJ hc]at IV eg;rw[eg,iH]at okP;exact okP (by rw[Dk,IV,mO]) _ _ lp)
theorem DZ(t:Tm)(hb:ax t<1000000000):∀(H:ab) (v:PV) (a:List Pw) (n:Int),HV H->Out 5 H v (bq a)->CI a (size t)->(n=1\/n=-1)->ay C 250 [v,enc t,.int .i64 n] H (rG H v a t n):=by
 induction t using Tm.ind with
 |h k s o l ih=>exact GA k s o l hb (λt ht=>ih t ht (by have:=bD ht;simp only[ax]at hb;omega))
theorem Out.jP{sz:Nat}{h:ab}{v:PV}{es:List PV}(o:Out sz h v es)(hv:ao es=true):∃r1,jP h v=some r1/\cj r1=.aa false (aQ es):=by
 rcases o with⟨rfl,rfl⟩|⟨id,ep,rfl,e2⟩;exact⟨_,rfl,rfl⟩;exact⟨.aa false es,by simp[Pm.jP,pD,getM,e2,hv],by simp[cj]⟩
theorem R.Gi{C:cW}(T:mD C.P){ops:Array Oper}{d:Nat}{ty:TypeId}{pos:String}{af:Array Edge}{r:List Oper}{O:Nat->PV}{L:List (Nat×PV)}{h:ab}{Q:St->Prop}{t el:TypeId}{x:Operand}{v:PV}{es:List PV}{sz:Nat}
  (hx:cS L x=some v) (hk:T.kd t=some (.sl el)) (o:Out sz h v es) (k:ah C ops r ⟨al ((d,(.int .i64 es.length))::L) O,h⟩ Q):
  ah C ops (⟨some d,.call ⟨.builtin .len,#[x],#[t]⟩,ty,pos,af,none⟩::r) ⟨al L O,h⟩ Q:=by
 rcases o with⟨rfl,rfl⟩|⟨id,ep,rfl,e2⟩;exact R.rX T (xs:=[]) (ts:=[]) hx hk k;exact R.Ag T (xs:=[]) (ts:=[]) (o:=⟨.m,ep,sz,es⟩) hx hk (bp e2 rfl (by simp)) (by show 0+es.length<=es.length;omega) k
theorem WD(t:Tm)(hb:ax t<100000000):aI C 197 [enc t] (.cA [.aa false (bq (Jt t).1),.int .i64 (Jt t).2]):=by
 have h1:=fU t hb;have Va:=DZ t (by omega);have UA:valid t=0->CI [] (size t):=λhv=>CI.nil.le (by have:=(eB.1 hv).2.1;omega)
 have hl:valid t=0->(bq (gF [] t 1)).length<1000000000:=λhv=>by
  have:=zc t [] 1;have:=(eB.1 hv).2.1;rw[fw];simp at *;omega
 have cz:=fw (gF [] t 1);have r1:valid t≠0->Jt t=([],valid t):=λh=>by rw[Jt,if_pos h]
 have r2:valid t=0->arity t=false->Jt t=([],6):=λh h'=>by rw[Jt,if_neg (by omega),if_pos h']
 have r3:valid t=0->arity t=true->200<(gF [] t 1).length->Jt t=([],3):=λh h' h2=>by rw[Jt,if_neg (by omega),if_neg (by rw[h'];simp),if_pos h2]
 have r4:valid t=0->arity t=true->¬200<(gF [] t 1).length->Jt t=(gF [] t 1,0):=λh h' h2=>by rw[Jt,if_neg (by omega),if_neg (by rw[h'];simp),if_neg h2]
 obtain⟨k,s,o,l⟩:=t;refine aI.of (ay.dM Tryz.func197 rfl ?_);rw[bh]at h1 Va ⊢;refine wB ?_;refine R.call rfl rfl (aj.pure rfl (by simp[ao,aU]) (by simpa[aQ,cj,aZ]using h1) ?_);refine wE (λhc=>?_) λhc=>?_
 ·refine⟨_,rfl,?_⟩;rw[r1 (by assumption)];rfl
 ·have h0:=Decidable.not_not.1 hc;clear hc;have hl:=hl h0;refine R.call rfl rfl (aj.sT rfl rfl rfl rfl (Va [⟨.m,0,4,[.agg [.int .i64 k,.str s,.int .i64 o,.aa false (ae l)]]⟩] (.aa true []) [] 1 (HV.one rfl) (Out.nil _ _) (UA h0) (.inl rfl)) ?_)
  intro r kk hr
  unfold rG at hr
  split at hr
  ·rename_i Dk
   obtain⟨rv,rfl,hr⟩:=hr
   have fin:∀K:ab,LP [⟨.m,0,4,[.agg [.int .i64 k,.str s,.int .i64 o,.aa false (ae l)]]⟩] (.aa true []) 5 (bq (gF [] (.mk k s o l) 1)) rv K->¬200<(gF [] (.mk k s o l) 1).length->∃r1,rb K (aR [rv,.int .i64 0])=some r1/\cj r1=PV.cA [PV.aa false (bq (Jt (.mk k s o l)).1),PV.int .i64 (Jt (.mk k s o l)).2]:=by
    intro K hK aa9
    obtain⟨r1,e1,e2⟩:=hK.out.jP (oO _);refine⟨.cA [r1,.int .i64 0],?_,?_⟩;simp only[aR,rb,gC,e1];rfl
    ·rw[r4 h0 Dk aa9];simp only[cj,aQ,e2,rS]
   refine⟨hr.hv,λhb=>?_,λhb=>?_⟩
   ·have hA:cN [(⟨.m,0,4,[.agg [.int .i64 k,.str s,.int .i64 o,.aa false (ae l)]]⟩:aw)].length rv=true:=by
     simp only[dV,acT,ab4]at hb;exact hb.1
    have hr:=hr.take (abZ _) hA;refine wB ?_;refine R.Gi T6 rfl rfl hr.out ?_;refine wE (λhc=>?_) λhc=>?_
    ·refine⟨_,rfl,?_⟩;rw[r3 h0 Dk (by omega)];rfl
    exact fin _ hr (by omega)
   ·refine wB ?_;refine R.Gi T6 rfl rfl hr.out ?_;refine wE (λhc=>?_) λhc=>?_
    ·refine⟨_,rfl,?_⟩;rw[r3 h0 Dk (by omega)];rfl
    exact fin _ hr (by omega)
  ·rename_i Dk
   obtain⟨rfl,hr⟩:=hr;refine⟨hr,λhb=>?_,λhb=>Bool.noConfusion hb⟩;refine wB ?_;refine⟨_,rfl,?_⟩;rw[r2 h0 (by simpa using Dk)];rfl
def lA:Option Tm->List Pw->Int
 |_,[]=>0
 |pr,p::l=>if valid p.1≠0 then valid p.1 else if dz p.1=true then 1 else if p.2=0\/p.2< -1000\/1000<p.2 then 7 else
  if(match pr with |some q=>decide (0<=aW q p.1)|none=>false)=true then 5 else lA (some p.1) l
theorem pq(pr:Option Tm)(p:Pw)(l:List Pw):lA pr (p::l)=if valid p.1≠0 then valid p.1 else if dz p.1=true then 1 else if p.2=0\/p.2< -1000\/1000<p.2 then 7 else
  if(match pr with |some q=>decide (0<=aW q p.1)|none=>false)=true then 5 else lA (some p.1) l:=by
 cases pr <;>rfl
theorem v7(pr:Option Tm):lA pr []=0:=by cases pr <;>rfl
def mo(l:List Pw):Int:=if 200<l.length then 3 else lA none l
def UC(l:List Pw)(i:Nat):Option Tm:=match i with |0=>none |i+1=>(l[i]?).map (·.1)
set_option maxHeartbeats 8000000 in
theorem HB(l:List Pw)(hb:∀p∈l,ax p.1<100000000)(hl:l.length<100000000):aI C 251 [.aa false (bq l)] (.int .i64 (mo l)):=by
 have cz:=fw l;have r1:200<l.length->mo l=3:=λh=>by rw[mo,if_pos h]
 have r2:¬200<l.length->mo l=lA none l:=λh=>by rw[mo,if_neg h]
 refine aI.of (ay.dM Tryz.func251 rfl ?_);generalize mo l=R0 at r1 r2 ⊢;refine wE (λhc=>?_) λhc=>?_;exact⟨_,rfl,by rw[r1 (by omega)];rfl⟩
 ·have r2:=r2 (by omega);clear r1;refine Ev.loop (I:=λk' st=>∃(i:Nat) (J:ab) (O':Nat->PV),st=⟨al [(0,.aa false (bq l)),(9,.aa false (bq l)),(10,.int .i64 (bq l).length),(11,.int .i64 i)] O',J⟩/\k'+i=l.length/\HV J/\R0=lA (UC l i) (l.drop i)) l.length ?_ ?_;exact⟨0,[],_,St.aT ⟨rfl,rfl,rfl,rfl,trivial⟩,rfl,HV.nil,r2⟩
  ·clear r2;rintro k' _ ⟨i,J,O',rfl,hk,hJ,eg⟩;refine wE (λhc=>?_) λhc=>?_
   ·obtain⟨k1,s1,o1,l1,n1,ek,cC,hd,lu,wy⟩:=sN hc;have Bi:=fU _ (hb _ ek);have hsy:=x8 k1 s1 o1 l1;rw[hd,pq]at eg;simp only at Bi eg;rw[bh]at Bi hsy;have DR:=hJ.db (HV.one (ep:=0) (n:=5) (es:=[.agg [.int .i64 k1,.str s1,.int .i64 o1,.aa false (ae l1),.int .i64 n1]]) rfl);have ee:=DR.closed;clear hc;refine R.iq T6 rfl rfl rfl rfl cC rfl rfl ?_;refine wB ?_;refine R.call rfl rfl (aj.pure rfl (by simp[ao,aU]) (by simpa[aQ,cj,aZ]using Bi) ?_);refine wE (λhc=>?_) λhc=>?_
    ·rw[if_pos (by assumption)]at eg;exact⟨_,rfl,by rw[eg];rfl⟩
    ·rw[if_neg (by assumption)]at eg;refine R.call rfl rfl (aj.pure rfl (by simp[ao,aU]) (by simpa[aQ,cj,aZ]using hsy) ?_)
     cases Kj:dz (.mk k1 s1 o1 l1)
     ·rw[if_neg (by rw[Kj];simp)]at eg
      (repeat' (first |refine ah.nil ?_ |(apply R.xJ;exact rfl;exact rfl;exact rfl)|(apply R.oQ;exact rfl;exact rfl;exact rfl)|(apply R.move;exact rfl)|(apply R.assign;exact rfl)|(apply R.jg;exact rfl;exact rfl)|(apply R.je;exact rfl;exact rfl)|(apply R.fieldAddr T6;exact rfl;exact rfl;exact rfl;exact rfl)|(apply R.cmp;exact rfl;exact rfl;exact rfl;all_goals intro hc;all_goals(try(exfalso;omega)))|(apply R.arith;exact rfl;exact rfl;exact rfl;exact(mK (by omega) (by omega)))|(apply R.JF T6;exact rfl;exact rfl;exact rfl;exact rfl)|refine Ev.seq ?_ |refine Ev.region ?_ |refine Ev.mL ?_ |refine bg.nil ?_ |(apply D.move;exact rfl)|(apply D.assign;exact rfl)|(apply D.xJ;exact rfl;exact rfl;exact rfl;exact rfl)|(apply D.oQ;exact rfl;exact rfl;exact rfl)|(apply D.je;exact rfl;exact rfl)|(apply D.cmp;exact rfl;exact rfl;exact rfl;all_goals intro hc;all_goals(try(exfalso;omega)))|(apply D.arith;exact rfl;exact rfl;exact rfl;exact(mK (by omega) (by omega)))|(apply Ev.fR;exact rfl)|refine Ev.ret ?_ |refine Ev.skip ?_ |refine aD.normal ?_ |refine aD.ret ?_ |refine az.normal ?_ |refine az.ret ?_ |refine aL.normal ?_ |refine aL.ret ?_ |(apply aJ.ret;exact rfl)|fail))
      all_goals try(rw[if_pos (by omega)]at eg;exact⟨_,rfl,by rw[eg];rfl⟩)
      ·-- a factor before it
       rw[if_neg (by omega)]at eg;obtain⟨i',rfl⟩:∃i',i=i'+1:=⟨i - 1,by omega⟩;obtain⟨k2,s2,o2,l2,n2,ZS,nh,Kl,abO,ZT⟩:=sN (l:=l) (i:=i') (by omega);have rU:=eY _ _ (by have:=hb _ ZS;simp only at this;omega:ax (.mk k2 s2 o2 l2)<1000000000) (by have:=hb _ ek;simp only at this;omega:ax (.mk k1 s1 o1 l1)<1000000000);rw[bh,bh]at rU;have CC:UC l (i'+1)=some (.mk k2 s2 o2 l2):=by simp only[UC,ZT];rfl
       rw[CC]at eg;simp only at eg;refine D.iq T6 (by assumption) rfl (congrArg (λz=>some (PV.int .i64 z)) (show((i'+1:Nat):Int) - 1=(i':Int) by omega)) rfl rfl nh rfl rfl ?_;refine wB ?_;refine D.nA (by assumption) rfl rfl rfl rfl rfl rfl (by simpa[aQ,cj,aZ]using rU) ?_;refine wE (λhc=>?_) λhc=>?_
       ·rw[if_pos (decide_eq_true (by assumption))]at eg;exact⟨_,rfl,by rw[eg];rfl⟩
       ·rw[if_neg (by rw[decide_eq_false (by assumption)];simp)]at eg;refine⟨k' - 1,by omega,i'+1+1,_,_,St.aT ⟨rfl,rfl,rfl,rfl,trivial⟩,by omega,DR,?_⟩;have:UC l (i'+1+1)=some (.mk k1 s1 o1 l1):=by simp only[UC,wy];rfl
        rw[this];exact eg
      ·rw[if_neg (by omega)]at eg;obtain rfl:i=0:=by omega
       simp only[UC,aca,if_false]at eg;refine⟨k' - 1,by omega,0+1,_,_,St.aT ⟨rfl,rfl,rfl,rfl,trivial⟩,by omega,DR,?_⟩;have:UC l (0+1)=some (.mk k1 s1 o1 l1):=by simp only[UC,wy];rfl
       rw[this];exact eg
     ·rw[if_pos Kj]at eg;refine wB ?_;exact⟨_,rfl,by rw[eg];rfl⟩
   ·rw[J0 hc,v7]at eg;exact⟨_,rfl,by rw[eg];rfl⟩
end Go.Pm
namespace Go.Pm
open Go.Proofs
section
variable{C:cW}(T:mD C.P)
variable{ops:Array Oper}{d:Nat}{ty:TypeId}{pos:String}{af:Array Edge}{r:List Oper}{O:Nat->PV}{L:List (Nat×PV)}{h:ab}{Q:St->Prop}
set_option maxRecDepth 4000
set_option maxHeartbeats 4000000
theorem Ev.oS{c:Code}{s:St}{Q:Ex->St->Prop}(k:Ev C c s (aL (λs'=>Ev C (.loop c) s' Q) Q)):Ev C (.loop c) s Q:=by
 obtain⟨ex,s',q,n0,hn⟩:=k
 cases ex with
 |normal=>
  obtain⟨Yu,s2,q2,n1,Cf⟩:=q;refine⟨Yu,s2,q2,max n0 n1+1,λn m h1 h2=>?_⟩;obtain⟨m,rfl⟩:∃i',m=i'+1:=⟨m - 1,by omega⟩;have e1:=hn n (m+1) (by omega) (by omega);have e2:=Cf n m (by omega) (by omega);simp only[bW]at e2 ⊢;simp only[iter,e1];exact qM (λs x hh=>xX (λ_ _ _ _ hh=>hh) (adV m) c hh) (abZ m) e2
 |exit id=>
  refine⟨_,_,q,n0+1,λn m h1 h2=>?_⟩;obtain⟨m,rfl⟩:∃i',m=i'+1:=⟨m - 1,by omega⟩;simp only[bW,iter,hn n (m+1) (by omega) (by omega)]
 |ret=>
  refine⟨_,_,q,n0+1,λn m h1 h2=>?_⟩;obtain⟨m,rfl⟩:∃i',m=i'+1:=⟨m - 1,by omega⟩;simp only[bW,iter,hn n (m+1) (by omega) (by omega)]
theorem R.Ng{t el:TypeId}{x:Operand}(hx:cS L x=some (.aa true []))(hk:T.kd t=some (.sl el))(k:ah C ops r ⟨al ((d,.int .i64 0)::L) O,h⟩ Q):
  ah C ops (⟨some d,.call ⟨.builtin .cap,#[x],#[t]⟩,ty,pos,af,none⟩::r) ⟨al L O,h⟩ Q:=
 ah.fo (λrun=>by simp[au,an hx,bt,UI,bB (T.cY _ _ hk)]) k
theorem R.Nh{t el:TypeId}{x y:Operand}{k:IntKind}{sz:Nat}(hx:cS L x=some (.aa true []))(hy:cS L y=some (.int k 0))(hk:T.kd t=some (.sl el))(hs:T.ts el=some sz)(kk:ah C ops r ⟨al ((d,.aa true [])::L) O,h⟩ Q):
  ah C ops (⟨some d,.slice t x none (some y) none,ty,pos,af,none⟩::r) ⟨al L O,h⟩ Q:=
 ah.fo (λrun=>by simp[au,aC,an hx,an hy,cr,bB (T.cY _ _ hk),T.ez _ _ hs,cQ]) kk
theorem R.QY{t el:TypeId}{x y:Operand}{k:IntKind}{id ep len:Nat}{o:aw}(hx:cS L x=some (.ak id ep 0 len))(hy:cS L y=some (.int k 0))(hk:T.kd t=some (.sl el))(hg:getM h id ep=some o)(hs:T.ts el=some o.bQ)(hle:len<=o.es.length)(kk:ah C ops r ⟨al ((d,.ak id ep 0 0)::L) O,h⟩ Q):
  ah C ops (⟨some d,.slice t x none (some y) none,ty,pos,af,none⟩::r) ⟨al L O,h⟩ Q:=
 ah.fo (λrun=>by
  have h1:¬((len:Int)<0):=by omega
  simp[au,aC,an hx,an hy,cr,bB (T.cY _ _ hk),T.ez _ _ hs,beyond,h1,cQ,hg,hle]) kk
theorem R.QZ{st xt el:TypeId}{sz gu n:Nat}{z:PV}{ki:IntKind}{x y:Operand}(hx:cS L x=some (.aa true []))(hy:cS L y=some (.int ki (n:Int)))(hk:T.kd st=some (.sl el))(fZ:T.kd xt=some (.int ki))(hs:T.ts el=some (sz+1))(hb:T.tb el=some gu)(hz:T.tz el=some z)(ju:gu<=1000)(hl:(cells z).length=sz+1)(ho:(cells z).all bM=true)
  (TS:0<n) (hn:n<1000000000) (kk:ah C ops r ⟨al ((d,.ak h.length 0 0 n)::L) O,h++[⟨.m,0,sz+1,List.replicate n z⟩]⟩ Q):
  ah C ops (⟨some d,.call ⟨.builtin .append,#[x,y],#[st,xt]⟩,ty,pos,af,none⟩::r) ⟨al L O,h⟩ Q:=by
 refine ah.fo (λrun=>?_) kk;have bO:(List.replicate n z).isEmpty=false:=by cases n with |zero=>omega |succ n=>rfl
 have eR:(List.replicate n z).all (λv=>decide ((cells v).length=sz+1)&& (cells v).all bM)=true:=by
  rw[abX];intro v hv;rw[(adS.1 hv).2,hl,ho];simp
 have oA:bT C.P 2 h st xt (.aa true []) (.int ki (n:Int))=some (.ak h.length 0 0 n,h++[⟨.m,0,sz+1,List.replicate n z⟩]):=by
  unfold bT;rw[bB (T.cY _ _ hk)];simp only[T.ez _ _ hs,T.rE _ _ hb,T.nH _ _ hz,cH,oP (T.cY _ _ fZ)];rw[if_pos ⟨by omega,by omega⟩];simp only[ads];rw[if_pos ⟨by omega,by omega,⟨hl,ho⟩,eR⟩];simp only[bO,aca,if_false,acz,acf,adC,acD,newObj,adz];rw[if_pos ⟨trivial,by omega,jB hn ju,trivial⟩]
 simp only[au,bt,acg,acr,an hx,an hy,oA]
def Gr(H:ab)(sz:Nat)(h:ab)(v:PV)(es:List PV):Prop:=(v=.aa true []/\es=[]/\h=H)\/∃ep o,v=.ak H.length ep 0 es.length/\h=H++[⟨.m,ep,sz,o⟩]/\o.take es.length=es/\es.length<=o.length
theorem Out.cB{sz:Nat}{h:ab}{v:PV}{es:List PV}(o:Out sz h v es):cB h v=some es:=by
 rcases o with⟨rfl,rfl⟩|⟨id,ep,rfl,e2⟩
 rfl
 simp[Pm.cB,getM,e2]
def Ls(sz:Nat)(h:ab)(v:PV)(es:List PV):Prop:=Out sz h v es\/∃f,v=.aa f es
theorem Ls.cB{sz:Nat}{h:ab}{v:PV}{es:List PV}(o:Ls sz h v es):cB h v=some es:=by
 rcases o with o |⟨f,rfl⟩;exact o.cB
 rfl
theorem Ls.db{sz:Nat}{h:ab}{v:PV}{es:List PV}(o:Ls sz h v es)(J:ab):Ls sz (h++J) v es:=o.imp (λx=>x.db J) id
theorem R.IQ{H:ab}{st xt el ru:TypeId}{sz gu:Nat}{z:PV}{es ys:List PV}{x y:Operand}{v u:PV}{ep:Nat}{o:List PV}(hx:cS L x=some (.ak H.length ep 0 es.length))(hy:cS L y=some u)(hk:T.kd st=some (.sl el))(fZ:T.kd xt=some (.sl ru))(hs:T.ts el=some (sz+1))(hb:T.tb el=some gu)(hz:T.tz el=some z)
  (ju:gu<=1000) (hl:(cells z).length=sz+1) (ho:(cells z).all bM=true) (AU:dC (sz+1) ys) (hu:Ls (sz+1) H u ys) (hn:es.length+ys.length<1000000000) (g1:o.take es.length=es) (g2:es.length<=o.length)
  (kk:∀iC o',o'.take (es++ys).length=es++ys->(es++ys).length<=o'.length->(ys≠[]->o'=es++ys)->(ys=[]->o'=o)->ah C ops r ⟨al ((d,.ak H.length iC 0 (es++ys).length)::L) O,H++[⟨.m,iC,sz+1,o'⟩]⟩ Q):
  ah C ops (⟨some d,.call ⟨.builtin .append,#[x,y],#[st,xt]⟩,ty,pos,af,none⟩::r) ⟨al L O,H++[⟨.m,ep,sz+1,o⟩]⟩ Q:=by
 have cz:=(hu.db [⟨.m,ep,sz+1,o⟩]).cB;have hg:getM (H++[(⟨.m,ep,sz+1,o⟩:aw)]) H.length ep=some ⟨.m,ep,sz+1,o⟩:=by simp[getM]
 unfold dC at AU
 cases pK:ys with
 |nil=>
  subst pK;refine ah.fo (λrun=>?_) (kk ep o (by simpa using g1) (by simpa using g2) (λh=>absurd rfl h) (λ_=>rfl))
  have oA:bT C.P 2 (H++[⟨.m,ep,sz+1,o⟩]) st xt (.ak H.length ep 0 es.length) u=some (.ak H.length ep 0 (es++[]).length,H++[⟨.m,ep,sz+1,o⟩]):=by
   unfold bT;rw[bB (T.cY _ _ hk)];simp only[T.ez _ _ hs,T.rE _ _ hb,T.nH _ _ hz,cH,bB (T.cY _ _ fZ),cz];rw[if_pos ⟨by omega,by omega,⟨hl,ho⟩,AU⟩];simp only[hg];rw[if_pos ⟨by omega,trivial⟩];simp
  simp only[au,bt,acg,acr,an hx,an hy,oA]
 |cons y0 ys0=>
  have bO:ys.isEmpty=false:=by rw[pK];rfl
  refine ah.fo (λrun=>?_) (kk (ep+1) (es++ys) ac2 (abZ _) (λ_=>rfl) (λh=>by rw[h]at bO;cases bO))
  have oA:bT C.P 2 (H++[⟨.m,ep,sz+1,o⟩]) st xt (.ak H.length ep 0 es.length) u=some (.ak H.length (ep+1) 0 (es++ys).length,H++[⟨.m,ep+1,sz+1,es++ys⟩]):=by
   unfold bT;rw[bB (T.cY _ _ hk)];simp only[T.ez _ _ hs,T.rE _ _ hb,T.nH _ _ hz,cH,bB (T.cY _ _ fZ),cz];rw[if_pos ⟨by omega,by omega,⟨hl,ho⟩,AU⟩];simp only[hg];rw[if_pos ⟨by omega,trivial⟩];simp only[bO,aca,if_false]
   have Ni:iP H.length u=false:=by
    rcases hu with(⟨rfl,_⟩|⟨id,iC,rfl,e2⟩)|⟨f,rfl⟩
    rfl
    rotate_left
    rfl
    ·have:=ag e2;simp[iP];omega
   rw[if_neg (by rw[Ni];simp),if_pos ⟨trivial,by omega,trivial,jB hn ju⟩,g1]
   have:(H++[(⟨.m,ep,sz+1,o⟩:aw)]).set H.length ⟨.m,ep+1,sz+1,es++ys⟩=H++[⟨.m,ep+1,sz+1,es++ys⟩]:=by
    refine(adm H.length _ (abZ _)).trans ?_;simp
   rw[this,ab3]
  simp only[au,bt,acg,acr,an hx,an hy,oA]
theorem R.IR{st xt el ru:TypeId}{sz gu:Nat}{z:PV}{x y:Operand}{u:PV}(hx:cS L x=some (.aa true []))(hy:cS L y=some u)(hk:T.kd st=some (.sl el))(fZ:T.kd xt=some (.sl ru))(hs:T.ts el=some (sz+1))(hb:T.tb el=some gu)(hz:T.tz el=some z)
  (ju:gu<=1000) (hl:(cells z).length=sz+1) (ho:(cells z).all bM=true) (hu:Ls (sz+1) h u []) (kk:ah C ops r ⟨al ((d,.aa true [])::L) O,h⟩ Q):
  ah C ops (⟨some d,.call ⟨.builtin .append,#[x,y],#[st,xt]⟩,ty,pos,af,none⟩::r) ⟨al L O,h⟩ Q:=by
 refine ah.fo (λrun=>?_) kk;have cz:=hu.cB
 have oA:bT C.P 2 h st xt (.aa true []) u=some (.aa true [],h):=by
  unfold bT;rw[bB (T.cY _ _ hk)];simp only[T.ez _ _ hs,T.rE _ _ hb,T.nH _ _ hz,cH,bB (T.cY _ _ fZ),cz];rw[if_pos ⟨by omega,by omega,⟨hl,ho⟩,rfl⟩]
  rfl
 simp only[au,bt,acg,acr,an hx,an hy,oA]
end
section
variable{C:cW}(T:mD C.P)
set_option maxRecDepth 4000
set_option maxHeartbeats 4000000
def dS(H:ab)(x v1 v2:PV):Prop:=x=.aa true [v1,v2]\/∃id,x=.ak id 0 0 2/\H[id]?=some ⟨.m,0,1,[v1,v2]⟩
theorem dS.db{H:ab}{x v1 v2:PV}(a:dS H x v1 v2)(J:ab):dS (H++J) x v1 v2:=by
 rcases a with a |⟨id,e1,e2⟩;exact .inl a;exact .inr ⟨id,e1,by rw[abW (ag e2)];exact e2⟩
theorem Out.cells{sz:Nat}{h:ab}{v:PV}{es:List PV}(o:Out sz h v es):cells v=[v]:=by
 rcases o with⟨rfl,rfl⟩|⟨id,ep,rfl,e2⟩ <;>rfl
theorem Ls.cells{sz:Nat}{h:ab}{v:PV}{es:List PV}(o:Ls sz h v es):Pm.cells v=[v]:=by
 rcases o with o |⟨f,rfl⟩;exact o.cells
 rfl
theorem R.TT{ops:Array Oper}{d:Nat}{ty:TypeId}{pos:String}{af:Array Edge}{r:List Oper}{O:Nat->PV}{L:List (Nat×PV)}{h:ab}{Q:St->Prop}{t el:TypeId}{x:Operand}{v:PV}{es:List PV}{sz:Nat}(hx:cS L x=some v)(hk:T.kd t=some (.sl el))(o:Ls sz h v es)(k:ah C ops r ⟨al ((d,(.int .i64 es.length))::L) O,h⟩ Q):
  ah C ops (⟨some d,.call ⟨.builtin .len,#[x],#[t]⟩,ty,pos,af,none⟩::r) ⟨al L O,h⟩ Q:=by
 rcases o with o |⟨f,rfl⟩;exact R.Gi T hx hk o k;exact R.rX T (xs:=[]) (ts:=[]) hx hk k
theorem R.UZ{ops:Array Oper}{d:Nat}{ty:TypeId}{pos:String}{af:Array Edge}{r:List Oper}{O:Nat->PV}{L:List (Nat×PV)}{h:ab}{Q:St->Prop}{t el:TypeId}{x:Operand}{u v1 v2:PV}
  (hx:cS L x=some u) (hk:T.kd t=some (.sl el)) (a:dS h u v1 v2) (k:ah C ops r ⟨al ((d,(.int .i64 2))::L) O,h⟩ Q):
  ah C ops (⟨some d,.call ⟨.builtin .len,#[x],#[t]⟩,ty,pos,af,none⟩::r) ⟨al L O,h⟩ Q:=by
 rcases a with rfl |⟨id,rfl,e2⟩;exact R.rX T (xs:=[]) (ts:=[]) hx hk k;exact R.Ag T (xs:=[]) (ts:=[]) (o:=⟨.m,0,1,[v1,v2]⟩) hx hk (bp e2 rfl (by simp)) (by show 0+2<=2;omega) k
theorem R.Ka{ops:Array Oper}{d d2:Nat}{ty ty2:TypeId}{pos aan:String}{af af2:Array Edge}{r:List Oper}{O:Nat->PV}{L:List (Nat×PV)}{h:ab}{Q:St->Prop}{t t2 el:TypeId}{x ix:Operand}{u v1 v2 v:PV}{i:Nat}{k:IntKind}
  (hx:cS L x=some u) (hi:cS L ix=some (.int k (i:Int))) (hk:T.kd t=some (.sl el)) (hs:T.ts el=some 1) (hs2:T.ts t2=some 1) (ht2:T.ta t2=some false) (a:dS h u v1 v2) (hv:[v1,v2][i]?=some v) (hc:cells v=[v])
  (kk:∀p,ah C ops r ⟨al ((d2,v)::(d,p)::L) O,h⟩ Q):
  ah C ops (⟨some d,.indexAddr t x ix,ty,pos,af,none⟩::⟨some d2,.load t2 (.tmp d),ty2,aan,af2,none⟩::r) ⟨al L O,h⟩ Q:=by
 have vH:∀p,cS ((d,p)::L) (.tmp d)=some p:=λp=>by simp[cS,lk]
 rcases a with rfl |⟨id,rfl,e2⟩
 ·refine R.iq T hx hi hk (sz:=0) hs hv hc rfl ?_;exact R.gH T (vH _) hs2 ht2 (cs:=[]) rfl (kk _)
 ·have cM:i<2:=by have:=ag hv;simpa using this
  refine R.rY T (o:=⟨.m,0,1,[v1,v2]⟩) hx hi hk (bp e2 rfl (by simp)) hs cM (by show 0+2<=2;omega) ?_;refine R.gH T (vH _) hs2 ht2 (c:=v) (cs:=[]) ?_ (kk _);simp only[cT,bp e2 rfl (show Mu.m≠.x by simp),acf,hv,hc,ac3]
end
attribute [local irreducible] aD az aL aJ Ev ah aj ay bg
set_option maxRecDepth 4000
set_option maxHeartbeats 4000000
theorem Q7(n:Nat)(hn:n<1000000000)(H:ab):ay C 203 [.aa true [],.int .i64 n] H (λr h'=>Gr H 4 h' r []/\(n=0->r=.aa true [])/\(r=.aa true []->n=0)):=by
 refine ay.dM Tryz.func203 rfl ?_;refine wF λhc=>?_;apply R.Ng T6;exact rfl;exact rfl;refine wD ?_;refine R.arith (c':=0) rfl rfl rfl (by decide) ?_
 (repeat' (first |refine ah.nil ?_ |(apply R.move;exact rfl)|(apply R.assign;exact rfl)|(apply R.cmp;exact rfl;exact rfl;exact rfl;all_goals intro hc;all_goals(try(exfalso;omega)))|(apply R.arith;exact rfl;exact rfl;exact rfl;exact(mK (by omega) (by omega)))|refine Ev.seq ?_ |refine Ev.region ?_ |(apply Ev.fR;exact rfl)|refine Ev.ret ?_ |refine Ev.skip ?_ |refine aD.normal ?_ |(apply aJ.ret;exact rfl)|fail))
 ·apply R.Ng T6;exact rfl;exact rfl
  skip
  apply R.Nh T6;exact rfl;exact rfl;exact rfl;exact rfl;refine wD ?_;apply R.QZ T6 (n:=n);exact rfl;exact(congrArg (λz=>some (PV.int .i64 z)) (by simp))
  all_goals first |exact rfl |exact(by decide:(_:Nat)<=1000)|omega |skip
  refine wD ?_;apply R.QY T6 (o:=⟨.m,0,4,List.replicate n (.agg [.int .i64 0,.str ByteArray.empty,.int .i64 0,.aa true []])⟩);exact rfl;exact rfl;exact rfl;exact lW;exact rfl;simp;refine wD ?_;exact⟨.inr ⟨0,List.replicate n (.agg [.int .i64 0,.str ByteArray.empty,.int .i64 0,.aa true []]),rfl,rfl,rfl,by simp⟩,λh=>by omega,λh=>by cases h⟩
 exact⟨.inl ⟨rfl,rfl,rfl⟩,λ_=>rfl,λ_=>by omega⟩
theorem bS(a b:List Tm):ae (a++b)=ae a++ae b:=by rw[dm,dm,dm,acK]
def aao(H:ab)(l:List Tm)(r:PV)(h':ab):Prop:=(l=[]/\r=.aa true []/\h'=H)\/∃ep,r=.ak H.length ep 0 (ae l).length/\h'=H++[⟨.m,ep,4,ae l⟩]
set_option maxHeartbeats 8000000 in
theorem AV(a b:List Tm)(H:ab)(x v1 v2:PV)(hx:dS H x v1 v2)(h1:Ls 4 H v1 (ae a))(h2:Ls 4 H v2 (ae b))(hl:a.length+b.length<100000000):
  ay C 158 [x] H (aao H (a++b)):=by
 refine ay.dM Tryz.func158 rfl ?_;have e1:=ai a;have e2:=ai b;refine wD ?_;apply R.UZ T6;exact rfl;exact rfl;exact hx;refine wD ?_;apply Ev.oS;refine wF λhc=>?_;apply R.Ka T6 (i:=0);exact rfl;exact rfl;exact rfl;exact rfl;exact rfl;exact rfl;exact hx;exact rfl;exact h1.cells
 intro p1
 refine wD ?_;apply R.TT T6;exact rfl;exact rfl;exact h1;refine wF λhc=>?_;apply Ev.oS;refine wF λhc=>?_;apply R.Ka T6 (i:=1);exact rfl;exact rfl;exact rfl;exact rfl;exact rfl;exact rfl;exact hx;exact rfl;exact h2.cells
 intro p2
 refine wD ?_;apply R.TT T6;exact rfl;exact rfl;exact h2;refine wF λhc=>?_;apply Ev.oS;refine wF λhc=>?_;refine R.call rfl rfl (aj.opened rfl ?_);refine ay.heap (args':=[.aa true [],.int .i64 ((a.length+b.length:Nat):Int)]) rfl (by simp[e1,e2]) ((Q7 (a.length+b.length) (by omega) H).mono ?_);rintro r h' ⟨hg,hz,ux⟩
 have key:(if(dV H.length r&& (h'.take H.length).all λo=>o.es.all (cN H.length))=true then h'.take H.length else h')=h':=by
  rcases hg with⟨_,_,rfl⟩|⟨ep,o,rfl,rfl,_,_⟩;simp;rw[if_neg (by simp[dV,cN,dU])]
 rw[key]
 have Yv:dS h' x v1 v2:=by
  rcases hg with⟨_,_,rfl⟩|⟨ep,o,rfl,rfl,_,_⟩;exact hx;exact hx.db _
 by_cases Qq:a.length+b.length=0
 ·have hr:=hz Qq;subst hr;have ha:a=[]:=acd (by omega);have hb:b=[]:=acd (by omega);subst ha;subst hb;rcases hg with⟨_,_,rfl⟩|⟨ep,o,hh,_⟩
  ·refine wD ?_;apply R.UZ T6;exact rfl;exact rfl;exact Yv;refine wD ?_;apply Ev.oS;refine wF λhc=>?_;apply R.Ka T6 (i:=0);exact rfl;exact rfl;exact rfl;exact rfl;exact rfl;exact rfl;exact Yv;exact rfl;exact h1.cells
   intro p3
   refine wD ?_;refine R.IR T6 rfl rfl rfl rfl rfl rfl rfl (by decide) rfl rfl h1 ?_;refine wD ?_;apply Ev.oS;refine wF λhc=>?_;apply R.Ka T6 (i:=1);exact rfl;exact rfl;exact rfl;exact rfl;exact rfl;exact rfl;exact Yv;exact rfl;exact h2.cells
   intro p4
   refine wD ?_;refine R.IR T6 rfl rfl rfl rfl rfl rfl rfl (by decide) rfl rfl h2 ?_;refine wD ?_;apply Ev.oS;refine wF λhc=>?_;exact .inl ⟨rfl,rfl,rfl⟩
  cases hh
 ·rcases hg with⟨hr,_,_⟩|⟨ep,o,rfl,rfl,g1,g2⟩;exact absurd (ux hr) Qq
  ·refine wD ?_;apply R.UZ T6;exact rfl;exact rfl;exact Yv;refine wD ?_;apply Ev.oS;refine wF λhc=>?_;apply R.Ka T6 (i:=0);exact rfl;exact rfl;exact rfl;exact rfl;exact rfl;exact rfl;exact Yv;exact rfl;exact h1.cells
   intro p3
   refine wD ?_;refine R.IQ T6 (es:=[]) (ys:=ae a) (v:=.eK) rfl rfl rfl rfl rfl rfl rfl (by decide) rfl rfl (oT a) h1 (by simp;omega) g1 g2 ?_
   intro ep1 o1 t1 t2 t3 t4
   refine wD ?_;apply Ev.oS;refine wF λhc=>?_;apply R.Ka T6 (i:=1);exact rfl;exact rfl;exact rfl;exact rfl;exact rfl;exact rfl;exact(hx.db _);exact rfl;exact h2.cells
   intro p4
   refine wD ?_;refine R.IQ T6 (es:=ae a) (ys:=ae b) (v:=.eK) rfl rfl rfl rfl rfl rfl rfl (by decide) rfl rfl (oT b) h2 (by omega) t1 t2 ?_
   intro UT o2 u1 u2 u3 u4
   refine wD ?_;apply Ev.oS;refine wF λhc=>?_
   have ho:o2=ae (a++b):=by
    rw[bS]
    by_cases hb:ae b=[]
    ·rw[u4 hb,hb,ack];refine t3 (λha=>?_);rw[ha]at e1;rw[hb]at e2;simp at e1 e2;omega
    exact u3 hb
   refine .inr ⟨UT,?_,by rw[ho]⟩;rw[bS];rfl
end Go.Pm
namespace Go.Pm
open Go.Proofs
set_option maxRecDepth 4000
set_option maxHeartbeats 4000000
def fW:Tm:=.mk 0 ByteArray.empty 0 []
theorem Out.lt{sz:Nat}{h:ab}{v:PV}{es:List PV}(o:Out sz h v es){j ep n:Nat}(hv:v=.ak j ep 0 n):j<h.length:=by
 rcases o with⟨rfl,_⟩|⟨id,iC,rfl,e2⟩
 cases hv
 cases hv;exact ag e2
theorem LP.obj{H:ab}{v:PV}{sz:Nat}{es:List PV}{r:PV}{h':ab}(a:LP H v sz es r h'){b:Nat}{o:aw}(e:H[b]?=some o)(hb:∀ep n,v≠.ak b ep 0 n):h'[b]?=some o/\∀ep n,r≠.ak b ep 0 n:=by
 refine⟨by rw[a.fr b (ag e) hb];exact e,λep n hh=>?_⟩;rcases a.ref b ep n hh with⟨iC,n',h3⟩|h3;exact hb iC n' h3;have:=ag e;omega
end Go.Pm
