/-
  Pm, a part. Conditions: none.
-/
import Derived.Test.YtimogkojklpdnaaGreatDoorPyAC
set_option linter.unusedVariables false
set_option linter.unusedSimpArgs false
set_option linter.unnecessarySimpa false
set_option linter.unusedSectionVars false
namespace Go.Pm
open Go.Proofs
attribute [local irreducible] aD ay aJ aG Ev ah ai ax aZ
set_option maxRecDepth 4000
set_option maxHeartbeats 4000000
theorem yj(c:Int):oN c=decide ((97<=c/\c<=122)\/(65<=c/\c<=90)\/(48<=c/\c<=57)\/c=95\/c=35):=by
 unfold oN ka pS;simp only[<-Bool.decide_or]
 congr 1
 apply propext;omega
theorem yk(c:Int):aL C 191 [.int .u8 c] (.bool (ka c)):=by
 refine aL.of (ax.dK Tryz.func191 rfl ?_)
 (repeat' (first |refine ah.nil ?_ |(apply R.wv;exact rfl;exact rfl;exact rfl)|(apply R.nU;exact rfl;exact rfl;exact rfl)|(apply R.TI;exact rfl;exact rfl)|(apply R.move;exact rfl)|(apply R.assign;exact rfl)|(apply R.iO;exact rfl;exact rfl)|(apply R.iM;exact rfl;exact rfl)|(apply R.cmp;exact rfl;exact rfl;exact rfl;all_goals intro hc)|refine Ev.seq ?_ |refine Ev.region ?_ |refine Ev.ret ?_ |refine aD.normal ?_ |(apply aG.ret;exact rfl)|fail))
 all_goals(refine⟨_,rfl,congrArg PV.bool ?_⟩;unfold ka;first |exact(decide_eq_true (by omega)).symm |exact(decide_eq_false (by omega)).symm)
theorem Ku(c:Int):aL C 192 [.int .u8 c] (.bool (pS c)):=by
 refine aL.of (ax.dK Tryz.func192 rfl ?_)
 (repeat' (first |refine ah.nil ?_ |(apply R.wv;exact rfl;exact rfl;exact rfl)|(apply R.nU;exact rfl;exact rfl;exact rfl)|(apply R.move;exact rfl)|(apply R.assign;exact rfl)|(apply R.iO;exact rfl;exact rfl)|(apply R.iM;exact rfl;exact rfl)|(apply R.cmp;exact rfl;exact rfl;exact rfl;all_goals intro hc)|refine Ev.seq ?_ |refine Ev.region ?_ |refine Ev.ret ?_ |refine aD.normal ?_ |(apply aG.ret;exact rfl)|fail))
 all_goals(refine⟨_,rfl,congrArg PV.bool ?_⟩;unfold pS;first |exact(decide_eq_true (by omega)).symm |exact(decide_eq_false (by omega)).symm)
theorem Eg(c:Int):aL C 244 [.int .u8 c] (.bool (oN c)):=by
 refine aL.of (ax.dK Tryz.func244 rfl ?_)
 (repeat' (first |refine ah.nil ?_ |(apply R.wv;exact rfl;exact rfl;exact rfl)|(apply R.nU;exact rfl;exact rfl;exact rfl)|(apply R.TI;exact rfl;exact rfl)|(apply R.move;exact rfl)|(apply R.assign;exact rfl)|(apply R.iO;exact rfl;exact rfl)|(apply R.iM;exact rfl;exact rfl)|(apply R.cmp;exact rfl;exact rfl;exact rfl;all_goals intro hc)|refine Ev.seq ?_ |refine Ev.region ?_ |refine Ev.ret ?_ |refine aD.normal ?_ |(apply aG.ret;exact rfl)|fail))
 all_goals(refine⟨_,rfl,congrArg PV.bool ?_⟩;rw[yj];first |exact(decide_eq_true (by omega)).symm |exact(decide_eq_false (by omega)).symm)
theorem th(s:ByteArray)(i:Nat)(h:i<s.toList.length):ju (s.toList.drop i)=(oN (s.toList[i]).toNat&&ju (s.toList.drop (i+1))):=by
 rw[acO h,ju]
theorem yl(s:ByteArray):(s.size=0/\s.toList=[])\/∃c l,s.toList=c::l/\s[0]?=some c/\s.size=l.length+1:=by
 have hl:=bsize s
 cases h:s.toList with
 |nil=>rw[h]at hl;exact .inl ⟨by simpa using hl.symm,rfl⟩
 |cons c l=>exact .inr ⟨c,l,rfl,Jj (i:=0) (by rw[h];rfl),by rw[<-hl,h];rfl⟩
theorem uO(s:ByteArray)(hb:s.size<1000000000):aL C 149 [.str s] (.bool (du s)):=by
 refine aL.of (ax.dK Tryz.func149 rfl ?_);have hl:=bsize s;rcases yl s with⟨h0,hn⟩|⟨c,l,dG,Eh,gC⟩
 ·have hs:du s=false:=by unfold du;rw[hn];rfl
  (repeat' (first |refine ah.nil ?_ |(apply R.wv;exact rfl;exact rfl;exact rfl)|(apply R.nU;exact rfl;exact rfl;exact rfl)|(apply R.move;exact rfl)|(apply R.assign;exact rfl)|(apply R.iO;exact rfl;exact rfl)|(apply R.iM;exact rfl;exact rfl)|(apply R.cmp;exact rfl;exact rfl;exact rfl;all_goals intro hc)|(apply R.ym T6;exact rfl;exact rfl)|refine Ev.seq ?_ |refine Ev.region ?_ |(apply Ev.fI;exact rfl)|refine Ev.ret ?_ |refine aD.normal ?_ |refine aD.ret ?_ |(apply aG.ret;exact rfl)|fail))
  exact⟨_,rfl,by rw[hs];rfl⟩;omega;omega
 ·have hs:du s=(decide (l.length<24)&&ka c.toNat&&ju s.toList):=by unfold du;rw[dG];rfl
  (repeat' (first |refine ah.nil ?_ |(apply R.wv;exact rfl;exact rfl;exact rfl)|(apply R.nU;exact rfl;exact rfl;exact rfl)|(apply R.move;exact rfl)|(apply R.assign;exact rfl)|(apply R.iO;exact rfl;exact rfl)|(apply R.iM;exact rfl;exact rfl)|(apply R.cmp;exact rfl;exact rfl;exact rfl;all_goals intro hc)|(apply R.ym T6;exact rfl;exact rfl)|refine Ev.seq ?_ |refine Ev.region ?_ |(apply Ev.fI;exact rfl)|refine Ev.ret ?_ |refine aD.normal ?_ |refine aD.ret ?_ |(apply aG.ret;exact rfl)|fail))
  omega
  ·refine⟨_,rfl,?_⟩;rw[hs,decide_eq_false (by omega)];rfl
  ·refine R.jv T6 (i:=0) rfl rfl rfl Eh ?_;refine wB ?_;refine R.call rfl rfl (ai.pure rfl rfl (yk c.toNat) ?_)
   cases Oy:ka c.toNat
   ·refine wB ?_;refine⟨_,rfl,?_⟩;rw[hs,Oy];simp[bW,aT]
   ·refine wB ?_;have Jb:du s=ju (s.toList.drop 0):=by rw[hs,Oy,decide_eq_true (by omega)];simp
    refine Ev.loop (I:=λk' st=>∃(i:Nat) (Y':Nat->PV),st=⟨al [(0,.str s),(3,.int .i64 i)] Y',[]⟩/\k'+i=s.size/\du s=ju (s.toList.drop i)) s.size ?_ ?_;exact⟨0,_,St.aR ⟨rfl,rfl,trivial⟩,rfl,Jb⟩
    ·rintro k' _ ⟨i,Y',rfl,hk,ee⟩;refine wE (λhc=>?_) λhc=>?_
     ·have mR:i<s.toList.length:=by omega
      have cC:=Jj (aa6 mR);rw[th s i mR]at ee;refine R.jv T6 rfl rfl rfl cC ?_;generalize hx:s.toList[i]=x at ee cC;have va:=yj x.toNat
      skip
      refine R.call rfl rfl (ai.pure rfl rfl (yk x.toNat) ?_)
      cases Oy:ka x.toNat
      ·refine wB ?_;refine R.jv T6 rfl rfl rfl cC ?_;refine wB ?_;refine R.call rfl rfl (ai.pure rfl rfl (Ku x.toNat) ?_)
       cases QG:pS x.toNat
       ·refine wB ?_;refine R.jv T6 rfl rfl rfl cC ?_;refine wE (λhc=>?_) λhc=>?_
        ·refine R.jv T6 rfl rfl rfl cC ?_;refine wE (λhc=>?_) λhc=>?_
         ·rename_i h95
          have h35:=hc;refine⟨_,rfl,?_⟩;rw[ee];unfold oN;rw[Oy,QG,decide_eq_false (by omega),decide_eq_false (by omega)];rfl
         ·refine⟨k' - 1,by omega,i+1,_,St.aR ⟨rfl,rfl,trivial⟩,by omega,?_⟩;rw[ee];unfold oN;rw[decide_eq_true (show(x.toNat:Int)=35 by omega)];simp
        ·refine⟨k' - 1,by omega,i+1,_,St.aR ⟨rfl,rfl,trivial⟩,by omega,?_⟩;rw[ee];unfold oN;rw[decide_eq_true (show(x.toNat:Int)=95 by omega)];simp
       ·refine wB ?_;refine⟨k' - 1,by omega,i+1,_,St.aR ⟨rfl,rfl,trivial⟩,by omega,?_⟩;rw[ee];unfold oN;rw[QG];simp
      ·refine wB ?_;refine⟨k' - 1,by omega,i+1,_,St.aR ⟨rfl,rfl,trivial⟩,by omega,?_⟩;rw[ee];unfold oN;rw[Oy];simp
     ·refine⟨_,rfl,?_⟩;rw[ee,abG (by omega)];rfl
theorem TJ:(ByteArray.mk #[]).toList=[]:=by rw[ByteArray.toList_eq]
theorem Fj(s:ByteArray)(hb:s.size<1000000000):aL C 193 [.str s] (.bool (du s)):=by
 refine aL.of (ax.dK Tryz.func193 rfl ?_);have hl:=bsize s;rcases yl s with⟨h0,hn⟩|⟨c,l,dG,Eh,gC⟩
 ·have hs:du s=false:=by unfold du;rw[hn];rfl
  have RI:s.toList=(ByteArray.mk #[]).toList:=by rw[hn,TJ]
  refine wB ?_;exact⟨_,rfl,by rw[hs];rfl⟩
 ·have hs:du s=(decide (l.length<24)&&ka c.toNat&&ju s.toList):=by unfold du;rw[dG];rfl
  have va:=yj c.toNat;have hle:ka c.toNat=decide ((97<=(c.toNat:Int)/\(c.toNat:Int)<=122)\/(65<=(c.toNat:Int)/\(c.toNat:Int)<=90)):=rfl
  (repeat' (first |(apply R.jv T6 (i:=0);exact rfl;exact rfl;exact rfl;assumption)|refine ah.nil ?_ |(apply R.wv;exact rfl;exact rfl;exact rfl)|(apply R.nU;exact rfl;exact rfl;exact rfl)|(apply R.TI;exact rfl;exact rfl)|(apply R.move;exact rfl)|(apply R.assign;exact rfl)|(apply R.iO;exact rfl;exact rfl)|(apply R.iM;exact rfl;exact rfl)|(apply R.cmp;exact rfl;exact rfl;exact rfl;all_goals intro hc;all_goals(try(exfalso;omega)))|(apply R.TK;exact rfl;exact rfl;all_goals intro hc)|(apply R.ym T6;exact rfl;exact rfl)|refine Ev.seq ?_ |refine Ev.region ?_ |(apply Ev.fI;exact rfl)|refine Ev.ret ?_ |refine aD.normal ?_ |refine aD.ret ?_ |(apply aG.ret;exact rfl)|fail))
  rw[dG,TJ]at hc;cases hc
  ·refine⟨_,rfl,?_⟩;rw[hs,decide_eq_false (by omega)];rfl
  ·have h24:=hc;clear hc;refine R.call rfl rfl (ai.pure rfl rfl (Eg c.toNat) ?_)
   cases VY:oN c.toNat
   ·refine wD ?_;refine⟨_,rfl,?_⟩;rw[VY]at va;have:=of_decide_eq_false va.symm;rw[hs,hle,decide_eq_false (p:=(97<=(c.toNat:Int)/\(c.toNat:Int)<=122)\/(65<=(c.toNat:Int)/\(c.toNat:Int)<=90)) (by omega)];simp[bW,aT]
   ·rw[VY]at va;have va:=of_decide_eq_true va.symm
    by_cases hg:(97<=(c.toNat:Int)/\(c.toNat:Int)<=122)\/(65<=(c.toNat:Int)/\(c.toNat:Int)<=90)
    ·have Jb:du s=ju (s.toList.drop 0):=by rw[hs,hle,decide_eq_true hg,decide_eq_true (by omega)];simp
     (repeat' (first |(apply R.jv T6 (i:=0);exact rfl;exact rfl;exact rfl;assumption)|refine ah.nil ?_ |(apply R.wv;exact rfl;exact rfl;exact rfl)|(apply R.move;exact rfl)|(apply R.iO;exact rfl;exact rfl)|(apply R.iM;exact rfl;exact rfl)|(apply R.cmp;exact rfl;exact rfl;exact rfl;all_goals intro hc;all_goals(try(exfalso;omega)))|(apply R.not;exact rfl;exact rfl)|(apply R.ym T6;exact rfl;exact rfl)|refine Ev.seq ?_ |refine Ev.region ?_ |(apply Ev.fI;exact rfl)|refine Ev.skip ?_ |refine Ev.block ?_ |refine aD.normal ?_ |fail))
     refine Ev.loop (I:=λk' st=>∃(i:Nat) (Y':Nat->PV),st=⟨al [(0,.str s),(38,.int .i64 s.size),(39,.int .i64 i)] Y',[]⟩/\k'+i=s.size/\du s=ju (s.toList.drop i)) s.size ?_ ?_;exact⟨0,_,St.aR ⟨rfl,rfl,rfl,trivial⟩,rfl,Jb⟩
     ·rintro k' _ ⟨i,Y',rfl,hk,ee⟩;refine wE (λhc=>?_) λhc=>?_
      ·have mR:i<s.toList.length:=by omega
       have cC:=Jj (aa6 mR);rw[th s i mR]at ee;refine R.jv T6 rfl rfl rfl cC ?_;generalize hx:s.toList[i]=x at ee cC
       skip
       refine R.call rfl rfl (ai.pure rfl rfl (Eg x.toNat) ?_)
       cases vF:oN x.toNat
       ·refine wB ?_;refine⟨_,rfl,?_⟩;rw[ee,vF];rfl
       ·refine wB ?_;refine⟨k' - 1,by omega,i+1,_,St.aR ⟨rfl,rfl,rfl,trivial⟩,by omega,?_⟩;rw[ee,vF];rfl
      ·refine⟨_,rfl,?_⟩;rw[ee,abG (by omega)];rfl
    ·have Jb:du s=false:=by rw[hs,hle,decide_eq_false hg];simp
     (repeat' (first |(apply R.jv T6 (i:=0);exact rfl;exact rfl;exact rfl;assumption)|refine ah.nil ?_ |(apply R.wv;exact rfl;exact rfl;exact rfl)|(apply R.nU;exact rfl;exact rfl;exact rfl)|(apply R.move;exact rfl)|(apply R.assign;exact rfl)|(apply R.iO;exact rfl;exact rfl)|(apply R.iM;exact rfl;exact rfl)|(apply R.cmp;exact rfl;exact rfl;exact rfl;all_goals intro hc;all_goals(try(exfalso;omega)))|(apply R.not;exact rfl;exact rfl)|refine Ev.seq ?_ |refine Ev.region ?_ |(apply Ev.fI;exact rfl)|refine Ev.ret ?_ |refine aD.normal ?_ |refine aD.ret ?_ |(apply aG.ret;exact rfl)|fail))
     all_goals exact⟨_,rfl,by rw[Jb];rfl⟩
end Go.Pm
namespace Go.Pm
open Go.Proofs
attribute [local irreducible] aD ay aJ aG Ev ah ai ax
set_option maxRecDepth 4000
set_option maxHeartbeats 4000000
theorem oc(a b:Int):aL C 181 [.int .i64 a,.int .i64 b] (.int .i64 (fC a b)):=by
 refine aL.of (ax.dK Tryz.func181 rfl ?_)
 (repeat' (first |refine ah.nil ?_ |(apply R.move;exact rfl)|(apply R.assign;exact rfl)|(apply R.cmp;exact rfl;exact rfl;exact rfl;all_goals intro hc)|refine Ev.seq ?_ |refine Ev.region ?_ |(apply Ev.fI;exact rfl)|refine Ev.ret ?_ |refine Ev.skip ?_ |refine aD.normal ?_ |refine aD.ret ?_ |(apply aG.ret;exact rfl)|fail))
 all_goals(refine⟨_,rfl,congrArg (PV.int .i64) ?_⟩;unfold fC;(repeat' split) <;>omega)
theorem tw(a b:Int):aL C 101 [.int .i64 a,.int .i64 b] (.int .i64 (fC a b)):=by
 refine aL.of (ax.dK Tryz.func101 rfl ?_)
 (repeat' (first |refine ah.nil ?_ |(apply R.move;exact rfl)|(apply R.assign;exact rfl)|(apply R.cmp;exact rfl;exact rfl;exact rfl;all_goals intro hc)|refine Ev.seq ?_ |refine Ev.region ?_ |(apply Ev.fI;exact rfl)|refine Ev.ret ?_ |refine Ev.skip ?_ |refine Ev.block ?_ |refine aD.normal ?_ |refine aD.ret ?_ |refine ay.normal ?_ |refine ay.ret ?_ |(apply aG.ret;exact rfl)|fail))
 all_goals(refine⟨_,rfl,congrArg (PV.int .i64) ?_⟩;unfold fC;(repeat' split) <;>omega)
theorem RY(k s o l)(PH:bF l<1000000000)(ih:∀t∈l,aL C 176 [enc t] (.int .i64 (size t))):aL C 176 [enc (.mk k s o l)] (.int .i64 (size (.mk k s o l))):=by
 refine aL.of (ax.dK Tryz.func176 rfl ?_);rw[bo];have hlen:=bH l;have cz:=ak l;have gC:=cX l;refine wB ?_;refine Ev.loop (I:=λk' st=>∃(i:Nat) (n:Int) (Y':Nat->PV),st=⟨al [(1,.ptr 0 0 0 0),(3,.int .i64 n),(4,.int .i64 i)] Y',[⟨.m,0,4,[.agg [.int .i64 k,.str s,.int .i64 o,.aa false (ae l)]]⟩]⟩/\k'+i=l.length/\0<=n/\1+dx l=n+dx (l.drop i)) l.length ?_ ?_;exact⟨0,1,_,St.aR ⟨rfl,rfl,rfl,trivial⟩,rfl,by omega,rfl⟩
 ·rintro k' _ ⟨i,n,Y',rfl,hk,hn,ee⟩;refine wE (λhc=>?_) λhc=>?_
  ·obtain⟨k1,s1,o1,l1,fy,cC,hd,mR,_⟩:=gD hc;refine R.gX T6 rfl rfl rfl rfl cC rfl rfl ?_;have Tb:=bU fy;have hsm:=gN (.mk k1 s1 o1 l1);have E1:=cX (l.drop (i+1));rw[hd,dx]at ee;refine wB ?_;refine R.call rfl rfl ?_;show ai C 2 _ [.agg [.int .i64 k1,.str s1,.int .i64 o1,.aa false (ae l1)]] _ _;rw[<-bo];refine ai.pure (r:=.int .i64 (size (.mk k1 s1 o1 l1))) rfl (by simp[ao,qE]) (by simpa[aU,wc]using ih _ fy) ?_;refine wB ?_;exact⟨k' - 1,by omega,i+1,n+size (.mk k1 s1 o1 l1),_,St.aR ⟨rfl,rfl,rfl,trivial⟩,by omega,by omega,by omega⟩
  ·refine⟨_,rfl,?_⟩;simp only[bW,aT,size];rw[kg hc,dx]at ee;rw[ee];simp
theorem sq(t:Tm)(hb:az t<1000000000):aL C 176 [enc t] (.int .i64 (size t)):=by
 induction t using Tm.ind with
 |h k s o l ih=>
  simp only[az]at hb;exact RY k s o l (by omega) (λt ht=>ih t ht (by have:=bU ht;omega))
theorem OT(k s o l)(PH:bF l<1000000000)(ih:∀t∈l,aL C 102 [enc t] (.int .i64 (size t))):aL C 102 [enc (.mk k s o l)] (.int .i64 (size (.mk k s o l))):=by
 refine aL.of (ax.dK Tryz.func102 rfl ?_);rw[bo];have hlen:=bH l;have cz:=ak l;have gC:=cX l;refine wB ?_;refine Ev.loop (I:=λk' st=>∃(i:Nat) (n:Int) (J:ab) (Y':Nat->PV),st=⟨al [(1,.ptr 0 0 0 0),(3,.int .i64 n),(7,.aa false (ae l)),(8,.int .i64 (ae l).length),(9,.int .i64 i)] Y',⟨.m,0,4,[.agg [.int .i64 k,.str s,.int .i64 o,.aa false (ae l)]]⟩::J⟩/\k'+i=l.length/\0<=n/\1+dx l=n+dx (l.drop i)) l.length ?_ ?_;exact⟨0,1,[],_,St.aR ⟨rfl,rfl,rfl,rfl,rfl,trivial⟩,rfl,by omega,rfl⟩
 ·rintro k' _ ⟨i,n,J,Y',rfl,hk,hn,ee⟩;refine wE (λhc=>?_) λhc=>?_
  ·obtain⟨k1,s1,o1,l1,fy,cC,hd,mR,_⟩:=gD hc;refine R.gX T6 rfl rfl rfl rfl cC rfl rfl ?_;have Tb:=bU fy;have hsm:=gN (.mk k1 s1 o1 l1);have E1:=cX (l.drop (i+1));rw[hd,dx]at ee;refine wB ?_;refine R.call rfl rfl ?_;show ai C 2 _ [.agg [.int .i64 k1,.str s1,.int .i64 o1,.aa false (ae l1)]] _ _;rw[<-bo];refine ai.pure (r:=.int .i64 (size (.mk k1 s1 o1 l1))) rfl (by simp[ao,qE]) (by simpa[aU,wc]using ih _ fy) ?_;refine wB ?_;exact⟨k' - 1,by omega,i+1,n+size (.mk k1 s1 o1 l1),_,_,St.aR ⟨rfl,rfl,rfl,rfl,rfl,trivial⟩,by omega,by omega,by omega⟩
  ·refine⟨_,rfl,?_⟩;simp only[bW,aT,size];rw[kg hc,dx]at ee;rw[ee];simp
theorem uB(t:Tm)(hb:az t<1000000000):aL C 102 [enc t] (.int .i64 (size t)):=by
 induction t using Tm.ind with
 |h k s o l ih=>
  simp only[az]at hb;exact OT k s o l (by omega) (λt ht=>ih t ht (by have:=bU ht;omega))
end Go.Pm
namespace Go.Pm
open Go.Proofs
attribute [local irreducible] aD ay aJ aG Ev ah ai ax aZ
set_option maxRecDepth 4000
set_option maxHeartbeats 4000000
theorem K6(k s o l)(hb:az (.mk k s o l)<1000000000):aL C 235 [enc (.mk k s o l)] (.int .i64 (node (.mk k s o l))):=by
 refine aL.of (ax.dK Tryz.func235 rfl ?_);rw[bo];have cz:=ak l;have hlen:=bH l;have C1:s.size<1000000000:=by simp only[az]at hb;omega
 (repeat' (first |refine ah.nil ?_ |(apply R.wv;exact rfl;exact rfl;exact rfl)|(apply R.nU;exact rfl;exact rfl;exact rfl)|(apply R.TI;exact rfl;exact rfl)|(apply R.move;exact rfl)|(apply R.assign;exact rfl)|(apply R.iO;exact rfl;exact rfl)|(apply R.iM;exact rfl;exact rfl)|(apply R.gB T6;exact rfl;exact rfl;exact rfl;exact rfl)|(apply R.fieldAddr T6;exact rfl;exact rfl;exact rfl;exact rfl)|(apply R.cmp;exact rfl;exact rfl;exact rfl;all_goals intro hc;all_goals(try(exfalso;omega)))|(apply R.not;exact rfl;exact rfl)|(apply R.rk T6;exact rfl;exact rfl)|(apply R.box;exact rfl;exact rfl;exact rfl;exact .nil)|refine Ev.seq ?_ |refine Ev.region ?_ |(apply Ev.fI;exact rfl)|refine Ev.ret ?_ |refine Ev.skip ?_ |refine aD.normal ?_ |refine aD.ret ?_ |(apply aG.ret;exact rfl)|fail))
 all_goals first
  |(refine⟨_,rfl,congrArg (PV.int .i64) ?_⟩;rw[node,if_pos (by omega)])
  |(refine R.call rfl rfl (ai.pure rfl rfl (uO s C1) ?_);cases hN:du s <;>(repeat' (first |refine ah.nil ?_ |(apply R.assign;exact rfl)|(apply R.gB T6;exact rfl;exact rfl;exact rfl;exact rfl)|(apply R.fieldAddr T6;exact rfl;exact rfl;exact rfl;exact rfl)|(apply R.cmp;exact rfl;exact rfl;exact rfl;all_goals intro hc;all_goals(try(exfalso;omega)))|(apply R.not;exact rfl;exact rfl)|(apply R.rk T6;exact rfl;exact rfl)|refine Ev.seq ?_ |refine Ev.region ?_ |(apply Ev.fI;exact rfl)|refine Ev.ret ?_ |refine Ev.skip ?_ |refine aD.normal ?_ |refine aD.ret ?_ |(apply aG.ret;exact rfl)|fail)))
 all_goals first
  |(refine⟨_,rfl,congrArg (PV.int .i64) ?_⟩;rw[node,if_neg (by omega),if_pos hN])
  |(refine⟨_,rfl,congrArg (PV.int .i64) ?_⟩;rw[node,if_neg (by omega),if_neg (by rw[hN];simp),if_pos (by omega)])
  |(refine⟨_,rfl,congrArg (PV.int .i64) ?_⟩;rw[node,if_neg (by omega),if_neg (by rw[hN];simp),if_neg (by omega)])
theorem K7(k s o l)(hb:az (.mk k s o l)<1000000000)(ih:∀t∈l,aL C 175 [enc t] (.int .i64 (nodes t))):aL C 175 [enc (.mk k s o l)] (.int .i64 (nodes (.mk k s o l))):=by
 have y9:=K6 k s o l hb;refine aL.of (ax.dK Tryz.func175 rfl ?_);rw[bo]at y9 ⊢;have hlen:=bH l;have cz:=ak l;simp only[az]at hb;refine wB ?_;refine R.call rfl rfl (ai.pure rfl (by simp[ao,aV]) (by simpa[aU,bW,bg]using y9) ?_);refine wE (λhc=>?_) λhc=>?_
 ·refine⟨_,rfl,?_⟩;rw[nodes,if_pos (by assumption)];rfl
 ·have h0:nodes (.mk k s o l)=gy l:=by rw[nodes,if_neg (by assumption)]
  refine Ev.loop (I:=λk' st=>∃(i:Nat) (Y':Nat->PV),st=⟨al [(1,.ptr 0 0 0 0),(4,.int .i64 i)] Y',[⟨.m,0,4,[.agg [.int .i64 k,.str s,.int .i64 o,.aa false (ae l)]]⟩]⟩/\k'+i=l.length/\gy l=gy (l.drop i)) l.length ?_ ?_;exact⟨0,_,St.aR ⟨rfl,rfl,trivial⟩,rfl,rfl⟩
  ·rintro k' _ ⟨i,Y',rfl,hk,ee⟩;refine wE (λhc=>?_) λhc=>?_
   ·obtain⟨k1,s1,o1,l1,fy,cC,hd,mR,_⟩:=gD hc;refine R.gX T6 rfl rfl rfl rfl cC rfl rfl ?_;have zX:=ih _ fy;rw[bo]at zX;rw[hd,gy]at ee;refine wB ?_;refine R.call rfl rfl (ai.pure rfl (by simp[ao,aV]) (by simpa[aU,bW,bg]using zX) ?_);refine wE (λhc=>?_) λhc=>?_
    ·refine⟨_,rfl,?_⟩;rw[h0,ee,if_pos (by assumption)];rfl
    ·refine⟨k' - 1,by omega,i+1,_,St.aR ⟨rfl,rfl,trivial⟩,by omega,?_⟩;rw[ee,if_neg (by assumption)]
   ·refine⟨_,rfl,?_⟩;rw[h0,ee,kg hc];rfl
theorem Hi(t:Tm)(hb:az t<1000000000):aL C 175 [enc t] (.int .i64 (nodes t)):=by
 induction t using Tm.ind with
 |h k s o l ih=>
  exact K7 k s o l hb (λt ht=>ih t ht (by have:=bU ht;simp only[az]at hb;omega))
theorem K8(k s o l)(hb:az (.mk k s o l)<1000000000)(ih:∀t∈l,aL C 177 [enc t] (.int .i64 (depth t))):aL C 177 [enc (.mk k s o l)] (.int .i64 (depth (.mk k s o l))):=by
 refine aL.of (ax.dK Tryz.func177 rfl ?_);rw[bo];have hlen:=bH l;have cz:=ak l;have gC:=cX l;have hds:=gP l;simp only[az]at hb;refine wB ?_;refine Ev.loop (I:=λk' st=>∃(i:Nat) (n:Int) (Y':Nat->PV),st=⟨al [(1,.ptr 0 0 0 0),(3,.int .i64 n),(4,.int .i64 i)] Y',[⟨.m,0,4,[.agg [.int .i64 k,.str s,.int .i64 o,.aa false (ae l)]]⟩]⟩/\k'+i=l.length/\0<=n/\fe l=max n (fe (l.drop i))) l.length ?_ ?_;exact⟨0,0,_,St.aR ⟨rfl,rfl,rfl,trivial⟩,rfl,by omega,by simp only[acb];omega⟩
 ·rintro k' _ ⟨i,n,Y',rfl,hk,hn,ee⟩;refine wE (λhc=>?_) λhc=>?_
  ·obtain⟨k1,s1,o1,l1,fy,cC,hd,mR,_⟩:=gD hc;refine R.gX T6 rfl rfl rfl rfl cC rfl rfl ?_;have zX:=ih _ fy;rw[bo]at zX;rw[hd,fe]at ee;have N5:=nY (.mk k1 s1 o1 l1);refine wB ?_;refine R.call rfl rfl (ai.pure rfl (by simp[ao,aV]) (by simpa[aU,bW,bg]using zX) ?_);refine wB ?_;exact⟨k' - 1,by omega,i+1,_,_,St.aR ⟨rfl,rfl,rfl,trivial⟩,by omega,by omega,by omega⟩
  ·rw[kg hc,fe]at ee
   skip
   refine⟨_,rfl,congrArg (PV.int .i64) ?_⟩;rw[depth];omega
theorem Hj(t:Tm)(hb:az t<1000000000):aL C 177 [enc t] (.int .i64 (depth t)):=by
 induction t using Tm.ind with
 |h k s o l ih=>
  exact K8 k s o l hb (λt ht=>ih t ht (by have:=bU ht;simp only[az]at hb;omega))
theorem G'(t:Tm)(hb:az t<1000000000):aL C 125 [enc t] (.int .i64 (valid t)):=by
 have h1:=Hi t hb;have h2:=sq t hb;have h3:=Hj t hb;obtain⟨k,s,o,l⟩:=t;refine aL.of (ax.dK Tryz.func125 rfl ?_);rw[bo]at h1 h2 h3 ⊢;refine wB ?_;refine R.call rfl rfl (ai.pure rfl (by simp[ao,aV]) (by simpa[aU,bW,bg]using h1) ?_);refine wE (λhc=>?_) λhc=>?_
 ·refine⟨_,rfl,?_⟩;rw[valid,if_pos (by assumption)];rfl
 ·have h0:=hc;clear hc;refine R.call rfl rfl (ai.pure rfl (by simp[ao,aV]) (by simpa[aU,bW,bg]using h2) ?_);refine wE (λhc=>?_) λhc=>?_
  ·refine⟨_,rfl,?_⟩;rw[valid,if_neg h0,if_pos (by omega)];rfl
  ·refine R.call rfl rfl (ai.pure rfl (by simp[ao,aV]) (by simpa[aU,bW,bg]using h3) ?_);refine wE (λhc=>?_) λhc=>?_
   ·refine⟨_,rfl,?_⟩;rw[valid,if_neg h0,if_pos (by omega)];rfl
   ·refine⟨_,rfl,?_⟩;rw[valid,if_neg h0,if_neg (by omega)];rfl
set_option maxHeartbeats 2000000 in
theorem Qg(k s o l k' s' o' l')(hb:az (.mk k s o l)<1000000000)(ee:az (.mk k' s' o' l')<1000000000)
  (ih:∀t∈l,∀t'∈l',aL C 134 [enc t,enc t'] (.int .i64 (aW t t'))):aL C 134 [enc (.mk k s o l),enc (.mk k' s' o' l')] (.int .i64 (aW (.mk k s o l) (.mk k' s' o' l'))):=by
 refine aL.of (ax.dK Tryz.func134 rfl ?_);rw[bo,bo];have z1:=sq _ hb;have z2:=sq _ ee;have v1:ao (ae l)=true:=fp l;have v2:ao (ae l')=true:=fp l';have e1:=ak l;have e2:=ak l';have b1:l.length<1000000000:=by have:=bH l;simp only[az]at hb;omega
 have b2:l'.length<1000000000:=by have:=bH l';simp only[az]at ee;omega
 rw[bo]at z1 z2;refine wB ?_;refine D.mh rfl rfl rfl rfl (by simp[ao,aV,v1]) rfl rfl (by simpa[aU,bW,bg]using z1) ?_;refine wB ?_;refine D.mh rfl rfl rfl rfl (by simp[ao,aV,v2]) rfl rfl (by simpa[aU,bW,bg]using z2) ?_;refine D.mh rfl rfl rfl rfl rfl rfl rfl (oc _ _) ?_;refine wE (λhc=>?_) λhc=>?_;exact⟨_,rfl,by simp only[bW,aT,aW];rw[if_pos hc]⟩;have h1:=hc;clear hc;refine R.call rfl rfl (ai.pure rfl rfl (oc k k') ?_)
 (repeat' (first |refine ah.nil ?_ |(apply R.move;exact rfl)|(apply R.assign;exact rfl)|(apply R.gB T6;exact rfl;exact rfl;exact rfl;exact rfl)|(apply R.fieldAddr T6;exact rfl;exact rfl;exact rfl;exact rfl)|(apply R.cmp;exact rfl;exact rfl;exact rfl;all_goals intro hc)|(apply R.Uk;exact rfl;exact rfl;exact rfl;all_goals intro hc)|refine Ev.seq ?_ |refine Ev.region ?_ |(apply Ev.fI;exact rfl)|refine Ev.ret ?_ |refine Ev.skip ?_ |refine aD.normal ?_ |refine aD.ret ?_ |(apply aG.ret;exact rfl)|fail))
 exact⟨_,rfl,by simp only[bW,aT,aW];rw[if_neg h1,if_pos hc]⟩
 ·rename_i h2
  have h3:=hc;exact⟨_,rfl,by simp only[bW,aT,aW];rw[if_neg h1,if_neg h2,if_pos h3]⟩
 ·rename_i h2 h3
  have h4:=hc;exact⟨_,rfl,by simp only[bW,aT,aW];rw[if_neg h1,if_neg h2,if_neg (by rw[h3];simp),if_pos h4]⟩
 rename_i h2 h3
 have h4:=hc;clear hc;refine R.call rfl rfl (ai.pure rfl rfl (oc o o') ?_);refine wE (λhc=>?_) λhc=>?_;exact⟨_,rfl,by simp only[bW,aT,aW];rw[if_neg h1,if_neg h2,if_neg (by rw[h3];simp),if_neg (by rw[h4];simp),if_pos hc]⟩;have h5:=hc;clear hc;refine R.call rfl rfl (ai.pure rfl rfl (oc (ae l).length (ae l').length) ?_);refine wE (λhc=>?_) λhc=>?_
 ·refine⟨_,rfl,?_⟩;simp only[bW,aT,aW];rw[e1,e2]at hc ⊢;rw[if_neg h1,if_neg h2,if_neg (by rw[h3];simp),if_neg (by rw[h4];simp),if_neg h5,if_pos hc]
 have h6:=hc;clear hc
 have o8:l.length=l'.length:=by
  rw[e1,e2]at h6;unfold fC at h6
  repeat' split at h6
  all_goals omega
 have S9:aW (.mk k s o l) (.mk k' s' o' l')=lX l l':=by
  rw[e1,e2]at h6;rw[aW,if_neg h1,if_neg h2,if_neg (by rw[h3];simp),if_neg (by rw[h4];simp),if_neg h5,if_neg h6]
 refine Ev.loop (I:=λUl st=>∃(i:Nat) (Y':Nat->PV),st=⟨al [(2,.ptr 0 0 0 0),(3,.ptr 1 0 0 0),(9,.int .i64 i)] Y',[⟨.m,0,4,[.agg [.int .i64 k,.str s,.int .i64 o,.aa false (ae l)]]⟩,⟨.m,0,4,[.agg [.int .i64 k',.str s',.int .i64 o',.aa false (ae l')]]⟩]⟩/\Ul+i=l.length/\lX l l'=lX (l.drop i) (l'.drop i)) l.length ?_ ?_;exact⟨0,_,St.aR ⟨rfl,rfl,rfl,trivial⟩,rfl,rfl⟩
 ·rintro Ul _ ⟨i,Y',rfl,hk,tL⟩;refine wE (λhc=>?_) λhc=>?_
  ·obtain⟨k1,s1,o1,l1,fy,cC,hd,mR,_⟩:=gD hc;obtain⟨k2,s2,o2,l2,Me,Um,CW,ZJ,_⟩:=gD (l:=l') (i:=i) (by omega);have w1:ao (ae l1)=true:=fp l1;have w2:ao (ae l2)=true:=fp l2;have zX:=ih _ fy _ Me;rw[bo,bo]at zX;refine D.gX T6 rfl rfl rfl rfl rfl cC rfl rfl ?_;refine wB ?_;refine D.gX T6 rfl rfl rfl rfl rfl Um rfl rfl ?_;refine wB ?_;refine D.mh rfl rfl rfl rfl (by simp[ao,aV,w1,w2]) rfl rfl (by simpa[aU,bW,bg]using zX) ?_;refine wE (λhc=>?_) λhc=>?_
   ·refine⟨_,rfl,?_⟩;simp only[bW,aT];rw[S9,tL,hd,CW,lX,if_pos (by assumption)]
   ·refine⟨Ul - 1,by omega,i+1,_,St.aR ⟨rfl,rfl,rfl,trivial⟩,by omega,?_⟩;rw[tL,hd,CW,lX,if_neg (by assumption)]
  ·refine⟨_,rfl,?_⟩;simp only[bW,aT];rw[S9,tL,kg hc,lX]
theorem C3(t t':Tm)(hb:az t<1000000000)(ee:az t'<1000000000):aL C 134 [enc t,enc t'] (.int .i64 (aW t t')):=by
 induction t using Tm.ind generalizing t' with
 |h k s o l ih=>
  obtain⟨k',s',o',l'⟩:=t';refine Qg k s o l k' s' o' l' hb ee (λt ht t' ht'=>ih t ht t' ?_ ?_);have:=bU ht;simp only[az]at hb;omega;have:=bU ht';simp only[az]at ee;omega
theorem ur(t t':Tm)(hb:az t<1000000000)(ee:az t'<1000000000):aL C 78 [enc t,enc t'] (.bool (decide (aW t t'=0))):=by
 have h1:=C3 t t' hb ee;obtain⟨k,s,o,l⟩:=t;obtain⟨k',s',o',l'⟩:=t';refine aL.of (ax.dK Tryz.func78 rfl ?_);rw[bo,bo]at h1 ⊢;refine wB ?_;refine R.call rfl rfl (ai.pure rfl (by simp[ao,aV]) (by simpa[aU,bW,bg]using h1) ?_);refine wE (λhc=>?_) λhc=>?_;exact⟨_,rfl,congrArg PV.bool (decide_eq_true (by assumption)).symm⟩;exact⟨_,rfl,congrArg PV.bool (decide_eq_false (by assumption)).symm⟩
theorem yD(k s o l):dA (.mk k s o l)=decide (k=3/\(s.toList=uF\/s.toList=mb\/s.toList=uG)):=by
 simp only[dA,<-Bool.decide_or,<-Bool.decide_and,or_assoc]
theorem FF:(ByteArray.mk #[109,117,108]).toList=uF:=Ly
theorem xd:(ByteArray.mk #[105,110,118]).toList=mb:=Lz
theorem FG:(ByteArray.mk #[111,110,101]).toList=uG:=LA
theorem xc(k s o l):aL C 309 [enc (.mk k s o l)] (.bool (dA (.mk k s o l))):=by
 refine aL.of (ax.dK Tryz.func309 rfl ?_);rw[bo,yD]
 (repeat' (first |refine ah.nil ?_ |(apply R.wv;exact rfl;exact rfl;exact rfl)|(apply R.nU;exact rfl;exact rfl;exact rfl)|(apply R.TI;exact rfl;exact rfl)|(apply R.move;exact rfl)|(apply R.assign;exact rfl)|(apply R.iO;exact rfl;exact rfl)|(apply R.iM;exact rfl;exact rfl)|(apply R.gB T6;exact rfl;exact rfl;exact rfl;exact rfl)|(apply R.fieldAddr T6;exact rfl;exact rfl;exact rfl;exact rfl)|(apply R.cmp;exact rfl;exact rfl;exact rfl;all_goals intro hc)|(apply R.TK;exact rfl;exact rfl;all_goals intro hc)|(apply R.box;exact rfl;exact rfl;exact rfl;exact .nil)|refine Ev.seq ?_ |refine Ev.region ?_ |refine Ev.ret ?_ |refine aD.normal ?_ |(apply aG.ret;exact rfl)|fail))
 all_goals try simp only[FF,xd,FG]at *
 all_goals first
  |exact⟨_,rfl,congrArg PV.bool (decide_eq_true (by simp[*])).symm⟩
  |exact⟨_,rfl,congrArg PV.bool (decide_eq_false (by simp[*])).symm⟩
theorem Hf(a b:ByteArray):aL C 153 [.str a,.str b] (.int .i64 (Cr a b)):=by
 have e:Cr a b=Lib.compareBytes a.data.toList b.data.toList:=by unfold Cr eX;rw[ByteArray.toList_eq,ByteArray.toList_eq]
 rw[e];refine aL.of (ax.dK Tryz.func153 rfl ?_);refine wB ?_;refine R.call rfl rfl (ai.ext rfl rfl rfl ?_);refine wB ?_;exact⟨_,rfl,rfl⟩
theorem O4(a b:ByteArray):aL C 103 [.str a,.str b] (.int .i64 (Cr a b)):=by
 refine aL.of (ax.dK Tryz.func103 rfl ?_);refine wB ?_;refine R.call rfl rfl (ai.pure rfl rfl (Hf a b) ?_);refine wB ?_;exact⟨_,rfl,rfl⟩
theorem Sa(k s o l k' s' o' l')(hb:az (.mk k s o l)<1000000000)(ee:az (.mk k' s' o' l')<1000000000)
  (ih:∀t∈l,∀t'∈l',aL C 52 [enc t,enc t'] (.int .i64 (aW t t'))):aL C 52 [enc (.mk k s o l),enc (.mk k' s' o' l')] (.int .i64 (aW (.mk k s o l) (.mk k' s' o' l'))):=by
 refine aL.of (ax.dK Tryz.func52 rfl ?_);have Cs:=lR k s o l k' s' o' l';have z1:=uB _ hb;have z2:=uB _ ee;rw[bo]at z1 z2;rw[bo,bo];generalize aW (.mk k s o l) (.mk k' s' o' l')=R0 at Cs ⊢;have e1:=ak l;have e2:=ak l';have b1:l.length<1000000000:=by have:=bH l;simp only[az]at hb;omega
 have b2:l'.length<1000000000:=by have:=bH l';simp only[az]at ee;omega
 have o8:fC (ae l).length (ae l').length=0->l.length=l'.length:=λh=>by have:=iX h;omega
 rw[<-e1,<-e2]at Cs;refine wB ?_;refine D.mh rfl rfl rfl rfl (by simp[ao,aV]) rfl rfl (by simpa[aU,bW,bg]using z1) ?_;refine wB ?_;refine D.mh rfl rfl rfl rfl (by simp[ao,aV]) rfl rfl (by simpa[aU,bW,bg]using z2) ?_;refine D.mh rfl rfl rfl rfl rfl rfl rfl (tw _ _) ?_;generalize fC (size (.mk k s o l)) (size (.mk k' s' o' l'))=X1 at Cs ⊢
 (repeat' (first |refine ah.nil ?_ |(apply R.move;exact rfl)|(apply R.assign;exact rfl)|(apply R.gB T6;exact rfl;exact rfl;exact rfl;exact rfl)|(apply R.fieldAddr T6;exact rfl;exact rfl;exact rfl;exact rfl)|(apply R.cmp;exact rfl;exact rfl;exact rfl;all_goals intro hc;all_goals(try(exfalso;omega)))|refine Ev.seq ?_ |refine Ev.region ?_ |refine aZ.nil ?_ |(apply D.assign;exact rfl)|(apply Ev.fI;exact rfl)|refine Ev.skip ?_ |refine Ev.block ?_ |refine aD.normal ?_ |fail))
 all_goals try(refine R.call rfl rfl (ai.pure rfl rfl (tw k k') ?_);generalize fC k k'=X2 at Cs ⊢;(repeat' (first |refine ah.nil ?_ |(apply R.move;exact rfl)|(apply R.assign;exact rfl)|(apply R.gB T6;exact rfl;exact rfl;exact rfl;exact rfl)|(apply R.fieldAddr T6;exact rfl;exact rfl;exact rfl;exact rfl)|(apply R.cmp;exact rfl;exact rfl;exact rfl;all_goals intro hc;all_goals(try(exfalso;omega)))|refine Ev.seq ?_ |refine Ev.region ?_ |(apply Ev.fI;exact rfl)|refine Ev.skip ?_ |refine Ev.block ?_ |refine aD.normal ?_ |fail)))
 all_goals try(refine R.call rfl rfl (ai.pure rfl rfl (O4 s s') ?_);generalize Cr s s'=X3 at Cs ⊢;(repeat' (first |refine ah.nil ?_ |(apply R.move;exact rfl)|(apply R.assign;exact rfl)|(apply R.gB T6;exact rfl;exact rfl;exact rfl;exact rfl)|(apply R.fieldAddr T6;exact rfl;exact rfl;exact rfl;exact rfl)|(apply R.cmp;exact rfl;exact rfl;exact rfl;all_goals intro hc;all_goals(try(exfalso;omega)))|refine Ev.seq ?_ |refine Ev.region ?_ |(apply Ev.fI;exact rfl)|refine Ev.skip ?_ |refine Ev.block ?_ |refine aD.normal ?_ |fail)))
 all_goals try(refine R.call rfl rfl (ai.pure rfl rfl (tw o o') ?_);generalize fC o o'=X4 at Cs ⊢;(repeat' (first |refine ah.nil ?_ |(apply R.move;exact rfl)|(apply R.assign;exact rfl)|(apply R.gB T6;exact rfl;exact rfl;exact rfl;exact rfl)|(apply R.fieldAddr T6;exact rfl;exact rfl;exact rfl;exact rfl)|(apply R.cmp;exact rfl;exact rfl;exact rfl;all_goals intro hc;all_goals(try(exfalso;omega)))|(apply R.rk T6;exact rfl;exact rfl)|refine Ev.seq ?_ |refine Ev.region ?_ |(apply Ev.fI;exact rfl)|refine Ev.skip ?_ |refine Ev.block ?_ |refine aD.normal ?_ |fail)))
 all_goals try(refine R.call rfl rfl (ai.pure rfl rfl (tw (ae l).length (ae l').length) ?_);generalize fC (ae l).length (ae l').length=X5 at Cs o8 ⊢;refine wD ?_)
 all_goals(
  refine Ev.loop (I:=λUl st=>∃(i:Nat) (c:Int) (Y':Nat->PV),st=⟨al [(2,.ptr 0 0 0 0),(3,.ptr 1 0 0 0),(5,.int .i64 c),(6,.int .i64 i)] Y',[⟨.m,0,4,[.agg [.int .i64 k,.str s,.int .i64 o,.aa false (ae l)]]⟩,⟨.m,0,4,[.agg [.int .i64 k',.str s',.int .i64 o',.aa false (ae l')]]⟩]⟩/\Ul+i=l.length/\R0=lQ c (lX (l.drop i) (l'.drop i))/\(c=0->l.length=l'.length)) l.length ?_ ?_
  ·refine⟨0,_,_,St.aR ⟨rfl,rfl,rfl,rfl,trivial⟩,rfl,?_,?_⟩
   ·rw[Cs];unfold lQ;simp only[acb];(repeat' split) <;>first |rfl |omega
   ·first |exact o8 |(intro h;exfalso;omega)
  ·clear Cs o8;rintro Ul _ ⟨i,c,Y',rfl,hk,tL,o8⟩
   (repeat' (first |refine ah.nil ?_ |(apply R.wv;exact rfl;exact rfl;exact rfl)|(apply R.nU;exact rfl;exact rfl;exact rfl)|(apply R.move;exact rfl)|(apply R.assign;exact rfl)|(apply R.iO;exact rfl;exact rfl)|(apply R.iM;exact rfl;exact rfl)|(apply R.gB T6;exact rfl;exact rfl;exact rfl;exact rfl)|(apply R.fieldAddr T6;exact rfl;exact rfl;exact rfl;exact rfl)|(apply R.cmp;exact rfl;exact rfl;exact rfl;all_goals intro hc;all_goals(try(exfalso;omega)))|(apply R.rk T6;exact rfl;exact rfl)|refine Ev.seq ?_ |refine Ev.region ?_ |refine Ev.mg ?_ |(apply D.move;exact rfl)|(apply D.fieldAddr T6;exact rfl;exact rfl;exact rfl;exact rfl)|(apply D.gB T6;exact(by first |exact rfl |assumption);exact rfl;exact rfl;exact rfl;exact rfl;exact rfl)|(apply Ev.fI;exact rfl)|refine Ev.ret ?_ |refine Ev.skip ?_ |refine Ev.exit ?_ |refine Ev.block ?_ |refine aD.normal ?_ |refine aD.exit ?_ |refine ay.hit ?_ |refine aJ.exit ?_ |(apply aG.ret;exact rfl)|fail))
   ·have o8:=o8 (by assumption);obtain⟨k1,s1,o1,l1,fy,cC,hd,mR,_⟩:=gD hc;obtain⟨k2,s2,o2,l2,Me,Um,CW,ZJ,_⟩:=gD (l:=l') (i:=i) (by omega);have zX:=ih _ fy _ Me;rw[bo,bo]at zX;refine D.gX T6 rfl rfl rfl rfl rfl cC rfl rfl ?_;refine wB ?_;refine D.gX T6 rfl rfl rfl rfl rfl Um rfl rfl ?_;refine wB ?_;refine D.mh rfl rfl rfl rfl (by simp[ao,aV]) rfl rfl (by simpa[aU,bW,bg]using zX) ?_;refine wB ?_;refine⟨Ul - 1,by omega,i+1,_,_,St.aR ⟨rfl,rfl,rfl,rfl,trivial⟩,by omega,?_,λ_=>o8⟩;have Eh:c=0:=by assumption
    rw[tL,Eh,hd,CW,lS];rfl
   ·refine⟨_,rfl,congrArg (PV.int .i64) ?_⟩;have Eh:c=0:=by assumption
    rw[tL,Eh,kg hc,lX];rfl
   ·refine⟨_,rfl,congrArg (PV.int .i64) ?_⟩;rw[tL,lQ,if_pos (by assumption)])
theorem eF(t t':Tm)(hb:az t<1000000000)(ee:az t'<1000000000):aL C 52 [enc t,enc t'] (.int .i64 (aW t t')):=by
 induction t using Tm.ind generalizing t' with
 |h k s o l ih=>
  obtain⟨k',s',o',l'⟩:=t';refine Sa k s o l k' s' o' l' hb ee (λt ht t' ht'=>ih t ht t' ?_ ?_);have:=bU ht;simp only[az]at hb;omega;have:=bU ht';simp only[az]at ee;omega
theorem names{k s o l}(h:dA (.mk k s o l)=true):k=3/\
  ((s.toList=(ByteArray.mk #[109,117,108]).toList/\¬s.toList=(ByteArray.mk #[105,110,118]).toList/\¬s.toList=(ByteArray.mk #[111,110,101]).toList)\/
   (¬s.toList=(ByteArray.mk #[109,117,108]).toList/\s.toList=(ByteArray.mk #[105,110,118]).toList/\¬s.toList=(ByteArray.mk #[111,110,101]).toList)\/
   (¬s.toList=(ByteArray.mk #[109,117,108]).toList/\¬s.toList=(ByteArray.mk #[105,110,118]).toList/\s.toList=(ByteArray.mk #[111,110,101]).toList)):=by
 rw[yD]at h;obtain⟨h1,h2⟩:=of_decide_eq_true h;refine⟨h1,?_⟩;rw[FF,xd,FG];rcases h2 with h2 |h2 |h2 <;>rw[h2] <;>decide
theorem nS(k s o l n):wq (.mk k s o l,n)=.agg [.int .i64 k,.str s,.int .i64 o,.aa false (ae l),.int .i64 n]:=rfl
theorem fh(l:List Pw):(bq l).length=l.length:=by simp[bq]
theorem r8{l:List Pw}{i:Nat}(hc:(i:Int)<((bq l).length:Int)):∃k s o l' n,(.mk k s o l',n)∈l/\(bq l)[i]?=some (.agg [.int .i64 k,.str s,.int .i64 o,.aa false (ae l'),.int .i64 n])/\l.drop i=(.mk k s o l',n)::l.drop (i+1)/\i<l.length/\l[i]?=some (.mk k s o l',n):=by
 have mR:i<l.length:=by have:=fh l;omega
 rcases hp:l[i]with⟨⟨k,s,o,l'⟩,n⟩;refine⟨k,s,o,l',n,hp▸abF mR,?_,?_,mR,?_⟩
 ·unfold bq;rw[abm,aa6 mR,hp];rfl
 rw[acO mR,hp];rw[aa6 mR,hp]
theorem IY{l:List Pw}{i:Nat}(hc:¬(i:Int)<((bq l).length:Int)):l.drop i=[]:=abG (by have:=fh l;omega)
theorem nT(l:List Pw):ao (bq l)=true:=by
 induction l with
 |nil=>rfl
 |cons p l ih=>
  obtain⟨⟨k,s,o,l'⟩,n⟩:=p;simp only[bq,abk,ao]at *;rw[ih];rfl
theorem rc(l:List Pw):aU (bq l)=bq l:=by
 induction l with
 |nil=>rfl
 |cons p l ih=>
  obtain⟨⟨k,s,o,l'⟩,n⟩:=p;simp only[bq,abk,aU]at *;rw[ih,nS];simp[bW,aU,bg]
def Sm(l:List Pw):Prop:=(∀p∈l,az p.1<1000000000)/\l.length<100000000
def uI(t:Tm):List Pw->Nat
 |[]=>0
 |p::l=>if aW p.1 t<0 then uI t l+1 else 0
theorem Fb(t:Tm):∀l:List Pw,uI t l<=l.length
 |[]=>by simp[uI]
 |p::l=>by
  have:=Fb t l;rw[uI]
  split <;>simp <;>omega
theorem Hv(t:Tm):∀(l:List Pw),Bo l->∀(m:Nat) (p:Pw),l[m]?=some p->(aW p.1 t<0↔m<uI t l)
 |[],_,m,p,h=>by simp at h
 |q::l,s,m,p,h=>by
  obtain⟨s1,s2⟩:=abr.1 s;rw[uI]
  cases m with
  |zero=>
   simp at h;subst h
   split
   simp;assumption;simp;omega
  |succ m=>
   have h':l[m]?=some p:=by simpa using h
   have ih:=Hv t l s2 m p h';have hm:=s1 p (abh h')
   split
   rw[ih];omega
   ·rename_i hq
    constructor
    ·intro hp
     exact absurd (eD hm hp) hq
    intro hh;omega
def PM(t:Tm)(l:List Pw):Bool:=match l[uI t l]? with |some p=>decide (aW p.1 t=0)|none=>false
theorem Hw(t:Tm)(n:Int):∀l:List Pw,PM t l=false->jy t n l=l.take (uI t l)++[(t,n)]++l.drop (uI t l)
 |[],_=>by simp[jy,uI]
 |p::l,h=>by
  rw[jy,uI]
  by_cases hc:aW p.1 t<0
  ·have h':PM t l=false:=by
    unfold PM at h ⊢;rw[uI,if_pos hc]at h;simpa using h
   rw[if_pos hc,if_pos hc,Hw t n l h'];simp
  ·have h0:¬aW p.1 t=0:=by
    unfold PM at h;rw[uI,if_neg hc]at h;simpa using h
   rw[if_neg hc,if_neg hc,if_neg h0];simp
theorem CP(t:Tm)(n:Int):∀(l:List Pw) (p:Pw),l[uI t l]?=some p->aW p.1 t=0->
  jy t n l=if p.2+n=0 then l.take (uI t l)++l.drop (uI t l+1)else l.set (uI t l) (p.1,p.2+n)
 |[],p,h,_=>by simp at h
 |q::l,p,h,h0=>by
  rw[jy,uI]
  by_cases hc:aW q.1 t<0
  ·have h':l[uI t l]?=some p:=by
    rw[uI,if_pos hc]at h;simpa using h
   rw[if_pos hc,if_pos hc,CP t n l p h' h0]
   split <;>simp
  ·have h':q=p:=by
    rw[uI,if_neg hc]at h;simpa using h
   subst h';rw[if_neg hc,if_neg hc,if_pos h0]
   split <;>simp
theorem R.SI{C:cG}(T:kJ C.P){ops:Array Oper}{d:Nat}{ty:TypeId}{pos:String}{af:Array Edge}{r:List Oper}{Y:Nat->PV}{L:List (Nat×PV)}{h:ab}{Q:St->Prop}{s t:TypeId}{x:Operand}{k k':IntKind}{ks:Kd}{n n':Int}
  (hx:cO L x=some (.int k n)) (hs:T.kd s=some ks) (ht:T.kd t=some (.int k')) (hw:k'.wrap n=n') (kk:ah C ops r ⟨al ((d,.int k' n')::L) Y,h⟩ Q):ah C ops (⟨some d,.convert s t x,ty,pos,af,none⟩::r) ⟨al L Y,h⟩ Q:=by
 obtain⟨u,hu,_⟩:=mC (T.cQ _ _ hs);exact ah.eP (λrun=>by simp[ar,aC,an hx,wk,hu,pp (T.cQ _ _ ht),hw]) kk
theorem R.Zw{C:cG}{ops:Array Oper}{d:Nat}{ty:TypeId}{pos:String}{af:Array Edge}{r:List Oper}{Y:Nat->PV}{L:List (Nat×PV)}{h:ab}{Q:St->Prop}{t yt:TypeId}{x y:Operand}{k k':IntKind}{n n':Int}
  (hx:cO L x=some (.int k n)) (hy:cO L y=some (.int k' 1)) (hb:Nat.ble 1 k.bits=true) (hn:n / 2=n') (kk:ah C ops r ⟨al ((d,.int k n')::L) Y,h⟩ Q):ah C ops (⟨some d,.binOp .shr t x y yt,ty,pos,af,none⟩::r) ⟨al L Y,h⟩ Q:=by
 refine ah.eP (λrun=>?_) kk;have ee:=aca hb;have e1:min (1:Int).toNat k.bits=1:=by simp;omega
 simp only[ar,aC,an hx,an hy,fF,qj];rw[if_neg (by decide)];simp only[e1];rw[<-hn,Int.fdiv_eq_ediv_of_nonneg _ (by decide)]
 rfl
theorem SJ{n:Int}(h1:0<=n)(h2:n<=9223372036854775807):IntKind.u64.wrap n=n:=by
 have:IntKind.u64.wrap n=n % 18446744073709551616:=by simp[IntKind.wrap,IntKind.bits,IntKind.signed]
 rw[this];omega
theorem LC(p:Pw)(t:Tm)(hp:az p.1<1000000000)(ht:az t<1000000000):aL C 350 [wq p,enc t] (.int .i64 (aW p.1 t)):=by
 have h1:=eF p.1 t hp ht;obtain⟨⟨k,s,o,l⟩,n⟩:=p;obtain⟨k',s',o',l'⟩:=t;refine aL.of (ax.dK Tryz.func350 rfl ?_);simp only[nS,bo]at h1 ⊢;refine wB ?_;refine R.call rfl rfl (ai.pure rfl (by simp[ao,aV]) (by simpa[aU,bW,bg]using h1) ?_);refine wB ?_;exact⟨_,rfl,rfl⟩
theorem PN(l:List Pw)(t:Tm)(hs:Bo l)(hl:Sm l)(ht:az t<1000000000):
  aL C 349 [.aa false (bq l),enc t,.fn 350 []] (.cy [.int .i64 (uI t l),.bool (PM t l)]):=by
 obtain⟨yY,dO⟩:=hl;have EX:∀p∈l,aL C 350 [wq p,enc t] (.int .i64 (aW p.1 t)):=λp hp=>LC p t (yY p hp) ht
 have hle:=Fb t l;have Pp:=Hv t l hs;have pq:PM t l=match l[uI t l]? with |some p=>decide (aW p.1 t=0)|none=>false:=rfl
 obtain⟨tk,ts,to,tl⟩:=t;rw[bo];simp only[bo]at EX;generalize PM (.mk tk ts to tl) l=FD at pq ⊢;generalize uI (.mk tk ts to tl) l=LB at hle Pp pq ⊢;refine aL.of (ax.dK Tryz.func349 rfl ?_);have cz:=fh l;refine wB ?_;refine Ev.loop (I:=λk' st=>∃(i j:Nat) (Y':Nat->PV),st=⟨al [(0,.aa false (bq l)),(2,.fn 350 []),(4,.ptr 0 0 0 0),(8,.int .i64 (bq l).length),(9,.int .i64 i),(10,.int .i64 j)] Y',[⟨.m,0,4,[.agg [.int .i64 tk,.str ts,.int .i64 to,.aa false (ae tl)]]⟩]⟩/\k'=j - i/\i<=LB/\LB<=j/\j<=l.length) l.length ?_ ?_;exact⟨0,(bq l).length,_,St.aR ⟨rfl,rfl,rfl,rfl,rfl,rfl,trivial⟩,by omega,by omega,by omega,by omega⟩
 ·rintro k' _ ⟨i,j,Y',rfl,hk,i1,i2,i3⟩
  (repeat' (first |refine ah.nil ?_ |(apply R.move;exact rfl)|(apply R.cmp;exact rfl;exact rfl;exact rfl;all_goals intro hc)|(apply R.arith;exact rfl;exact rfl;exact rfl;exact(mf (by omega) (by omega)))|refine Ev.seq ?_ |refine Ev.region ?_ |refine Ev.mg ?_ |refine aZ.nil ?_ |(apply D.move;exact rfl)|(apply D.assign;exact rfl)|(apply D.wv;exact rfl;exact rfl;exact rfl;exact rfl)|(apply D.nU;exact rfl;exact rfl;exact rfl)|(apply D.iM;exact rfl;exact rfl)|(apply D.cmp;exact rfl;exact rfl;exact rfl;all_goals intro hc)|(apply Ev.fI;exact rfl)|refine Ev.ret ?_ |refine Ev.skip ?_ |refine Ev.exit ?_ |refine Ev.block ?_ |refine aD.normal ?_ |refine aD.exit ?_ |refine ay.hit ?_ |refine aJ.exit ?_ |(apply aG.ret;exact rfl)|fail))
  ·refine R.SI T6 rfl rfl rfl (SJ (by omega) (by omega)) ?_;refine R.Zw rfl rfl rfl rfl ?_;refine R.SI T6 rfl rfl rfl (mf (by omega) (by omega)) ?_;obtain⟨m,hm⟩:∃m:Nat,((i:Int)+j) / 2=m:=⟨(i+j) / 2,by omega⟩;rw[hm];refine wB ?_;obtain⟨k1,s1,o1,l1,n1,fy,cC,hd,mR,vA⟩:=r8 (l:=l) (i:=m) (by omega);have rf:=EX _ fy;have PO:=Pp m _ vA;simp only[nS]at rf PO;refine D.gX T6 rfl rfl rfl rfl rfl cC rfl rfl ?_;refine wB ?_;refine D.mh rfl rfl rfl rfl rfl rfl rfl (by simpa[aU,bW,bg]using rf) ?_;refine wE (λhc=>?_) λhc=>?_;exact⟨j - (m+1),by omega,m+1,j,_,St.aR ⟨rfl,rfl,rfl,rfl,rfl,rfl,trivial⟩,rfl,by omega,by omega,by omega⟩;exact⟨m - i,by omega,i,m,_,St.aR ⟨rfl,rfl,rfl,rfl,rfl,rfl,trivial⟩,rfl,by omega,by omega,by omega⟩
  ·have hi:i=LB:=by omega
   subst hi
   ·obtain⟨k1,s1,o1,l1,n1,fy,cC,hd,mR,vA⟩:=r8 (l:=l) (i:=i) (by omega);have rf:=EX _ fy;rw[vA]at pq;simp only[nS]at rf;refine D.gX T6 rfl rfl rfl rfl rfl cC rfl rfl ?_;refine wB ?_;refine D.mh rfl rfl rfl rfl rfl rfl rfl (by simpa[aU,bW,bg]using rf) ?_;refine wE (λhc=>?_) λhc=>?_
    ·refine⟨_,rfl,?_⟩;rw[pq];simp only[aT,bW,aU];rw[decide_eq_true (by assumption)]
    ·refine⟨_,rfl,?_⟩;rw[pq];simp only[aT,bW,aU];rw[decide_eq_false (by assumption)]
  ·have hi:i=LB:=by omega
   subst hi;refine⟨_,rfl,?_⟩;rw[pq,abl (by omega)]
   rfl
theorem nX(l:List Tm):((ae l).all λv=>decide ((cells v).length=4)&& (cells v).all bC)=true:=by
 rw[aa4]
 intro v hv
 rw[de]at hv;obtain⟨⟨k,s,o,l'⟩,_,rfl⟩:=abB.1 hv;rw[bo];rfl
theorem w9(k s o l)(hb:az (.mk k s o l)<1000000000)(ih:∀t∈l,aL C 252 [enc t] (enc t)):aL C 252 [enc (.mk k s o l)] (enc (.mk k s o l)):=by
 refine aL.of (ax.dK Tryz.func252 rfl ?_);rw[bo];have cz:=ak l;have hlen:=bH l;simp only[az]at hb;refine wB ?_;refine ah.heap (h':=[⟨.m,0,4,[.agg [.int .i64 k,.str s,.int .i64 o,.aa false (ae l)]]⟩,⟨.m,0,4,[.agg [.int .i64 0,.str ByteArray.empty,.int .i64 0,.aa true []]]⟩]) rfl ?_;rcases hl:l with _ |⟨t0,l0⟩
 ·refine R.call rfl rfl (ai.cD (rv:=.aa true []) (h':=[⟨.m,0,4,[.agg [.int .i64 k,.str s,.int .i64 o,.aa false (ae [])]]⟩,⟨.m,0,4,[.agg [.int .i64 0,.str ByteArray.empty,.int .i64 0,.aa true []]]⟩]) rfl rfl ?_);refine wB ?_;refine R.jj T6 (n:=0) (o:=⟨.m,0,4,[.agg [.int .i64 k,.str s,.int .i64 o,.aa false (ae [])]]⟩) (i:=0) (e:=.agg [.int .i64 k,.str s,.int .i64 o,.aa false (ae [])]) rfl rfl rfl rfl rfl rfl rfl rfl (aa5 4) ?_;refine ah.heap (h':=[⟨.m,0,4,[.agg [.int .i64 k,.str s,.int .i64 o,.aa true []]]⟩,⟨.m,0,4,[.agg [.int .i64 0,.str ByteArray.empty,.int .i64 0,.aa true []]]⟩]) rfl ?_;refine wB ?_;refine Ev.loop (I:=λk' st=>∃Y',st=⟨al [(1,.ptr 0 0 0 0),(2,.ptr 1 0 0 0),(11,.int .i64 0),(12,.int .i64 0)] Y',[⟨.m,0,4,[.agg [.int .i64 k,.str s,.int .i64 o,.aa true []]]⟩,⟨.m,0,4,[.agg [.int .i64 0,.str ByteArray.empty,.int .i64 0,.aa true []]]⟩]⟩) 0 ⟨_,St.aR ⟨rfl,rfl,rfl,rfl,trivial⟩⟩ ?_;rintro _ _ ⟨Y',rfl⟩;refine wF λhc=>?_;refine R.jj T6 (n:=0) (o:=⟨.m,0,4,[.agg [.int .i64 0,.str ByteArray.empty,.int .i64 0,.aa true []]]⟩) (i:=0) (e:=.agg [.int .i64 0,.str ByteArray.empty,.int .i64 0,.aa true []]) rfl rfl rfl rfl rfl rfl rfl rfl (aa5 4) ?_;refine wB ?_;exact⟨_,rfl,rfl⟩
 ·rw[<-hl];refine R.call rfl rfl (ai.cD (rv:=.aj 2 0 0 (ae l).length) (h':=[⟨.m,0,4,[.agg [.int .i64 k,.str s,.int .i64 o,.aa false (ae l)]]⟩,⟨.m,0,4,[.agg [.int .i64 0,.str ByteArray.empty,.int .i64 0,.aa true []]]⟩,⟨.m,0,4,ae l⟩]) rfl ?_ ?_)
  ·show bB 4 [.aa false (ae l)] _=_;have bN:(ae l).isEmpty=false:=by rw[hl];rfl
   simp only[bB,bN,abi,if_false,newObj];rw[if_pos ⟨nX l,by omega⟩]
   rfl
  rw[cz];refine wB ?_;refine R.jj T6 (n:=0) (o:=⟨.m,0,4,[.agg [.int .i64 k,.str s,.int .i64 o,.aa false (ae l)]]⟩) (i:=0) (e:=.agg [.int .i64 k,.str s,.int .i64 o,.aa false (ae l)]) rfl rfl rfl rfl rfl rfl rfl rfl (aa5 4) ?_;refine ah.heap (h':=[⟨.m,0,4,[.agg [.int .i64 k,.str s,.int .i64 o,.aj 2 0 0 l.length]]⟩,⟨.m,0,4,[.agg [.int .i64 0,.str ByteArray.empty,.int .i64 0,.aa true []]]⟩,⟨.m,0,4,ae l⟩]) rfl ?_;refine wB ?_;refine R.zn T6 (o:=⟨.m,0,4,ae l⟩) rfl rfl rfl (by show 0+l.length<=(ae l).length;omega) ?_;refine wB ?_;refine Ev.loop (I:=λk' st=>∃(i:Nat) (J:ab) (Y':Nat->PV),st=⟨al [(1,.ptr 0 0 0 0),(2,.ptr 1 0 0 0),(10,.aj 2 0 0 l.length),(11,.int .i64 l.length),(12,.int .i64 i)] Y',⟨.m,0,4,[.agg [.int .i64 k,.str s,.int .i64 o,.aj 2 0 0 l.length]]⟩::⟨.m,0,4,[.agg [.int .i64 0,.str ByteArray.empty,.int .i64 0,.aa true []]]⟩::⟨.m,0,4,ae l⟩::J⟩/\k'+i=l.length/\HV J) l.length ?_ ?_;exact⟨0,[],_,St.aR ⟨rfl,rfl,rfl,rfl,rfl,trivial⟩,rfl,HV.nil⟩
  ·rintro k' _ ⟨i,J,Y',rfl,hk,hJ⟩;refine wE (λhc=>?_) λhc=>?_
   ·obtain⟨k1,s1,o1,l1,fy,cC,hd,mR,_⟩:=gD (l:=l) (i:=i) (by omega);have zX:=ih _ fy;rw[bo]at zX;refine R.rm T6 (o:=⟨.m,0,4,ae l⟩) rfl rfl rfl rfl rfl (by omega) (by show 0+l.length<=(ae l).length;omega) ?_;have sj:(ae l)[0+i]?=some (.agg [.int .i64 k1,.str s1,.int .i64 o1,.aa false (ae l1)]):=by rw[abp];exact cC
    refine R.oG T6 (cs:=[.int .i64 k1,.str s1,.int .i64 o1,.aa false (ae l1)]) rfl rfl rfl ?_ (by repeat constructor) ?_;simp[cR,getM,cC,cells];have Qe:=hJ.c8 (HV.one (ep:=0) (n:=4) (es:=[.agg [.int .i64 k1,.str s1,.int .i64 o1,.aa false (ae l1)]]) rfl);have dG:aY ([⟨.m,0,4,[.agg [.int .i64 k,.str s,.int .i64 o,.aj 2 0 0 l.length]]⟩,⟨.m,0,4,[.agg [.int .i64 0,.str ByteArray.empty,.int .i64 0,.aa true []]]⟩,⟨.m,0,4,ae l⟩]++(J++[⟨.m,0,4,[.agg [.int .i64 k1,.str s1,.int .i64 o1,.aa false (ae l1)]]⟩]))=true:=Fu (by simp[bL,bw,aO,bt _ _ (fp l)]) Qe;refine wB ?_;refine D.mh (by assumption) rfl rfl rfl rfl rfl rfl (by simpa[aU,bW,bg]using zX) ?_;refine D.rm T6 (o:=⟨.m,0,4,ae l⟩) (by assumption) rfl rfl rfl rfl rfl (by omega) (by show 0+l.length<=(ae l).length;omega) ?_;refine D.jj T6 (o:=⟨.m,0,4,ae l⟩) (j:=0+i) rfl rfl rfl rfl rfl rfl sj rfl rfl (aa5 4) ?_
    have jm:((⟨.m,0,4,[.agg [.int .i64 k,.str s,.int .i64 o,.aj 2 0 0 l.length]]⟩::⟨.m,0,4,[.agg [.int .i64 0,.str ByteArray.empty,.int .i64 0,.aa true []]]⟩::⟨.m,0,4,ae l⟩::J)++[⟨.m,0,4,[.agg [.int .i64 k1,.str s1,.int .i64 o1,.aa false (ae l1)]]⟩]:ab).set 2 {(⟨.m,0,4,ae l⟩:au)with es:=(⟨.m,0,4,ae l⟩:au).es.set (0+i) (eZ 0 4 (.agg [.int .i64 k1,.str s1,.int .i64 o1,.aa false (ae l1)]) (.agg [.int .i64 k1,.str s1,.int .i64 o1,.aa false (ae l1)]))}=⟨.m,0,4,[.agg [.int .i64 k,.str s,.int .i64 o,.aj 2 0 0 l.length]]⟩::⟨.m,0,4,[.agg [.int .i64 0,.str ByteArray.empty,.int .i64 0,.aa true []]]⟩::⟨.m,0,4,ae l⟩::(J++[⟨.m,0,4,[.agg [.int .i64 k1,.str s1,.int .i64 o1,.aa false (ae l1)]]⟩]):=by
     have:(ae l).set (0+i) (.agg [.int .i64 k1,.str s1,.int .i64 o1,.aa false (ae l1)])=ae l:=by
      have cL:=ag sj;rw[aa6 cL]at sj;rw[<-aa2 sj];exact adt cL
     show⟨.m,0,4,[.agg [.int .i64 k,.str s,.int .i64 o,.aj 2 0 0 l.length]]⟩::⟨.m,0,4,[.agg [.int .i64 0,.str ByteArray.empty,.int .i64 0,.aa true []]]⟩::({(⟨.m,0,4,ae l⟩:au)with es:=(ae l).set (0+i) (.agg [.int .i64 k1,.str s1,.int .i64 o1,.aa false (ae l1)])}:au)::(J++[_])=_;rw[this]
    refine aZ.heap jm ?_;refine wB ?_;exact⟨k' - 1,by omega,i+1,_,_,St.aR ⟨rfl,rfl,rfl,rfl,rfl,trivial⟩,by omega,Qe⟩
   ·refine R.jj T6 (n:=0) (o:=⟨.m,0,4,[.agg [.int .i64 0,.str ByteArray.empty,.int .i64 0,.aa true []]]⟩) (i:=0) (e:=.agg [.int .i64 0,.str ByteArray.empty,.int .i64 0,.aa true []]) rfl rfl rfl rfl rfl rfl rfl rfl (aa5 4) ?_;refine ah.heap (h':=⟨.m,0,4,[.agg [.int .i64 k,.str s,.int .i64 o,.aj 2 0 0 l.length]]⟩::⟨.m,0,4,[.agg [.int .i64 k,.str s,.int .i64 o,.aj 2 0 0 l.length]]⟩::⟨.m,0,4,ae l⟩::J) rfl ?_;refine wB ?_;refine⟨.agg [.int .i64 k,.str s,.int .i64 o,.aa false (ae l)],?_,by simp[bW,aU,bg]⟩;have ht:(ae l).take l.length=ae l:=by rw[<-cz];exact ab2
    simp[rb,kY,cells,aT];simp[nP,oE,getM,fp,aV,ht,cz]
theorem m'(t:Tm)(hb:az t<1000000000):aL C 252 [enc t] (enc t):=by
 induction t using Tm.ind with
 |h k s o l ih=>exact w9 k s o l hb (λt ht=>ih t ht (by have:=bU ht;simp only[az]at hb;omega))
theorem DF(l:List Pw):(bq l).all (kK 5)=true:=by
 rw[aa4]
 intro v hv
 obtain⟨⟨⟨k,s,o,l'⟩,n⟩,_,rfl⟩:=abB.1 hv
 rfl
theorem JU(l:List Pw)(j:Nat)(p:Pw):(bq l).take j++[wq p]++(bq l).drop j=bq (l.take j++[p]++l.drop j):=by simp[bq]
theorem JV(l:List Pw)(j:Nat):(bq l).take j++(bq l).drop (j+1)=bq (l.take j++l.drop (j+1)):=by simp[bq]
theorem Ji(l:List Pw)(t:Tm)(n:Int)(H:ab)(v:PV)(hH:HV H)(ho:Out 5 H v (bq l))(hs:Bo l)(hl:Sm l)(ht:az t<1000000000)(hB:Bd 1000000000 l)(hn: -1000000000<=n/\n<=1000000000):
  ax C 310 [v,wq (t,n)] H (λr h'=>LP H v 5 (bq (jy t n l)) r h'):=by
 have JW:=PN l t hs hl ht;have dG:=m' t ht;have hle:=Fb t l;have y9:=Hw t n l;have QW:=CP t n l;have pq:PM t l=match l[uI t l]? with |some p=>decide (aW p.1 t=0)|none=>false:=rfl
 have cz:=fh l;have dO:=hl.2;obtain⟨k,s,o,tl⟩:=t;refine ax.dK Tryz.func310 rfl ?_;rw[nS];rw[bo]at JW dG;generalize hLB:uI (.mk k s o tl) l=LB at JW hle y9 QW pq;refine wB ?_;obtain⟨H1,mj⟩:∃x,x=H++[⟨.m,0,5,[.agg [.int .i64 k,.str s,.int .i64 o,.aa false (ae tl),.int .i64 n]]⟩]:=⟨_,rfl⟩;have v1:HV H1:=by rw[mj];exact hH.c8 (HV.one rfl)
 have b1:H1[H.length]?=some ⟨.m,0,5,[.agg [.int .i64 k,.str s,.int .i64 o,.aa false (ae tl),.int .i64 n]]⟩:=by rw[mj];simp
 have g1:H1.length=H.length+1:=by rw[mj];simp
 have p1:∀j,j<H.length->H1[j]?=H[j]?:=λj hj=>by rw[mj,aa3 hj]
 have o1:Out 5 H1 v (bq l):=by rw[mj];exact ho.c8 _
 have nv:∀ep n,v≠.aj H.length ep 0 n:=by
  rcases ho with⟨rfl,_⟩|⟨id,ep,rfl,e2⟩
  intro ep n hh;cases hh
  ·intro h9 n' hh
   have:=ag e2
   cases hh;omega
 refine ah.heap mj.symm ?_;clear mj
 skip
 refine R.call rfl rfl (ai.out rfl o1 (nT l) (by simp[ao,aV]) (by simpa[aU,bW,bg,rc]using JW) rfl ?_);have fin:∀{r:PV} {h':ab} {es:List PV},LP H1 v 5 es r h'->LP H v 5 es r h':=λ{r h' es} a=>⟨a.out,a.hv,by have:=a.len;omega,λj hj bN=>by rw[a.fr j (by omega) bN,p1 j hj],λj ep n hh=>(a.ref j ep n hh).elim .inl (λhh=>.inr (by omega))⟩
 cases hf:PM (.mk k s o tl) l
 ·rw[y9 hf];refine wB ?_;refine D.mh v1.closed rfl rfl rfl rfl rfl rfl (by simpa[aU,bW,bg]using dG) ?_;refine wB ?_;refine D.buildSlice T6 v1.closed rfl rfl rfl rfl rfl (by decide) rfl rfl rfl rfl rfl ?_;obtain⟨rv,h',e1,e2⟩:=xP (full:=true) (e:=.agg [.int .i64 k,.str s,.int .i64 o,.aa false (ae tl),.int .i64 n]) (j:=LB) o1 v1 (by omega) (by omega) (DF l) rfl;refine D.call rfl rfl rfl (ai.cD rfl e1 ?_);refine wB ?_;rw[<-nS,JU]at e2;exact fin e2
 ·rw[hf]at pq
  obtain⟨p,hp,JX⟩:∃p,l[LB]?=some p/\aW p.1 (.mk k s o tl)=0:=by
   cases hg:l[LB]? with
   |none=>rw[hg]at pq;cases pq
   |some p=>rw[hg]at pq;exact⟨p,rfl,of_decide_eq_true pq.symm⟩
  have cL:=ag hp;have fy:=abh hp;have CF:=hB _ fy;rw[QW p hp JX];obtain⟨⟨k1,s1,PF,l1⟩,n1⟩:=p;simp only at CF
  have cC:(bq l)[0+LB]?=some (.agg [.int .i64 k1,.str s1,.int .i64 PF,.aa false (ae l1),.int .i64 n1]):=by
   rw[abp,bq,abm,hp];rfl
  rcases o1 with⟨_,e1⟩|⟨id,ep,rfl,e1⟩;rw[e1]at cz;simp at cz;omega;have hid:id≠H.length:=λhh=>nv ep (bq l).length (by rw[hh])
  have YG:=ag e1;have Vx:=v1.closed;have iG:=v1.PA YG
  have hpc:cR H1 (.ptr id ep (0+LB) (0+4))=some [.int .i64 n1]:=by
   simp only[cR,bm e1 rfl (by simp),cC];rfl
  refine wB ?_;refine D.rm T6 (o:=⟨.m,ep,5,bq l⟩) Vx rfl rfl rfl (bm e1 rfl (by simp)) rfl (by omega) (by show 0+(bq l).length<=(bq l).length;omega) ?_;refine wB ?_;refine D.gB T6 Vx rfl iG rfl rfl hpc ?_;refine wB ?_;refine D.rm T6 (o:=⟨.m,ep,5,bq l⟩) Vx rfl rfl rfl (bm e1 rfl (by simp)) rfl (by omega) (by show 0+(bq l).length<=(bq l).length;omega) ?_;refine wB ?_;refine D.jj T6 (o:=⟨.m,ep,5,bq l⟩) (j:=0+LB) rfl rfl rfl rfl (bm e1 rfl (by simp)) rfl cC rfl rfl (aa5 5) ?_;obtain⟨H2,oR⟩:∃x,x=H1.set id ⟨.m,ep,5,bq (l.set LB (.mk k1 s1 PF l1,n1+n))⟩:=⟨_,rfl⟩
  have jm:H1.set id {(⟨.m,ep,5,bq l⟩:au)with es:=(bq l).set (0+LB) (eZ (0+4) 1 (.agg [.int .i64 k1,.str s1,.int .i64 PF,.aa false (ae l1),.int .i64 n1]) (.int .i64 (n1+n)))}=H2:=by
   rw[oR,abp]
   congr 2
   unfold bq;rw[List.map_set]
   rfl
  refine aZ.heap jm ?_;have e2:H2[id]?=some ⟨.m,ep,5,bq (l.set LB (.mk k1 s1 PF l1,n1+n))⟩:=by rw[oR];exact aa7 YG
  have v2:HV H2:=by rw[oR];exact v1.set id (by simp) (nT _)
  have g2:H2.length=H.length+1:=by rw[oR];simp[g1]
  have p2:∀j,j≠id->j<H1.length->H2[j]?=H1[j]?:=λj hj _=>by rw[oR];exact aa8 (abW hj)
  have pB:(bq (l.set LB (.mk k1 s1 PF l1,n1+n))).length=(bq l).length:=by rw[fh,fh];simp
  have na:(bq (l.set LB (.mk k1 s1 PF l1,n1+n)))[0+LB]?=some (.agg [.int .i64 k1,.str s1,.int .i64 PF,.aa false (ae l1),.int .i64 (n1+n)]):=by
   rw[abp,bq,abm,aa7 cL];rfl
  have iM:cR H2 (.ptr id ep (0+LB) (0+4))=some [.int .i64 (n1+n)]:=by
   simp only[cR,bm e2 rfl (by simp),na];rfl
  clear jm oR;refine wB ?_;refine R.rm T6 (o:=⟨.m,ep,5,bq (l.set LB (.mk k1 s1 PF l1,n1+n))⟩) rfl rfl rfl (bm e2 rfl (by simp)) rfl (by omega) (by show 0+(bq l).length<=(bq _).length;omega) ?_;refine wB ?_;refine R.gB T6 rfl rfl rfl iM ?_;refine wE (λhc=>?_) λhc=>?_
  ·rw[if_pos (by assumption)];obtain⟨rv,h',e3,e4⟩:=xQ (j:=LB) e2 v2 (by rw[pB];omega) (by rw[pB];omega) (DF _);rw[pB]at e3 e4;refine R.call rfl rfl (ai.cD rfl e3 ?_);refine wB ?_
   have iO:bq ((l.set LB (.mk k1 s1 PF l1,n1+n)).take LB++(l.set LB (.mk k1 s1 PF l1,n1+n)).drop (LB+1))=bq (l.take LB++l.drop (LB+1)):=by
    rw[List.take_set_of_le (aa5 LB),List.drop_set_of_lt (by omega)]
   rw[JV,iO]at e4;exact fin ⟨e4.out,e4.hv,by have:=e4.len;omega,λj hj bN=>by rw[e4.fr j (by omega) bN,p2 j (λhh=>bN ep (bq l).length (by rw[hh])) hj],λj ep n hh=>(e4.ref j ep n hh).elim .inl (λhh=>.inr (by omega))⟩
  ·rw[if_neg (by assumption)];refine fin ⟨.inr ⟨id,ep,by rw[pB];rfl,e2⟩,v2,by omega,λj hj bN=>p2 j (λhh=>bN ep (bq l).length (by rw[hh])) hj,λj h9 n' hh=>.inl ⟨h9,n',hh⟩⟩
structure CI(a:List Pw)(N:Int):Prop where
 CD:Bo a
 nz:Nz a
 sm:∀p∈a,az p.1<1000000000
 len:(a.length:Int)+N<=10000000
 bd:∃B:Int,0<=B/\B+N<=10000000/\Bd B a
theorem CI.Sm{a:List Pw}{N:Int}(c:CI a N)(h:0<=N):Sm a:=⟨c.sm,by have:=c.len;omega⟩
theorem CI.Bd{a:List Pw}{N:Int}(c:CI a N)(h:0<=N):Bd 1000000000 a:=by
 obtain⟨B,h1,h2,h3⟩:=c.bd
 intro p hp
 have:=h3 p hp;omega
theorem CI.le{a:List Pw}{N M:Int}(c:CI a N)(h:M<=N):CI a M:=by
 obtain⟨B,h1,h2,h3⟩:=c.bd;exact⟨c.CD,c.nz,c.sm,by have:=c.len;omega,B,h1,by omega,h3⟩
theorem CI.gw{a:List Pw}{N:Int}{t:Tm}{n:Int}(c:CI a (size t+N))(hb:az t<1000000000)(hn:n=1\/n=-1):CI (gw a t n) N:=by
 obtain⟨B,h1,h2,h3⟩:=c.bd;obtain⟨g1,g2,_⟩:=IJ t a n c.CD c.nz (by omega);have hs:=gN t;refine⟨g1,g2,?_,?_,B+size t,by omega,by omega,IL t a n B (by omega) (by omega) h1 h3⟩
 ·refine CN (Q:=λt=>az t<1000000000) (P:=λt=>az t<1000000000) (λ_ _ _ _ h _=>h) ?_ t a n hb c.sm
  intro k s o l h u hu
  have:=bU hu;simp only[az]at h;omega
 ·have:=yn t a n;have:=c.len;omega
theorem CI.nil:CI [] 10000000:=⟨by simp[Bo],(λp hp=>by cases hp),(λp hp=>by cases hp),by simp,0,by omega,by omega,(λp hp=>by cases hp)⟩
def Ir(t:Tm):List Pw×Int:=if valid t≠0 then([],valid t)else if arity t=false then([],6)else if 200<(gw [] t 1).length then([],3)else(gw [] t 1,0)
structure y8(H:ab)(n d:Int):Prop where
 f1:H[1]?=some ⟨.m,0,1,[.int .i64 n]⟩
 f2:H[2]?=some ⟨.m,0,1,[.int .i64 d]⟩
 hv:HV H
 len:3<=H.length
def CkP(H:ab)(t:Tm)(vS n d:Int)(r:PV)(h':ab):Prop:=r=.int .i64 (nodes t)/\∃n' d',y8 h' n' d'/\H.length<=h'.length/\(∀j,j≠1->j≠2->j<H.length->h'[j]?=H[j]?)/\(nodes t=0->n'=n+size t/\d'=max d (vS - 1+depth t))
theorem y8.c8{H:ab}{n d:Int}(c:y8 H n d){K:ab}(hK:HV K):y8 (H++K) n d:=by
 have:=c.len;exact⟨by rw[aa3 (by omega)];exact c.f1,by rw[aa3 (by omega)];exact c.f2,c.hv.c8 hK,by simp;omega⟩
theorem y8.ZB{H:ab}{n d:Int}(c:y8 H n d)(n':Int):y8 (H.set 1 ⟨.m,0,1,[.int .i64 n']⟩) n' d:=by
 have:=c.len;exact⟨aa7 (by omega),by rw[aa8 (by omega)];exact c.f2,c.hv.set 1 (by simp) rfl,by simp;omega⟩
theorem y8.ZC{H:ab}{n d:Int}(c:y8 H n d)(d':Int):y8 (H.set 2 ⟨.m,0,1,[.int .i64 d']⟩) n d':=by
 have:=c.len;exact⟨by rw[aa8 (by omega)];exact c.f1,aa7 (by omega),c.hv.set 2 (by simp) rfl,by simp;omega⟩
theorem y8.take{H:ab}{n d:Int}(c:y8 H n d)(m:Nat)(hm:3<=m):y8 (H.take m) n d:=by
 have:=c.len;exact⟨by rw[abE (by omega)];exact c.f1,by rw[abE (by omega)];exact c.f2,λo ho=>c.hv o (abP ho),by simp;omega⟩
theorem LS(k s o l)(hb:az (.mk k s o l)<1000000000)
  (ih:∀t∈l,∀(H:ab) (vS n d:Int),y8 H n d->0<=n->n+size t<=1000000000->0<=d->d<=1000000000->0<=vS->vS+depth t<=1000000000->ax C 152 [enc t,.int .i64 vS,.ptr 1 0 0 0,.ptr 2 0 0 0] H (CkP H t vS n d))
  (H:ab) (vS n d:Int) (hH:y8 H n d) (n0:0<=n) (n1:n+size (.mk k s o l)<=1000000000) (d0:0<=d) (d1:d<=1000000000) (l0:0<=vS) (l1:vS+depth (.mk k s o l)<=1000000000):
  ax C 152 [enc (.mk k s o l),.int .i64 vS,.ptr 1 0 0 0,.ptr 2 0 0 0] H (CkP H (.mk k s o l) vS n d):=by
 refine ax.dK Tryz.func152 rfl ?_;rw[bo];have hlen:=bH l;have cz:=ak l;have gC:=cX l;have hds:=gP l;have C1:s.size<1000000000:=by simp only[az]at hb;omega
 have CA:bF l<1000000000:=by simp only[az]at hb;omega
 simp only[size]at n1;simp only[depth]at l1;have hHl:=hH.len;refine wB ?_;obtain⟨H1,mj⟩:∃x,x=H++[⟨.m,0,4,[.agg [.int .i64 k,.str s,.int .i64 o,.aa false (ae l)]]⟩]:=⟨_,rfl⟩;have c1:y8 H1 n d:=by rw[mj];exact hH.c8 (HV.one rfl)
 have b1:H1[H.length]?=some ⟨.m,0,4,[.agg [.int .i64 k,.str s,.int .i64 o,.aa false (ae l)]]⟩:=by rw[mj];simp
 have g1:H1.length=H.length+1:=by rw[mj];simp
 have p1:∀j,j<H.length->H1[j]?=H[j]?:=λj hj=>by rw[mj,aa3 hj]
 refine ah.heap mj.symm ?_;clear mj;have u1:=c1.f1;have u2:=c1.f2;refine wB ?_;refine R.jj T6 (n:=0) (o:=⟨.m,0,1,[.int .i64 n]⟩) (i:=0) (e:=.int .i64 n) rfl rfl rfl (bm u1 rfl (by simp)) rfl rfl rfl rfl (aa5 1) ?_;obtain⟨H2,oR⟩:∃x,x=H1.set 1 ⟨.m,0,1,[.int .i64 (n+1)]⟩:=⟨_,rfl⟩;have c2:y8 H2 (n+1) d:=by rw[oR];exact c1.ZB _
 have b2:H2[H.length]?=some ⟨.m,0,4,[.agg [.int .i64 k,.str s,.int .i64 o,.aa false (ae l)]]⟩:=by rw[oR,aa8 (by omega)];exact b1
 have g2:H2.length=H.length+1:=by rw[oR];simp[g1]
 have p2:∀j,j≠1->j<H.length->H2[j]?=H[j]?:=λj h1 hj=>by rw[oR,aa8 (by omega)];exact p1 j hj
 refine ah.heap oR.symm ?_;clear oR c1 b1 g1 p1 u1 u2;have u1:=c2.f1;have u2:=c2.f2;refine wB ?_;refine R.jj T6 (n:=0) (o:=⟨.m,0,1,[.int .i64 d]⟩) (i:=0) (e:=.int .i64 d) rfl rfl rfl (bm u2 rfl (by simp)) rfl rfl rfl rfl (aa5 1) ?_;obtain⟨H3,Ue⟩:∃x,x=H2.set 2 ⟨.m,0,1,[.int .i64 (max d vS)]⟩:=⟨_,rfl⟩;have c3:y8 H3 (n+1) (max d vS):=by rw[Ue];exact c2.ZC _
 have b3:H3[H.length]?=some ⟨.m,0,4,[.agg [.int .i64 k,.str s,.int .i64 o,.aa false (ae l)]]⟩:=by rw[Ue,aa8 (by omega)];exact b2
 have g3:H3.length=H.length+1:=by rw[Ue];simp[g2]
 have p3:∀j,j≠1->j≠2->j<H.length->H3[j]?=H[j]?:=λj h1 h2 hj=>by rw[Ue,aa8 (by omega)];exact p2 j h1 hj
 refine ah.heap Ue.symm ?_;clear Ue c2 b2 g2 p2 u1 u2
 have bad:∀e:Int,node (.mk k s o l)=e->e≠0->CkP H (.mk k s o l) vS n d (.int .i64 e) H3:=λe h1 h2=>by
  have:nodes (.mk k s o l)=e:=by rw[nodes,if_pos (by rw[h1];exact h2),h1]
  exact⟨by rw[this],_,_,c3,by omega,p3,λh=>absurd (this▸h) h2⟩
 (repeat' (first |refine ah.nil ?_ |(apply R.wv;exact rfl;exact rfl;exact rfl)|(apply R.nU;exact rfl;exact rfl;exact rfl)|(apply R.move;exact rfl)|(apply R.assign;exact rfl)|(apply R.iO;exact rfl;exact rfl)|(apply R.iM;exact rfl;exact rfl)|(apply R.fieldAddr T6;exact rfl;exact rfl;exact rfl;exact rfl)|(apply R.cmp;exact rfl;exact rfl;exact rfl;all_goals intro hc;all_goals(try(exfalso;omega)))|(apply R.rk T6;exact rfl;exact rfl)|(apply R.rn T6;exact rfl;exact rfl;exact rfl;exact(by assumption);exact rfl)|refine Ev.seq ?_ |refine Ev.region ?_ |(apply Ev.fI;exact rfl)|refine Ev.ret ?_ |refine Ev.skip ?_ |refine Ev.block ?_ |refine aD.normal ?_ |refine aD.ret ?_ |refine ay.normal ?_ |refine ay.ret ?_ |(apply aG.ret;exact rfl)|fail))
 all_goals try(refine bad 1 ?_ (by decide);rw[node,if_pos (by omega)])
 all_goals(refine R.call rfl rfl (ai.pure rfl rfl (Fj s C1) ?_);cases hN:du s <;>(repeat' (first |refine ah.nil ?_ |(apply R.move;exact rfl)|(apply R.assign;exact rfl)|(apply R.fieldAddr T6;exact rfl;exact rfl;exact rfl;exact rfl)|(apply R.cmp;exact rfl;exact rfl;exact rfl;all_goals intro hc;all_goals(try(exfalso;omega)))|(apply R.not;exact rfl;exact rfl)|(apply R.rk T6;exact rfl;exact rfl)|(apply R.rn T6;exact rfl;exact rfl;exact rfl;exact(by assumption);exact rfl)|refine Ev.seq ?_ |refine Ev.region ?_ |(apply Ev.fI;exact rfl)|refine Ev.ret ?_ |refine Ev.skip ?_ |refine Ev.block ?_ |refine aD.normal ?_ |refine aD.ret ?_ |(apply aG.ret;exact rfl)|fail)))
 all_goals try(refine bad 2 ?_ (by decide);rw[node,if_neg (by omega),if_pos hN])
 all_goals try(refine bad 3 ?_ (by decide);rw[node,if_neg (by omega),if_neg (by rw[hN];simp),if_pos (by omega)])
 all_goals(
  have y9:node (.mk k s o l)=0:=by rw[node,if_neg (by omega),if_neg (by rw[hN];simp),if_neg (by omega)]
  have h0:nodes (.mk k s o l)=gy l:=by rw[nodes,if_neg (by rw[y9];simp)]
  clear bad hc
  refine Ev.loop (I:=λk' st=>∃(i:Nat) (Hc:ab) (nc dc:Int) (Y':Nat->PV),st=⟨al [(1,.int .i64 vS),(2,.ptr 1 0 0 0),(3,.ptr 2 0 0 0),(4,.ptr H.length 0 0 0),(57,.aa false (ae l)),(58,.int .i64 (ae l).length),(59,.int .i64 i)] Y',Hc⟩/\k'+i=l.length/\
   y8 Hc nc dc/\Hc[H.length]?=some ⟨.m,0,4,[.agg [.int .i64 k,.str s,.int .i64 o,.aa false (ae l)]]⟩/\H.length<Hc.length/\(∀j,j≠1->j≠2->j<H.length->Hc[j]?=H[j]?)/\0<=nc/\nc+dx (l.drop i)=n+1+dx l/\vS<=dc/\dc<=1000000000/\max dc (vS+fe (l.drop i))=max d (vS+fe l)/\gy l=gy (l.drop i)) l.length ?_ ?_
  exact⟨0,H3,_,_,_,St.aR ⟨rfl,rfl,rfl,rfl,rfl,rfl,rfl,trivial⟩,rfl,c3,b3,by omega,p3,by omega,rfl,by omega,by omega,by simp only[acb];omega,rfl⟩
  ·clear c3 b3 g3 p3;rintro k' _ ⟨i,Hc,nc,dc,Y',rfl,hk,c4,b4,g4,p4,m0,m1,m2,m3,m4,ee⟩;refine wE (λhc=>?_) λhc=>?_
   ·obtain⟨k1,s1,o1,l1',fy,cC,hd,mR,_⟩:=gD hc;refine R.gX T6 rfl rfl rfl rfl cC rfl rfl ?_;have E1:=cX (l.drop (i+1));have aaL:=gP (l.drop (i+1));have hdm:=re _ fy;have HE:=gN (.mk k1 s1 o1 l1');have Uf:=nY (.mk k1 s1 o1 l1');rw[hd,dx]at m1;rw[hd,fe]at m4;rw[hd,gy]at ee;refine wB ?_;obtain⟨H5,Xs⟩:∃x,x=Hc++[⟨.m,0,4,[.agg [.int .i64 k1,.str s1,.int .i64 o1,.aa false (ae l1')]]⟩]:=⟨_,rfl⟩;have c5:y8 H5 nc dc:=by rw[Xs];exact c4.c8 (HV.one rfl)
    have b5:H5[H.length]?=some ⟨.m,0,4,[.agg [.int .i64 k,.str s,.int .i64 o,.aa false (ae l)]]⟩:=by rw[Xs,aa3 (by omega)];exact b4
    have g5:H5.length=Hc.length+1:=by rw[Xs];simp
    have p5:∀j,j≠1->j≠2->j<H.length->H5[j]?=H[j]?:=λj h1 h2 hj=>by rw[Xs,aa3 (by omega)];exact p4 j h1 h2 hj
    have zX:=ih _ fy H5 (vS+1) nc dc c5 m0 (by omega) (by omega) m3 (by omega) (by omega);rw[bo]at zX;refine R.call rfl rfl (ai.sg rfl Xs.symm rfl rfl zX ?_);rintro r h' ⟨rfl,n',d',c6,g6,p6,e6⟩;refine⟨c6.hv,λ_=>?_,λhf=>Bool.noConfusion hf⟩;have c7:=c6.take H5.length (by omega);have b7:(h'.take H5.length)[H.length]?=some ⟨.m,0,4,[.agg [.int .i64 k,.str s,.int .i64 o,.aa false (ae l)]]⟩:=by rw[abE (by omega),p6 _ (by omega) (by omega) (by omega)];exact b5
    have g7:(h'.take H5.length).length=H5.length:=by simp;omega
    have p7:∀j,j≠1->j≠2->j<H.length->(h'.take H5.length)[j]?=H[j]?:=λj h1 h2 hj=>by rw[abE (by omega),p6 j h1 h2 (by omega)];exact p5 j h1 h2 hj
    generalize h'.take H5.length=H7 at c7 b7 g7 p7 ⊢;clear c6 p6;refine wE (λhc=>?_) λhc=>?_
    ·have bN:=hc;rw[if_pos bN]at ee;exact⟨by rw[h0,ee];rfl,_,_,c7,by omega,p7,λh=>absurd (by rw[<-ee,<-h0];exact h) bN⟩
    ·rw[if_neg (by assumption)]at ee;obtain⟨e7,e8⟩:=e6 (by omega);exact⟨k' - 1,by omega,i+1,H7,n',d',_,St.aR ⟨rfl,rfl,rfl,rfl,rfl,rfl,rfl,trivial⟩,by omega,c7,b7,by omega,p7,by omega,by omega,by omega,by omega,by omega,ee⟩
   ·rw[kg hc]at ee m1 m4;simp only[dx,fe,gy]at ee m1 m4;refine⟨by rw[h0,ee];rfl,_,_,c4,by omega,p4,λ_=>⟨?_,?_⟩⟩;simp only[size];omega;simp only[depth];omega)
theorem I8(t:Tm)(hb:az t<1000000000):∀(H:ab) (vS n d:Int),y8 H n d->0<=n->n+size t<=1000000000->0<=d->d<=1000000000->0<=vS->vS+depth t<=1000000000->ax C 152 [enc t,.int .i64 vS,.ptr 1 0 0 0,.ptr 2 0 0 0] H (CkP H t vS n d):=by
 induction t using Tm.ind with
 |h k s o l ih=>exact LS k s o l hb (λt ht=>ih t ht (by have:=bU ht;simp only[az]at hb;omega))
theorem fi(t:Tm)(hb:az t<100000000):aL C 98 [enc t] (.int .i64 (valid t)):=by
 have hck:=I8 t (by omega);have gC:=gN t;have hdp:=nY t;obtain⟨k,s,o,l⟩:=t;refine aL.of (ax.dK Tryz.func98 rfl ?_);rw[bo]at hck ⊢;refine wB ?_;refine R.jj T6 (n:=0) (o:=⟨.m,0,1,[.int .i64 0]⟩) (i:=0) (e:=.int .i64 0) rfl rfl rfl rfl rfl rfl rfl rfl (aa5 1) ?_
 skip
 refine R.jj T6 (n:=0) (o:=⟨.m,0,1,[.int .i64 0]⟩) (i:=0) (e:=.int .i64 0) rfl rfl rfl rfl rfl rfl rfl rfl (aa5 1) ?_;refine ah.heap (h':=[⟨.m,0,4,[.agg [.int .i64 k,.str s,.int .i64 o,.aa false (ae l)]]⟩,⟨.m,0,1,[.int .i64 0]⟩,⟨.m,0,1,[.int .i64 0]⟩]) rfl ?_;refine wB ?_
 have c0:y8 [⟨.m,0,4,[.agg [.int .i64 k,.str s,.int .i64 o,.aa false (ae l)]]⟩,⟨.m,0,1,[.int .i64 0]⟩,⟨.m,0,1,[.int .i64 0]⟩] 0 0:=⟨rfl,rfl,λo ho=>by
  simp at ho;rcases ho with rfl |rfl <;>exact⟨by simp,rfl⟩,by simp⟩
 refine R.call rfl rfl (ai.sg rfl rfl rfl rfl (hck _ 1 0 0 c0 (by omega) (by omega) (by omega) (by omega) (by omega) (by omega)) ?_);rintro r h' ⟨rfl,n',d',c6,g6,p6,e6⟩;refine⟨c6.hv,λ_=>?_,λhf=>Bool.noConfusion hf⟩;have c7:=c6.take 3 (aa5 3);refine ah.heap (h':=h'.take 3) rfl ?_;generalize h'.take 3=H7 at c7 ⊢;have u1:=c7.f1;have u2:=c7.f2;clear c6 p6 g6 hck;have hv:nodes (.mk k s o l)≠0->valid (.mk k s o l)=nodes (.mk k s o l):=λh=>by rw[valid,if_pos h]
 have E0:nodes (.mk k s o l)=0->valid (.mk k s o l)=if 400<size (.mk k s o l)\/40<depth (.mk k s o l)then 3 else 0:=λh=>by rw[valid,if_neg (by omega)]
 (repeat' (first |refine ah.nil ?_ |(apply R.wv;exact rfl;exact rfl;exact rfl)|(apply R.nU;exact rfl;exact rfl;exact rfl)|(apply R.move;exact rfl)|(apply R.assign;exact rfl)|(apply R.iO;exact rfl;exact rfl)|(apply R.iM;exact rfl;exact rfl)|(apply R.cmp;exact rfl;exact rfl;exact rfl;all_goals intro hc)|(apply R.rn T6;exact rfl;exact rfl;exact rfl;exact(by assumption);exact rfl)|refine Ev.seq ?_ |refine Ev.region ?_ |(apply Ev.fI;exact rfl)|refine Ev.ret ?_ |refine Ev.skip ?_ |refine aD.normal ?_ |refine aD.ret ?_ |(apply aG.ret;exact rfl)|fail))
 exact⟨_,rfl,by rw[hv (by assumption)];rfl⟩
 ·have h0:nodes (.mk k s o l)=0:=by omega
  obtain⟨e7,e8⟩:=e6 h0;exact⟨_,rfl,by rw[E0 h0,if_pos (by omega)];rfl⟩
 ·have h0:nodes (.mk k s o l)=0:=by omega
  obtain⟨e7,e8⟩:=e6 h0;exact⟨_,rfl,by rw[E0 h0,if_pos (by omega)];rfl⟩
 ·have h0:nodes (.mk k s o l)=0:=by omega
  obtain⟨e7,e8⟩:=e6 h0;exact⟨_,rfl,by rw[E0 h0,if_neg (by omega)];rfl⟩
theorem LP.take{H:ab}{v:PV}{sz:Nat}{es:List PV}{r:PV}{h':ab}(a:LP H v sz es r h'){N:Nat}(hN:H.length<=N)(hr:cS N r=true):LP H v sz es r (h'.take N):=by
 refine⟨?_,a.hv.take N,by have:=a.len;simp;omega,λj hj bN=>by rw[abE (by omega)];exact a.fr j hj bN,a.ref⟩;rcases a.out with⟨rfl,e⟩|⟨id,ep,rfl,e⟩;exact .inl ⟨rfl,e⟩
 ·have:id<N:=by simpa[cS,eK]using hr
  exact .inr ⟨id,ep,rfl,by rw[abE this];exact e⟩
theorem LP.start{H X:ab}{v:PV}{sz:Nat}{es:List PV}(o:Out sz H v es)(hH:HV H)(hX:HV X):LP H v sz es v (H++X):=
 ⟨o.c8 X,hH.c8 hX,by simp,λj hj _=>aa3 hj,λj ep n hh=>.inl ⟨ep,n,hh⟩⟩
theorem LP.trans{H Hc X K:ab}{v vc rv:PV}{sz:Nat}{es es':List PV}(a:LP H v sz es vc Hc)(b:LP (Hc++X) vc sz es' rv K):LP H v sz es' rv K:=by
 have h1:=a.len;have h2:=b.len;simp at h2;refine⟨b.out,b.hv,by omega,λj hj bN=>?_,λj ep n hh=>?_⟩
 ·rw[b.fr j (by simp;omega) (λep n hh=>?_),aa3 (by omega),a.fr j hj bN];rcases a.ref j ep n hh with⟨h9,n',h3⟩|h3;exact bN h9 n' h3;omega
 ·rcases b.ref j ep n hh with⟨h9,n',h3⟩|h3
  ·exact a.ref j h9 n' h3
  ·simp at h3;exact .inr (by omega)
def qS(H:ab)(v:PV)(a:List Pw)(t:Tm)(n:Int)(r:PV)(h':ab):Prop:=
 if arity t=true then∃rv,r=.cy [rv,.bool true]/\LP H v 5 (bq (gw a t n)) rv h' else r=.cy [.aa true [],.bool false]/\HV h'
theorem FE(k s o l)(hb:az (.mk k s o l)<1000000000)
  (ih:∀t∈l,∀(H:ab) (v:PV) (a:List Pw) (n:Int),HV H->Out 5 H v (bq a)->CI a (size t)->(n=1\/n=-1)->ax C 250 [v,enc t,.int .i64 n] H (qS H v a t n))
  (H:ab) (v:PV) (a:List Pw) (n:Int) (hH:HV H) (ho:Out 5 H v (bq a)) (hc:CI a (size (.mk k s o l))) (hn:n=1\/n=-1):
  ax C 250 [v,enc (.mk k s o l),.int .i64 n] H (qS H v a (.mk k s o l) n):=by
 have hsf:=xc k s o l;have gC:=gN (.mk k s o l);have aaN:=cX l;have hlen:=bH l;have cz:=ak l;have CA:bF l<1000000000:=by simp only[az]at hb;omega
 have Ta:=hc
 have okP:arity (.mk k s o l)=true->∀rv h',LP H v 5 (bq (gw a (.mk k s o l) n)) rv h'->qS H v a (.mk k s o l) n (.cy [rv,.bool true]) h':=λh rv h' hh=>by
  unfold qS;rw[if_pos h];exact⟨rv,rfl,hh⟩
 have noP:arity (.mk k s o l)=false->∀h',HV h'->qS H v a (.mk k s o l) n (.cy [.aa true [],.bool false]) h':=λh h' hh=>by
  unfold qS;rw[if_neg (by rw[h];simp)];exact⟨rfl,hh⟩
 generalize qS H v a (.mk k s o l) n=PP at okP noP ⊢;refine ax.dK Tryz.func250 rfl ?_;rw[bo]at hsf ⊢;refine wB ?_;obtain⟨H1,mj⟩:∃x,x=H++[⟨.m,0,4,[.agg [.int .i64 k,.str s,.int .i64 o,.aa false (ae l)]]⟩]:=⟨_,rfl⟩;have lp1:LP H v 5 (bq a) v H1:=by rw[mj];exact LP.start ho hH (HV.one rfl)
 have b1:H1[H.length]?=some ⟨.m,0,4,[.agg [.int .i64 k,.str s,.int .i64 o,.aa false (ae l)]]⟩:=by rw[mj];simp
 have g1:H1.length=H.length+1:=by rw[mj];simp
 refine ah.heap mj.symm ?_
 skip
 refine R.call rfl rfl (ai.pure rfl (by simp[ao,aV]) (by simpa[aU,bW,bg]using hsf) ?_)
 cases Jg:dA (.mk k s o l)
 ·have CC:arity (.mk k s o l)=true:=CO Jg;have Jh:gw a (.mk k s o l) n=jy (.mk k s o l) n a:=Fa Jg a n;have kF:=Ji a (.mk k s o l) n H1 v lp1.hv lp1.out Ta.CD (Ta.Sm (by omega)) hb (Ta.Bd (by omega)) (by omega);rw[nS]at kF;rw[Jh]at okP;have lp0:LP H v 5 (bq a) v H:=by simpa using LP.start (X:=[]) ho hH HV.nil
  refine wB ?_;refine R.call rfl rfl (ai.sg rfl rfl rfl rfl kF ?_)
  intro r kk hr
  refine⟨hr.hv,λhb=>?_,λhb=>?_⟩
  ·have hA:cS H1.length r=true:=by
    rcases hr.out with⟨rfl,_⟩|⟨id,ep,rfl,_⟩
    rfl
    exact hb
   have:=hr.take (aa5 _) hA;rw[mj]at this;rw[mj];have:=lp0.trans this;refine wB ?_;exact okP CC _ _ this
  ·rw[mj]at hr;have:=lp0.trans hr;refine wB ?_;exact okP CC _ _ this
 ·have hun:arity (.mk k s o l)=if(s.toList=uF/\l.length<2)\/(s.toList=mb/\l.length≠1)\/(s.toList=uG/\l.length≠0)then false else mn l:=by
   rw[arity,if_neg (by rw[Jg];simp)]
  have h0:gw a (.mk k s o l) n=ij a l (if s.toList=mb then -n else n):=by rw[gw,if_neg (by rw[Jg];simp)]
  rw[<-FF,<-xd,<-FG]at hun;obtain⟨hk,Mm⟩:=names Jg;generalize gw a (.mk k s o l) n=R0 at h0 okP;rcases Mm with⟨n1,n2,n3⟩|⟨n1,n2,n3⟩|⟨n1,n2,n3⟩ <;>refine wE (λhc=>?_) λhc=>?_
  all_goals try(
   have CC:arity (.mk k s o l)=false:=by
    rw[hun,if_pos];first |exact .inl ⟨n1,by omega⟩|exact .inr (.inl ⟨n2,by omega⟩)|exact .inr (.inr ⟨n3,by omega⟩)
   exact noP CC _ lp1.hv)
  all_goals(
   have CC:arity (.mk k s o l)=mn l:=by
    rw[hun,if_neg];rintro(⟨a,b⟩|⟨a,b⟩|⟨a,b⟩) <;>first |omega |contradiction
   obtain⟨n',Mn,Mo,Jh⟩:∃n',n'=(if s.toList=mb then -n else n)/\(n'=1\/n'=-1)/\R0=ij a l n':=⟨_,rfl,by split <;>omega,h0⟩
   first
    |rw[if_neg (by rw[<-xd];exact n2)]at Mn
    |(rw[if_pos (by rw[<-xd];exact n2)]at Mn;rw[<-Int.zero_sub]at Mn)
   rw[<-Mn];refine Ev.loop (I:=λk' st=>∃(i:Nat) (Hc:ab) (vc:PV) (acc:List Pw) (Y':Nat->PV),st=⟨al [(0,vc),(2,.int .i64 n'),(52,.aa false (ae l)),(53,.int .i64 (ae l).length),(54,.int .i64 i)] Y',Hc⟩/\k'+i=l.length/\LP H v 5 (bq acc) vc Hc/\CI acc (dx (l.drop i))/\R0=ij acc (l.drop i) n'/\mn l=mn (l.drop i)) l.length ?_ ?_;exact⟨0,H1,v,a,_,St.aR ⟨rfl,rfl,rfl,rfl,rfl,trivial⟩,rfl,lp1,Ta.le (by simp only[size,acb];omega),Jh,rfl⟩
   ·clear Mn h0 Jh hsf hun;rintro k' _ ⟨i,Hc,vc,acc,Y',rfl,SM,lp,Ta,ee,HI⟩;refine wE (λhc=>?_) λhc=>?_
    ·obtain⟨k1,s1,o1,l1,fy,cC,hd,mR,_⟩:=gD hc;refine R.gX T6 rfl rfl rfl rfl cC rfl rfl ?_;rw[hd,dx]at Ta;rw[hd,ij]at ee;rw[hd,mn]at HI;have E1:=cX (l.drop (i+1));have Tb:=bU fy;have XF:=Ta.gw (n:=n') (by omega) Mo;have zX:=ih _ fy (Hc++[⟨.m,0,4,[.agg [.int .i64 k1,.str s1,.int .i64 o1,.aa false (ae l1)]]⟩]) vc acc n' (lp.hv.c8 (HV.one rfl)) (lp.out.c8 _) (Ta.le (by omega)) Mo;rw[bo]at zX;refine wB ?_;refine R.call rfl rfl (ai.sg rfl rfl rfl rfl zX ?_)
     intro r kk hr
     unfold qS at hr
     split at hr
     ·rename_i Un
      obtain⟨rv,rfl,hr⟩:=hr;rw[if_neg (by rw[Un];simp)]at HI;refine⟨hr.hv,λhb=>?_,λhb=>?_⟩
      ·have hA:cS (Hc++[(⟨.m,0,4,[.agg [.int .i64 k1,.str s1,.int .i64 o1,.aa false (ae l1)]]⟩:au)]).length rv=true:=by
        simp only[eL,abZ,abb]at hb;exact hb.1
       have lp2:=lp.trans (hr.take (aa5 _) hA);refine wB ?_;exact⟨k' - 1,by omega,i+1,_,rv,_,_,St.aR ⟨rfl,rfl,rfl,rfl,rfl,trivial⟩,by omega,lp2,XF,ee,HI⟩
      ·have lp2:=lp.trans hr;refine wB ?_;exact⟨k' - 1,by omega,i+1,_,rv,_,_,St.aR ⟨rfl,rfl,rfl,rfl,rfl,trivial⟩,by omega,lp2,XF,ee,HI⟩
     ·rename_i Un
      obtain⟨rfl,hr⟩:=hr;rw[if_pos (by simpa using Un)]at HI;refine⟨hr,λhb=>?_,λhb=>Bool.noConfusion hb⟩;refine wB ?_;exact noP (by rw[CC,HI]) _ (hr.take _)
    ·rw[kg hc]at HI ee;rw[ee,ij]at okP;exact okP (by rw[CC,HI,mn]) _ _ lp)
theorem De(t:Tm)(hb:az t<1000000000):∀(H:ab) (v:PV) (a:List Pw) (n:Int),HV H->Out 5 H v (bq a)->CI a (size t)->(n=1\/n=-1)->ax C 250 [v,enc t,.int .i64 n] H (qS H v a t n):=by
 induction t using Tm.ind with
 |h k s o l ih=>exact FE k s o l hb (λt ht=>ih t ht (by have:=bU ht;simp only[az]at hb;omega))
theorem Out.kY{sz:Nat}{h:ab}{v:PV}{es:List PV}(o:Out sz h v es)(hv:ao es=true):∃r1,kY h v=some r1/\bW r1=.aa false (aU es):=by
 rcases o with⟨rfl,rfl⟩|⟨id,ep,rfl,e2⟩;exact⟨_,rfl,rfl⟩;exact⟨.aa false es,by simp[Pm.kY,oE,getM,e2,hv],by simp[bW]⟩
theorem R.Fi{C:cG}(T:kJ C.P){ops:Array Oper}{d:Nat}{ty:TypeId}{pos:String}{af:Array Edge}{r:List Oper}{Y:Nat->PV}{L:List (Nat×PV)}{h:ab}{Q:St->Prop}{t el:TypeId}{x:Operand}{v:PV}{es:List PV}{sz:Nat}
  (hx:cO L x=some v) (hk:T.kd t=some (.sl el)) (o:Out sz h v es) (k:ah C ops r ⟨al ((d,(.int .i64 es.length))::L) Y,h⟩ Q):
  ah C ops (⟨some d,.call ⟨.builtin .len,#[x],#[t]⟩,ty,pos,af,none⟩::r) ⟨al L Y,h⟩ Q:=by
 rcases o with⟨rfl,rfl⟩|⟨id,ep,rfl,e2⟩;exact R.rk T (xs:=[]) (ts:=[]) hx hk k;exact R.zn T (xs:=[]) (ts:=[]) (o:=⟨.m,ep,sz,es⟩) hx hk (bm e2 rfl (by simp)) (by show 0+es.length<=es.length;omega) k
theorem VB(t:Tm)(hb:az t<100000000):aL C 197 [enc t] (.cy [.aa false (bq (Ir t).1),.int .i64 (Ir t).2]):=by
 have h1:=fi t hb;have Jh:=De t (by omega);have Yb:valid t=0->CI [] (size t):=λhv=>CI.nil.le (by have:=(fw.1 hv).2.1;omega)
 have hl:valid t=0->(bq (gw [] t 1)).length<1000000000:=λhv=>by
  have:=yn t [] 1;have:=(fw.1 hv).2.1;rw[fh];simp at *;omega
 have cz:=fh (gw [] t 1);have r1:valid t≠0->Ir t=([],valid t):=λh=>by rw[Ir,if_pos h]
 have r2:valid t=0->arity t=false->Ir t=([],6):=λh h'=>by rw[Ir,if_neg (by omega),if_pos h']
 have r3:valid t=0->arity t=true->200<(gw [] t 1).length->Ir t=([],3):=λh h' h2=>by rw[Ir,if_neg (by omega),if_neg (by rw[h'];simp),if_pos h2]
 have r4:valid t=0->arity t=true->¬200<(gw [] t 1).length->Ir t=(gw [] t 1,0):=λh h' h2=>by rw[Ir,if_neg (by omega),if_neg (by rw[h'];simp),if_neg h2]
 obtain⟨k,s,o,l⟩:=t;refine aL.of (ax.dK Tryz.func197 rfl ?_);rw[bo]at h1 Jh ⊢;refine wB ?_;refine R.call rfl rfl (ai.pure rfl (by simp[ao,aV]) (by simpa[aU,bW,bg]using h1) ?_);refine wE (λhc=>?_) λhc=>?_
 ·refine⟨_,rfl,?_⟩;rw[r1 (by assumption)];rfl
 ·have h0:=Decidable.not_not.1 hc;clear hc;have hl:=hl h0;refine R.call rfl rfl (ai.sg rfl rfl rfl rfl (Jh [⟨.m,0,4,[.agg [.int .i64 k,.str s,.int .i64 o,.aa false (ae l)]]⟩] (.aa true []) [] 1 (HV.one rfl) (Out.nil _ _) (Yb h0) (.inl rfl)) ?_)
  intro r kk hr
  unfold qS at hr
  split at hr
  ·rename_i CC
   obtain⟨rv,rfl,hr⟩:=hr
   have fin:∀K:ab,LP [⟨.m,0,4,[.agg [.int .i64 k,.str s,.int .i64 o,.aa false (ae l)]]⟩] (.aa true []) 5 (bq (gw [] (.mk k s o l) 1)) rv K->¬200<(gw [] (.mk k s o l) 1).length->∃r1,rb K (aT [rv,.int .i64 0])=some r1/\bW r1=PV.cy [PV.aa false (bq (Ir (.mk k s o l)).1),PV.int .i64 (Ir (.mk k s o l)).2]:=by
    intro K hK aap
    obtain⟨r1,e1,e2⟩:=hK.out.kY (nT _);refine⟨.cy [r1,.int .i64 0],?_,?_⟩;simp only[aT,rb,ie,e1];rfl
    ·rw[r4 h0 CC aap];simp only[bW,aU,e2,rc]
   refine⟨hr.hv,λhb=>?_,λhb=>?_⟩
   ·have hA:cS [(⟨.m,0,4,[.agg [.int .i64 k,.str s,.int .i64 o,.aa false (ae l)]]⟩:au)].length rv=true:=by
     simp only[eL,abZ,abb]at hb;exact hb.1
    have hr:=hr.take (aa5 _) hA;refine wB ?_;refine R.Fi T6 rfl rfl hr.out ?_;refine wE (λhc=>?_) λhc=>?_
    ·refine⟨_,rfl,?_⟩;rw[r3 h0 CC (by omega)];rfl
    exact fin _ hr (by omega)
   ·refine wB ?_;refine R.Fi T6 rfl rfl hr.out ?_;refine wE (λhc=>?_) λhc=>?_
    ·refine⟨_,rfl,?_⟩;rw[r3 h0 CC (by omega)];rfl
    exact fin _ hr (by omega)
  ·rename_i CC
   obtain⟨rfl,hr⟩:=hr;refine⟨hr,λhb=>?_,λhb=>Bool.noConfusion hb⟩;refine wB ?_;refine⟨_,rfl,?_⟩;rw[r2 h0 (by simpa using CC)];rfl
def kX:Option Tm->List Pw->Int
 |_,[]=>0
 |pr,p::l=>if valid p.1≠0 then valid p.1 else if dA p.1=true then 1 else if p.2=0\/p.2< -1000\/1000<p.2 then 7 else
  if(match pr with |some q=>decide (0<=aW q p.1)|none=>false)=true then 5 else kX (some p.1) l
theorem oz(pr:Option Tm)(p:Pw)(l:List Pw):kX pr (p::l)=if valid p.1≠0 then valid p.1 else if dA p.1=true then 1 else if p.2=0\/p.2< -1000\/1000<p.2 then 7 else
  if(match pr with |some q=>decide (0<=aW q p.1)|none=>false)=true then 5 else kX (some p.1) l:=by
 cases pr <;>rfl
theorem u7(pr:Option Tm):kX pr []=0:=by cases pr <;>rfl
def lM(l:List Pw):Int:=if 200<l.length then 3 else kX none l
def TN(l:List Pw)(i:Nat):Option Tm:=match i with |0=>none |i+1=>(l[i]?).map (·.1)
set_option maxHeartbeats 8000000 in
theorem GB(l:List Pw)(hb:∀p∈l,az p.1<100000000)(hl:l.length<100000000):aL C 251 [.aa false (bq l)] (.int .i64 (lM l)):=by
 have cz:=fh l;have r1:200<l.length->lM l=3:=λh=>by rw[lM,if_pos h]
 have r2:¬200<l.length->lM l=kX none l:=λh=>by rw[lM,if_neg h]
 refine aL.of (ax.dK Tryz.func251 rfl ?_);generalize lM l=R0 at r1 r2 ⊢;refine wE (λhc=>?_) λhc=>?_;exact⟨_,rfl,by rw[r1 (by omega)];rfl⟩
 ·have r2:=r2 (by omega);clear r1;refine Ev.loop (I:=λk' st=>∃(i:Nat) (J:ab) (Y':Nat->PV),st=⟨al [(0,.aa false (bq l)),(9,.aa false (bq l)),(10,.int .i64 (bq l).length),(11,.int .i64 i)] Y',J⟩/\k'+i=l.length/\HV J/\R0=kX (TN l i) (l.drop i)) l.length ?_ ?_;exact⟨0,[],_,St.aR ⟨rfl,rfl,rfl,rfl,trivial⟩,rfl,HV.nil,r2⟩
  ·clear r2;rintro k' _ ⟨i,J,Y',rfl,hk,hJ,ee⟩;refine wE (λhc=>?_) λhc=>?_
   ·obtain⟨k1,s1,o1,l1,n1,fy,cC,hd,mR,vA⟩:=r8 hc;have Ij:=fi _ (hb _ fy);have hsy:=xc k1 s1 o1 l1;rw[hd,oz]at ee;simp only at Ij ee;rw[bo]at Ij hsy;have Qe:=hJ.c8 (HV.one (ep:=0) (n:=5) (es:=[.agg [.int .i64 k1,.str s1,.int .i64 o1,.aa false (ae l1),.int .i64 n1]]) rfl);have dG:=Qe.closed;clear hc;refine R.gX T6 rfl rfl rfl rfl cC rfl rfl ?_;refine wB ?_;refine R.call rfl rfl (ai.pure rfl (by simp[ao,aV]) (by simpa[aU,bW,bg]using Ij) ?_);refine wE (λhc=>?_) λhc=>?_
    ·rw[if_pos (by assumption)]at ee;exact⟨_,rfl,by rw[ee];rfl⟩
    ·rw[if_neg (by assumption)]at ee;refine R.call rfl rfl (ai.pure rfl (by simp[ao,aV]) (by simpa[aU,bW,bg]using hsy) ?_)
     cases Jg:dA (.mk k1 s1 o1 l1)
     ·rw[if_neg (by rw[Jg];simp)]at ee
      (repeat' (first |refine ah.nil ?_ |(apply R.wv;exact rfl;exact rfl;exact rfl)|(apply R.nU;exact rfl;exact rfl;exact rfl)|(apply R.move;exact rfl)|(apply R.assign;exact rfl)|(apply R.iO;exact rfl;exact rfl)|(apply R.iM;exact rfl;exact rfl)|(apply R.fieldAddr T6;exact rfl;exact rfl;exact rfl;exact rfl)|(apply R.cmp;exact rfl;exact rfl;exact rfl;all_goals intro hc;all_goals(try(exfalso;omega)))|(apply R.arith;exact rfl;exact rfl;exact rfl;exact(mf (by omega) (by omega)))|(apply R.IH T6;exact rfl;exact rfl;exact rfl;exact rfl)|refine Ev.seq ?_ |refine Ev.region ?_ |refine Ev.mg ?_ |refine aZ.nil ?_ |(apply D.move;exact rfl)|(apply D.assign;exact rfl)|(apply D.wv;exact rfl;exact rfl;exact rfl;exact rfl)|(apply D.nU;exact rfl;exact rfl;exact rfl)|(apply D.iM;exact rfl;exact rfl)|(apply D.cmp;exact rfl;exact rfl;exact rfl;all_goals intro hc;all_goals(try(exfalso;omega)))|(apply D.arith;exact rfl;exact rfl;exact rfl;exact(mf (by omega) (by omega)))|(apply Ev.fI;exact rfl)|refine Ev.ret ?_ |refine Ev.skip ?_ |refine aD.normal ?_ |refine aD.ret ?_ |refine ay.normal ?_ |refine ay.ret ?_ |refine aJ.normal ?_ |refine aJ.ret ?_ |(apply aG.ret;exact rfl)|fail))
      all_goals try(rw[if_pos (by omega)]at ee;exact⟨_,rfl,by rw[ee];rfl⟩)
      ·-- a factor before it
       rw[if_neg (by omega)]at ee;obtain⟨i',rfl⟩:∃i',i=i'+1:=⟨i - 1,by omega⟩;obtain⟨k2,s2,o2,l2,n2,dK,na,FO,aaY,dL⟩:=r8 (l:=l) (i:=i') (by omega);have rf:=eF _ _ (by have:=hb _ dK;simp only at this;omega:az (.mk k2 s2 o2 l2)<1000000000) (by have:=hb _ fy;simp only at this;omega:az (.mk k1 s1 o1 l1)<1000000000);rw[bo,bo]at rf;have BQ:TN l (i'+1)=some (.mk k2 s2 o2 l2):=by simp only[TN,dL];rfl
       rw[BQ]at ee;simp only at ee;refine D.gX T6 (by assumption) rfl (congrArg (λz=>some (PV.int .i64 z)) (show((i'+1:Nat):Int) - 1=(i':Int) by omega)) rfl rfl na rfl rfl ?_;refine wB ?_;refine D.mh (by assumption) rfl rfl rfl rfl rfl rfl (by simpa[aU,bW,bg]using rf) ?_;refine wE (λhc=>?_) λhc=>?_
       ·rw[if_pos (decide_eq_true (by assumption))]at ee;exact⟨_,rfl,by rw[ee];rfl⟩
       ·rw[if_neg (by rw[decide_eq_false (by assumption)];simp)]at ee;refine⟨k' - 1,by omega,i'+1+1,_,_,St.aR ⟨rfl,rfl,rfl,rfl,trivial⟩,by omega,Qe,?_⟩;have:TN l (i'+1+1)=some (.mk k1 s1 o1 l1):=by simp only[TN,vA];rfl
        rw[this];exact ee
      ·rw[if_neg (by omega)]at ee;obtain rfl:i=0:=by omega
       simp only[TN,abi,if_false]at ee;refine⟨k' - 1,by omega,0+1,_,_,St.aR ⟨rfl,rfl,rfl,rfl,trivial⟩,by omega,Qe,?_⟩;have:TN l (0+1)=some (.mk k1 s1 o1 l1):=by simp only[TN,vA];rfl
       rw[this];exact ee
     ·rw[if_pos Jg]at ee;refine wB ?_;exact⟨_,rfl,by rw[ee];rfl⟩
   ·rw[IY hc,u7]at ee;exact⟨_,rfl,by rw[ee];rfl⟩
end Go.Pm
namespace Go.Pm
open Go.Proofs
section
variable{C:cG}(T:kJ C.P)
variable{ops:Array Oper}{d:Nat}{ty:TypeId}{pos:String}{af:Array Edge}{r:List Oper}{Y:Nat->PV}{L:List (Nat×PV)}{h:ab}{Q:St->Prop}
set_option maxRecDepth 4000
set_option maxHeartbeats 4000000
theorem Ev.nW{c:Code}{s:St}{Q:Ex->St->Prop}(k:Ev C c s (aJ (λs'=>Ev C (.loop c) s' Q) Q)):Ev C (.loop c) s Q:=by
 obtain⟨ex,s',q,n0,hn⟩:=k
 cases ex with
 |normal=>
  obtain⟨Xq,s2,q2,n1,CZ⟩:=q;refine⟨Xq,s2,q2,max n0 n1+1,λn m h1 h2=>?_⟩;obtain⟨m,rfl⟩:∃i',m=i'+1:=⟨m - 1,by omega⟩;have e1:=hn n (m+1) (by omega) (by omega);have e2:=CZ n m (by omega) (by omega);simp only[bS]at e2 ⊢;simp only[iter,e1];exact qm (λs x hh=>wT (λ_ _ _ _ hh=>hh) (acX m) c hh) (aa5 m) e2
 |exit id=>
  refine⟨_,_,q,n0+1,λn m h1 h2=>?_⟩;obtain⟨m,rfl⟩:∃i',m=i'+1:=⟨m - 1,by omega⟩;simp only[bS,iter,hn n (m+1) (by omega) (by omega)]
 |ret=>
  refine⟨_,_,q,n0+1,λn m h1 h2=>?_⟩;obtain⟨m,rfl⟩:∃i',m=i'+1:=⟨m - 1,by omega⟩;simp only[bS,iter,hn n (m+1) (by omega) (by omega)]
theorem R.LO{t el:TypeId}{x:Operand}(hx:cO L x=some (.aa true []))(hk:T.kd t=some (.sl el))(k:ah C ops r ⟨al ((d,.int .i64 0)::L) Y,h⟩ Q):
  ah C ops (⟨some d,.call ⟨.builtin .cap,#[x],#[t]⟩,ty,pos,af,none⟩::r) ⟨al L Y,h⟩ Q:=
 ah.eP (λrun=>by simp[ar,an hx,br,TW,bp (T.cQ _ _ hk)]) k
theorem R.LQ{t el:TypeId}{x y:Operand}{k:IntKind}{sz:Nat}(hx:cO L x=some (.aa true []))(hy:cO L y=some (.int k 0))(hk:T.kd t=some (.sl el))(hs:T.ts el=some sz)(kk:ah C ops r ⟨al ((d,.aa true [])::L) Y,h⟩ Q):
  ah C ops (⟨some d,.slice t x none (some y) none,ty,pos,af,none⟩::r) ⟨al L Y,h⟩ Q:=
 ah.eP (λrun=>by simp[ar,aC,an hx,an hy,cd,bp (T.cQ _ _ hk),T.eA _ _ hs,cN]) kk
theorem R.P4{t el:TypeId}{x y:Operand}{k:IntKind}{id ep len:Nat}{o:au}(hx:cO L x=some (.aj id ep 0 len))(hy:cO L y=some (.int k 0))(hk:T.kd t=some (.sl el))(hg:getM h id ep=some o)(hs:T.ts el=some o.bA)(hle:len<=o.es.length)(kk:ah C ops r ⟨al ((d,.aj id ep 0 0)::L) Y,h⟩ Q):
  ah C ops (⟨some d,.slice t x none (some y) none,ty,pos,af,none⟩::r) ⟨al L Y,h⟩ Q:=
 ah.eP (λrun=>by
  have h1:¬((len:Int)<0):=by omega
  simp[ar,aC,an hx,an hy,cd,bp (T.cQ _ _ hk),T.eA _ _ hs,beyond,h1,cN,hg,hle]) kk
theorem R.P5{st xt el:TypeId}{sz fY n:Nat}{z:PV}{ki:IntKind}{x y:Operand}(hx:cO L x=some (.aa true []))(hy:cO L y=some (.int ki (n:Int)))(hk:T.kd st=some (.sl el))(gf:T.kd xt=some (.int ki))(hs:T.ts el=some (sz+1))(hb:T.tb el=some fY)(hz:T.tz el=some z)(jb:fY<=1000)(hl:(cells z).length=sz+1)(ho:(cells z).all bC=true)
  (Wv:0<n) (hn:n<1000000000) (kk:ah C ops r ⟨al ((d,.aj h.length 0 0 n)::L) Y,h++[⟨.m,0,sz+1,List.replicate n z⟩]⟩ Q):
  ah C ops (⟨some d,.call ⟨.builtin .append,#[x,y],#[st,xt]⟩,ty,pos,af,none⟩::r) ⟨al L Y,h⟩ Q:=by
 refine ah.eP (λrun=>?_) kk;have bN:(List.replicate n z).isEmpty=false:=by cases n with |zero=>omega |succ n=>rfl
 have ek:(List.replicate n z).all (λv=>decide ((cells v).length=sz+1)&& (cells v).all bC)=true:=by
  rw[aa4];intro v hv;rw[(acV.1 hv).2,hl,ho];simp
 have lW:bJ C.P 2 h st xt (.aa true []) (.int ki (n:Int))=some (.aj h.length 0 0 n,h++[⟨.m,0,sz+1,List.replicate n z⟩]):=by
  unfold bJ;rw[bp (T.cQ _ _ hk)];simp only[T.eA _ _ hs,T.rS _ _ hb,T.mM _ _ hz,cA,pp (T.cQ _ _ gf)];rw[if_pos ⟨by omega,by omega⟩];simp only[acr];rw[if_pos ⟨by omega,by omega,⟨hl,ho⟩,ek⟩];simp only[bN,abi,if_false,abH,abp,acH,abK,newObj,acj];rw[if_pos ⟨trivial,by omega,im hn jb,trivial⟩]
 simp only[ar,br,abk,abx,an hx,an hy,lW]
def Gr(H:ab)(sz:Nat)(h:ab)(v:PV)(es:List PV):Prop:=(v=.aa true []/\es=[]/\h=H)\/∃ep o,v=.aj H.length ep 0 es.length/\h=H++[⟨.m,ep,sz,o⟩]/\o.take es.length=es/\es.length<=o.length
theorem Out.cf{sz:Nat}{h:ab}{v:PV}{es:List PV}(o:Out sz h v es):cf h v=some es:=by
 rcases o with⟨rfl,rfl⟩|⟨id,ep,rfl,e2⟩
 rfl
 simp[Pm.cf,getM,e2]
def Ls(sz:Nat)(h:ab)(v:PV)(es:List PV):Prop:=Out sz h v es\/∃f,v=.aa f es
theorem Ls.cf{sz:Nat}{h:ab}{v:PV}{es:List PV}(o:Ls sz h v es):cf h v=some es:=by
 rcases o with o |⟨f,rfl⟩;exact o.cf
 rfl
theorem Ls.c8{sz:Nat}{h:ab}{v:PV}{es:List PV}(o:Ls sz h v es)(J:ab):Ls sz (h++J) v es:=o.imp (λx=>x.c8 J) id
theorem R.HC{H:ab}{st xt el oQ:TypeId}{sz fY:Nat}{z:PV}{es ys:List PV}{x y:Operand}{v u:PV}{ep:Nat}{o:List PV}(hx:cO L x=some (.aj H.length ep 0 es.length))(hy:cO L y=some u)(hk:T.kd st=some (.sl el))(gf:T.kd xt=some (.sl oQ))(hs:T.ts el=some (sz+1))(hb:T.tb el=some fY)(hz:T.tz el=some z)
  (jb:fY<=1000) (hl:(cells z).length=sz+1) (ho:(cells z).all bC=true) (wU:dj (sz+1) ys) (hu:Ls (sz+1) H u ys) (hn:es.length+ys.length<1000000000) (g1:o.take es.length=es) (g2:es.length<=o.length)
  (kk:∀h9 o',o'.take (es++ys).length=es++ys->(es++ys).length<=o'.length->(ys≠[]->o'=es++ys)->(ys=[]->o'=o)->ah C ops r ⟨al ((d,.aj H.length h9 0 (es++ys).length)::L) Y,H++[⟨.m,h9,sz+1,o'⟩]⟩ Q):
  ah C ops (⟨some d,.call ⟨.builtin .append,#[x,y],#[st,xt]⟩,ty,pos,af,none⟩::r) ⟨al L Y,H++[⟨.m,ep,sz+1,o⟩]⟩ Q:=by
 have cz:=(hu.c8 [⟨.m,ep,sz+1,o⟩]).cf;have hg:getM (H++[(⟨.m,ep,sz+1,o⟩:au)]) H.length ep=some ⟨.m,ep,sz+1,o⟩:=by simp[getM]
 unfold dj at wU
 cases oY:ys with
 |nil=>
  subst oY;refine ah.eP (λrun=>?_) (kk ep o (by simpa using g1) (by simpa using g2) (λh=>absurd rfl h) (λ_=>rfl))
  have lW:bJ C.P 2 (H++[⟨.m,ep,sz+1,o⟩]) st xt (.aj H.length ep 0 es.length) u=some (.aj H.length ep 0 (es++[]).length,H++[⟨.m,ep,sz+1,o⟩]):=by
   unfold bJ;rw[bp (T.cQ _ _ hk)];simp only[T.eA _ _ hs,T.rS _ _ hb,T.mM _ _ hz,cA,bp (T.cQ _ _ gf),cz];rw[if_pos ⟨by omega,by omega,⟨hl,ho⟩,wU⟩];simp only[hg];rw[if_pos ⟨by omega,trivial⟩];simp
  simp only[ar,br,abk,abx,an hx,an hy,lW]
 |cons y0 ys0=>
  have bN:ys.isEmpty=false:=by rw[oY];rfl
  refine ah.eP (λrun=>?_) (kk (ep+1) (es++ys) ab2 (aa5 _) (λ_=>rfl) (λh=>by rw[h]at bN;cases bN))
  have lW:bJ C.P 2 (H++[⟨.m,ep,sz+1,o⟩]) st xt (.aj H.length ep 0 es.length) u=some (.aj H.length (ep+1) 0 (es++ys).length,H++[⟨.m,ep+1,sz+1,es++ys⟩]):=by
   unfold bJ;rw[bp (T.cQ _ _ hk)];simp only[T.eA _ _ hs,T.rS _ _ hb,T.mM _ _ hz,cA,bp (T.cQ _ _ gf),cz];rw[if_pos ⟨by omega,by omega,⟨hl,ho⟩,wU⟩];simp only[hg];rw[if_pos ⟨by omega,trivial⟩];simp only[bN,abi,if_false]
   have P6:j3 H.length u=false:=by
    rcases hu with(⟨rfl,_⟩|⟨id,h9,rfl,e2⟩)|⟨f,rfl⟩
    rfl
    rotate_left
    rfl
    ·have:=ag e2;simp[j3];omega
   rw[if_neg (by rw[P6];simp),if_pos ⟨trivial,by omega,trivial,im hn jb⟩,g1]
   have:(H++[(⟨.m,ep,sz+1,o⟩:au)]).set H.length ⟨.m,ep+1,sz+1,es++ys⟩=H++[⟨.m,ep+1,sz+1,es++ys⟩]:=by
    refine(ack H.length _ (aa5 _)).trans ?_;simp
   rw[this,aba]
  simp only[ar,br,abk,abx,an hx,an hy,lW]
theorem R.HD{st xt el oQ:TypeId}{sz fY:Nat}{z:PV}{x y:Operand}{u:PV}(hx:cO L x=some (.aa true []))(hy:cO L y=some u)(hk:T.kd st=some (.sl el))(gf:T.kd xt=some (.sl oQ))(hs:T.ts el=some (sz+1))(hb:T.tb el=some fY)(hz:T.tz el=some z)
  (jb:fY<=1000) (hl:(cells z).length=sz+1) (ho:(cells z).all bC=true) (hu:Ls (sz+1) h u []) (kk:ah C ops r ⟨al ((d,.aa true [])::L) Y,h⟩ Q):
  ah C ops (⟨some d,.call ⟨.builtin .append,#[x,y],#[st,xt]⟩,ty,pos,af,none⟩::r) ⟨al L Y,h⟩ Q:=by
 refine ah.eP (λrun=>?_) kk;have cz:=hu.cf
 have lW:bJ C.P 2 h st xt (.aa true []) u=some (.aa true [],h):=by
  unfold bJ;rw[bp (T.cQ _ _ hk)];simp only[T.eA _ _ hs,T.rS _ _ hb,T.mM _ _ hz,cA,bp (T.cQ _ _ gf),cz];rw[if_pos ⟨by omega,by omega,⟨hl,ho⟩,rfl⟩]
  rfl
 simp only[ar,br,abk,abx,an hx,an hy,lW]
end
section
variable{C:cG}(T:kJ C.P)
set_option maxRecDepth 4000
set_option maxHeartbeats 4000000
def X2(H:ab)(x v1 v2:PV):Prop:=x=.aa true [v1,v2]\/∃id,x=.aj id 0 0 2/\H[id]?=some ⟨.m,0,1,[v1,v2]⟩
theorem X2.c8{H:ab}{x v1 v2:PV}(a:X2 H x v1 v2)(J:ab):X2 (H++J) x v1 v2:=by
 rcases a with a |⟨id,e1,e2⟩;exact .inl a;exact .inr ⟨id,e1,by rw[aa3 (ag e2)];exact e2⟩
theorem Out.cells{sz:Nat}{h:ab}{v:PV}{es:List PV}(o:Out sz h v es):cells v=[v]:=by
 rcases o with⟨rfl,rfl⟩|⟨id,ep,rfl,e2⟩ <;>rfl
theorem Ls.cells{sz:Nat}{h:ab}{v:PV}{es:List PV}(o:Ls sz h v es):Pm.cells v=[v]:=by
 rcases o with o |⟨f,rfl⟩;exact o.cells
 rfl
theorem R.SO{ops:Array Oper}{d:Nat}{ty:TypeId}{pos:String}{af:Array Edge}{r:List Oper}{Y:Nat->PV}{L:List (Nat×PV)}{h:ab}{Q:St->Prop}{t el:TypeId}{x:Operand}{v:PV}{es:List PV}{sz:Nat}(hx:cO L x=some v)(hk:T.kd t=some (.sl el))(o:Ls sz h v es)(k:ah C ops r ⟨al ((d,(.int .i64 es.length))::L) Y,h⟩ Q):
  ah C ops (⟨some d,.call ⟨.builtin .len,#[x],#[t]⟩,ty,pos,af,none⟩::r) ⟨al L Y,h⟩ Q:=by
 rcases o with o |⟨f,rfl⟩;exact R.Fi T hx hk o k;exact R.rk T (xs:=[]) (ts:=[]) hx hk k
theorem R.Uc{ops:Array Oper}{d:Nat}{ty:TypeId}{pos:String}{af:Array Edge}{r:List Oper}{Y:Nat->PV}{L:List (Nat×PV)}{h:ab}{Q:St->Prop}{t el:TypeId}{x:Operand}{u v1 v2:PV}
  (hx:cO L x=some u) (hk:T.kd t=some (.sl el)) (a:X2 h u v1 v2) (k:ah C ops r ⟨al ((d,(.int .i64 2))::L) Y,h⟩ Q):
  ah C ops (⟨some d,.call ⟨.builtin .len,#[x],#[t]⟩,ty,pos,af,none⟩::r) ⟨al L Y,h⟩ Q:=by
 rcases a with rfl |⟨id,rfl,e2⟩;exact R.rk T (xs:=[]) (ts:=[]) hx hk k;exact R.zn T (xs:=[]) (ts:=[]) (o:=⟨.m,0,1,[v1,v2]⟩) hx hk (bm e2 rfl (by simp)) (by show 0+2<=2;omega) k
theorem R.I6{ops:Array Oper}{d d2:Nat}{ty ty2:TypeId}{pos Zz:String}{af af2:Array Edge}{r:List Oper}{Y:Nat->PV}{L:List (Nat×PV)}{h:ab}{Q:St->Prop}{t t2 el:TypeId}{x ix:Operand}{u v1 v2 v:PV}{i:Nat}{k:IntKind}
  (hx:cO L x=some u) (hi:cO L ix=some (.int k (i:Int))) (hk:T.kd t=some (.sl el)) (hs:T.ts el=some 1) (Xr:T.ts t2=some 1) (ht2:T.ta t2=some false) (a:X2 h u v1 v2) (hv:[v1,v2][i]?=some v) (hc:cells v=[v])
  (kk:∀p,ah C ops r ⟨al ((d2,v)::(d,p)::L) Y,h⟩ Q):
  ah C ops (⟨some d,.indexAddr t x ix,ty,pos,af,none⟩::⟨some d2,.load t2 (.tmp d),ty2,Zz,af2,none⟩::r) ⟨al L Y,h⟩ Q:=by
 have tO:∀p,cO ((d,p)::L) (.tmp d)=some p:=λp=>by simp[cO,lk]
 rcases a with rfl |⟨id,rfl,e2⟩
 ·refine R.gX T hx hi hk (sz:=0) hs hv hc rfl ?_;exact R.gB T (tO _) Xr ht2 (cs:=[]) rfl (kk _)
 ·have cL:i<2:=by have:=ag hv;simpa using this
  refine R.rm T (o:=⟨.m,0,1,[v1,v2]⟩) hx hi hk (bm e2 rfl (by simp)) hs cL (by show 0+2<=2;omega) ?_;refine R.gB T (tO _) Xr ht2 (c:=v) (cs:=[]) ?_ (kk _);simp only[cR,bm e2 rfl (show Mu.m≠.x by simp),abp,hv,hc,acb]
end
attribute [local irreducible] aD ay aJ aG Ev ah ai ax aZ
set_option maxRecDepth 4000
set_option maxHeartbeats 4000000
theorem P7(n:Nat)(hn:n<1000000000)(H:ab):ax C 203 [.aa true [],.int .i64 n] H (λr h'=>Gr H 4 h' r []/\(n=0->r=.aa true [])/\(r=.aa true []->n=0)):=by
 refine ax.dK Tryz.func203 rfl ?_;refine wF λhc=>?_;apply R.LO T6;exact rfl;exact rfl;refine wD ?_;refine R.arith (c':=0) rfl rfl rfl (by decide) ?_
 (repeat' (first |refine ah.nil ?_ |(apply R.move;exact rfl)|(apply R.assign;exact rfl)|(apply R.cmp;exact rfl;exact rfl;exact rfl;all_goals intro hc;all_goals(try(exfalso;omega)))|(apply R.arith;exact rfl;exact rfl;exact rfl;exact(mf (by omega) (by omega)))|refine Ev.seq ?_ |refine Ev.region ?_ |(apply Ev.fI;exact rfl)|refine Ev.ret ?_ |refine Ev.skip ?_ |refine aD.normal ?_ |(apply aG.ret;exact rfl)|fail))
 ·apply R.LO T6;exact rfl;exact rfl
  skip
  apply R.LQ T6;exact rfl;exact rfl;exact rfl;exact rfl;refine wD ?_;apply R.P5 T6 (n:=n);exact rfl;exact(congrArg (λz=>some (PV.int .i64 z)) (by simp))
  all_goals first |exact rfl |exact(by decide:(_:Nat)<=1000)|omega |skip
  refine wD ?_;apply R.P4 T6 (o:=⟨.m,0,4,List.replicate n (.agg [.int .i64 0,.str ByteArray.empty,.int .i64 0,.aa true []])⟩);exact rfl;exact rfl;exact rfl;exact lB;exact rfl;simp;refine wD ?_;exact⟨.inr ⟨0,List.replicate n (.agg [.int .i64 0,.str ByteArray.empty,.int .i64 0,.aa true []]),rfl,rfl,rfl,by simp⟩,λh=>by omega,λh=>by cases h⟩
 exact⟨.inl ⟨rfl,rfl,rfl⟩,λ_=>rfl,λ_=>by omega⟩
theorem cc(a b:List Tm):ae (a++b)=ae a++ae b:=by rw[de,de,de,abT]
def ZA(H:ab)(l:List Tm)(r:PV)(h':ab):Prop:=(l=[]/\r=.aa true []/\h'=H)\/∃ep,r=.aj H.length ep 0 (ae l).length/\h'=H++[⟨.m,ep,4,ae l⟩]
set_option maxHeartbeats 8000000 in
theorem zW(a b:List Tm)(H:ab)(x v1 v2:PV)(hx:X2 H x v1 v2)(h1:Ls 4 H v1 (ae a))(h2:Ls 4 H v2 (ae b))(hl:a.length+b.length<100000000):
  ax C 158 [x] H (ZA H (a++b)):=by
 refine ax.dK Tryz.func158 rfl ?_;have e1:=ak a;have e2:=ak b;refine wD ?_;apply R.Uc T6;exact rfl;exact rfl;exact hx;refine wD ?_;apply Ev.nW;refine wF λhc=>?_;apply R.I6 T6 (i:=0);exact rfl;exact rfl;exact rfl;exact rfl;exact rfl;exact rfl;exact hx;exact rfl;exact h1.cells
 intro p1
 refine wD ?_;apply R.SO T6;exact rfl;exact rfl;exact h1;refine wF λhc=>?_;apply Ev.nW;refine wF λhc=>?_;apply R.I6 T6 (i:=1);exact rfl;exact rfl;exact rfl;exact rfl;exact rfl;exact rfl;exact hx;exact rfl;exact h2.cells
 intro p2
 refine wD ?_;apply R.SO T6;exact rfl;exact rfl;exact h2;refine wF λhc=>?_;apply Ev.nW;refine wF λhc=>?_;refine R.call rfl rfl (ai.opened rfl ?_);refine ax.heap (args':=[.aa true [],.int .i64 ((a.length+b.length:Nat):Int)]) rfl (by simp[e1,e2]) ((P7 (a.length+b.length) (by omega) H).mono ?_);rintro r h' ⟨hg,hz,I7⟩
 have key:(if(eL H.length r&& (h'.take H.length).all λo=>o.es.all (cS H.length))=true then h'.take H.length else h')=h':=by
  rcases hg with⟨_,_,rfl⟩|⟨ep,o,rfl,rfl,_,_⟩;simp;rw[if_neg (by simp[eL,cS,eK])]
 rw[key]
 have Ud:X2 h' x v1 v2:=by
  rcases hg with⟨_,_,rfl⟩|⟨ep,o,rfl,rfl,_,_⟩;exact hx;exact hx.c8 _
 by_cases Pt:a.length+b.length=0
 ·have hr:=hz Pt;subst hr;have ha:a=[]:=abj (by omega);have hb:b=[]:=abj (by omega);subst ha;subst hb;rcases hg with⟨_,_,rfl⟩|⟨ep,o,hh,_⟩
  ·refine wD ?_;apply R.Uc T6;exact rfl;exact rfl;exact Ud;refine wD ?_;apply Ev.nW;refine wF λhc=>?_;apply R.I6 T6 (i:=0);exact rfl;exact rfl;exact rfl;exact rfl;exact rfl;exact rfl;exact Ud;exact rfl;exact h1.cells
   intro p3
   refine wD ?_;refine R.HD T6 rfl rfl rfl rfl rfl rfl rfl (by decide) rfl rfl h1 ?_;refine wD ?_;apply Ev.nW;refine wF λhc=>?_;apply R.I6 T6 (i:=1);exact rfl;exact rfl;exact rfl;exact rfl;exact rfl;exact rfl;exact Ud;exact rfl;exact h2.cells
   intro p4
   refine wD ?_;refine R.HD T6 rfl rfl rfl rfl rfl rfl rfl (by decide) rfl rfl h2 ?_;refine wD ?_;apply Ev.nW;refine wF λhc=>?_;exact .inl ⟨rfl,rfl,rfl⟩
  cases hh
 ·rcases hg with⟨hr,_,_⟩|⟨ep,o,rfl,rfl,g1,g2⟩
  ·exact absurd (I7 hr) Pt
  ·refine wD ?_;apply R.Uc T6;exact rfl;exact rfl;exact Ud;refine wD ?_;apply Ev.nW;refine wF λhc=>?_;apply R.I6 T6 (i:=0);exact rfl;exact rfl;exact rfl;exact rfl;exact rfl;exact rfl;exact Ud;exact rfl;exact h1.cells
   intro p3
   refine wD ?_;refine R.HC T6 (es:=[]) (ys:=ae a) (v:=.eJ) rfl rfl rfl rfl rfl rfl rfl (by decide) rfl rfl (nX a) h1 (by simp;omega) g1 g2 ?_
   intro ep1 o1 t1 t2 t3 t4
   refine wD ?_;apply Ev.nW;refine wF λhc=>?_;apply R.I6 T6 (i:=1);exact rfl;exact rfl;exact rfl;exact rfl;exact rfl;exact rfl;exact(hx.c8 _);exact rfl;exact h2.cells
   intro p4
   refine wD ?_;refine R.HC T6 (es:=ae a) (ys:=ae b) (v:=.eJ) rfl rfl rfl rfl rfl rfl rfl (by decide) rfl rfl (nX b) h2 (by omega) t1 t2 ?_
   intro ep2 o2 u1 u2 u3 u4
   refine wD ?_;apply Ev.nW;refine wF λhc=>?_
   have ho:o2=ae (a++b):=by
    rw[cc]
    by_cases hb:ae b=[]
    ·rw[u4 hb,hb,abv];refine t3 (λha=>?_);rw[ha]at e1;rw[hb]at e2;simp at e1 e2;omega
    exact u3 hb
   refine .inr ⟨ep2,?_,by rw[ho]⟩;rw[cc];rfl
end Go.Pm
namespace Go.Pm
open Go.Proofs
set_option maxRecDepth 4000
set_option maxHeartbeats 4000000
def fL:Tm:=.mk 0 ByteArray.empty 0 []
theorem Out.lt{sz:Nat}{h:ab}{v:PV}{es:List PV}(o:Out sz h v es){j ep n:Nat}(hv:v=.aj j ep 0 n):j<h.length:=by
 rcases o with⟨rfl,_⟩|⟨id,h9,rfl,e2⟩
 cases hv
 cases hv;exact ag e2
theorem LP.obj{H:ab}{v:PV}{sz:Nat}{es:List PV}{r:PV}{h':ab}(a:LP H v sz es r h'){b:Nat}{o:au}(e:H[b]?=some o)(hb:∀ep n,v≠.aj b ep 0 n):h'[b]?=some o/\∀ep n,r≠.aj b ep 0 n:=by
 refine⟨by rw[a.fr b (ag e) hb];exact e,λep n hh=>?_⟩;rcases a.ref b ep n hh with⟨h9,n',h3⟩|h3;exact hb h9 n' h3;have:=ag e;omega
end Go.Pm
