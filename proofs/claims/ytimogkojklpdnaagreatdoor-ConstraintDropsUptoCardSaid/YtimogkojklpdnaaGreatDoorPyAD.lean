/-
  A part of the library Pm (joined by program). Conditions: none.
-/
import Derived.Test.YtimogkojklpdnaaGreatDoorPyAA
import Derived.Test.YtimogkojklpdnaaGreatDoorPyAC
set_option linter.unusedVariables false
set_option linter.unusedSimpArgs false
set_option linter.unnecessarySimpa false
namespace Go.Pm
open Go.Proofs
attribute [local irreducible] aE az aI aJ Ev ah ai ax aW
set_option maxRecDepth 4000
set_option maxHeartbeats 4000000
theorem xC(c:Int):nY c=decide ((97<=c/\c<=122)\/(65<=c/\c<=90)\/(48<=c/\c<=57)\/c=95\/c=35):=by
 unfold nY jS pt;simp only[<-Bool.decide_or]
 congr 1
 apply propext;omega
theorem xD(c:Int):aO C 191 [.int .u8 c] (.bool (jS c)):=by
 refine aO.of (ax.dJ Tryz.func191 rfl ?_)
 (repeat' (first |refine ah.nil ?_ |(apply R.va;exact rfl;exact rfl;exact rfl)|(apply R.mE;exact rfl;exact rfl;exact rfl)|(apply R.QS;exact rfl;exact rfl)|(apply R.move;exact rfl)|(apply R.assign;exact rfl)|(apply R.iF;exact rfl;exact rfl)|(apply R.gT;exact rfl;exact rfl)|(apply R.cmp;exact rfl;exact rfl;exact rfl;all_goals intro hc)|refine Ev.seq ?_ |refine Ev.region ?_ |refine Ev.ret ?_ |refine aE.normal ?_ |(apply aJ.ret;exact rfl)|fail))
 all_goals(refine⟨_,rfl,congrArg PV.bool ?_⟩;unfold jS;first |exact(decide_eq_true (by omega)).symm |exact(decide_eq_false (by omega)).symm)
theorem IV(c:Int):aO C 192 [.int .u8 c] (.bool (pt c)):=by
 refine aO.of (ax.dJ Tryz.func192 rfl ?_)
 (repeat' (first |refine ah.nil ?_ |(apply R.va;exact rfl;exact rfl;exact rfl)|(apply R.mE;exact rfl;exact rfl;exact rfl)|(apply R.move;exact rfl)|(apply R.assign;exact rfl)|(apply R.iF;exact rfl;exact rfl)|(apply R.gT;exact rfl;exact rfl)|(apply R.cmp;exact rfl;exact rfl;exact rfl;all_goals intro hc)|refine Ev.seq ?_ |refine Ev.region ?_ |refine Ev.ret ?_ |refine aE.normal ?_ |(apply aJ.ret;exact rfl)|fail))
 all_goals(refine⟨_,rfl,congrArg PV.bool ?_⟩;unfold pt;first |exact(decide_eq_true (by omega)).symm |exact(decide_eq_false (by omega)).symm)
theorem Df(c:Int):aO C 244 [.int .u8 c] (.bool (nY c)):=by
 refine aO.of (ax.dJ Tryz.func244 rfl ?_)
 (repeat' (first |refine ah.nil ?_ |(apply R.va;exact rfl;exact rfl;exact rfl)|(apply R.mE;exact rfl;exact rfl;exact rfl)|(apply R.QS;exact rfl;exact rfl)|(apply R.move;exact rfl)|(apply R.assign;exact rfl)|(apply R.iF;exact rfl;exact rfl)|(apply R.gT;exact rfl;exact rfl)|(apply R.cmp;exact rfl;exact rfl;exact rfl;all_goals intro hc)|refine Ev.seq ?_ |refine Ev.region ?_ |refine Ev.ret ?_ |refine aE.normal ?_ |(apply aJ.ret;exact rfl)|fail))
 all_goals(refine⟨_,rfl,congrArg PV.bool ?_⟩;rw[xC];first |exact(decide_eq_true (by omega)).symm |exact(decide_eq_false (by omega)).symm)
theorem ss(s:ByteArray)(i:Nat)(h:i<s.toList.length):jk (s.toList.drop i)=(nY (s.toList[i]).toNat&&jk (s.toList.drop (i+1))):=by
 rw[abB h,jk]
theorem xE(s:ByteArray):(s.size=0/\s.toList=[])\/∃c l,s.toList=c::l/\s[0]?=some c/\s.size=l.length+1:=by
 have hl:=bsize s
 cases h:s.toList with
 |nil=>rw[h]at hl;exact .inl ⟨by simpa using hl.symm,rfl⟩
 |cons c l=>exact .inr ⟨c,l,rfl,LJ (i:=0) (by rw[h];rfl),by rw[<-hl,h];rfl⟩
theorem Dh(s:ByteArray)(hb:s.size<1000000000):aO C 149 [.str s] (.bool (eK s)):=by
 refine aO.of (ax.dJ Tryz.func149 rfl ?_);have hl:=bsize s;rcases xE s with⟨h0,hn⟩|⟨c,l,dp,Di,gv⟩
 ·have hs:eK s=false:=by unfold eK;rw[hn];rfl
  refine wXL (λhc=>?_) (λhc hc=>?_) λhc hc=>?_
  ·exact⟨_,rfl,by rw[hs];rfl⟩
  ·omega
  ·omega
 ·have hs:eK s=(decide (l.length<24)&&jS c.toNat&&jk s.toList):=by unfold eK;rw[dp];rfl
  refine wXL (λhc=>?_) (λhc hc=>?_) λhc hc=>?_
  ·omega
  ·refine⟨_,rfl,?_⟩;rw[hs,decide_eq_false (by omega)];rfl
  ·refine R.jm T6 (i:=0) rfl rfl rfl Di ?_;refine wXB ?_;refine R.call rfl rfl (ai.pure rfl rfl (xD c.toNat) ?_)
   cases Mr:jS c.toNat
   ·refine wXB ?_;refine⟨_,rfl,?_⟩;rw[hs,Mr];simp[cf,aY]
   ·refine wXB ?_;have DQ:eK s=jk (s.toList.drop 0):=by rw[hs,Mr,decide_eq_true (by omega)];simp
    refine Ev.loop (I:=λk' st=>∃(i:Nat) (ρ':Nat->PV),st=⟨al [(0,.str s),(3,.int .i64 i)] ρ',[]⟩/\k'+i=s.size/\eK s=jk (s.toList.drop i)) s.size ?_ ?_
    ·exact⟨0,_,St.aR ⟨rfl,rfl,trivial⟩,rfl,DQ⟩
    ·rintro k' _ ⟨i,ρ',rfl,hk,dO⟩;refine wXE (λhc=>?_) λhc=>?_
     ·have nt:i<s.toList.length:=by omega
      have cY:=LJ (Z3 nt);rw[ss s i nt]at dO;refine R.jm T6 rfl rfl rfl cY ?_;generalize hx:s.toList[i]=x at dO cY;have C5:=xC x.toNat
      skip
      refine R.call rfl rfl (ai.pure rfl rfl (xD x.toNat) ?_)
      cases Mr:jS x.toNat
      ·refine wXB ?_;refine R.jm T6 rfl rfl rfl cY ?_;refine wXB ?_;refine R.call rfl rfl (ai.pure rfl rfl (IV x.toNat) ?_)
       cases AQ:pt x.toNat
       ·refine wXB ?_;refine R.jm T6 rfl rfl rfl cY ?_;refine wXE (λhc=>?_) λhc=>?_
        ·refine R.jm T6 rfl rfl rfl cY ?_;refine wXE (λhc=>?_) λhc=>?_
         ·rename_i h95
          have h35:=hc;refine⟨_,rfl,?_⟩;rw[dO];unfold nY;rw[Mr,AQ,decide_eq_false (by omega),decide_eq_false (by omega)];rfl
         ·refine⟨k' - 1,by omega,i+1,_,St.aR ⟨rfl,rfl,trivial⟩,by omega,?_⟩;rw[dO];unfold nY;rw[decide_eq_true (show(x.toNat:Int)=35 by omega)];simp
        ·refine⟨k' - 1,by omega,i+1,_,St.aR ⟨rfl,rfl,trivial⟩,by omega,?_⟩;rw[dO];unfold nY;rw[decide_eq_true (show(x.toNat:Int)=95 by omega)];simp
       ·refine wXB ?_;refine⟨k' - 1,by omega,i+1,_,St.aR ⟨rfl,rfl,trivial⟩,by omega,?_⟩;rw[dO];unfold nY;rw[AQ];simp
      ·refine wXB ?_;refine⟨k' - 1,by omega,i+1,_,St.aR ⟨rfl,rfl,trivial⟩,by omega,?_⟩;rw[dO];unfold nY;rw[Mr];simp
     ·refine⟨_,rfl,?_⟩;rw[dO,aaz (by omega)];rfl
theorem QT:(ByteArray.mk #[]).toList=[]:=by rw[ByteArray.toList_eq]
theorem D8(s:ByteArray)(hb:s.size<1000000000):aO C 193 [.str s] (.bool (eK s)):=by
 refine aO.of (ax.dJ Tryz.func193 rfl ?_);have hl:=bsize s;rcases xE s with⟨h0,hn⟩|⟨c,l,dp,Di,gv⟩
 ·have hs:eK s=false:=by unfold eK;rw[hn];rfl
  have Ps:s.toList=(ByteArray.mk #[]).toList:=by rw[hn,QT]
  refine wXB ?_;exact⟨_,rfl,by rw[hs];rfl⟩
 ·have hs:eK s=(decide (l.length<24)&&jS c.toNat&&jk s.toList):=by unfold eK;rw[dp];rfl
  have C5:=xC c.toNat;have hle:jS c.toNat=decide ((97<=(c.toNat:Int)/\(c.toNat:Int)<=122)\/(65<=(c.toNat:Int)/\(c.toNat:Int)<=90)):=rfl;refine wXP (λhc=>?_) (λhc hc=>?_) λhc hc=>?_
  ·rw[dp,QT]at hc;cases hc
  ·refine⟨_,rfl,?_⟩;rw[hs,decide_eq_false (by omega)];rfl
  ·have h24:=hc;clear hc;refine R.call rfl rfl (ai.pure rfl rfl (Df c.toNat) ?_)
   cases TW:nY c.toNat
   ·refine wXD ?_;refine⟨_,rfl,?_⟩;rw[TW]at C5;have:=of_decide_eq_false C5.symm;rw[hs,hle,decide_eq_false (p:=(97<=(c.toNat:Int)/\(c.toNat:Int)<=122)\/(65<=(c.toNat:Int)/\(c.toNat:Int)<=90)) (by omega)];simp[cf,aY]
   ·rw[TW]at C5;have C5:=of_decide_eq_true C5.symm
    by_cases hg:(97<=(c.toNat:Int)/\(c.toNat:Int)<=122)\/(65<=(c.toNat:Int)/\(c.toNat:Int)<=90)
    ·have DQ:eK s=jk (s.toList.drop 0):=by rw[hs,hle,decide_eq_true hg,decide_eq_true (by omega)];simp
     (repeat' (first |(apply R.jm T6 (i:=0);exact rfl;exact rfl;exact rfl;assumption)|refine ah.nil ?_ |(apply R.va;exact rfl;exact rfl;exact rfl)|(apply R.move;exact rfl)|(apply R.iF;exact rfl;exact rfl)|(apply R.gT;exact rfl;exact rfl)|(apply R.cmp;exact rfl;exact rfl;exact rfl;all_goals intro hc;all_goals(try(exfalso;omega)))|(apply R.not;exact rfl;exact rfl)|(apply R.Be T6;exact rfl;exact rfl)|refine Ev.seq ?_ |refine Ev.region ?_ |(apply Ev.iG;exact rfl)|refine Ev.skip ?_ |refine Ev.block ?_ |refine aE.normal ?_ |fail))
     refine Ev.loop (I:=λk' st=>∃(i:Nat) (ρ':Nat->PV),st=⟨al [(0,.str s),(38,.int .i64 s.size),(39,.int .i64 i)] ρ',[]⟩/\k'+i=s.size/\eK s=jk (s.toList.drop i)) s.size ?_ ?_
     ·exact⟨0,_,St.aR ⟨rfl,rfl,rfl,trivial⟩,rfl,DQ⟩
     ·rintro k' _ ⟨i,ρ',rfl,hk,dO⟩;refine wXE (λhc=>?_) λhc=>?_
      ·have nt:i<s.toList.length:=by omega
       have cY:=LJ (Z3 nt);rw[ss s i nt]at dO;refine R.jm T6 rfl rfl rfl cY ?_;generalize hx:s.toList[i]=x at dO cY
       skip
       refine R.call rfl rfl (ai.pure rfl rfl (Df x.toNat) ?_)
       cases AO:nY x.toNat
       ·refine wXB ?_;refine⟨_,rfl,?_⟩;rw[dO,AO];rfl
       ·refine wXB ?_;refine⟨k' - 1,by omega,i+1,_,St.aR ⟨rfl,rfl,rfl,trivial⟩,by omega,?_⟩;rw[dO,AO];rfl
      ·refine⟨_,rfl,?_⟩;rw[dO,aaz (by omega)];rfl
    ·have DQ:eK s=false:=by rw[hs,hle,decide_eq_false hg];simp
     (repeat' (first |(apply R.jm T6 (i:=0);exact rfl;exact rfl;exact rfl;assumption)|refine ah.nil ?_ |(apply R.va;exact rfl;exact rfl;exact rfl)|(apply R.mE;exact rfl;exact rfl;exact rfl)|(apply R.move;exact rfl)|(apply R.assign;exact rfl)|(apply R.iF;exact rfl;exact rfl)|(apply R.gT;exact rfl;exact rfl)|(apply R.cmp;exact rfl;exact rfl;exact rfl;all_goals intro hc;all_goals(try(exfalso;omega)))|(apply R.not;exact rfl;exact rfl)|refine Ev.seq ?_ |refine Ev.region ?_ |(apply Ev.iG;exact rfl)|refine Ev.ret ?_ |refine aE.normal ?_ |refine aE.ret ?_ |(apply aJ.ret;exact rfl)|fail))
     all_goals exact⟨_,rfl,by rw[DQ];rfl⟩
end Go.Pm
namespace Go.Pm
open Go.Proofs
attribute [local irreducible] aE az aI aJ Ev ah ai ax
set_option maxRecDepth 4000
set_option maxHeartbeats 4000000
theorem nH(a b:Int):aO C 181 [.int .i64 a,.int .i64 b] (.int .i64 (fg a b)):=by
 refine aO.of (ax.dJ Tryz.func181 rfl ?_);refine wXL (λhc=>?_) (λhc hc=>?_) λhc hc=>?_
 all_goals(refine⟨_,rfl,congrArg (PV.int .i64) ?_⟩;unfold fg;(repeat' split) <;>omega)
theorem sC(a b:Int):aO C 101 [.int .i64 a,.int .i64 b] (.int .i64 (fg a b)):=by
 refine aO.of (ax.dJ Tryz.func101 rfl ?_);refine wXL (λhc=>?_) (λhc hc=>?_) λhc hc=>?_
 all_goals(refine⟨_,rfl,congrArg (PV.int .i64) ?_⟩;unfold fg;(repeat' split) <;>omega)
theorem PD(k s o l)(NN:bF l<1000000000)(ih:∀t∈l,aO C 176 [enc t] (.int .i64 (size t))):aO C 176 [enc (.mk k s o l)] (.int .i64 (size (.mk k s o l))):=by
 refine aO.of (ax.dJ Tryz.func176 rfl ?_);rw[bj];have hlen:=bE l;have cX:=aj l;have gv:=c8 l;refine wXB ?_;refine Ev.loop (I:=λk' st=>∃(i:Nat) (n:Int) (ρ':Nat->PV),st=⟨al [(1,.ptr 0 0 0 0),(3,.int .i64 n),(4,.int .i64 i)] ρ',[⟨.m,0,4,[.agg [.int .i64 k,.str s,.int .i64 o,.aa false (ae l)]]⟩]⟩/\k'+i=l.length/\0<=n/\1+dN l=n+dN (l.drop i)) l.length ?_ ?_
 ·exact⟨0,1,_,St.aR ⟨rfl,rfl,rfl,trivial⟩,rfl,by omega,rfl⟩
 ·rintro k' _ ⟨i,n,ρ',rfl,hk,hn,dO⟩;refine wXE (λhc=>?_) λhc=>?_
  ·obtain⟨k1,s1,o1,l1,ez,cY,hd,nt,_⟩:=ga hc;refine R.gK T6 rfl rfl rfl rfl cY rfl rfl ?_;have Qr:=bS ez;have hsm:=gr (.mk k1 s1 o1 l1);have vY:=c8 (l.drop (i+1));rw[hd,dN]at dO;refine wXB ?_;refine R.call rfl rfl ?_;show ai C 2 _ [.agg [.int .i64 k1,.str s1,.int .i64 o1,.aa false (ae l1)]] _ _;rw[<-bj];refine ai.pure (r:=.int .i64 (size (.mk k1 s1 o1 l1))) rfl (by simp[ao,qf]) (by simpa[aQ,vB]using ih _ ez) ?_;refine wXB ?_;exact⟨k' - 1,by omega,i+1,n+size (.mk k1 s1 o1 l1),_,St.aR ⟨rfl,rfl,rfl,trivial⟩,by omega,by omega,by omega⟩
  ·refine⟨_,rfl,?_⟩;simp only[cf,aY,size];rw[jX hc,dN]at dO;rw[dO];simp
theorem wi(t:Tm)(hb:ay t<1000000000):aO C 176 [enc t] (.int .i64 (size t)):=by
 induction t using Tm.ind with
 |h k s o l ih=>
  simp only[ay]at hb;exact PD k s o l (by omega) (λt ht=>ih t ht (by have:=bS ht;omega))
theorem MM(k s o l)(NN:bF l<1000000000)(ih:∀t∈l,aO C 102 [enc t] (.int .i64 (size t))):aO C 102 [enc (.mk k s o l)] (.int .i64 (size (.mk k s o l))):=by
 refine aO.of (ax.dJ Tryz.func102 rfl ?_);rw[bj];have hlen:=bE l;have cX:=aj l;have gv:=c8 l;refine wXB ?_;refine Ev.loop (I:=λk' st=>∃(i:Nat) (n:Int) (J:ab) (ρ':Nat->PV),st=⟨al [(1,.ptr 0 0 0 0),(3,.int .i64 n),(7,.aa false (ae l)),(8,.int .i64 (ae l).length),(9,.int .i64 i)] ρ',⟨.m,0,4,[.agg [.int .i64 k,.str s,.int .i64 o,.aa false (ae l)]]⟩::J⟩/\k'+i=l.length/\0<=n/\1+dN l=n+dN (l.drop i)) l.length ?_ ?_
 ·exact⟨0,1,[],_,St.aR ⟨rfl,rfl,rfl,rfl,rfl,trivial⟩,rfl,by omega,rfl⟩
 ·rintro k' _ ⟨i,n,J,ρ',rfl,hk,hn,dO⟩;refine wXE (λhc=>?_) λhc=>?_
  ·obtain⟨k1,s1,o1,l1,ez,cY,hd,nt,_⟩:=ga hc;refine R.gK T6 rfl rfl rfl rfl cY rfl rfl ?_;have Qr:=bS ez;have hsm:=gr (.mk k1 s1 o1 l1);have vY:=c8 (l.drop (i+1));rw[hd,dN]at dO;refine wXB ?_;refine R.call rfl rfl ?_;show ai C 2 _ [.agg [.int .i64 k1,.str s1,.int .i64 o1,.aa false (ae l1)]] _ _;rw[<-bj];refine ai.pure (r:=.int .i64 (size (.mk k1 s1 o1 l1))) rfl (by simp[ao,qf]) (by simpa[aQ,vB]using ih _ ez) ?_;refine wXB ?_;exact⟨k' - 1,by omega,i+1,n+size (.mk k1 s1 o1 l1),_,_,St.aR ⟨rfl,rfl,rfl,rfl,rfl,trivial⟩,by omega,by omega,by omega⟩
  ·refine⟨_,rfl,?_⟩;simp only[cf,aY,size];rw[jX hc,dN]at dO;rw[dO];simp
theorem tM(t:Tm)(hb:ay t<1000000000):aO C 102 [enc t] (.int .i64 (size t)):=by
 induction t using Tm.ind with
 |h k s o l ih=>
  simp only[ay]at hb;exact MM k s o l (by omega) (λt ht=>ih t ht (by have:=bS ht;omega))
end Go.Pm
namespace Go.Pm
open Go.Proofs
attribute [local irreducible] aE az aI aJ Ev ah ai ax aW
set_option maxRecDepth 4000
set_option maxHeartbeats 4000000
theorem Jk(k s o l)(hb:ay (.mk k s o l)<1000000000):aO C 235 [enc (.mk k s o l)] (.int .i64 (node (.mk k s o l))):=by
 refine aO.of (ax.dJ Tryz.func235 rfl ?_);rw[bj];have cX:=aj l;have hlen:=bE l;have HA:s.size<1000000000:=by simp only[ay]at hb;omega
 (repeat' (first |refine ah.nil ?_ |(apply R.va;exact rfl;exact rfl;exact rfl)|(apply R.mE;exact rfl;exact rfl;exact rfl)|(apply R.QS;exact rfl;exact rfl)|(apply R.move;exact rfl)|(apply R.assign;exact rfl)|(apply R.iF;exact rfl;exact rfl)|(apply R.gT;exact rfl;exact rfl)|(apply R.fJ T6;exact rfl;exact rfl;exact rfl;exact rfl)|(apply R.fieldAddr T6;exact rfl;exact rfl;exact rfl;exact rfl)|(apply R.cmp;exact rfl;exact rfl;exact rfl;all_goals intro hc;all_goals(try(exfalso;omega)))|(apply R.not;exact rfl;exact rfl)|(apply R.qO T6;exact rfl;exact rfl)|(apply R.box;exact rfl;exact rfl;exact rfl;exact .nil)|refine Ev.seq ?_ |refine Ev.region ?_ |(apply Ev.iG;exact rfl)|refine Ev.ret ?_ |refine Ev.skip ?_ |refine aE.normal ?_ |refine aE.ret ?_ |(apply aJ.ret;exact rfl)|fail))
 all_goals first
  |(refine⟨_,rfl,congrArg (PV.int .i64) ?_⟩;rw[node,if_pos (by omega)])
  |(refine R.call rfl rfl (ai.pure rfl rfl (Dh s HA) ?_);cases hN:eK s <;>(repeat' (first |refine ah.nil ?_ |(apply R.assign;exact rfl)|(apply R.fJ T6;exact rfl;exact rfl;exact rfl;exact rfl)|(apply R.fieldAddr T6;exact rfl;exact rfl;exact rfl;exact rfl)|(apply R.cmp;exact rfl;exact rfl;exact rfl;all_goals intro hc;all_goals(try(exfalso;omega)))|(apply R.not;exact rfl;exact rfl)|(apply R.qO T6;exact rfl;exact rfl)|refine Ev.seq ?_ |refine Ev.region ?_ |(apply Ev.iG;exact rfl)|refine Ev.ret ?_ |refine Ev.skip ?_ |refine aE.normal ?_ |refine aE.ret ?_ |(apply aJ.ret;exact rfl)|fail)))
 all_goals first
  |(refine⟨_,rfl,congrArg (PV.int .i64) ?_⟩;rw[node,if_neg (by omega),if_pos hN])
  |(refine⟨_,rfl,congrArg (PV.int .i64) ?_⟩;rw[node,if_neg (by omega),if_neg (by rw[hN];simp),if_pos (by omega)])
  |(refine⟨_,rfl,congrArg (PV.int .i64) ?_⟩;rw[node,if_neg (by omega),if_neg (by rw[hN];simp),if_neg (by omega)])
theorem Jl(k s o l)(hb:ay (.mk k s o l)<1000000000)(ih:∀t∈l,aO C 175 [enc t] (.int .i64 (nodes t))):aO C 175 [enc (.mk k s o l)] (.int .i64 (nodes (.mk k s o l))):=by
 have Az:=Jk k s o l hb;refine aO.of (ax.dJ Tryz.func175 rfl ?_);rw[bj]at Az ⊢;have hlen:=bE l;have cX:=aj l;simp only[ay]at hb;refine wXB ?_;refine R.call rfl rfl (ai.pure rfl (by simp[ao,aV]) (by simpa[aQ,cf,ba]using Az) ?_);refine wXE (λhc=>?_) λhc=>?_
 ·refine⟨_,rfl,?_⟩;rw[nodes,if_pos (by assumption)];rfl
 ·have h0:nodes (.mk k s o l)=iT l:=by rw[nodes,if_neg (by assumption)]
  refine Ev.loop (I:=λk' st=>∃(i:Nat) (ρ':Nat->PV),st=⟨al [(1,.ptr 0 0 0 0),(4,.int .i64 i)] ρ',[⟨.m,0,4,[.agg [.int .i64 k,.str s,.int .i64 o,.aa false (ae l)]]⟩]⟩/\k'+i=l.length/\iT l=iT (l.drop i)) l.length ?_ ?_
  ·exact⟨0,_,St.aR ⟨rfl,rfl,trivial⟩,rfl,rfl⟩
  ·rintro k' _ ⟨i,ρ',rfl,hk,dO⟩;refine wXE (λhc=>?_) λhc=>?_
   ·obtain⟨k1,s1,o1,l1,ez,cY,hd,nt,_⟩:=ga hc;refine R.gK T6 rfl rfl rfl rfl cY rfl rfl ?_;have zh:=ih _ ez;rw[bj]at zh;rw[hd,iT]at dO;refine wXB ?_;refine R.call rfl rfl (ai.pure rfl (by simp[ao,aV]) (by simpa[aQ,cf,ba]using zh) ?_);refine wXE (λhc=>?_) λhc=>?_
    ·refine⟨_,rfl,?_⟩;rw[h0,dO,if_pos (by assumption)];rfl
    ·refine⟨k' - 1,by omega,i+1,_,St.aR ⟨rfl,rfl,trivial⟩,by omega,?_⟩;rw[dO,if_neg (by assumption)]
   ·refine⟨_,rfl,?_⟩;rw[h0,dO,jX hc];rfl
theorem FQ(t:Tm)(hb:ay t<1000000000):aO C 175 [enc t] (.int .i64 (nodes t)):=by
 induction t using Tm.ind with
 |h k s o l ih=>
  exact Jl k s o l hb (λt ht=>ih t ht (by have:=bS ht;simp only[ay]at hb;omega))
theorem Jm(k s o l)(hb:ay (.mk k s o l)<1000000000)(ih:∀t∈l,aO C 177 [enc t] (.int .i64 (depth t))):aO C 177 [enc (.mk k s o l)] (.int .i64 (depth (.mk k s o l))):=by
 refine aO.of (ax.dJ Tryz.func177 rfl ?_);rw[bj];have hlen:=bE l;have cX:=aj l;have gv:=c8 l;have hds:=iY l;simp only[ay]at hb;refine wXB ?_;refine Ev.loop (I:=λk' st=>∃(i:Nat) (n:Int) (ρ':Nat->PV),st=⟨al [(1,.ptr 0 0 0 0),(3,.int .i64 n),(4,.int .i64 i)] ρ',[⟨.m,0,4,[.agg [.int .i64 k,.str s,.int .i64 o,.aa false (ae l)]]⟩]⟩/\k'+i=l.length/\0<=n/\gJ l=max n (gJ (l.drop i))) l.length ?_ ?_
 ·exact⟨0,0,_,St.aR ⟨rfl,rfl,rfl,trivial⟩,rfl,by omega,by simp only[aaV];omega⟩
 ·rintro k' _ ⟨i,n,ρ',rfl,hk,hn,dO⟩;refine wXE (λhc=>?_) λhc=>?_
  ·obtain⟨k1,s1,o1,l1,ez,cY,hd,nt,_⟩:=ga hc;refine R.gK T6 rfl rfl rfl rfl cY rfl rfl ?_;have zh:=ih _ ez;rw[bj]at zh;rw[hd,gJ]at dO;have L9:=nD (.mk k1 s1 o1 l1);refine wXB ?_;refine R.call rfl rfl (ai.pure rfl (by simp[ao,aV]) (by simpa[aQ,cf,ba]using zh) ?_);refine wXB ?_;exact⟨k' - 1,by omega,i+1,_,_,St.aR ⟨rfl,rfl,rfl,trivial⟩,by omega,by omega,by omega⟩
  ·rw[jX hc,gJ]at dO
   skip
   refine⟨_,rfl,congrArg (PV.int .i64) ?_⟩;rw[depth];omega
theorem FR(t:Tm)(hb:ay t<1000000000):aO C 177 [enc t] (.int .i64 (depth t)):=by
 induction t using Tm.ind with
 |h k s o l ih=>
  exact Jm k s o l hb (λt ht=>ih t ht (by have:=bS ht;simp only[ay]at hb;omega))
theorem x5(t:Tm)(hb:ay t<1000000000):aO C 125 [enc t] (.int .i64 (valid t)):=by
 have h1:=FQ t hb;have h2:=wi t hb;have h3:=FR t hb;obtain⟨k,s,o,l⟩:=t;refine aO.of (ax.dJ Tryz.func125 rfl ?_);rw[bj]at h1 h2 h3 ⊢;refine wXB ?_;refine R.call rfl rfl (ai.pure rfl (by simp[ao,aV]) (by simpa[aQ,cf,ba]using h1) ?_);refine wXE (λhc=>?_) λhc=>?_
 ·refine⟨_,rfl,?_⟩;rw[valid,if_pos (by assumption)];rfl
 ·have h0:=hc;clear hc;refine R.call rfl rfl (ai.pure rfl (by simp[ao,aV]) (by simpa[aQ,cf,ba]using h2) ?_);refine wXE (λhc=>?_) λhc=>?_
  ·refine⟨_,rfl,?_⟩;rw[valid,if_neg h0,if_pos (by omega)];rfl
  ·refine R.call rfl rfl (ai.pure rfl (by simp[ao,aV]) (by simpa[aQ,cf,ba]using h3) ?_);refine wXE (λhc=>?_) λhc=>?_
   ·refine⟨_,rfl,?_⟩;rw[valid,if_neg h0,if_pos (by omega)];rfl
   ·refine⟨_,rfl,?_⟩;rw[valid,if_neg h0,if_neg (by omega)];rfl
set_option maxHeartbeats 2000000 in
theorem Of(k s o l k' s' o' l')(hb:ay (.mk k s o l)<1000000000)(dO:ay (.mk k' s' o' l')<1000000000)
  (ih:∀t∈l,∀t'∈l',aO C 134 [enc t,enc t'] (.int .i64 (aU t t'))):aO C 134 [enc (.mk k s o l),enc (.mk k' s' o' l')] (.int .i64 (aU (.mk k s o l) (.mk k' s' o' l'))):=by
 refine aO.of (ax.dJ Tryz.func134 rfl ?_);rw[bj,bj];have z1:=wi _ hb;have z2:=wi _ dO;have v1:ao (ae l)=true:=fa l;have v2:ao (ae l')=true:=fa l';have e1:=aj l;have e2:=aj l';have b1:l.length<1000000000:=by have:=bE l;simp only[ay]at hb;omega
 have b2:l'.length<1000000000:=by have:=bE l';simp only[ay]at dO;omega
 rw[bj]at z1 z2;refine wXB ?_;refine D.jV rfl rfl rfl rfl (by simp[ao,aV,v1]) rfl rfl (by simpa[aQ,cf,ba]using z1) ?_;refine wXB ?_;refine D.jV rfl rfl rfl rfl (by simp[ao,aV,v2]) rfl rfl (by simpa[aQ,cf,ba]using z2) ?_;refine D.jV rfl rfl rfl rfl rfl rfl rfl (nH _ _) ?_;refine wXE (λhc=>?_) λhc=>?_
 ·exact⟨_,rfl,by simp only[cf,aY,aU];rw[if_pos hc]⟩
 have h1:=hc;clear hc;refine R.call rfl rfl (ai.pure rfl rfl (nH k k') ?_);refine wXQ (λhc=>?_) (λhc hc=>?_) (λhc hc hc=>?_) λhc hc hc=>?_
 ·exact⟨_,rfl,by simp only[cf,aY,aU];rw[if_neg h1,if_pos hc]⟩
 ·rename_i h2
  have h3:=hc;exact⟨_,rfl,by simp only[cf,aY,aU];rw[if_neg h1,if_neg h2,if_pos h3]⟩
 ·rename_i h2 h3
  have h4:=hc;exact⟨_,rfl,by simp only[cf,aY,aU];rw[if_neg h1,if_neg h2,if_neg (by rw[h3];simp),if_pos h4]⟩
 rename_i h2 h3
 have h4:=hc;clear hc;refine R.call rfl rfl (ai.pure rfl rfl (nH o o') ?_);refine wXE (λhc=>?_) λhc=>?_
 ·exact⟨_,rfl,by simp only[cf,aY,aU];rw[if_neg h1,if_neg h2,if_neg (by rw[h3];simp),if_neg (by rw[h4];simp),if_pos hc]⟩
 have h5:=hc;clear hc;refine R.call rfl rfl (ai.pure rfl rfl (nH (ae l).length (ae l').length) ?_);refine wXE (λhc=>?_) λhc=>?_
 ·refine⟨_,rfl,?_⟩;simp only[cf,aY,aU];rw[e1,e2]at hc ⊢;rw[if_neg h1,if_neg h2,if_neg (by rw[h3];simp),if_neg (by rw[h4];simp),if_neg h5,if_pos hc]
 have h6:=hc;clear hc
 have ua:l.length=l'.length:=by
  rw[e1,e2]at h6;unfold fg at h6
  repeat' split at h6
  all_goals omega
 have Qp:aU (.mk k s o l) (.mk k' s' o' l')=lM l l':=by
  rw[e1,e2]at h6;rw[aU,if_neg h1,if_neg h2,if_neg (by rw[h3];simp),if_neg (by rw[h4];simp),if_neg h5,if_neg h6]
 refine Ev.loop (I:=λRD st=>∃(i:Nat) (ρ':Nat->PV),st=⟨al [(2,.ptr 0 0 0 0),(3,.ptr 1 0 0 0),(9,.int .i64 i)] ρ',[⟨.m,0,4,[.agg [.int .i64 k,.str s,.int .i64 o,.aa false (ae l)]]⟩,⟨.m,0,4,[.agg [.int .i64 k',.str s',.int .i64 o',.aa false (ae l')]]⟩]⟩/\RD+i=l.length/\lM l l'=lM (l.drop i) (l'.drop i)) l.length ?_ ?_
 ·exact⟨0,_,St.aR ⟨rfl,rfl,rfl,trivial⟩,rfl,rfl⟩
 ·rintro RD _ ⟨i,ρ',rfl,hk,yy⟩;refine wXE (λhc=>?_) λhc=>?_
  ·obtain⟨k1,s1,o1,l1,ez,cY,hd,nt,_⟩:=ga hc;obtain⟨k2,s2,o2,l2,Kk,RE,JE,YI,_⟩:=ga (l:=l') (i:=i) (by omega);have w1:ao (ae l1)=true:=fa l1;have w2:ao (ae l2)=true:=fa l2;have zh:=ih _ ez _ Kk;rw[bj,bj]at zh;refine D.gK T6 rfl rfl rfl rfl rfl cY rfl rfl ?_;refine wXB ?_;refine D.gK T6 rfl rfl rfl rfl rfl RE rfl rfl ?_;refine wXB ?_;refine D.jV rfl rfl rfl rfl (by simp[ao,aV,w1,w2]) rfl rfl (by simpa[aQ,cf,ba]using zh) ?_;refine wXE (λhc=>?_) λhc=>?_
   ·refine⟨_,rfl,?_⟩;simp only[cf,aY];rw[Qp,yy,hd,JE,lM,if_pos (by assumption)]
   ·refine⟨RD - 1,by omega,i+1,_,St.aR ⟨rfl,rfl,rfl,trivial⟩,by omega,?_⟩;rw[yy,hd,JE,lM,if_neg (by assumption)]
  ·refine⟨_,rfl,?_⟩;simp only[cf,aY];rw[Qp,yy,jX hc,lM]
theorem J'(t t':Tm)(hb:ay t<1000000000)(dO:ay t'<1000000000):aO C 134 [enc t,enc t'] (.int .i64 (aU t t')):=by
 induction t using Tm.ind generalizing t' with
 |h k s o l ih=>
  obtain⟨k',s',o',l'⟩:=t';refine Of k s o l k' s' o' l' hb dO (λt ht t' UG=>ih t ht t' ?_ ?_)
  ·have:=bS ht;simp only[ay]at hb;omega
  ·have:=bS UG;simp only[ay]at dO;omega
theorem xT(k s o l):dm (.mk k s o l)=decide (k=3/\(s.toList=tQ\/s.toList=lU\/s.toList=tT)):=by
 simp only[dm,<-Bool.decide_or,<-Bool.decide_and,or_assoc]
theorem Et:(ByteArray.mk #[109,117,108]).toList=tQ:=JR
theorem wm:(ByteArray.mk #[105,110,118]).toList=lU:=JS
theorem Eu:(ByteArray.mk #[111,110,101]).toList=tT:=JT
theorem wk(k s o l):aO C 309 [enc (.mk k s o l)] (.bool (dm (.mk k s o l))):=by
 refine aO.of (ax.dJ Tryz.func309 rfl ?_);rw[bj,xT];refine wXS (λhc hc=>?_) (λhc hc hc=>?_) (λhc hc hc hc=>?_) (λhc hc hc hc=>?_) λhc=>?_
 all_goals try simp only[Et,wm,Eu]at *
 all_goals first
  |exact⟨_,rfl,congrArg PV.bool (decide_eq_true (by simp[*])).symm⟩
  |exact⟨_,rfl,congrArg PV.bool (decide_eq_false (by simp[*])).symm⟩
theorem FN(a b:ByteArray):aO C 153 [.str a,.str b] (.int .i64 (Bp a b)):=by
 have e:Bp a b=Lib.compareBytes a.data.toList b.data.toList:=by unfold Bp eQ;rw[ByteArray.toList_eq,ByteArray.toList_eq]
 rw[e];refine aO.of (ax.dJ Tryz.func153 rfl ?_);refine wXB ?_;refine R.call rfl rfl (ai.ext rfl rfl rfl ?_);refine wXB ?_;exact⟨_,rfl,rfl⟩
theorem MZ(a b:ByteArray):aO C 103 [.str a,.str b] (.int .i64 (Bp a b)):=by
 refine aO.of (ax.dJ Tryz.func103 rfl ?_);refine wXB ?_;refine R.call rfl rfl (ai.pure rfl rfl (FN a b) ?_);refine wXB ?_;exact⟨_,rfl,rfl⟩
theorem PG(k s o l k' s' o' l')(hb:ay (.mk k s o l)<1000000000)(dO:ay (.mk k' s' o' l')<1000000000)
  (ih:∀t∈l,∀t'∈l',aO C 52 [enc t,enc t'] (.int .i64 (aU t t'))):aO C 52 [enc (.mk k s o l),enc (.mk k' s' o' l')] (.int .i64 (aU (.mk k s o l) (.mk k' s' o' l'))):=by
 refine aO.of (ax.dJ Tryz.func52 rfl ?_);have Bq:=lH k s o l k' s' o' l';have z1:=tM _ hb;have z2:=tM _ dO;rw[bj]at z1 z2;rw[bj,bj];generalize aU (.mk k s o l) (.mk k' s' o' l')=R0 at Bq ⊢;have e1:=aj l;have e2:=aj l';have b1:l.length<1000000000:=by have:=bE l;simp only[ay]at hb;omega
 have b2:l'.length<1000000000:=by have:=bE l';simp only[ay]at dO;omega
 have ua:fg (ae l).length (ae l').length=0->l.length=l'.length:=λh=>by have:=iM h;omega
 rw[<-e1,<-e2]at Bq;refine wXB ?_;refine D.jV rfl rfl rfl rfl (by simp[ao,aV]) rfl rfl (by simpa[aQ,cf,ba]using z1) ?_;refine wXB ?_;refine D.jV rfl rfl rfl rfl (by simp[ao,aV]) rfl rfl (by simpa[aQ,cf,ba]using z2) ?_;refine D.jV rfl rfl rfl rfl rfl rfl rfl (sC _ _) ?_;generalize fg (size (.mk k s o l)) (size (.mk k' s' o' l'))=X1 at Bq ⊢
 (repeat' (first |refine ah.nil ?_ |(apply R.move;exact rfl)|(apply R.assign;exact rfl)|(apply R.fJ T6;exact rfl;exact rfl;exact rfl;exact rfl)|(apply R.fieldAddr T6;exact rfl;exact rfl;exact rfl;exact rfl)|(apply R.cmp;exact rfl;exact rfl;exact rfl;all_goals intro hc;all_goals(try(exfalso;omega)))|refine Ev.seq ?_ |refine Ev.region ?_ |refine aW.nil ?_ |(apply D.assign;exact rfl)|(apply Ev.iG;exact rfl)|refine Ev.skip ?_ |refine Ev.block ?_ |refine aE.normal ?_ |fail))
 all_goals try(refine R.call rfl rfl (ai.pure rfl rfl (sC k k') ?_);generalize fg k k'=X2 at Bq ⊢;(repeat' (first |refine ah.nil ?_ |(apply R.move;exact rfl)|(apply R.assign;exact rfl)|(apply R.fJ T6;exact rfl;exact rfl;exact rfl;exact rfl)|(apply R.fieldAddr T6;exact rfl;exact rfl;exact rfl;exact rfl)|(apply R.cmp;exact rfl;exact rfl;exact rfl;all_goals intro hc;all_goals(try(exfalso;omega)))|refine Ev.seq ?_ |refine Ev.region ?_ |(apply Ev.iG;exact rfl)|refine Ev.skip ?_ |refine Ev.block ?_ |refine aE.normal ?_ |fail)))
 all_goals try(refine R.call rfl rfl (ai.pure rfl rfl (MZ s s') ?_);generalize Bp s s'=X3 at Bq ⊢;(repeat' (first |refine ah.nil ?_ |(apply R.move;exact rfl)|(apply R.assign;exact rfl)|(apply R.fJ T6;exact rfl;exact rfl;exact rfl;exact rfl)|(apply R.fieldAddr T6;exact rfl;exact rfl;exact rfl;exact rfl)|(apply R.cmp;exact rfl;exact rfl;exact rfl;all_goals intro hc;all_goals(try(exfalso;omega)))|refine Ev.seq ?_ |refine Ev.region ?_ |(apply Ev.iG;exact rfl)|refine Ev.skip ?_ |refine Ev.block ?_ |refine aE.normal ?_ |fail)))
 all_goals try(refine R.call rfl rfl (ai.pure rfl rfl (sC o o') ?_);generalize fg o o'=X4 at Bq ⊢;refine wXJ (λhc=>?_) λhc=>?_)
 all_goals try(refine R.call rfl rfl (ai.pure rfl rfl (sC (ae l).length (ae l').length) ?_);generalize fg (ae l).length (ae l').length=X5 at Bq ua ⊢;refine wXD ?_)
 all_goals(
  refine Ev.loop (I:=λRD st=>∃(i:Nat) (c:Int) (ρ':Nat->PV),st=⟨al [(2,.ptr 0 0 0 0),(3,.ptr 1 0 0 0),(5,.int .i64 c),(6,.int .i64 i)] ρ',[⟨.m,0,4,[.agg [.int .i64 k,.str s,.int .i64 o,.aa false (ae l)]]⟩,⟨.m,0,4,[.agg [.int .i64 k',.str s',.int .i64 o',.aa false (ae l')]]⟩]⟩/\RD+i=l.length/\R0=lG c (lM (l.drop i) (l'.drop i))/\(c=0->l.length=l'.length)) l.length ?_ ?_
  ·refine⟨0,_,_,St.aR ⟨rfl,rfl,rfl,rfl,trivial⟩,rfl,?_,?_⟩
   ·rw[Bq];unfold lG;simp only[aaV];(repeat' split) <;>first |rfl |omega
   ·first |exact ua |(intro h;exfalso;omega)
  ·clear Bq ua;rintro RD _ ⟨i,c,ρ',rfl,hk,yy,ua⟩
   (repeat' (first |refine ah.nil ?_ |(apply R.va;exact rfl;exact rfl;exact rfl)|(apply R.mE;exact rfl;exact rfl;exact rfl)|(apply R.move;exact rfl)|(apply R.assign;exact rfl)|(apply R.iF;exact rfl;exact rfl)|(apply R.gT;exact rfl;exact rfl)|(apply R.fJ T6;exact rfl;exact rfl;exact rfl;exact rfl)|(apply R.fieldAddr T6;exact rfl;exact rfl;exact rfl;exact rfl)|(apply R.cmp;exact rfl;exact rfl;exact rfl;all_goals intro hc;all_goals(try(exfalso;omega)))|(apply R.qO T6;exact rfl;exact rfl)|refine Ev.seq ?_ |refine Ev.region ?_ |refine Ev.kG ?_ |(apply D.move;exact rfl)|(apply D.fieldAddr T6;exact rfl;exact rfl;exact rfl;exact rfl)|(apply D.fJ T6;exact(by first |exact rfl |assumption);exact rfl;exact rfl;exact rfl;exact rfl;exact rfl)|(apply Ev.iG;exact rfl)|refine Ev.ret ?_ |refine Ev.skip ?_ |refine Ev.exit ?_ |refine Ev.block ?_ |refine aE.normal ?_ |refine aE.exit ?_ |refine az.Lr ?_ |refine aI.exit ?_ |(apply aJ.ret;exact rfl)|fail))
   ·have ua:=ua (by assumption);obtain⟨k1,s1,o1,l1,ez,cY,hd,nt,_⟩:=ga hc;obtain⟨k2,s2,o2,l2,Kk,RE,JE,YI,_⟩:=ga (l:=l') (i:=i) (by omega);have zh:=ih _ ez _ Kk;rw[bj,bj]at zh;refine D.gK T6 rfl rfl rfl rfl rfl cY rfl rfl ?_;refine wXB ?_;refine D.gK T6 rfl rfl rfl rfl rfl RE rfl rfl ?_;refine wXB ?_;refine D.jV rfl rfl rfl rfl (by simp[ao,aV]) rfl rfl (by simpa[aQ,cf,ba]using zh) ?_;refine wXB ?_;refine⟨RD - 1,by omega,i+1,_,_,St.aR ⟨rfl,rfl,rfl,rfl,trivial⟩,by omega,?_,λ_=>ua⟩;have Di:c=0:=by assumption
    rw[yy,Di,hd,JE,lI];rfl
   ·refine⟨_,rfl,congrArg (PV.int .i64) ?_⟩;have Di:c=0:=by assumption
    rw[yy,Di,jX hc,lM];rfl
   ·refine⟨_,rfl,congrArg (PV.int .i64) ?_⟩;rw[yy,lG,if_pos (by assumption)])
theorem dZ(t t':Tm)(hb:ay t<1000000000)(dO:ay t'<1000000000):aO C 52 [enc t,enc t'] (.int .i64 (aU t t')):=by
 induction t using Tm.ind generalizing t' with
 |h k s o l ih=>
  obtain⟨k',s',o',l'⟩:=t';refine PG k s o l k' s' o' l' hb dO (λt ht t' UG=>ih t ht t' ?_ ?_)
  ·have:=bS ht;simp only[ay]at hb;omega
  ·have:=bS UG;simp only[ay]at dO;omega
theorem names{k s o l}(h:dm (.mk k s o l)=true):k=3/\
  ((s.toList=(ByteArray.mk #[109,117,108]).toList/\¬s.toList=(ByteArray.mk #[105,110,118]).toList/\¬s.toList=(ByteArray.mk #[111,110,101]).toList)\/
   (¬s.toList=(ByteArray.mk #[109,117,108]).toList/\s.toList=(ByteArray.mk #[105,110,118]).toList/\¬s.toList=(ByteArray.mk #[111,110,101]).toList)\/
   (¬s.toList=(ByteArray.mk #[109,117,108]).toList/\¬s.toList=(ByteArray.mk #[105,110,118]).toList/\s.toList=(ByteArray.mk #[111,110,101]).toList)):=by
 rw[xT]at h;obtain⟨h1,h2⟩:=of_decide_eq_true h;refine⟨h1,?_⟩;rw[Et,wm,Eu];rcases h2 with h2 |h2 |h2 <;>rw[h2] <;>decide
theorem nr(k s o l n):vL (.mk k s o l,n)=.agg [.int .i64 k,.str s,.int .i64 o,.aa false (ae l),.int .i64 n]:=rfl
theorem eX(l:List Pw):(bh l).length=l.length:=by simp[bh]
theorem rE{l:List Pw}{i:Nat}(hc:(i:Int)<((bh l).length:Int)):∃k s o l' n,(.mk k s o l',n)∈l/\(bh l)[i]?=some (.agg [.int .i64 k,.str s,.int .i64 o,.aa false (ae l'),.int .i64 n])/\l.drop i=(.mk k s o l',n)::l.drop (i+1)/\i<l.length/\l[i]?=some (.mk k s o l',n):=by
 have nt:i<l.length:=by have:=eX l;omega
 rcases hp:l[i]with⟨⟨k,s,o,l'⟩,n⟩;refine⟨k,s,o,l',n,hp▸aay nt,?_,?_,nt,?_⟩
 ·unfold bh;rw[aaj,Z3 nt,hp];rfl
 ·rw[abB nt,hp]
 ·rw[Z3 nt,hp]
theorem Hq{l:List Pw}{i:Nat}(hc:¬(i:Int)<((bh l).length:Int)):l.drop i=[]:=aaz (by have:=eX l;omega)
theorem nu(l:List Pw):ao (bh l)=true:=by
 induction l with
 |nil=>rfl
 |cons p l ih=>
  obtain⟨⟨k,s,o,l'⟩,n⟩:=p;simp only[bh,aah,ao]at *;rw[ih];rfl
theorem qJ(l:List Pw):aQ (bh l)=bh l:=by
 induction l with
 |nil=>rfl
 |cons p l ih=>
  obtain⟨⟨k,s,o,l'⟩,n⟩:=p;simp only[bh,aah,aQ]at *;rw[ih,nr];simp[cf,aQ,ba]
def Sm(l:List Pw):Prop:=(∀p∈l,ay p.1<1000000000)/\l.length<100000000
def tU(t:Tm):List Pw->Nat
 |[]=>0
 |p::l=>if aU p.1 t<0 then tU t l+1 else 0
theorem D3(t:Tm):∀l:List Pw,tU t l<=l.length
 |[]=>by simp[tU]
 |p::l=>by
  have:=D3 t l;rw[tU]
  split <;>simp <;>omega
theorem F2(t:Tm):∀(l:List Pw),As l->∀(m:Nat) (p:Pw),l[m]?=some p->(aU p.1 t<0↔m<tU t l)
 |[],_,m,p,h=>by simp at h
 |q::l,s,m,p,h=>by
  obtain⟨s1,s2⟩:=aal.1 s;rw[tU]
  cases m with
  |zero=>
   simp at h;subst h
   split
   ·simp;assumption
   ·simp;omega
  |succ m=>
   have h':l[m]?=some p:=by simpa using h
   have ih:=F2 t l s2 m p h';have hm:=s1 p (aae h')
   split
   ·rw[ih];omega
   ·rename_i hq
    constructor
    ·intro hp
     exact absurd (dR hm hp) hq
    ·intro hh;omega
def NU(t:Tm)(l:List Pw):Bool:=match l[tU t l]? with |some p=>decide (aU p.1 t=0)|none=>false
theorem F3(t:Tm)(n:Int):∀l:List Pw,NU t l=false->jq t n l=l.take (tU t l)++[(t,n)]++l.drop (tU t l)
 |[],_=>by simp[jq,tU]
 |p::l,h=>by
  rw[jq,tU]
  by_cases hc:aU p.1 t<0
  ·have h':NU t l=false:=by
    unfold NU at h ⊢;rw[tU,if_pos hc]at h;simpa using h
   rw[if_pos hc,if_pos hc,F3 t n l h'];simp
  ·have h0:¬aU p.1 t=0:=by
    unfold NU at h;rw[tU,if_neg hc]at h;simpa using h
   rw[if_neg hc,if_neg hc,if_neg h0];simp
theorem BG(t:Tm)(n:Int):∀(l:List Pw) (p:Pw),l[tU t l]?=some p->aU p.1 t=0->
  jq t n l=if p.2+n=0 then l.take (tU t l)++l.drop (tU t l+1)else l.set (tU t l) (p.1,p.2+n)
 |[],p,h,_=>by simp at h
 |q::l,p,h,h0=>by
  rw[jq,tU]
  by_cases hc:aU q.1 t<0
  ·have h':l[tU t l]?=some p:=by
    rw[tU,if_pos hc]at h;simpa using h
   rw[if_pos hc,if_pos hc,BG t n l p h' h0]
   split <;>simp
  ·have h':q=p:=by
    rw[tU,if_neg hc]at h;simpa using h
   subst h';rw[if_neg hc,if_neg hc,if_pos h0]
   split <;>simp
theorem R.Qa{C:cP}(T:lL C.P){ops:Array Oper}{d:Nat}{ty:TypeId}{pos:String}{af:Array Edge}{r:List Oper}{ρ:Nat->PV}{L:List (Nat×PV)}{h:ab}{Q:St->Prop}{s t:TypeId}{x:Operand}{k k':IntKind}{ks:Kd}{n n':Int}
  (hx:cM L x=some (.int k n)) (hs:T.kd s=some ks) (ht:T.kd t=some (.int k')) (hw:k'.wrap n=n') (kk:ah C ops r ⟨al ((d,.int k' n')::L) ρ,h⟩ Q):ah C ops (⟨some d,.convert s t x,ty,pos,af,none⟩::r) ⟨al L ρ,h⟩ Q:=by
 obtain⟨u,hu,_⟩:=mg (T.cU _ _ hs);exact ah.eR (λrun=>by simp[ar,aC,an hx,vI,hu,oF (T.cU _ _ ht),hw]) kk
theorem R.Yo{C:cP}{ops:Array Oper}{d:Nat}{ty:TypeId}{pos:String}{af:Array Edge}{r:List Oper}{ρ:Nat->PV}{L:List (Nat×PV)}{h:ab}{Q:St->Prop}{t yt:TypeId}{x y:Operand}{k k':IntKind}{n n':Int}
  (hx:cM L x=some (.int k n)) (hy:cM L y=some (.int k' 1)) (hb:Nat.ble 1 k.bits=true) (hn:n / 2=n') (kk:ah C ops r ⟨al ((d,.int k n')::L) ρ,h⟩ Q):ah C ops (⟨some d,.binOp .shr t x y yt,ty,pos,af,none⟩::r) ⟨al L ρ,h⟩ Q:=by
 refine ah.eR (λrun=>?_) kk;have dO:=aa3 hb;have e1:min (1:Int).toNat k.bits=1:=by simp;omega
 simp only[ar,aC,an hx,an hy,fj,pP];rw[if_neg (by decide)];simp only[e1];rw[<-hn,Int.fdiv_eq_ediv_of_nonneg _ (by decide)]
 rfl
theorem Qb{n:Int}(h1:0<=n)(h2:n<=9223372036854775807):IntKind.u64.wrap n=n:=by
 have:IntKind.u64.wrap n=n % 18446744073709551616:=by simp[IntKind.wrap,IntKind.bits,IntKind.signed]
 rw[this];omega
theorem JU(p:Pw)(t:Tm)(hp:ay p.1<1000000000)(ht:ay t<1000000000):aO C 350 [vL p,enc t] (.int .i64 (aU p.1 t)):=by
 have h1:=dZ p.1 t hp ht;obtain⟨⟨k,s,o,l⟩,n⟩:=p;obtain⟨k',s',o',l'⟩:=t;refine aO.of (ax.dJ Tryz.func350 rfl ?_);simp only[nr,bj]at h1 ⊢;refine wXB ?_;refine R.call rfl rfl (ai.pure rfl (by simp[ao,aV]) (by simpa[aQ,cf,ba]using h1) ?_);refine wXB ?_;exact⟨_,rfl,rfl⟩
theorem NV(l:List Pw)(t:Tm)(hs:As l)(hl:Sm l)(ht:ay t<1000000000):
  aO C 349 [.aa false (bh l),enc t,.fn 350 []] (.cx [.int .i64 (tU t l),.bool (NU t l)]):=by
 obtain⟨yg,cE⟩:=hl;have DP:∀p∈l,aO C 350 [vL p,enc t] (.int .i64 (aU p.1 t)):=λp hp=>JU p t (yg p hp) ht
 have hle:=D3 t l;have Ns:=F2 t l hs;have oG:NU t l=match l[tU t l]? with |some p=>decide (aU p.1 t=0)|none=>false:=rfl
 obtain⟨tk,ts,to,tl⟩:=t;rw[bj];simp only[bj]at DP;generalize NU (.mk tk ts to tl) l=FD at oG ⊢;generalize tU (.mk tk ts to tl) l=LB at hle Ns oG ⊢;refine aO.of (ax.dJ Tryz.func349 rfl ?_);have cX:=eX l;refine wXB ?_;refine Ev.loop (I:=λk' st=>∃(i j:Nat) (ρ':Nat->PV),st=⟨al [(0,.aa false (bh l)),(2,.fn 350 []),(4,.ptr 0 0 0 0),(8,.int .i64 (bh l).length),(9,.int .i64 i),(10,.int .i64 j)] ρ',[⟨.m,0,4,[.agg [.int .i64 tk,.str ts,.int .i64 to,.aa false (ae tl)]]⟩]⟩/\k'=j - i/\i<=LB/\LB<=j/\j<=l.length) l.length ?_ ?_
 ·exact⟨0,(bh l).length,_,St.aR ⟨rfl,rfl,rfl,rfl,rfl,rfl,trivial⟩,by omega,by omega,by omega,by omega⟩
 ·rintro k' _ ⟨i,j,ρ',rfl,hk,i1,i2,i3⟩;refine wXL (λhc=>?_) (λhc hc=>?_) λhc hc=>?_
  ·refine R.Qa T6 rfl rfl rfl (Qb (by omega) (by omega)) ?_;refine R.Yo rfl rfl rfl rfl ?_;refine R.Qa T6 rfl rfl rfl (ju (by omega) (by omega)) ?_;obtain⟨m,hm⟩:∃m:Nat,((i:Int)+j) / 2=m:=⟨(i+j) / 2,by omega⟩;rw[hm];refine wXB ?_;obtain⟨k1,s1,o1,l1,n1,ez,cY,hd,nt,uI⟩:=rE (l:=l) (i:=m) (by omega);have qL:=DP _ ez;have NW:=Ns m _ uI;simp only[nr]at qL NW;refine D.gK T6 rfl rfl rfl rfl rfl cY rfl rfl ?_;refine wXB ?_;refine D.jV rfl rfl rfl rfl rfl rfl rfl (by simpa[aQ,cf,ba]using qL) ?_;refine wXE (λhc=>?_) λhc=>?_
   ·exact⟨j - (m+1),by omega,m+1,j,_,St.aR ⟨rfl,rfl,rfl,rfl,rfl,rfl,trivial⟩,rfl,by omega,by omega,by omega⟩
   ·exact⟨m - i,by omega,i,m,_,St.aR ⟨rfl,rfl,rfl,rfl,rfl,rfl,trivial⟩,rfl,by omega,by omega,by omega⟩
  ·have hi:i=LB:=by omega
   subst hi
   ·obtain⟨k1,s1,o1,l1,n1,ez,cY,hd,nt,uI⟩:=rE (l:=l) (i:=i) (by omega);have qL:=DP _ ez;rw[uI]at oG;simp only[nr]at qL;refine D.gK T6 rfl rfl rfl rfl rfl cY rfl rfl ?_;refine wXB ?_;refine D.jV rfl rfl rfl rfl rfl rfl rfl (by simpa[aQ,cf,ba]using qL) ?_;refine wXE (λhc=>?_) λhc=>?_
    ·refine⟨_,rfl,?_⟩;rw[oG];simp only[aY,cf,aQ];rw[decide_eq_true (by assumption)]
    ·refine⟨_,rfl,?_⟩;rw[oG];simp only[aY,cf,aQ];rw[decide_eq_false (by assumption)]
  ·have hi:i=LB:=by omega
   subst hi;refine⟨_,rfl,?_⟩;rw[oG,aag (by omega)]
   rfl
theorem nC(l:List Tm):((ae l).all λv=>decide ((cells v).length=4)&& (cells v).all bI)=true:=by
 rw[Z1]
 intro v hv
 rw[cZ]at hv;obtain⟨⟨k,s,o,l'⟩,_,rfl⟩:=aak.1 hv;rw[bj];rfl
theorem wc(k s o l)(hb:ay (.mk k s o l)<1000000000)(ih:∀t∈l,aO C 252 [enc t] (enc t)):aO C 252 [enc (.mk k s o l)] (enc (.mk k s o l)):=by
 refine aO.of (ax.dJ Tryz.func252 rfl ?_);rw[bj];have cX:=aj l;have hlen:=bE l;simp only[ay]at hb;refine wXB ?_;refine ah.heap (h':=[⟨.m,0,4,[.agg [.int .i64 k,.str s,.int .i64 o,.aa false (ae l)]]⟩,⟨.m,0,4,[.agg [.int .i64 0,.str ByteArray.empty,.int .i64 0,.aa true []]]⟩]) rfl ?_;rcases hl:l with _ |⟨t0,l0⟩
 ·refine R.call rfl rfl (ai.cz (rv:=.aa true []) (h':=[⟨.m,0,4,[.agg [.int .i64 k,.str s,.int .i64 o,.aa false (ae [])]]⟩,⟨.m,0,4,[.agg [.int .i64 0,.str ByteArray.empty,.int .i64 0,.aa true []]]⟩]) rfl rfl ?_);refine wXB ?_;refine R.ij T6 (n:=0) (o:=⟨.m,0,4,[.agg [.int .i64 k,.str s,.int .i64 o,.aa false (ae [])]]⟩) (i:=0) (e:=.agg [.int .i64 k,.str s,.int .i64 o,.aa false (ae [])]) rfl rfl rfl rfl rfl rfl rfl rfl (Z5 4) ?_;refine ah.heap (h':=[⟨.m,0,4,[.agg [.int .i64 k,.str s,.int .i64 o,.aa true []]]⟩,⟨.m,0,4,[.agg [.int .i64 0,.str ByteArray.empty,.int .i64 0,.aa true []]]⟩]) rfl ?_;refine wXB ?_;refine Ev.loop (I:=λk' st=>∃ρ',st=⟨al [(1,.ptr 0 0 0 0),(2,.ptr 1 0 0 0),(11,.int .i64 0),(12,.int .i64 0)] ρ',[⟨.m,0,4,[.agg [.int .i64 k,.str s,.int .i64 o,.aa true []]]⟩,⟨.m,0,4,[.agg [.int .i64 0,.str ByteArray.empty,.int .i64 0,.aa true []]]⟩]⟩) 0 ⟨_,St.aR ⟨rfl,rfl,rfl,rfl,trivial⟩⟩ ?_;rintro _ _ ⟨ρ',rfl⟩;refine wXF λhc=>?_;refine R.ij T6 (n:=0) (o:=⟨.m,0,4,[.agg [.int .i64 0,.str ByteArray.empty,.int .i64 0,.aa true []]]⟩) (i:=0) (e:=.agg [.int .i64 0,.str ByteArray.empty,.int .i64 0,.aa true []]) rfl rfl rfl rfl rfl rfl rfl rfl (Z5 4) ?_;refine wXB ?_;exact⟨_,rfl,rfl⟩
 ·rw[<-hl];refine R.call rfl rfl (ai.cz (rv:=.ak 2 0 0 (ae l).length) (h':=[⟨.m,0,4,[.agg [.int .i64 k,.str s,.int .i64 o,.aa false (ae l)]]⟩,⟨.m,0,4,[.agg [.int .i64 0,.str ByteArray.empty,.int .i64 0,.aa true []]]⟩,⟨.m,0,4,ae l⟩]) rfl ?_ ?_)
  ·show bq 4 [.aa false (ae l)] _=_;have bJ:(ae l).isEmpty=false:=by rw[hl];rfl
   simp only[bq,bJ,aad,if_false,newObj];rw[if_pos ⟨nC l,by omega⟩]
   rfl
  rw[cX];refine wXB ?_;refine R.ij T6 (n:=0) (o:=⟨.m,0,4,[.agg [.int .i64 k,.str s,.int .i64 o,.aa false (ae l)]]⟩) (i:=0) (e:=.agg [.int .i64 k,.str s,.int .i64 o,.aa false (ae l)]) rfl rfl rfl rfl rfl rfl rfl rfl (Z5 4) ?_;refine ah.heap (h':=[⟨.m,0,4,[.agg [.int .i64 k,.str s,.int .i64 o,.ak 2 0 0 l.length]]⟩,⟨.m,0,4,[.agg [.int .i64 0,.str ByteArray.empty,.int .i64 0,.aa true []]]⟩,⟨.m,0,4,ae l⟩]) rfl ?_;refine wXB ?_;refine R.yB T6 (o:=⟨.m,0,4,ae l⟩) rfl rfl rfl (by show 0+l.length<=(ae l).length;omega) ?_;refine wXB ?_;refine Ev.loop (I:=λk' st=>∃(i:Nat) (J:ab) (ρ':Nat->PV),st=⟨al [(1,.ptr 0 0 0 0),(2,.ptr 1 0 0 0),(10,.ak 2 0 0 l.length),(11,.int .i64 l.length),(12,.int .i64 i)] ρ',⟨.m,0,4,[.agg [.int .i64 k,.str s,.int .i64 o,.ak 2 0 0 l.length]]⟩::⟨.m,0,4,[.agg [.int .i64 0,.str ByteArray.empty,.int .i64 0,.aa true []]]⟩::⟨.m,0,4,ae l⟩::J⟩/\k'+i=l.length/\HV J) l.length ?_ ?_
  ·exact⟨0,[],_,St.aR ⟨rfl,rfl,rfl,rfl,rfl,trivial⟩,rfl,HV.nil⟩
  ·rintro k' _ ⟨i,J,ρ',rfl,hk,hJ⟩;refine wXE (λhc=>?_) λhc=>?_
   ·obtain⟨k1,s1,o1,l1,ez,cY,hd,nt,_⟩:=ga (l:=l) (i:=i) (by omega);have zh:=ih _ ez;rw[bj]at zh;refine R.qP T6 (o:=⟨.m,0,4,ae l⟩) rfl rfl rfl rfl rfl (by omega) (by show 0+l.length<=(ae l).length;omega) ?_;have wg:(ae l)[0+i]?=some (.agg [.int .i64 k1,.str s1,.int .i64 o1,.aa false (ae l1)]):=by rw[aan];exact cY
    refine R.k9 T6 (cs:=[.int .i64 k1,.str s1,.int .i64 o1,.aa false (ae l1)]) rfl rfl rfl ?_ (by repeat constructor) ?_
    ·simp[cK,getM,cY,cells]
    have Oe:=hJ.cC (HV.one (ep:=0) (n:=4) (es:=[.agg [.int .i64 k1,.str s1,.int .i64 o1,.aa false (ae l1)]]) rfl);have dp:aT ([⟨.m,0,4,[.agg [.int .i64 k,.str s,.int .i64 o,.ak 2 0 0 l.length]]⟩,⟨.m,0,4,[.agg [.int .i64 0,.str ByteArray.empty,.int .i64 0,.aa true []]]⟩,⟨.m,0,4,ae l⟩]++(J++[⟨.m,0,4,[.agg [.int .i64 k1,.str s1,.int .i64 o1,.aa false (ae l1)]]⟩]))=true:=Eg (by simp[bz,bt,aL,br _ _ (fa l)]) Oe;refine wXB ?_;refine D.jV (by assumption) rfl rfl rfl rfl rfl rfl (by simpa[aQ,cf,ba]using zh) ?_;refine D.qP T6 (o:=⟨.m,0,4,ae l⟩) (by assumption) rfl rfl rfl rfl rfl (by omega) (by show 0+l.length<=(ae l).length;omega) ?_;refine D.ij T6 (o:=⟨.m,0,4,ae l⟩) (j:=0+i) rfl rfl rfl rfl rfl rfl wg rfl rfl (Z5 4) ?_
    have kC:((⟨.m,0,4,[.agg [.int .i64 k,.str s,.int .i64 o,.ak 2 0 0 l.length]]⟩::⟨.m,0,4,[.agg [.int .i64 0,.str ByteArray.empty,.int .i64 0,.aa true []]]⟩::⟨.m,0,4,ae l⟩::J)++[⟨.m,0,4,[.agg [.int .i64 k1,.str s1,.int .i64 o1,.aa false (ae l1)]]⟩]:ab).set 2 {(⟨.m,0,4,ae l⟩:au)with es:=(⟨.m,0,4,ae l⟩:au).es.set (0+i) (eI 0 4 (.agg [.int .i64 k1,.str s1,.int .i64 o1,.aa false (ae l1)]) (.agg [.int .i64 k1,.str s1,.int .i64 o1,.aa false (ae l1)]))}=⟨.m,0,4,[.agg [.int .i64 k,.str s,.int .i64 o,.ak 2 0 0 l.length]]⟩::⟨.m,0,4,[.agg [.int .i64 0,.str ByteArray.empty,.int .i64 0,.aa true []]]⟩::⟨.m,0,4,ae l⟩::(J++[⟨.m,0,4,[.agg [.int .i64 k1,.str s1,.int .i64 o1,.aa false (ae l1)]]⟩]):=by
     have:(ae l).set (0+i) (.agg [.int .i64 k1,.str s1,.int .i64 o1,.aa false (ae l1)])=ae l:=by
      have cI:=ag wg;rw[Z3 cI]at wg;rw[<-ZZ wg];exact acf cI
     show⟨.m,0,4,[.agg [.int .i64 k,.str s,.int .i64 o,.ak 2 0 0 l.length]]⟩::⟨.m,0,4,[.agg [.int .i64 0,.str ByteArray.empty,.int .i64 0,.aa true []]]⟩::({(⟨.m,0,4,ae l⟩:au)with es:=(ae l).set (0+i) (.agg [.int .i64 k1,.str s1,.int .i64 o1,.aa false (ae l1)])}:au)::(J++[_])=_;rw[this]
    refine aW.heap kC ?_;refine wXB ?_;exact⟨k' - 1,by omega,i+1,_,_,St.aR ⟨rfl,rfl,rfl,rfl,rfl,trivial⟩,by omega,Oe⟩
   ·refine R.ij T6 (n:=0) (o:=⟨.m,0,4,[.agg [.int .i64 0,.str ByteArray.empty,.int .i64 0,.aa true []]]⟩) (i:=0) (e:=.agg [.int .i64 0,.str ByteArray.empty,.int .i64 0,.aa true []]) rfl rfl rfl rfl rfl rfl rfl rfl (Z5 4) ?_;refine ah.heap (h':=⟨.m,0,4,[.agg [.int .i64 k,.str s,.int .i64 o,.ak 2 0 0 l.length]]⟩::⟨.m,0,4,[.agg [.int .i64 k,.str s,.int .i64 o,.ak 2 0 0 l.length]]⟩::⟨.m,0,4,ae l⟩::J) rfl ?_;refine wXB ?_;refine⟨.agg [.int .i64 k,.str s,.int .i64 o,.aa false (ae l)],?_,by simp[cf,aQ,ba]⟩;have ht:(ae l).take l.length=ae l:=by rw[<-cX];exact aaW
    simp[rb,j',cells,aY];simp[oz,qs,getM,fa,aV,ht,cX]
theorem mH(t:Tm)(hb:ay t<1000000000):aO C 252 [enc t] (enc t):=by
 induction t using Tm.ind with
 |h k s o l ih=>exact wc k s o l hb (λt ht=>ih t ht (by have:=bS ht;simp only[ay]at hb;omega))
theorem CE(l:List Pw):(bh l).all (kc 5)=true:=by
 rw[Z1]
 intro v hv
 obtain⟨⟨⟨k,s,o,l'⟩,n⟩,_,rfl⟩:=aak.1 hv
 rfl
theorem Iv(l:List Pw)(j:Nat)(p:Pw):(bh l).take j++[vL p]++(bh l).drop j=bh (l.take j++[p]++l.drop j):=by simp[bh]
theorem Iw(l:List Pw)(j:Nat):(bh l).take j++(bh l).drop (j+1)=bh (l.take j++l.drop (j+1)):=by simp[bh]
theorem HO(l:List Pw)(t:Tm)(n:Int)(H:ab)(v:PV)(hH:HV H)(ho:Out 5 H v (bh l))(hs:As l)(hl:Sm l)(ht:ay t<1000000000)(hB:Bd 1000000000 l)(hn: -1000000000<=n/\n<=1000000000):
  ax C 310 [v,vL (t,n)] H (λr h'=>LP H v 5 (bh (jq t n l)) r h'):=by
 have Ix:=NV l t hs hl ht;have dp:=mH t ht;have hle:=D3 t l;have Az:=F3 t n l;have OZ:=BG t n l;have oG:NU t l=match l[tU t l]? with |some p=>decide (aU p.1 t=0)|none=>false:=rfl
 have cX:=eX l;have cE:=hl.2;obtain⟨k,s,o,tl⟩:=t;refine ax.dJ Tryz.func310 rfl ?_;rw[nr];rw[bj]at Ix dp;generalize hLB:tU (.mk k s o tl) l=LB at Ix hle Az OZ oG;refine wXB ?_;obtain⟨H1,kY⟩:∃x,x=H++[⟨.m,0,5,[.agg [.int .i64 k,.str s,.int .i64 o,.aa false (ae tl),.int .i64 n]]⟩]:=⟨_,rfl⟩;have v1:HV H1:=by rw[kY];exact hH.cC (HV.one rfl)
 have b1:H1[H.length]?=some ⟨.m,0,5,[.agg [.int .i64 k,.str s,.int .i64 o,.aa false (ae tl),.int .i64 n]]⟩:=by rw[kY];simp
 have g1:H1.length=H.length+1:=by rw[kY];simp
 have p1:∀j,j<H.length->H1[j]?=H[j]?:=λj hj=>by rw[kY,Z0 hj]
 have o1:Out 5 H1 v (bh l):=by rw[kY];exact ho.cC _
 have nv:∀ep n,v≠.ak H.length ep 0 n:=by
  rcases ho with⟨rfl,_⟩|⟨id,ep,rfl,e2⟩
  ·intro ep n hh;cases hh
  ·intro h9 n' hh
   have:=ag e2
   cases hh;omega
 refine ah.heap kY.symm ?_;clear kY
 skip
 refine R.call rfl rfl (ai.out rfl o1 (nu l) (by simp[ao,aV]) (by simpa[aQ,cf,ba,qJ]using Ix) rfl ?_);have fin:∀{r:PV} {h':ab} {es:List PV},LP H1 v 5 es r h'->LP H v 5 es r h':=λ{r h' es} a=>⟨a.out,a.hv,by have:=a.len;omega,λj hj bJ=>by rw[a.fr j (by omega) bJ,p1 j hj],λj ep n hh=>(a.ref j ep n hh).elim .inl (λhh=>.inr (by omega))⟩
 cases hf:NU (.mk k s o tl) l
 ·rw[Az hf];refine wXB ?_;refine D.jV v1.closed rfl rfl rfl rfl rfl rfl (by simpa[aQ,cf,ba]using dp) ?_;refine wXB ?_;refine D.buildSlice T6 v1.closed rfl rfl rfl rfl rfl (by decide) rfl rfl rfl rfl rfl ?_;obtain⟨rv,h',e1,e2⟩:=xf (full:=true) (e:=.agg [.int .i64 k,.str s,.int .i64 o,.aa false (ae tl),.int .i64 n]) (j:=LB) o1 v1 (by omega) (by omega) (CE l) rfl;refine D.call rfl rfl rfl (ai.cz rfl e1 ?_);refine wXB ?_;rw[<-nr,Iv]at e2;exact fin e2
 ·rw[hf]at oG
  obtain⟨p,hp,Is⟩:∃p,l[LB]?=some p/\aU p.1 (.mk k s o tl)=0:=by
   cases hg:l[LB]? with
   |none=>rw[hg]at oG;cases oG
   |some p=>rw[hg]at oG;exact⟨p,rfl,of_decide_eq_true oG.symm⟩
  have cI:=ag hp;have ez:=aae hp;have QG:=hB _ ez;rw[OZ p hp Is];obtain⟨⟨k1,s1,NL,l1⟩,n1⟩:=p;simp only at QG
  have cY:(bh l)[0+LB]?=some (.agg [.int .i64 k1,.str s1,.int .i64 NL,.aa false (ae l1),.int .i64 n1]):=by
   rw[aan,bh,aaj,hp];rfl
  rcases o1 with⟨_,e1⟩|⟨id,ep,rfl,e1⟩
  ·rw[e1]at cX;simp at cX;omega
  have bU:id≠H.length:=λhh=>nv ep (bh l).length (by rw[hh])
  have Wk:=ag e1;have Ty:=v1.closed;have im:=v1.Qz Wk
  have hpc:cK H1 (.ptr id ep (0+LB) (0+4))=some [.int .i64 n1]:=by
   simp only[cK,bg e1 rfl (by simp),cY];rfl
  refine wXB ?_;refine D.qP T6 (o:=⟨.m,ep,5,bh l⟩) Ty rfl rfl rfl (bg e1 rfl (by simp)) rfl (by omega) (by show 0+(bh l).length<=(bh l).length;omega) ?_;refine wXB ?_;refine D.fJ T6 Ty rfl im rfl rfl hpc ?_;refine wXB ?_;refine D.qP T6 (o:=⟨.m,ep,5,bh l⟩) Ty rfl rfl rfl (bg e1 rfl (by simp)) rfl (by omega) (by show 0+(bh l).length<=(bh l).length;omega) ?_;refine wXB ?_;refine D.ij T6 (o:=⟨.m,ep,5,bh l⟩) (j:=0+LB) rfl rfl rfl rfl (bg e1 rfl (by simp)) rfl cY rfl rfl (Z5 5) ?_;obtain⟨H2,oa⟩:∃x,x=H1.set id ⟨.m,ep,5,bh (l.set LB (.mk k1 s1 NL l1,n1+n))⟩:=⟨_,rfl⟩
  have kC:H1.set id {(⟨.m,ep,5,bh l⟩:au)with es:=(bh l).set (0+LB) (eI (0+4) 1 (.agg [.int .i64 k1,.str s1,.int .i64 NL,.aa false (ae l1),.int .i64 n1]) (.int .i64 (n1+n)))}=H2:=by
   rw[oa,aan]
   congr 2
   unfold bh;rw[List.map_set]
   rfl
  refine aW.heap kC ?_;have e2:H2[id]?=some ⟨.m,ep,5,bh (l.set LB (.mk k1 s1 NL l1,n1+n))⟩:=by rw[oa];exact Z6 Wk
  have v2:HV H2:=by rw[oa];exact v1.set id (by simp) (nu _)
  have g2:H2.length=H.length+1:=by rw[oa];simp[g1]
  have p2:∀j,j≠id->j<H1.length->H2[j]?=H1[j]?:=λj hj _=>by rw[oa];exact Z7 (aaR hj)
  have qR:(bh (l.set LB (.mk k1 s1 NL l1,n1+n))).length=(bh l).length:=by rw[eX,eX];simp
  have oQ:(bh (l.set LB (.mk k1 s1 NL l1,n1+n)))[0+LB]?=some (.agg [.int .i64 k1,.str s1,.int .i64 NL,.aa false (ae l1),.int .i64 (n1+n)]):=by
   rw[aan,bh,aaj,Z6 cI];rfl
  have Y3:cK H2 (.ptr id ep (0+LB) (0+4))=some [.int .i64 (n1+n)]:=by
   simp only[cK,bg e2 rfl (by simp),oQ];rfl
  clear kC oa;refine wXB ?_;refine R.qP T6 (o:=⟨.m,ep,5,bh (l.set LB (.mk k1 s1 NL l1,n1+n))⟩) rfl rfl rfl (bg e2 rfl (by simp)) rfl (by omega) (by show 0+(bh l).length<=(bh _).length;omega) ?_;refine wXB ?_;refine R.fJ T6 rfl rfl rfl Y3 ?_;refine wXE (λhc=>?_) λhc=>?_
  ·rw[if_pos (by assumption)];obtain⟨rv,h',e3,e4⟩:=xg (j:=LB) e2 v2 (by rw[qR];omega) (by rw[qR];omega) (CE _);rw[qR]at e3 e4;refine R.call rfl rfl (ai.cz rfl e3 ?_);refine wXB ?_
   have Y4:bh ((l.set LB (.mk k1 s1 NL l1,n1+n)).take LB++(l.set LB (.mk k1 s1 NL l1,n1+n)).drop (LB+1))=bh (l.take LB++l.drop (LB+1)):=by
    rw[List.take_set_of_le (Z5 LB),List.drop_set_of_lt (by omega)]
   rw[Iw,Y4]at e4;exact fin ⟨e4.out,e4.hv,by have:=e4.len;omega,λj hj bJ=>by rw[e4.fr j (by omega) bJ,p2 j (λhh=>bJ ep (bh l).length (by rw[hh])) hj],λj ep n hh=>(e4.ref j ep n hh).elim .inl (λhh=>.inr (by omega))⟩
  ·rw[if_neg (by assumption)];refine fin ⟨.inr ⟨id,ep,by rw[qR];rfl,e2⟩,v2,by omega,λj hj bJ=>p2 j (λhh=>bJ ep (bh l).length (by rw[hh])) hj,λj h9 n' hh=>.inl ⟨h9,n',hh⟩⟩
structure CI(a:List Pw)(N:Int):Prop where
 Bx:As a
 nz:Nz a
 sm:∀p∈a,ay p.1<1000000000
 len:(a.length:Int)+N<=10000000
 bd:∃B:Int,0<=B/\B+N<=10000000/\Bd B a
theorem CI.Sm{a:List Pw}{N:Int}(c:CI a N)(h:0<=N):Sm a:=⟨c.sm,by have:=c.len;omega⟩
theorem CI.Bd{a:List Pw}{N:Int}(c:CI a N)(h:0<=N):Bd 1000000000 a:=by
 obtain⟨B,h1,h2,h3⟩:=c.bd
 intro p hp
 have:=h3 p hp;omega
theorem CI.le{a:List Pw}{N M:Int}(c:CI a N)(h:M<=N):CI a M:=by
 obtain⟨B,h1,h2,h3⟩:=c.bd;exact⟨c.Bx,c.nz,c.sm,by have:=c.len;omega,B,h1,by omega,h3⟩
theorem CI.fW{a:List Pw}{N:Int}{t:Tm}{n:Int}(c:CI a (size t+N))(hb:ay t<1000000000)(hn:n=1\/n=-1):CI (fW a t n) N:=by
 obtain⟨B,h1,h2,h3⟩:=c.bd;obtain⟨g1,g2,_⟩:=G8 t a n c.Bx c.nz (by omega);have hs:=gr t;refine⟨g1,g2,?_,?_,B+size t,by omega,by omega,G' t a n B (by omega) (by omega) h1 h3⟩
 ·refine BE (Q:=λt=>ay t<1000000000) (P:=λt=>ay t<1000000000) (λ_ _ _ _ h _=>h) ?_ t a n hb c.sm
  intro k s o l h u hu
  have:=bS hu;simp only[ay]at h;omega
 ·have:=xF t a n;have:=c.len;omega
theorem CI.nil:CI [] 10000000:=⟨by simp[As],(λp hp=>by cases hp),(λp hp=>by cases hp),by simp,0,by omega,by omega,(λp hp=>by cases hp)⟩
def GN(t:Tm):List Pw×Int:=if valid t≠0 then([],valid t)else if arity t=false then([],6)else if 200<(fW [] t 1).length then([],3)else(fW [] t 1,0)
structure yl(H:ab)(n d:Int):Prop where
 f1:H[1]?=some ⟨.m,0,1,[.int .i64 n]⟩
 f2:H[2]?=some ⟨.m,0,1,[.int .i64 d]⟩
 hv:HV H
 len:3<=H.length
def Xw(H:ab)(t:Tm)(u9 n d:Int)(r:PV)(h':ab):Prop:=r=.int .i64 (nodes t)/\∃n' d',yl h' n' d'/\H.length<=h'.length/\(∀j,j≠1->j≠2->j<H.length->h'[j]?=H[j]?)/\(nodes t=0->n'=n+size t/\d'=max d (u9 - 1+depth t))
theorem yl.cC{H:ab}{n d:Int}(c:yl H n d){K:ab}(hK:HV K):yl (H++K) n d:=by
 have:=c.len;exact⟨by rw[Z0 (by omega)];exact c.f1,by rw[Z0 (by omega)];exact c.f2,c.hv.cC hK,by simp;omega⟩
theorem yl.Yz{H:ab}{n d:Int}(c:yl H n d)(n':Int):yl (H.set 1 ⟨.m,0,1,[.int .i64 n']⟩) n' d:=by
 have:=c.len;exact⟨Z6 (by omega),by rw[Z7 (by omega)];exact c.f2,c.hv.set 1 (by simp) rfl,by simp;omega⟩
theorem yl.YA{H:ab}{n d:Int}(c:yl H n d)(d':Int):yl (H.set 2 ⟨.m,0,1,[.int .i64 d']⟩) n d':=by
 have:=c.len;exact⟨by rw[Z7 (by omega)];exact c.f1,Z6 (by omega),c.hv.set 2 (by simp) rfl,by simp;omega⟩
theorem yl.take{H:ab}{n d:Int}(c:yl H n d)(m:Nat)(hm:3<=m):yl (H.take m) n d:=by
 have:=c.len;exact⟨by rw[aaF (by omega)];exact c.f1,by rw[aaF (by omega)];exact c.f2,λo ho=>c.hv o (aaJ ho),by simp;omega⟩
theorem J7(k s o l)(hb:ay (.mk k s o l)<1000000000)
  (ih:∀t∈l,∀(H:ab) (u9 n d:Int),yl H n d->0<=n->n+size t<=1000000000->0<=d->d<=1000000000->0<=u9->u9+depth t<=1000000000->ax C 152 [enc t,.int .i64 u9,.ptr 1 0 0 0,.ptr 2 0 0 0] H (Xw H t u9 n d))
  (H:ab) (u9 n d:Int) (hH:yl H n d) (n0:0<=n) (n1:n+size (.mk k s o l)<=1000000000) (d0:0<=d) (d1:d<=1000000000) (l0:0<=u9) (l1:u9+depth (.mk k s o l)<=1000000000):
  ax C 152 [enc (.mk k s o l),.int .i64 u9,.ptr 1 0 0 0,.ptr 2 0 0 0] H (Xw H (.mk k s o l) u9 n d):=by
 refine ax.dJ Tryz.func152 rfl ?_;rw[bj];have hlen:=bE l;have cX:=aj l;have gv:=c8 l;have hds:=iY l;have HA:s.size<1000000000:=by simp only[ay]at hb;omega
 have Nv:bF l<1000000000:=by simp only[ay]at hb;omega
 simp only[size]at n1;simp only[depth]at l1;have hHl:=hH.len;refine wXB ?_;obtain⟨H1,kY⟩:∃x,x=H++[⟨.m,0,4,[.agg [.int .i64 k,.str s,.int .i64 o,.aa false (ae l)]]⟩]:=⟨_,rfl⟩;have c1:yl H1 n d:=by rw[kY];exact hH.cC (HV.one rfl)
 have b1:H1[H.length]?=some ⟨.m,0,4,[.agg [.int .i64 k,.str s,.int .i64 o,.aa false (ae l)]]⟩:=by rw[kY];simp
 have g1:H1.length=H.length+1:=by rw[kY];simp
 have p1:∀j,j<H.length->H1[j]?=H[j]?:=λj hj=>by rw[kY,Z0 hj]
 refine ah.heap kY.symm ?_;clear kY;have u1:=c1.f1;have u2:=c1.f2;refine wXB ?_;refine R.ij T6 (n:=0) (o:=⟨.m,0,1,[.int .i64 n]⟩) (i:=0) (e:=.int .i64 n) rfl rfl rfl (bg u1 rfl (by simp)) rfl rfl rfl rfl (Z5 1) ?_;obtain⟨H2,oa⟩:∃x,x=H1.set 1 ⟨.m,0,1,[.int .i64 (n+1)]⟩:=⟨_,rfl⟩;have c2:yl H2 (n+1) d:=by rw[oa];exact c1.Yz _
 have b2:H2[H.length]?=some ⟨.m,0,4,[.agg [.int .i64 k,.str s,.int .i64 o,.aa false (ae l)]]⟩:=by rw[oa,Z7 (by omega)];exact b1
 have g2:H2.length=H.length+1:=by rw[oa];simp[g1]
 have p2:∀j,j≠1->j<H.length->H2[j]?=H[j]?:=λj h1 hj=>by rw[oa,Z7 (by omega)];exact p1 j hj
 refine ah.heap oa.symm ?_;clear oa c1 b1 g1 p1 u1 u2;have u1:=c2.f1;have u2:=c2.f2;refine wXB ?_;refine R.ij T6 (n:=0) (o:=⟨.m,0,1,[.int .i64 d]⟩) (i:=0) (e:=.int .i64 d) rfl rfl rfl (bg u2 rfl (by simp)) rfl rfl rfl rfl (Z5 1) ?_;obtain⟨H3,Rv⟩:∃x,x=H2.set 2 ⟨.m,0,1,[.int .i64 (max d u9)]⟩:=⟨_,rfl⟩;have c3:yl H3 (n+1) (max d u9):=by rw[Rv];exact c2.YA _
 have b3:H3[H.length]?=some ⟨.m,0,4,[.agg [.int .i64 k,.str s,.int .i64 o,.aa false (ae l)]]⟩:=by rw[Rv,Z7 (by omega)];exact b2
 have g3:H3.length=H.length+1:=by rw[Rv];simp[g2]
 have p3:∀j,j≠1->j≠2->j<H.length->H3[j]?=H[j]?:=λj h1 h2 hj=>by rw[Rv,Z7 (by omega)];exact p2 j h1 hj
 refine ah.heap Rv.symm ?_;clear Rv c2 b2 g2 p2 u1 u2
 have bad:∀e:Int,node (.mk k s o l)=e->e≠0->Xw H (.mk k s o l) u9 n d (.int .i64 e) H3:=λe h1 h2=>by
  have:nodes (.mk k s o l)=e:=by rw[nodes,if_pos (by rw[h1];exact h2),h1]
  exact⟨by rw[this],_,_,c3,by omega,p3,λh=>absurd (this▸h) h2⟩
 (repeat' (first |refine ah.nil ?_ |(apply R.va;exact rfl;exact rfl;exact rfl)|(apply R.mE;exact rfl;exact rfl;exact rfl)|(apply R.move;exact rfl)|(apply R.assign;exact rfl)|(apply R.iF;exact rfl;exact rfl)|(apply R.gT;exact rfl;exact rfl)|(apply R.fieldAddr T6;exact rfl;exact rfl;exact rfl;exact rfl)|(apply R.cmp;exact rfl;exact rfl;exact rfl;all_goals intro hc;all_goals(try(exfalso;omega)))|(apply R.qO T6;exact rfl;exact rfl)|(apply R.oP T6;exact rfl;exact rfl;exact rfl;exact(by assumption);exact rfl)|refine Ev.seq ?_ |refine Ev.region ?_ |(apply Ev.iG;exact rfl)|refine Ev.ret ?_ |refine Ev.skip ?_ |refine Ev.block ?_ |refine aE.normal ?_ |refine aE.ret ?_ |refine az.normal ?_ |refine az.ret ?_ |(apply aJ.ret;exact rfl)|fail))
 all_goals try(refine bad 1 ?_ (by decide);rw[node,if_pos (by omega)])
 all_goals(refine R.call rfl rfl (ai.pure rfl rfl (D8 s HA) ?_);cases hN:eK s <;>(repeat' (first |refine ah.nil ?_ |(apply R.move;exact rfl)|(apply R.assign;exact rfl)|(apply R.fieldAddr T6;exact rfl;exact rfl;exact rfl;exact rfl)|(apply R.cmp;exact rfl;exact rfl;exact rfl;all_goals intro hc;all_goals(try(exfalso;omega)))|(apply R.not;exact rfl;exact rfl)|(apply R.qO T6;exact rfl;exact rfl)|(apply R.oP T6;exact rfl;exact rfl;exact rfl;exact(by assumption);exact rfl)|refine Ev.seq ?_ |refine Ev.region ?_ |(apply Ev.iG;exact rfl)|refine Ev.ret ?_ |refine Ev.skip ?_ |refine Ev.block ?_ |refine aE.normal ?_ |refine aE.ret ?_ |(apply aJ.ret;exact rfl)|fail)))
 all_goals try(refine bad 2 ?_ (by decide);rw[node,if_neg (by omega),if_pos hN])
 all_goals try(refine bad 3 ?_ (by decide);rw[node,if_neg (by omega),if_neg (by rw[hN];simp),if_pos (by omega)])
 all_goals(
  have Az:node (.mk k s o l)=0:=by rw[node,if_neg (by omega),if_neg (by rw[hN];simp),if_neg (by omega)]
  have h0:nodes (.mk k s o l)=iT l:=by rw[nodes,if_neg (by rw[Az];simp)]
  clear bad hc
  refine Ev.loop (I:=λk' st=>∃(i:Nat) (Hc:ab) (nc dc:Int) (ρ':Nat->PV),st=⟨al [(1,.int .i64 u9),(2,.ptr 1 0 0 0),(3,.ptr 2 0 0 0),(4,.ptr H.length 0 0 0),(57,.aa false (ae l)),(58,.int .i64 (ae l).length),(59,.int .i64 i)] ρ',Hc⟩/\k'+i=l.length/\
   yl Hc nc dc/\Hc[H.length]?=some ⟨.m,0,4,[.agg [.int .i64 k,.str s,.int .i64 o,.aa false (ae l)]]⟩/\H.length<Hc.length/\(∀j,j≠1->j≠2->j<H.length->Hc[j]?=H[j]?)/\0<=nc/\nc+dN (l.drop i)=n+1+dN l/\u9<=dc/\dc<=1000000000/\max dc (u9+gJ (l.drop i))=max d (u9+gJ l)/\iT l=iT (l.drop i)) l.length ?_ ?_
  ·exact⟨0,H3,_,_,_,St.aR ⟨rfl,rfl,rfl,rfl,rfl,rfl,rfl,trivial⟩,rfl,c3,b3,by omega,p3,by omega,rfl,by omega,by omega,by simp only[aaV];omega,rfl⟩
  ·clear c3 b3 g3 p3;rintro k' _ ⟨i,Hc,nc,dc,ρ',rfl,hk,c4,b4,g4,p4,m0,m1,m2,m3,m4,dO⟩;refine wXE (λhc=>?_) λhc=>?_
   ·obtain⟨k1,s1,o1,YB,ez,cY,hd,nt,_⟩:=ga hc;refine R.gK T6 rfl rfl rfl rfl cY rfl rfl ?_;have vY:=c8 (l.drop (i+1));have ZI:=iY (l.drop (i+1));have Xx:=qK _ ez;have HB:=gr (.mk k1 s1 o1 YB);have Vh:=nD (.mk k1 s1 o1 YB);rw[hd,dN]at m1;rw[hd,gJ]at m4;rw[hd,iT]at dO;refine wXB ?_;obtain⟨H5,Vi⟩:∃x,x=Hc++[⟨.m,0,4,[.agg [.int .i64 k1,.str s1,.int .i64 o1,.aa false (ae YB)]]⟩]:=⟨_,rfl⟩;have c5:yl H5 nc dc:=by rw[Vi];exact c4.cC (HV.one rfl)
    have b5:H5[H.length]?=some ⟨.m,0,4,[.agg [.int .i64 k,.str s,.int .i64 o,.aa false (ae l)]]⟩:=by rw[Vi,Z0 (by omega)];exact b4
    have g5:H5.length=Hc.length+1:=by rw[Vi];simp
    have p5:∀j,j≠1->j≠2->j<H.length->H5[j]?=H[j]?:=λj h1 h2 hj=>by rw[Vi,Z0 (by omega)];exact p4 j h1 h2 hj
    have zh:=ih _ ez H5 (u9+1) nc dc c5 m0 (by omega) (by omega) m3 (by omega) (by omega);rw[bj]at zh;refine R.call rfl rfl (ai.rJ rfl Vi.symm rfl rfl zh ?_);rintro r h' ⟨rfl,n',d',c6,g6,p6,e6⟩;refine⟨c6.hv,λ_=>?_,λhf=>Bool.noConfusion hf⟩;have c7:=c6.take H5.length (by omega);have b7:(h'.take H5.length)[H.length]?=some ⟨.m,0,4,[.agg [.int .i64 k,.str s,.int .i64 o,.aa false (ae l)]]⟩:=by rw[aaF (by omega),p6 _ (by omega) (by omega) (by omega)];exact b5
    have g7:(h'.take H5.length).length=H5.length:=by simp;omega
    have p7:∀j,j≠1->j≠2->j<H.length->(h'.take H5.length)[j]?=H[j]?:=λj h1 h2 hj=>by rw[aaF (by omega),p6 j h1 h2 (by omega)];exact p5 j h1 h2 hj
    generalize h'.take H5.length=H7 at c7 b7 g7 p7 ⊢;clear c6 p6;refine wXE (λhc=>?_) λhc=>?_
    ·have bJ:=hc;rw[if_pos bJ]at dO;exact⟨by rw[h0,dO];rfl,_,_,c7,by omega,p7,λh=>absurd (by rw[<-dO,<-h0];exact h) bJ⟩
    ·rw[if_neg (by assumption)]at dO;obtain⟨e7,e8⟩:=e6 (by omega);exact⟨k' - 1,by omega,i+1,H7,n',d',_,St.aR ⟨rfl,rfl,rfl,rfl,rfl,rfl,rfl,trivial⟩,by omega,c7,b7,by omega,p7,by omega,by omega,by omega,by omega,by omega,dO⟩
   ·rw[jX hc]at dO m1 m4;simp only[dN,gJ,iT]at dO m1 m4;refine⟨by rw[h0,dO];rfl,_,_,c4,by omega,p4,λ_=>⟨?_,?_⟩⟩
    ·simp only[size];omega
    ·simp only[depth];omega)
theorem HC(t:Tm)(hb:ay t<1000000000):∀(H:ab) (u9 n d:Int),yl H n d->0<=n->n+size t<=1000000000->0<=d->d<=1000000000->0<=u9->u9+depth t<=1000000000->ax C 152 [enc t,.int .i64 u9,.ptr 1 0 0 0,.ptr 2 0 0 0] H (Xw H t u9 n d):=by
 induction t using Tm.ind with
 |h k s o l ih=>exact J7 k s o l hb (λt ht=>ih t ht (by have:=bS ht;simp only[ay]at hb;omega))
theorem fu(t:Tm)(hb:ay t<100000000):aO C 98 [enc t] (.int .i64 (valid t)):=by
 have hck:=HC t (by omega);have gv:=gr t;have hdp:=nD t;obtain⟨k,s,o,l⟩:=t;refine aO.of (ax.dJ Tryz.func98 rfl ?_);rw[bj]at hck ⊢;refine wXB ?_;refine R.ij T6 (n:=0) (o:=⟨.m,0,1,[.int .i64 0]⟩) (i:=0) (e:=.int .i64 0) rfl rfl rfl rfl rfl rfl rfl rfl (Z5 1) ?_
 skip
 refine R.ij T6 (n:=0) (o:=⟨.m,0,1,[.int .i64 0]⟩) (i:=0) (e:=.int .i64 0) rfl rfl rfl rfl rfl rfl rfl rfl (Z5 1) ?_;refine ah.heap (h':=[⟨.m,0,4,[.agg [.int .i64 k,.str s,.int .i64 o,.aa false (ae l)]]⟩,⟨.m,0,1,[.int .i64 0]⟩,⟨.m,0,1,[.int .i64 0]⟩]) rfl ?_;refine wXB ?_
 have c0:yl [⟨.m,0,4,[.agg [.int .i64 k,.str s,.int .i64 o,.aa false (ae l)]]⟩,⟨.m,0,1,[.int .i64 0]⟩,⟨.m,0,1,[.int .i64 0]⟩] 0 0:=⟨rfl,rfl,λo ho=>by
  simp at ho;rcases ho with rfl |rfl <;>exact⟨by simp,rfl⟩,by simp⟩
 refine R.call rfl rfl (ai.rJ rfl rfl rfl rfl (hck _ 1 0 0 c0 (by omega) (by omega) (by omega) (by omega) (by omega) (by omega)) ?_);rintro r h' ⟨rfl,n',d',c6,g6,p6,e6⟩;refine⟨c6.hv,λ_=>?_,λhf=>Bool.noConfusion hf⟩;have c7:=c6.take 3 (Z5 3);refine ah.heap (h':=h'.take 3) rfl ?_;generalize h'.take 3=H7 at c7 ⊢;have u1:=c7.f1;have u2:=c7.f2;clear c6 p6 g6 hck;have hv:nodes (.mk k s o l)≠0->valid (.mk k s o l)=nodes (.mk k s o l):=λh=>by rw[valid,if_pos h]
 have uJ:nodes (.mk k s o l)=0->valid (.mk k s o l)=if 400<size (.mk k s o l)\/40<depth (.mk k s o l)then 3 else 0:=λh=>by rw[valid,if_neg (by omega)]
 refine wXQ (λhc=>?_) (λhc hc=>?_) (λhc hc hc=>?_) λhc hc hc=>?_
 ·exact⟨_,rfl,by rw[hv (by assumption)];rfl⟩
 ·have h0:nodes (.mk k s o l)=0:=by omega
  obtain⟨e7,e8⟩:=e6 h0;exact⟨_,rfl,by rw[uJ h0,if_pos (by omega)];rfl⟩
 ·have h0:nodes (.mk k s o l)=0:=by omega
  obtain⟨e7,e8⟩:=e6 h0;exact⟨_,rfl,by rw[uJ h0,if_pos (by omega)];rfl⟩
 ·have h0:nodes (.mk k s o l)=0:=by omega
  obtain⟨e7,e8⟩:=e6 h0;exact⟨_,rfl,by rw[uJ h0,if_neg (by omega)];rfl⟩
theorem LP.take{H:ab}{v:PV}{sz:Nat}{es:List PV}{r:PV}{h':ab}(a:LP H v sz es r h'){N:Nat}(hN:H.length<=N)(hr:cH N r=true):LP H v sz es r (h'.take N):=by
 refine⟨?_,a.hv.take N,by have:=a.len;simp;omega,λj hj bJ=>by rw[aaF (by omega)];exact a.fr j hj bJ,a.ref⟩;rcases a.out with⟨rfl,e⟩|⟨id,ep,rfl,e⟩
 ·exact .inl ⟨rfl,e⟩
 ·have:id<N:=by simpa[cH,dP]using hr
  exact .inr ⟨id,ep,rfl,by rw[aaF this];exact e⟩
theorem LP.start{H X:ab}{v:PV}{sz:Nat}{es:List PV}(o:Out sz H v es)(hH:HV H)(hX:HV X):LP H v sz es v (H++X):=
 ⟨o.cC X,hH.cC hX,by simp,λj hj _=>Z0 hj,λj ep n hh=>.inl ⟨ep,n,hh⟩⟩
theorem LP.trans{H Hc X K:ab}{v vc rv:PV}{sz:Nat}{es eT:List PV}(a:LP H v sz es vc Hc)(b:LP (Hc++X) vc sz eT rv K):LP H v sz eT rv K:=by
 have h1:=a.len;have h2:=b.len;simp at h2;refine⟨b.out,b.hv,by omega,λj hj bJ=>?_,λj ep n hh=>?_⟩
 ·rw[b.fr j (by simp;omega) (λep n hh=>?_),Z0 (by omega),a.fr j hj bJ];rcases a.ref j ep n hh with⟨h9,n',h3⟩|h3
  ·exact bJ h9 n' h3
  ·omega
 ·rcases b.ref j ep n hh with⟨h9,n',h3⟩|h3
  ·exact a.ref j h9 n' h3
  ·simp at h3;exact .inr (by omega)
def qv(H:ab)(v:PV)(a:List Pw)(t:Tm)(n:Int)(r:PV)(h':ab):Prop:=
 if arity t=true then∃rv,r=.cx [rv,.bool true]/\LP H v 5 (bh (fW a t n)) rv h' else r=.cx [.aa true [],.bool false]/\HV h'
theorem Es(k s o l)(hb:ay (.mk k s o l)<1000000000)
  (ih:∀t∈l,∀(H:ab) (v:PV) (a:List Pw) (n:Int),HV H->Out 5 H v (bh a)->CI a (size t)->(n=1\/n=-1)->ax C 250 [v,enc t,.int .i64 n] H (qv H v a t n))
  (H:ab) (v:PV) (a:List Pw) (n:Int) (hH:HV H) (ho:Out 5 H v (bh a)) (hc:CI a (size (.mk k s o l))) (hn:n=1\/n=-1):
  ax C 250 [v,enc (.mk k s o l),.int .i64 n] H (qv H v a (.mk k s o l) n):=by
 have hsf:=wk k s o l;have gv:=gr (.mk k s o l);have ZK:=c8 l;have hlen:=bE l;have cX:=aj l;have Nv:bF l<1000000000:=by simp only[ay]at hb;omega
 have Qq:=hc
 have okP:arity (.mk k s o l)=true->∀rv h',LP H v 5 (bh (fW a (.mk k s o l) n)) rv h'->qv H v a (.mk k s o l) n (.cx [rv,.bool true]) h':=λh rv h' hh=>by
  unfold qv;rw[if_pos h];exact⟨rv,rfl,hh⟩
 have noP:arity (.mk k s o l)=false->∀h',HV h'->qv H v a (.mk k s o l) n (.cx [.aa true [],.bool false]) h':=λh h' hh=>by
  unfold qv;rw[if_neg (by rw[h];simp)];exact⟨rfl,hh⟩
 generalize qv H v a (.mk k s o l) n=PP at okP noP ⊢;refine ax.dJ Tryz.func250 rfl ?_;rw[bj]at hsf ⊢;refine wXB ?_;obtain⟨H1,kY⟩:∃x,x=H++[⟨.m,0,4,[.agg [.int .i64 k,.str s,.int .i64 o,.aa false (ae l)]]⟩]:=⟨_,rfl⟩;have XD:LP H v 5 (bh a) v H1:=by rw[kY];exact LP.start ho hH (HV.one rfl)
 have b1:H1[H.length]?=some ⟨.m,0,4,[.agg [.int .i64 k,.str s,.int .i64 o,.aa false (ae l)]]⟩:=by rw[kY];simp
 have g1:H1.length=H.length+1:=by rw[kY];simp
 refine ah.heap kY.symm ?_
 skip
 refine R.call rfl rfl (ai.pure rfl (by simp[ao,aV]) (by simpa[aQ,cf,ba]using hsf) ?_)
 cases HK:dm (.mk k s o l)
 ·have HN:arity (.mk k s o l)=true:=BF HK;have RF:fW a (.mk k s o l) n=jq (.mk k s o l) n a:=D0 HK a n;have jr:=HO a (.mk k s o l) n H1 v XD.hv XD.out Qq.Bx (Qq.Sm (by omega)) hb (Qq.Bd (by omega)) (by omega);rw[nr]at jr;rw[RF]at okP;have lp0:LP H v 5 (bh a) v H:=by simpa using LP.start (X:=[]) ho hH HV.nil
  refine wXB ?_;refine R.call rfl rfl (ai.rJ rfl rfl rfl rfl jr ?_)
  intro r kk hr
  refine⟨hr.hv,λhb=>?_,λhb=>?_⟩
  ·have hA:cH H1.length r=true:=by
    rcases hr.out with⟨rfl,_⟩|⟨id,ep,rfl,_⟩
    ·rfl
    ·exact hb
   have:=hr.take (Z5 _) hA;rw[kY]at this;rw[kY];have:=lp0.trans this;refine wXB ?_;exact okP HN _ _ this
  ·rw[kY]at hr;have:=lp0.trans hr;refine wXB ?_;exact okP HN _ _ this
 ·have XE:arity (.mk k s o l)=if(s.toList=tQ/\l.length<2)\/(s.toList=lU/\l.length≠1)\/(s.toList=tT/\l.length≠0)then false else lW l:=by
   rw[arity,if_neg (by rw[HK];simp)]
  have h0:fW a (.mk k s o l) n=gQ a l (if s.toList=lU then -n else n):=by rw[fW,if_neg (by rw[HK];simp)]
  rw[<-Et,<-wm,<-Eu]at XE;obtain⟨hk,Ks⟩:=names HK;generalize fW a (.mk k s o l) n=R0 at h0 okP;rcases Ks with⟨n1,n2,n3⟩|⟨n1,n2,n3⟩|⟨n1,n2,n3⟩ <;>refine wXE (λhc=>?_) λhc=>?_
  all_goals try(
   have HN:arity (.mk k s o l)=false:=by
    rw[XE,if_pos];first |exact .inl ⟨n1,by omega⟩|exact .inr (.inl ⟨n2,by omega⟩)|exact .inr (.inr ⟨n3,by omega⟩)
   exact noP HN _ XD.hv)
  all_goals(
   have HN:arity (.mk k s o l)=lW l:=by
    rw[XE,if_neg];rintro(⟨a,b⟩|⟨a,b⟩|⟨a,b⟩) <;>first |omega |contradiction
   obtain⟨n',Kt,Gi,RF⟩:∃n',n'=(if s.toList=lU then -n else n)/\(n'=1\/n'=-1)/\R0=gQ a l n':=⟨_,rfl,by split <;>omega,h0⟩
   first
    |rw[if_neg (by rw[<-wm];exact n2)]at Kt
    |(rw[if_pos (by rw[<-wm];exact n2)]at Kt;rw[<-Int.zero_sub]at Kt)
   rw[<-Kt];refine Ev.loop (I:=λk' st=>∃(i:Nat) (Hc:ab) (vc:PV) (acc:List Pw) (ρ':Nat->PV),st=⟨al [(0,vc),(2,.int .i64 n'),(52,.aa false (ae l)),(53,.int .i64 (ae l).length),(54,.int .i64 i)] ρ',Hc⟩/\k'+i=l.length/\LP H v 5 (bh acc) vc Hc/\CI acc (dN (l.drop i))/\R0=gQ acc (l.drop i) n'/\lW l=lW (l.drop i)) l.length ?_ ?_
   ·exact⟨0,H1,v,a,_,St.aR ⟨rfl,rfl,rfl,rfl,rfl,trivial⟩,rfl,XD,Qq.le (by simp only[size,aaV];omega),RF,rfl⟩
   ·clear Kt h0 RF hsf XE;rintro k' _ ⟨i,Hc,vc,acc,ρ',rfl,Qf,lp,Qq,dO,Gd⟩;refine wXE (λhc=>?_) λhc=>?_
    ·obtain⟨k1,s1,o1,l1,ez,cY,hd,nt,_⟩:=ga hc;refine R.gK T6 rfl rfl rfl rfl cY rfl rfl ?_;rw[hd,dN]at Qq;rw[hd,gQ]at dO;rw[hd,lW]at Gd;have vY:=c8 (l.drop (i+1));have Qr:=bS ez;have Vv:=Qq.fW (n:=n') (by omega) Gi;have zh:=ih _ ez (Hc++[⟨.m,0,4,[.agg [.int .i64 k1,.str s1,.int .i64 o1,.aa false (ae l1)]]⟩]) vc acc n' (lp.hv.cC (HV.one rfl)) (lp.out.cC _) (Qq.le (by omega)) Gi;rw[bj]at zh;refine wXB ?_;refine R.call rfl rfl (ai.rJ rfl rfl rfl rfl zh ?_)
     intro r kk hr
     unfold qv at hr
     split at hr
     ·rename_i RG
      obtain⟨rv,rfl,hr⟩:=hr;rw[if_neg (by rw[RG];simp)]at Gd;refine⟨hr.hv,λhb=>?_,λhb=>?_⟩
      ·have hA:cH (Hc++[(⟨.m,0,4,[.agg [.int .i64 k1,.str s1,.int .i64 o1,.aa false (ae l1)]]⟩:au)]).length rv=true:=by
        simp only[dQ,aaX,Z9]at hb;exact hb.1
       have lp2:=lp.trans (hr.take (Z5 _) hA);refine wXB ?_;exact⟨k' - 1,by omega,i+1,_,rv,_,_,St.aR ⟨rfl,rfl,rfl,rfl,rfl,trivial⟩,by omega,lp2,Vv,dO,Gd⟩
      ·have lp2:=lp.trans hr;refine wXB ?_;exact⟨k' - 1,by omega,i+1,_,rv,_,_,St.aR ⟨rfl,rfl,rfl,rfl,rfl,trivial⟩,by omega,lp2,Vv,dO,Gd⟩
     ·rename_i RG
      obtain⟨rfl,hr⟩:=hr;rw[if_pos (by simpa using RG)]at Gd;refine⟨hr,λhb=>?_,λhb=>Bool.noConfusion hb⟩;refine wXB ?_;exact noP (by rw[HN,Gd]) _ (hr.take _)
    ·rw[jX hc]at Gd dO;rw[dO,gQ]at okP;exact okP (by rw[HN,Gd,lW]) _ _ lp)
theorem B9(t:Tm)(hb:ay t<1000000000):∀(H:ab) (v:PV) (a:List Pw) (n:Int),HV H->Out 5 H v (bh a)->CI a (size t)->(n=1\/n=-1)->ax C 250 [v,enc t,.int .i64 n] H (qv H v a t n):=by
 induction t using Tm.ind with
 |h k s o l ih=>exact Es k s o l hb (λt ht=>ih t ht (by have:=bS ht;simp only[ay]at hb;omega))
theorem Out.j'{sz:Nat}{h:ab}{v:PV}{es:List PV}(o:Out sz h v es)(hv:ao es=true):∃r1,j' h v=some r1/\cf r1=.aa false (aQ es):=by
 rcases o with⟨rfl,rfl⟩|⟨id,ep,rfl,e2⟩
 ·exact⟨_,rfl,rfl⟩
 ·exact⟨.aa false es,by simp[Pm.j',qs,getM,e2,hv],by simp[cf]⟩
theorem R.D7{C:cP}(T:lL C.P){ops:Array Oper}{d:Nat}{ty:TypeId}{pos:String}{af:Array Edge}{r:List Oper}{ρ:Nat->PV}{L:List (Nat×PV)}{h:ab}{Q:St->Prop}{t el:TypeId}{x:Operand}{v:PV}{es:List PV}{sz:Nat}
  (hx:cM L x=some v) (hk:T.kd t=some (.sl el)) (o:Out sz h v es) (k:ah C ops r ⟨al ((d,(.int .i64 es.length))::L) ρ,h⟩ Q):
  ah C ops (⟨some d,.call ⟨.builtin .len,#[x],#[t]⟩,ty,pos,af,none⟩::r) ⟨al L ρ,h⟩ Q:=by
 rcases o with⟨rfl,rfl⟩|⟨id,ep,rfl,e2⟩
 ·exact R.qO T (xs:=[]) (ts:=[]) hx hk k
 ·exact R.yB T (xs:=[]) (ts:=[]) (o:=⟨.m,ep,sz,es⟩) hx hk (bg e2 rfl (by simp)) (by show 0+es.length<=es.length;omega) k
theorem TE(t:Tm)(hb:ay t<100000000):aO C 197 [enc t] (.cx [.aa false (bh (GN t).1),.int .i64 (GN t).2]):=by
 have h1:=fu t hb;have RF:=B9 t (by omega);have Ya:valid t=0->CI [] (size t):=λhv=>CI.nil.le (by have:=(fX.1 hv).2.1;omega)
 have hl:valid t=0->(bh (fW [] t 1)).length<1000000000:=λhv=>by
  have:=xF t [] 1;have:=(fX.1 hv).2.1;rw[eX];simp at *;omega
 have cX:=eX (fW [] t 1);have r1:valid t≠0->GN t=([],valid t):=λh=>by rw[GN,if_pos h]
 have r2:valid t=0->arity t=false->GN t=([],6):=λh h'=>by rw[GN,if_neg (by omega),if_pos h']
 have r3:valid t=0->arity t=true->200<(fW [] t 1).length->GN t=([],3):=λh h' h2=>by rw[GN,if_neg (by omega),if_neg (by rw[h'];simp),if_pos h2]
 have r4:valid t=0->arity t=true->¬200<(fW [] t 1).length->GN t=(fW [] t 1,0):=λh h' h2=>by rw[GN,if_neg (by omega),if_neg (by rw[h'];simp),if_neg h2]
 obtain⟨k,s,o,l⟩:=t;refine aO.of (ax.dJ Tryz.func197 rfl ?_);rw[bj]at h1 RF ⊢;refine wXB ?_;refine R.call rfl rfl (ai.pure rfl (by simp[ao,aV]) (by simpa[aQ,cf,ba]using h1) ?_);refine wXE (λhc=>?_) λhc=>?_
 ·refine⟨_,rfl,?_⟩;rw[r1 (by assumption)];rfl
 ·have h0:=Decidable.not_not.1 hc;clear hc;have hl:=hl h0;refine R.call rfl rfl (ai.rJ rfl rfl rfl rfl (RF [⟨.m,0,4,[.agg [.int .i64 k,.str s,.int .i64 o,.aa false (ae l)]]⟩] (.aa true []) [] 1 (HV.one rfl) (Out.nil _ _) (Ya h0) (.inl rfl)) ?_)
  intro r kk hr
  unfold qv at hr
  split at hr
  ·rename_i HN
   obtain⟨rv,rfl,hr⟩:=hr
   have fin:∀K:ab,LP [⟨.m,0,4,[.agg [.int .i64 k,.str s,.int .i64 o,.aa false (ae l)]]⟩] (.aa true []) 5 (bh (fW [] (.mk k s o l) 1)) rv K->¬200<(fW [] (.mk k s o l) 1).length->∃r1,rb K (aY [rv,.int .i64 0])=some r1/\cf r1=PV.cx [PV.aa false (bh (GN (.mk k s o l)).1),PV.int .i64 (GN (.mk k s o l)).2]:=by
    intro K hK Zm
    obtain⟨r1,e1,e2⟩:=hK.out.j' (nu _);refine⟨.cx [r1,.int .i64 0],?_,?_⟩
    ·simp only[aY,rb,gI,e1];rfl
    ·rw[r4 h0 HN Zm];simp only[cf,aQ,e2,qJ]
   refine⟨hr.hv,λhb=>?_,λhb=>?_⟩
   ·have hA:cH [(⟨.m,0,4,[.agg [.int .i64 k,.str s,.int .i64 o,.aa false (ae l)]]⟩:au)].length rv=true:=by
     simp only[dQ,aaX,Z9]at hb;exact hb.1
    have hr:=hr.take (Z5 _) hA;refine wXB ?_;refine R.D7 T6 rfl rfl hr.out ?_;refine wXE (λhc=>?_) λhc=>?_
    ·refine⟨_,rfl,?_⟩;rw[r3 h0 HN (by omega)];rfl
    ·exact fin _ hr (by omega)
   ·refine wXB ?_;refine R.D7 T6 rfl rfl hr.out ?_;refine wXE (λhc=>?_) λhc=>?_
    ·refine⟨_,rfl,?_⟩;rw[r3 h0 HN (by omega)];rfl
    ·exact fin _ hr (by omega)
  ·rename_i HN
   obtain⟨rfl,hr⟩:=hr;refine⟨hr,λhb=>?_,λhb=>Bool.noConfusion hb⟩;refine wXB ?_;refine⟨_,rfl,?_⟩;rw[r2 h0 (by simpa using HN)];rfl
def kF:Option Tm->List Pw->Int
 |_,[]=>0
 |pr,p::l=>if valid p.1≠0 then valid p.1 else if dm p.1=true then 1 else if p.2=0\/p.2< -1000\/1000<p.2 then 7 else
  if(match pr with |some q=>decide (0<=aU q p.1)|none=>false)=true then 5 else kF (some p.1) l
theorem nR(pr:Option Tm)(p:Pw)(l:List Pw):kF pr (p::l)=if valid p.1≠0 then valid p.1 else if dm p.1=true then 1 else if p.2=0\/p.2< -1000\/1000<p.2 then 7 else
  if(match pr with |some q=>decide (0<=aU q p.1)|none=>false)=true then 5 else kF (some p.1) l:=by
 cases pr <;>rfl
theorem uu(pr:Option Tm):kF pr []=0:=by cases pr <;>rfl
def lC(l:List Pw):Int:=if 200<l.length then 3 else kF none l
def QW(l:List Pw)(i:Nat):Option Tm:=match i with |0=>none |i+1=>(l[i]?).map (·.1)
set_option maxHeartbeats 8000000 in
theorem Fi(l:List Pw)(hb:∀p∈l,ay p.1<100000000)(hl:l.length<100000000):aO C 251 [.aa false (bh l)] (.int .i64 (lC l)):=by
 have cX:=eX l;have r1:200<l.length->lC l=3:=λh=>by rw[lC,if_pos h]
 have r2:¬200<l.length->lC l=kF none l:=λh=>by rw[lC,if_neg h]
 refine aO.of (ax.dJ Tryz.func251 rfl ?_);generalize lC l=R0 at r1 r2 ⊢;refine wXE (λhc=>?_) λhc=>?_
 ·exact⟨_,rfl,by rw[r1 (by omega)];rfl⟩
 ·have r2:=r2 (by omega);clear r1;refine Ev.loop (I:=λk' st=>∃(i:Nat) (J:ab) (ρ':Nat->PV),st=⟨al [(0,.aa false (bh l)),(9,.aa false (bh l)),(10,.int .i64 (bh l).length),(11,.int .i64 i)] ρ',J⟩/\k'+i=l.length/\HV J/\R0=kF (QW l i) (l.drop i)) l.length ?_ ?_
  ·exact⟨0,[],_,St.aR ⟨rfl,rfl,rfl,rfl,trivial⟩,rfl,HV.nil,r2⟩
  ·clear r2;rintro k' _ ⟨i,J,ρ',rfl,hk,hJ,dO⟩;refine wXE (λhc=>?_) λhc=>?_
   ·obtain⟨k1,s1,o1,l1,n1,ez,cY,hd,nt,uI⟩:=rE hc;have EV:=fu _ (hb _ ez);have hsy:=wk k1 s1 o1 l1;rw[hd,nR]at dO;simp only at EV dO;rw[bj]at EV hsy;have Oe:=hJ.cC (HV.one (ep:=0) (n:=5) (es:=[.agg [.int .i64 k1,.str s1,.int .i64 o1,.aa false (ae l1),.int .i64 n1]]) rfl);have dp:=Oe.closed;clear hc;refine R.gK T6 rfl rfl rfl rfl cY rfl rfl ?_;refine wXB ?_;refine R.call rfl rfl (ai.pure rfl (by simp[ao,aV]) (by simpa[aQ,cf,ba]using EV) ?_);refine wXE (λhc=>?_) λhc=>?_
    ·rw[if_pos (by assumption)]at dO;exact⟨_,rfl,by rw[dO];rfl⟩
    ·rw[if_neg (by assumption)]at dO;refine R.call rfl rfl (ai.pure rfl (by simp[ao,aV]) (by simpa[aQ,cf,ba]using hsy) ?_)
     cases HK:dm (.mk k1 s1 o1 l1)
     ·rw[if_neg (by rw[HK];simp)]at dO
      (repeat' (first |refine ah.nil ?_ |(apply R.va;exact rfl;exact rfl;exact rfl)|(apply R.mE;exact rfl;exact rfl;exact rfl)|(apply R.move;exact rfl)|(apply R.assign;exact rfl)|(apply R.iF;exact rfl;exact rfl)|(apply R.gT;exact rfl;exact rfl)|(apply R.fieldAddr T6;exact rfl;exact rfl;exact rfl;exact rfl)|(apply R.cmp;exact rfl;exact rfl;exact rfl;all_goals intro hc;all_goals(try(exfalso;omega)))|(apply R.arith;exact rfl;exact rfl;exact rfl;exact(ju (by omega) (by omega)))|(apply R.vy T6;exact rfl;exact rfl;exact rfl;exact rfl)|refine Ev.seq ?_ |refine Ev.region ?_ |refine Ev.kG ?_ |refine aW.nil ?_ |(apply D.move;exact rfl)|(apply D.assign;exact rfl)|(apply D.va;exact rfl;exact rfl;exact rfl;exact rfl)|(apply D.mE;exact rfl;exact rfl;exact rfl)|(apply D.gT;exact rfl;exact rfl)|(apply D.cmp;exact rfl;exact rfl;exact rfl;all_goals intro hc;all_goals(try(exfalso;omega)))|(apply D.arith;exact rfl;exact rfl;exact rfl;exact(ju (by omega) (by omega)))|(apply Ev.iG;exact rfl)|refine Ev.ret ?_ |refine Ev.skip ?_ |refine aE.normal ?_ |refine aE.ret ?_ |refine az.normal ?_ |refine az.ret ?_ |refine aI.normal ?_ |refine aI.ret ?_ |(apply aJ.ret;exact rfl)|fail))
      all_goals try(rw[if_pos (by omega)]at dO;exact⟨_,rfl,by rw[dO];rfl⟩)
      ·-- a factor before it
       rw[if_neg (by omega)]at dO;obtain⟨i',rfl⟩:∃i',i=i'+1:=⟨i - 1,by omega⟩;obtain⟨k2,s2,o2,l2,n2,WZ,oQ,HP,ZX,W0⟩:=rE (l:=l) (i:=i') (by omega);have qL:=dZ _ _ (by have:=hb _ WZ;simp only at this;omega:ay (.mk k2 s2 o2 l2)<1000000000) (by have:=hb _ ez;simp only at this;omega:ay (.mk k1 s1 o1 l1)<1000000000);rw[bj,bj]at qL;have G6:QW l (i'+1)=some (.mk k2 s2 o2 l2):=by simp only[QW,W0];rfl
       rw[G6]at dO;simp only at dO;refine D.gK T6 (by assumption) rfl (congrArg (λz=>some (PV.int .i64 z)) (show((i'+1:Nat):Int) - 1=(i':Int) by omega)) rfl rfl oQ rfl rfl ?_;refine wXB ?_;refine D.jV (by assumption) rfl rfl rfl rfl rfl rfl (by simpa[aQ,cf,ba]using qL) ?_;refine wXE (λhc=>?_) λhc=>?_
       ·rw[if_pos (decide_eq_true (by assumption))]at dO;exact⟨_,rfl,by rw[dO];rfl⟩
       ·rw[if_neg (by rw[decide_eq_false (by assumption)];simp)]at dO;refine⟨k' - 1,by omega,i'+1+1,_,_,St.aR ⟨rfl,rfl,rfl,rfl,trivial⟩,by omega,Oe,?_⟩;have:QW l (i'+1+1)=some (.mk k1 s1 o1 l1):=by simp only[QW,uI];rfl
        rw[this];exact dO
      ·rw[if_neg (by omega)]at dO;obtain rfl:i=0:=by omega
       simp only[QW,aad,if_false]at dO;refine⟨k' - 1,by omega,0+1,_,_,St.aR ⟨rfl,rfl,rfl,rfl,trivial⟩,by omega,Oe,?_⟩;have:QW l (0+1)=some (.mk k1 s1 o1 l1):=by simp only[QW,uI];rfl
       rw[this];exact dO
     ·rw[if_pos HK]at dO;refine wXB ?_;exact⟨_,rfl,by rw[dO];rfl⟩
   ·rw[Hq hc,uu]at dO;exact⟨_,rfl,by rw[dO];rfl⟩
end Go.Pm
namespace Go.Pm
open Go.Proofs
section
variable{C:cP}(T:lL C.P)
variable{ops:Array Oper}{d:Nat}{ty:TypeId}{pos:String}{af:Array Edge}{r:List Oper}{ρ:Nat->PV}{L:List (Nat×PV)}{h:ab}{Q:St->Prop}
set_option maxRecDepth 4000
set_option maxHeartbeats 4000000
theorem Ev.nB{c:Code}{s:St}{Q:Ex->St->Prop}(k:Ev C c s (aI (λs'=>Ev C (.loop c) s' Q) Q)):Ev C (.loop c) s Q:=by
 obtain⟨ex,s',q,n0,hn⟩:=k
 cases ex with
 |normal=>
  obtain⟨Vf,s2,q2,n1,yj⟩:=q;refine⟨Vf,s2,q2,max n0 n1+1,λn m h1 h2=>?_⟩;obtain⟨m,rfl⟩:∃i',m=i'+1:=⟨m - 1,by omega⟩;have e1:=hn n (m+1) (by omega) (by omega);have e2:=yj n m (by omega) (by omega);simp only[bO]at e2 ⊢;simp only[iter,e1];exact pS (λs x hh=>vX (λ_ _ _ _ hh=>hh) (abI m) c hh) (Z5 m) e2
 |exit id=>
  refine⟨_,_,q,n0+1,λn m h1 h2=>?_⟩;obtain⟨m,rfl⟩:∃i',m=i'+1:=⟨m - 1,by omega⟩;simp only[bO,iter,hn n (m+1) (by omega) (by omega)]
 |ret=>
  refine⟨_,_,q,n0+1,λn m h1 h2=>?_⟩;obtain⟨m,rfl⟩:∃i',m=i'+1:=⟨m - 1,by omega⟩;simp only[bO,iter,hn n (m+1) (by omega) (by omega)]
theorem R.J5{t el:TypeId}{x:Operand}(hx:cM L x=some (.aa true []))(hk:T.kd t=some (.sl el))(k:ah C ops r ⟨al ((d,.int .i64 0)::L) ρ,h⟩ Q):
  ah C ops (⟨some d,.call ⟨.builtin .cap,#[x],#[t]⟩,ty,pos,af,none⟩::r) ⟨al L ρ,h⟩ Q:=
 ah.eR (λrun=>by simp[ar,an hx,bo,Q9,bp (T.cU _ _ hk)]) k
theorem R.J6{t el:TypeId}{x y:Operand}{k:IntKind}{sz:Nat}(hx:cM L x=some (.aa true []))(hy:cM L y=some (.int k 0))(hk:T.kd t=some (.sl el))(hs:T.ts el=some sz)(kk:ah C ops r ⟨al ((d,.aa true [])::L) ρ,h⟩ Q):
  ah C ops (⟨some d,.slice t x none (some y) none,ty,pos,af,none⟩::r) ⟨al L ρ,h⟩ Q:=
 ah.eR (λrun=>by simp[ar,aC,an hx,an hy,cg,bp (T.cU _ _ hk),T.dT _ _ hs,cF]) kk
theorem R.N8{t el:TypeId}{x y:Operand}{k:IntKind}{id ep len:Nat}{o:au}(hx:cM L x=some (.ak id ep 0 len))(hy:cM L y=some (.int k 0))(hk:T.kd t=some (.sl el))(hg:getM h id ep=some o)(hs:T.ts el=some o.bC)(hle:len<=o.es.length)(kk:ah C ops r ⟨al ((d,.ak id ep 0 0)::L) ρ,h⟩ Q):
  ah C ops (⟨some d,.slice t x none (some y) none,ty,pos,af,none⟩::r) ⟨al L ρ,h⟩ Q:=
 ah.eR (λrun=>by
  have h1:¬((len:Int)<0):=by omega
  simp[ar,aC,an hx,an hy,cg,bp (T.cU _ _ hk),T.dT _ _ hs,beyond,h1,cF,hg,hle]) kk
theorem R.N9{st xt el:TypeId}{sz fZ n:Nat}{z:PV}{ki:IntKind}{x y:Operand}(hx:cM L x=some (.aa true []))(hy:cM L y=some (.int ki (n:Int)))(hk:T.kd st=some (.sl el))(fB:T.kd xt=some (.int ki))(hs:T.ts el=some (sz+1))(hb:T.tb el=some fZ)(hz:T.tz el=some z)(jn:fZ<=1000)(hl:(cells z).length=sz+1)(ho:(cells z).all bI=true)
  (Uo:0<n) (hn:n<1000000000) (kk:ah C ops r ⟨al ((d,.ak h.length 0 0 n)::L) ρ,h++[⟨.m,0,sz+1,List.replicate n z⟩]⟩ Q):
  ah C ops (⟨some d,.call ⟨.builtin .append,#[x,y],#[st,xt]⟩,ty,pos,af,none⟩::r) ⟨al L ρ,h⟩ Q:=by
 refine ah.eR (λrun=>?_) kk;have bJ:(List.replicate n z).isEmpty=false:=by cases n with |zero=>omega |succ n=>rfl
 have eF:(List.replicate n z).all (λv=>decide ((cells v).length=sz+1)&& (cells v).all bI)=true:=by
  rw[Z1];intro v hv;rw[(abF.1 hv).2,hl,ho];simp
 have mq:bQ C.P 2 h st xt (.aa true []) (.int ki (n:Int))=some (.ak h.length 0 0 n,h++[⟨.m,0,sz+1,List.replicate n z⟩]):=by
  unfold bQ;rw[bp (T.cU _ _ hk)];simp only[T.dT _ _ hs,T.rI _ _ hb,T.na _ _ hz,cG,oF (T.cU _ _ fB)];rw[if_pos ⟨by omega,by omega⟩];simp only[abi];rw[if_pos ⟨by omega,by omega,⟨hl,ho⟩,eF⟩];simp only[bJ,aad,if_false,aaE,aan,abw,aaL,newObj,abo];rw[if_pos ⟨trivial,by omega,iX hn jn,trivial⟩]
 simp only[ar,bo,aah,aas,an hx,an hy,mq]
def Gr(H:ab)(sz:Nat)(h:ab)(v:PV)(es:List PV):Prop:=(v=.aa true []/\es=[]/\h=H)\/∃ep o,v=.ak H.length ep 0 es.length/\h=H++[⟨.m,ep,sz,o⟩]/\o.take es.length=es/\es.length<=o.length
theorem Out.cw{sz:Nat}{h:ab}{v:PV}{es:List PV}(o:Out sz h v es):cw h v=some es:=by
 rcases o with⟨rfl,rfl⟩|⟨id,ep,rfl,e2⟩
 ·rfl
 ·simp[Pm.cw,getM,e2]
def Ls(sz:Nat)(h:ab)(v:PV)(es:List PV):Prop:=Out sz h v es\/∃f,v=.aa f es
theorem Ls.cw{sz:Nat}{h:ab}{v:PV}{es:List PV}(o:Ls sz h v es):cw h v=some es:=by
 rcases o with o |⟨f,rfl⟩
 ·exact o.cw
 ·rfl
theorem Ls.cC{sz:Nat}{h:ab}{v:PV}{es:List PV}(o:Ls sz h v es)(J:ab):Ls sz (h++J) v es:=o.imp (λx=>x.cC J) id
theorem R.F'{H:ab}{st xt el ql:TypeId}{sz fZ:Nat}{z:PV}{es ys:List PV}{x y:Operand}{v u:PV}{ep:Nat}{o:List PV}(hx:cM L x=some (.ak H.length ep 0 es.length))(hy:cM L y=some u)(hk:T.kd st=some (.sl el))(fB:T.kd xt=some (.sl ql))(hs:T.ts el=some (sz+1))(hb:T.tb el=some fZ)(hz:T.tz el=some z)
  (jn:fZ<=1000) (hl:(cells z).length=sz+1) (ho:(cells z).all bI=true) (zf:dB (sz+1) ys) (hu:Ls (sz+1) H u ys) (hn:es.length+ys.length<1000000000) (g1:o.take es.length=es) (g2:es.length<=o.length)
  (kk:∀h9 o',o'.take (es++ys).length=es++ys->(es++ys).length<=o'.length->(ys≠[]->o'=es++ys)->(ys=[]->o'=o)->ah C ops r ⟨al ((d,.ak H.length h9 0 (es++ys).length)::L) ρ,H++[⟨.m,h9,sz+1,o'⟩]⟩ Q):
  ah C ops (⟨some d,.call ⟨.builtin .append,#[x,y],#[st,xt]⟩,ty,pos,af,none⟩::r) ⟨al L ρ,H++[⟨.m,ep,sz+1,o⟩]⟩ Q:=by
 have cX:=(hu.cC [⟨.m,ep,sz+1,o⟩]).cw;have hg:getM (H++[(⟨.m,ep,sz+1,o⟩:au)]) H.length ep=some ⟨.m,ep,sz+1,o⟩:=by simp[getM]
 unfold dB at zf
 cases oh:ys with
 |nil=>
  subst oh;refine ah.eR (λrun=>?_) (kk ep o (by simpa using g1) (by simpa using g2) (λh=>absurd rfl h) (λ_=>rfl))
  have mq:bQ C.P 2 (H++[⟨.m,ep,sz+1,o⟩]) st xt (.ak H.length ep 0 es.length) u=some (.ak H.length ep 0 (es++[]).length,H++[⟨.m,ep,sz+1,o⟩]):=by
   unfold bQ;rw[bp (T.cU _ _ hk)];simp only[T.dT _ _ hs,T.rI _ _ hb,T.na _ _ hz,cG,bp (T.cU _ _ fB),cX];rw[if_pos ⟨by omega,by omega,⟨hl,ho⟩,zf⟩];simp only[hg];rw[if_pos ⟨by omega,trivial⟩];simp
  simp only[ar,bo,aah,aas,an hx,an hy,mq]
 |cons y0 ys0=>
  have bJ:ys.isEmpty=false:=by rw[oh];rfl
  refine ah.eR (λrun=>?_) (kk (ep+1) (es++ys) aaW (Z5 _) (λ_=>rfl) (λh=>by rw[h]at bJ;cases bJ))
  have mq:bQ C.P 2 (H++[⟨.m,ep,sz+1,o⟩]) st xt (.ak H.length ep 0 es.length) u=some (.ak H.length (ep+1) 0 (es++ys).length,H++[⟨.m,ep+1,sz+1,es++ys⟩]):=by
   unfold bQ;rw[bp (T.cU _ _ hk)];simp only[T.dT _ _ hs,T.rI _ _ hb,T.na _ _ hz,cG,bp (T.cU _ _ fB),cX];rw[if_pos ⟨by omega,by omega,⟨hl,ho⟩,zf⟩];simp only[hg];rw[if_pos ⟨by omega,trivial⟩];simp only[bJ,aad,if_false]
   have N':jQ H.length u=false:=by
    rcases hu with(⟨rfl,_⟩|⟨id,h9,rfl,e2⟩)|⟨f,rfl⟩
    ·rfl
    rotate_left
    ·rfl
    ·have:=ag e2;simp[jQ];omega
   rw[if_neg (by rw[N'];simp),if_pos ⟨trivial,by omega,trivial,iX hn jn⟩,g1]
   have:(H++[(⟨.m,ep,sz+1,o⟩:au)]).set H.length ⟨.m,ep+1,sz+1,es++ys⟩=H++[⟨.m,ep+1,sz+1,es++ys⟩]:=by
    refine(abp H.length _ (Z5 _)).trans ?_;simp
   rw[this,Z2]
  simp only[ar,bo,aah,aas,an hx,an hy,mq]
theorem R.Ga{st xt el ql:TypeId}{sz fZ:Nat}{z:PV}{x y:Operand}{u:PV}(hx:cM L x=some (.aa true []))(hy:cM L y=some u)(hk:T.kd st=some (.sl el))(fB:T.kd xt=some (.sl ql))(hs:T.ts el=some (sz+1))(hb:T.tb el=some fZ)(hz:T.tz el=some z)
  (jn:fZ<=1000) (hl:(cells z).length=sz+1) (ho:(cells z).all bI=true) (hu:Ls (sz+1) h u []) (kk:ah C ops r ⟨al ((d,.aa true [])::L) ρ,h⟩ Q):
  ah C ops (⟨some d,.call ⟨.builtin .append,#[x,y],#[st,xt]⟩,ty,pos,af,none⟩::r) ⟨al L ρ,h⟩ Q:=by
 refine ah.eR (λrun=>?_) kk;have cX:=hu.cw
 have mq:bQ C.P 2 h st xt (.aa true []) u=some (.aa true [],h):=by
  unfold bQ;rw[bp (T.cU _ _ hk)];simp only[T.dT _ _ hs,T.rI _ _ hb,T.na _ _ hz,cG,bp (T.cU _ _ fB),cX];rw[if_pos ⟨by omega,by omega,⟨hl,ho⟩,rfl⟩]
  rfl
 simp only[ar,bo,aah,aas,an hx,an hy,mq]
end
section
variable{C:cP}(T:lL C.P)
set_option maxRecDepth 4000
set_option maxHeartbeats 4000000
def X2(H:ab)(x v1 v2:PV):Prop:=x=.aa true [v1,v2]\/∃id,x=.ak id 0 0 2/\H[id]?=some ⟨.m,0,1,[v1,v2]⟩
theorem X2.cC{H:ab}{x v1 v2:PV}(a:X2 H x v1 v2)(J:ab):X2 (H++J) x v1 v2:=by
 rcases a with a |⟨id,e1,e2⟩
 ·exact .inl a
 ·exact .inr ⟨id,e1,by rw[Z0 (ag e2)];exact e2⟩
theorem Out.cells{sz:Nat}{h:ab}{v:PV}{es:List PV}(o:Out sz h v es):cells v=[v]:=by
 rcases o with⟨rfl,rfl⟩|⟨id,ep,rfl,e2⟩ <;>rfl
theorem Ls.cells{sz:Nat}{h:ab}{v:PV}{es:List PV}(o:Ls sz h v es):Pm.cells v=[v]:=by
 rcases o with o |⟨f,rfl⟩
 ·exact o.cells
 ·rfl
theorem R.Qi{ops:Array Oper}{d:Nat}{ty:TypeId}{pos:String}{af:Array Edge}{r:List Oper}{ρ:Nat->PV}{L:List (Nat×PV)}{h:ab}{Q:St->Prop}{t el:TypeId}{x:Operand}{v:PV}{es:List PV}{sz:Nat}(hx:cM L x=some v)(hk:T.kd t=some (.sl el))(o:Ls sz h v es)(k:ah C ops r ⟨al ((d,(.int .i64 es.length))::L) ρ,h⟩ Q):
  ah C ops (⟨some d,.call ⟨.builtin .len,#[x],#[t]⟩,ty,pos,af,none⟩::r) ⟨al L ρ,h⟩ Q:=by
 rcases o with o |⟨f,rfl⟩
 ·exact R.D7 T hx hk o k
 ·exact R.qO T (xs:=[]) (ts:=[]) hx hk k
theorem R.Rt{ops:Array Oper}{d:Nat}{ty:TypeId}{pos:String}{af:Array Edge}{r:List Oper}{ρ:Nat->PV}{L:List (Nat×PV)}{h:ab}{Q:St->Prop}{t el:TypeId}{x:Operand}{u v1 v2:PV}
  (hx:cM L x=some u) (hk:T.kd t=some (.sl el)) (a:X2 h u v1 v2) (k:ah C ops r ⟨al ((d,(.int .i64 2))::L) ρ,h⟩ Q):
  ah C ops (⟨some d,.call ⟨.builtin .len,#[x],#[t]⟩,ty,pos,af,none⟩::r) ⟨al L ρ,h⟩ Q:=by
 rcases a with rfl |⟨id,rfl,e2⟩
 ·exact R.qO T (xs:=[]) (ts:=[]) hx hk k
 ·exact R.yB T (xs:=[]) (ts:=[]) (o:=⟨.m,0,1,[v1,v2]⟩) hx hk (bg e2 rfl (by simp)) (by show 0+2<=2;omega) k
theorem R.Hz{ops:Array Oper}{d d2:Nat}{ty ty2:TypeId}{pos Yx:String}{af af2:Array Edge}{r:List Oper}{ρ:Nat->PV}{L:List (Nat×PV)}{h:ab}{Q:St->Prop}{t t2 el:TypeId}{x ix:Operand}{u v1 v2 v:PV}{i:Nat}{k:IntKind}
  (hx:cM L x=some u) (hi:cM L ix=some (.int k (i:Int))) (hk:T.kd t=some (.sl el)) (hs:T.ts el=some 1) (Up:T.ts t2=some 1) (Xv:T.ta t2=some false) (a:X2 h u v1 v2) (hv:[v1,v2][i]?=some v) (hc:cells v=[v])
  (kk:∀p,ah C ops r ⟨al ((d2,v)::(d,p)::L) ρ,h⟩ Q):
  ah C ops (⟨some d,.indexAddr t x ix,ty,pos,af,none⟩::⟨some d2,.load t2 (.tmp d),ty2,Yx,af2,none⟩::r) ⟨al L ρ,h⟩ Q:=by
 have yk:∀p,cM ((d,p)::L) (.tmp d)=some p:=λp=>by simp[cM,lk]
 rcases a with rfl |⟨id,rfl,e2⟩
 ·refine R.gK T hx hi hk (sz:=0) hs hv hc rfl ?_;exact R.fJ T (yk _) Up Xv (cs:=[]) rfl (kk _)
 ·have cI:i<2:=by have:=ag hv;simpa using this
  refine R.qP T (o:=⟨.m,0,1,[v1,v2]⟩) hx hi hk (bg e2 rfl (by simp)) hs cI (by show 0+2<=2;omega) ?_;refine R.fJ T (yk _) Up Xv (c:=v) (cs:=[]) ?_ (kk _);simp only[cK,bg e2 rfl (show Mu.m≠.x by simp),aan,hv,hc,aaV]
end
attribute [local irreducible] aE az aI aJ Ev ah ai ax aW
set_option maxRecDepth 4000
set_option maxHeartbeats 4000000
theorem Oa(n:Nat)(hn:n<1000000000)(H:ab):ax C 203 [.aa true [],.int .i64 n] H (λr h'=>Gr H 4 h' r []/\(n=0->r=.aa true [])/\(r=.aa true []->n=0)):=by
 refine ax.dJ Tryz.func203 rfl ?_;refine wXF λhc=>?_;apply R.J5 T6;exact rfl;exact rfl;refine wXD ?_;refine R.arith (c':=0) rfl rfl rfl (by decide) ?_;refine wXJ (λhc=>?_) λhc=>?_
 ·apply R.J5 T6;exact rfl;exact rfl
  skip
  apply R.J6 T6;exact rfl;exact rfl;exact rfl;exact rfl;refine wXD ?_;apply R.N9 T6 (n:=n)
  ·exact rfl
  ·exact(congrArg (λz=>some (PV.int .i64 z)) (by simp))
  all_goals first |exact rfl |exact(by decide:(_:Nat)<=1000)|omega |skip
  refine wXD ?_;apply R.N8 T6 (o:=⟨.m,0,4,List.replicate n (.agg [.int .i64 0,.str ByteArray.empty,.int .i64 0,.aa true []])⟩)
  ·exact rfl
  ·exact rfl
  ·exact rfl
  ·exact kX
  ·exact rfl
  ·simp
  refine wXD ?_;exact⟨.inr ⟨0,List.replicate n (.agg [.int .i64 0,.str ByteArray.empty,.int .i64 0,.aa true []]),rfl,rfl,rfl,by simp⟩,λh=>by omega,λh=>by cases h⟩
 ·exact⟨.inl ⟨rfl,rfl,rfl⟩,λ_=>rfl,λ_=>by omega⟩
theorem cc(a b:List Tm):ae (a++b)=ae a++ae b:=by rw[cZ,cZ,cZ,aaS]
def Yy(H:ab)(l:List Tm)(r:PV)(h':ab):Prop:=(l=[]/\r=.aa true []/\h'=H)\/∃ep,r=.ak H.length ep 0 (ae l).length/\h'=H++[⟨.m,ep,4,ae l⟩]
set_option maxHeartbeats 8000000 in
theorem zg(a b:List Tm)(H:ab)(x v1 v2:PV)(hx:X2 H x v1 v2)(h1:Ls 4 H v1 (ae a))(h2:Ls 4 H v2 (ae b))(hl:a.length+b.length<100000000):
  ax C 158 [x] H (Yy H (a++b)):=by
 refine ax.dJ Tryz.func158 rfl ?_;have e1:=aj a;have e2:=aj b;refine wXD ?_;apply R.Rt T6;exact rfl;exact rfl;exact hx;refine wXD ?_;apply Ev.nB;refine wXF λhc=>?_;apply R.Hz T6 (i:=0);exact rfl;exact rfl;exact rfl;exact rfl;exact rfl;exact rfl;exact hx;exact rfl;exact h1.cells
 intro p1
 refine wXD ?_;apply R.Qi T6;exact rfl;exact rfl;exact h1;refine wXF λhc=>?_;apply Ev.nB;refine wXF λhc=>?_;apply R.Hz T6 (i:=1);exact rfl;exact rfl;exact rfl;exact rfl;exact rfl;exact rfl;exact hx;exact rfl;exact h2.cells
 intro p2
 refine wXD ?_;apply R.Qi T6;exact rfl;exact rfl;exact h2;refine wXF λhc=>?_;apply Ev.nB;refine wXF λhc=>?_;refine R.call rfl rfl (ai.opened rfl ?_);refine ax.heap (args':=[.aa true [],.int .i64 ((a.length+b.length:Nat):Int)]) rfl (by simp[e1,e2]) ((Oa (a.length+b.length) (by omega) H).mono ?_);rintro r h' ⟨hg,hz,sM⟩
 have key:(if(dQ H.length r&& (h'.take H.length).all λo=>o.es.all (cH H.length))=true then h'.take H.length else h')=h':=by
  rcases hg with⟨_,_,rfl⟩|⟨ep,o,rfl,rfl,_,_⟩
  ·simp
  ·rw[if_neg (by simp[dQ,cH,dP])]
 rw[key]
 have Vg:X2 h' x v1 v2:=by
  rcases hg with⟨_,_,rfl⟩|⟨ep,o,rfl,rfl,_,_⟩
  ·exact hx
  ·exact hx.cC _
 by_cases Ru:a.length+b.length=0
 ·have hr:=hz Ru;subst hr;have ha:a=[]:=aaf (by omega);have hb:b=[]:=aaf (by omega);subst ha;subst hb;rcases hg with⟨_,_,rfl⟩|⟨ep,o,hh,_⟩
  ·refine wXD ?_;apply R.Rt T6;exact rfl;exact rfl;exact Vg;refine wXD ?_;apply Ev.nB;refine wXF λhc=>?_;apply R.Hz T6 (i:=0);exact rfl;exact rfl;exact rfl;exact rfl;exact rfl;exact rfl;exact Vg;exact rfl;exact h1.cells
   intro p3
   refine wXD ?_;refine R.Ga T6 rfl rfl rfl rfl rfl rfl rfl (by decide) rfl rfl h1 ?_;refine wXD ?_;apply Ev.nB;refine wXF λhc=>?_;apply R.Hz T6 (i:=1);exact rfl;exact rfl;exact rfl;exact rfl;exact rfl;exact rfl;exact Vg;exact rfl;exact h2.cells
   intro p4
   refine wXD ?_;refine R.Ga T6 rfl rfl rfl rfl rfl rfl rfl (by decide) rfl rfl h2 ?_;refine wXD ?_;apply Ev.nB;refine wXF λhc=>?_;exact .inl ⟨rfl,rfl,rfl⟩
  ·cases hh
 ·rcases hg with⟨hr,_,_⟩|⟨ep,o,rfl,rfl,g1,g2⟩
  ·exact absurd (sM hr) Ru
  ·refine wXD ?_;apply R.Rt T6;exact rfl;exact rfl;exact Vg;refine wXD ?_;apply Ev.nB;refine wXF λhc=>?_;apply R.Hz T6 (i:=0);exact rfl;exact rfl;exact rfl;exact rfl;exact rfl;exact rfl;exact Vg;exact rfl;exact h1.cells
   intro p3
   refine wXD ?_;refine R.F' T6 (es:=[]) (ys:=ae a) (v:=.ek) rfl rfl rfl rfl rfl rfl rfl (by decide) rfl rfl (nC a) h1 (by simp;omega) g1 g2 ?_
   intro ep1 o1 t1 t2 t3 t4
   refine wXD ?_;apply Ev.nB;refine wXF λhc=>?_;apply R.Hz T6 (i:=1);exact rfl;exact rfl;exact rfl;exact rfl;exact rfl;exact rfl;exact(hx.cC _);exact rfl;exact h2.cells
   intro p4
   refine wXD ?_;refine R.F' T6 (es:=ae a) (ys:=ae b) (v:=.ek) rfl rfl rfl rfl rfl rfl rfl (by decide) rfl rfl (nC b) h2 (by omega) t1 t2 ?_
   intro Rm o2 u1 u2 u3 u4
   refine wXD ?_;apply Ev.nB;refine wXF λhc=>?_
   have ho:o2=ae (a++b):=by
    rw[cc]
    by_cases hb:ae b=[]
    ·rw[u4 hb,hb,aao];refine t3 (λha=>?_);rw[ha]at e1;rw[hb]at e2;simp at e1 e2;omega
    ·exact u3 hb
   refine .inr ⟨Rm,?_,by rw[ho]⟩;rw[cc];rfl
end Go.Pm
namespace Go.Pm
open Go.Proofs
set_option maxRecDepth 4000
set_option maxHeartbeats 4000000
def eU:Tm:=.mk 0 ByteArray.empty 0 []
theorem Out.lt{sz:Nat}{h:ab}{v:PV}{es:List PV}(o:Out sz h v es){j ep n:Nat}(hv:v=.ak j ep 0 n):j<h.length:=by
 rcases o with⟨rfl,_⟩|⟨id,h9,rfl,e2⟩
 ·cases hv
 ·cases hv;exact ag e2
theorem LP.obj{H:ab}{v:PV}{sz:Nat}{es:List PV}{r:PV}{h':ab}(a:LP H v sz es r h'){b:Nat}{o:au}(e:H[b]?=some o)(hb:∀ep n,v≠.ak b ep 0 n):h'[b]?=some o/\∀ep n,r≠.ak b ep 0 n:=by
 refine⟨by rw[a.fr b (ag e) hb];exact e,λep n hh=>?_⟩;rcases a.ref b ep n hh with⟨h9,n',h3⟩|h3
 ·exact hb h9 n' h3
 ·have:=ag e;omega
end Go.Pm
