/-
  A part of the library Pm (joined by program). Conditions: none.
-/
import Derived.Test.YtimogkojklpdnaaGreatDoorPzAA
import Derived.Test.YtimogkojklpdnaaGreatDoorPzAC
set_option linter.unusedVariables false
set_option linter.unusedSimpArgs false
set_option linter.unnecessarySimpa false
namespace Go.Pm
open Go.Proofs
attribute [local irreducible] aE aC aI aJ Ev ah ai ay aV
set_option maxRecDepth 4000
set_option maxHeartbeats 4000000
theorem wM(c:Int):nL c=decide ((97<=c/\c<=122)\/(65<=c/\c<=90)\/(48<=c/\c<=57)\/c=95\/c=35):=by
 unfold nL jG oR;simp only[<-Bool.decide_or]
 congr 1
 apply propext;omega
theorem wN(c:Int):aO C 191 [.int .u8 c] (.bool (jG c)):=by
 refine aO.of (ay.dC Tryz.func191 rfl ?_)
 (repeat' (first |refine ah.nil ?_ |(apply R.uz;exact rfl;exact rfl;exact rfl)|(apply R.mr;exact rfl;exact rfl;exact rfl)|(apply R.P4;exact rfl;exact rfl)|(apply R.move;exact rfl)|(apply R.assign;exact rfl)|(apply R.iy;exact rfl;exact rfl)|(apply R.gO;exact rfl;exact rfl)|(apply R.cmp;exact rfl;exact rfl;exact rfl;all_goals intro hc)|refine Ev.seq ?_ |refine Ev.region ?_ |refine Ev.ret ?_ |refine aE.normal ?_ |(apply aJ.ret;exact rfl)|fail))
 all_goals(refine⟨_,rfl,congrArg PV.bool ?_⟩;unfold jG;first |exact(decide_eq_true (by omega)).symm |exact(decide_eq_false (by omega)).symm)
theorem H6(c:Int):aO C 192 [.int .u8 c] (.bool (oR c)):=by
 refine aO.of (ay.dC Tryz.func192 rfl ?_)
 (repeat' (first |refine ah.nil ?_ |(apply R.uz;exact rfl;exact rfl;exact rfl)|(apply R.mr;exact rfl;exact rfl;exact rfl)|(apply R.move;exact rfl)|(apply R.assign;exact rfl)|(apply R.iy;exact rfl;exact rfl)|(apply R.gO;exact rfl;exact rfl)|(apply R.cmp;exact rfl;exact rfl;exact rfl;all_goals intro hc)|refine Ev.seq ?_ |refine Ev.region ?_ |refine Ev.ret ?_ |refine aE.normal ?_ |(apply aJ.ret;exact rfl)|fail))
 all_goals(refine⟨_,rfl,congrArg PV.bool ?_⟩;unfold oR;first |exact(decide_eq_true (by omega)).symm |exact(decide_eq_false (by omega)).symm)
theorem CC(c:Int):aO C 244 [.int .u8 c] (.bool (nL c)):=by
 refine aO.of (ay.dC Tryz.func244 rfl ?_)
 (repeat' (first |refine ah.nil ?_ |(apply R.uz;exact rfl;exact rfl;exact rfl)|(apply R.mr;exact rfl;exact rfl;exact rfl)|(apply R.P4;exact rfl;exact rfl)|(apply R.move;exact rfl)|(apply R.assign;exact rfl)|(apply R.iy;exact rfl;exact rfl)|(apply R.gO;exact rfl;exact rfl)|(apply R.cmp;exact rfl;exact rfl;exact rfl;all_goals intro hc)|refine Ev.seq ?_ |refine Ev.region ?_ |refine Ev.ret ?_ |refine aE.normal ?_ |(apply aJ.ret;exact rfl)|fail))
 all_goals(refine⟨_,rfl,congrArg PV.bool ?_⟩;rw[wM];first |exact(decide_eq_true (by omega)).symm |exact(decide_eq_false (by omega)).symm)
theorem rJ(s:ByteArray)(i:Nat)(h:i<s.toList.length):ja (s.toList.drop i)=(nL (s.toList[i]).toNat&&ja (s.toList.drop (i+1))):=by
 rw[aa2 h,ja]
theorem wO(s:ByteArray):(s.size=0/\s.toList=[])\/∃c l,s.toList=c::l/\s[0]?=some c/\s.size=l.length+1:=by
 have hl:=bsize s
 cases h:s.toList with
 |nil=>rw[h]at hl;exact .inl ⟨by simpa using hl.symm,rfl⟩
 |cons c l=>exact .inr ⟨c,l,rfl,KH (i:=0) (by rw[h];rfl),by rw[<-hl,h];rfl⟩
theorem CD(s:ByteArray)(hb:s.size<1000000000):aO C 149 [.str s] (.bool (eF s)):=by
 refine aO.of (ay.dC Tryz.func149 rfl ?_);have hl:=bsize s;rcases wO s with⟨h0,hn⟩|⟨c,l,di,CE,gm⟩
 ·have hs:eF s=false:=by unfold eF;rw[hn];rfl
  refine wXL (λhc=>?_) (λhc hc=>?_) λhc hc=>?_
  ·exact⟨_,rfl,by rw[hs];rfl⟩
  ·omega
  ·omega
 ·have hs:eF s=(decide (l.length<24)&&jG c.toNat&&ja s.toList):=by unfold eF;rw[di];rfl
  refine wXL (λhc=>?_) (λhc hc=>?_) λhc hc=>?_
  ·omega
  ·refine⟨_,rfl,?_⟩;rw[hs,decide_eq_false (by omega)];rfl
  ·refine R.jb T6 (i:=0) rfl rfl rfl CE ?_;refine wXB ?_;refine R.call rfl rfl (ai.pure rfl rfl (wN c.toNat) ?_)
   cases Lr:jG c.toNat
   ·refine wXB ?_;refine⟨_,rfl,?_⟩;rw[hs,Lr];simp[b9,aY]
   ·refine wXB ?_;have Mz:eF s=ja (s.toList.drop 0):=by rw[hs,Lr,decide_eq_true (by omega)];simp
    refine Ev.loop (I:=λk' st=>∃(i:Nat) (ρ':Nat->PV),st=⟨al [(0,.str s),(3,.int .i64 i)] ρ',[]⟩/\k'+i=s.size/\eF s=ja (s.toList.drop i)) s.size ?_ ?_
    ·exact⟨0,_,St.aQ ⟨rfl,rfl,trivial⟩,rfl,Mz⟩
    ·rintro k' _ ⟨i,ρ',rfl,hk,dK⟩;refine wXE (λhc=>?_) λhc=>?_
     ·have mX:i<s.toList.length:=by omega
      have cV:=KH (Zy mX);rw[rJ s i mX]at dK;refine R.jb T6 rfl rfl rfl cV ?_;generalize hx:s.toList[i]=x at dK cV;have Dn:=wM x.toNat
      skip
      refine R.call rfl rfl (ai.pure rfl rfl (wN x.toNat) ?_)
      cases Lr:jG x.toNat
      ·refine wXB ?_;refine R.jb T6 rfl rfl rfl cV ?_;refine wXB ?_;refine R.call rfl rfl (ai.pure rfl rfl (H6 x.toNat) ?_)
       cases Ad:oR x.toNat
       ·refine wXB ?_;refine R.jb T6 rfl rfl rfl cV ?_;refine wXE (λhc=>?_) λhc=>?_
        ·refine R.jb T6 rfl rfl rfl cV ?_;refine wXE (λhc=>?_) λhc=>?_
         ·rename_i h95
          have h35:=hc;refine⟨_,rfl,?_⟩;rw[dK];unfold nL;rw[Lr,Ad,decide_eq_false (by omega),decide_eq_false (by omega)];rfl
         ·refine⟨k' - 1,by omega,i+1,_,St.aQ ⟨rfl,rfl,trivial⟩,by omega,?_⟩;rw[dK];unfold nL;rw[decide_eq_true (show(x.toNat:Int)=35 by omega)];simp
        ·refine⟨k' - 1,by omega,i+1,_,St.aQ ⟨rfl,rfl,trivial⟩,by omega,?_⟩;rw[dK];unfold nL;rw[decide_eq_true (show(x.toNat:Int)=95 by omega)];simp
       ·refine wXB ?_;refine⟨k' - 1,by omega,i+1,_,St.aQ ⟨rfl,rfl,trivial⟩,by omega,?_⟩;rw[dK];unfold nL;rw[Ad];simp
      ·refine wXB ?_;refine⟨k' - 1,by omega,i+1,_,St.aQ ⟨rfl,rfl,trivial⟩,by omega,?_⟩;rw[dK];unfold nL;rw[Lr];simp
     ·refine⟨_,rfl,?_⟩;rw[dK,Z5 (by omega)];rfl
theorem P5:(ByteArray.mk #[]).toList=[]:=by rw[ByteArray.toList_eq]
theorem Dy(s:ByteArray)(hb:s.size<1000000000):aO C 193 [.str s] (.bool (eF s)):=by
 refine aO.of (ay.dC Tryz.func193 rfl ?_);have hl:=bsize s;rcases wO s with⟨h0,hn⟩|⟨c,l,di,CE,gm⟩
 ·have hs:eF s=false:=by unfold eF;rw[hn];rfl
  have OE:s.toList=(ByteArray.mk #[]).toList:=by rw[hn,P5]
  refine wXB ?_;exact⟨_,rfl,by rw[hs];rfl⟩
 ·have hs:eF s=(decide (l.length<24)&&jG c.toNat&&ja s.toList):=by unfold eF;rw[di];rfl
  have Dn:=wM c.toNat;have hle:jG c.toNat=decide ((97<=(c.toNat:Int)/\(c.toNat:Int)<=122)\/(65<=(c.toNat:Int)/\(c.toNat:Int)<=90)):=rfl;refine wXP (λhc=>?_) (λhc hc=>?_) λhc hc=>?_
  ·rw[di,P5]at hc;cases hc
  ·refine⟨_,rfl,?_⟩;rw[hs,decide_eq_false (by omega)];rfl
  ·have h24:=hc;clear hc;refine R.call rfl rfl (ai.pure rfl rfl (CC c.toNat) ?_)
   cases SU:nL c.toNat
   ·refine wXD ?_;refine⟨_,rfl,?_⟩;rw[SU]at Dn;have:=of_decide_eq_false Dn.symm;rw[hs,hle,decide_eq_false (p:=(97<=(c.toNat:Int)/\(c.toNat:Int)<=122)\/(65<=(c.toNat:Int)/\(c.toNat:Int)<=90)) (by omega)];simp[b9,aY]
   ·rw[SU]at Dn;have Dn:=of_decide_eq_true Dn.symm
    by_cases hg:(97<=(c.toNat:Int)/\(c.toNat:Int)<=122)\/(65<=(c.toNat:Int)/\(c.toNat:Int)<=90)
    ·have Mz:eF s=ja (s.toList.drop 0):=by rw[hs,hle,decide_eq_true hg,decide_eq_true (by omega)];simp
     (repeat' (first |(apply R.jb T6 (i:=0);exact rfl;exact rfl;exact rfl;assumption)|refine ah.nil ?_ |(apply R.uz;exact rfl;exact rfl;exact rfl)|(apply R.move;exact rfl)|(apply R.iy;exact rfl;exact rfl)|(apply R.gO;exact rfl;exact rfl)|(apply R.cmp;exact rfl;exact rfl;exact rfl;all_goals intro hc;all_goals(try(exfalso;omega)))|(apply R.not;exact rfl;exact rfl)|(apply R.AB T6;exact rfl;exact rfl)|refine Ev.seq ?_ |refine Ev.region ?_ |(apply Ev.iz;exact rfl)|refine Ev.skip ?_ |refine Ev.block ?_ |refine aE.normal ?_ |fail))
     refine Ev.loop (I:=λk' st=>∃(i:Nat) (ρ':Nat->PV),st=⟨al [(0,.str s),(38,.int .i64 s.size),(39,.int .i64 i)] ρ',[]⟩/\k'+i=s.size/\eF s=ja (s.toList.drop i)) s.size ?_ ?_
     ·exact⟨0,_,St.aQ ⟨rfl,rfl,rfl,trivial⟩,rfl,Mz⟩
     ·rintro k' _ ⟨i,ρ',rfl,hk,dK⟩;refine wXE (λhc=>?_) λhc=>?_
      ·have mX:i<s.toList.length:=by omega
       have cV:=KH (Zy mX);rw[rJ s i mX]at dK;refine R.jb T6 rfl rfl rfl cV ?_;generalize hx:s.toList[i]=x at dK cV
       skip
       refine R.call rfl rfl (ai.pure rfl rfl (CC x.toNat) ?_)
       cases Ab:nL x.toNat
       ·refine wXB ?_;refine⟨_,rfl,?_⟩;rw[dK,Ab];rfl
       ·refine wXB ?_;refine⟨k' - 1,by omega,i+1,_,St.aQ ⟨rfl,rfl,rfl,trivial⟩,by omega,?_⟩;rw[dK,Ab];rfl
      ·refine⟨_,rfl,?_⟩;rw[dK,Z5 (by omega)];rfl
    ·have Mz:eF s=false:=by rw[hs,hle,decide_eq_false hg];simp
     (repeat' (first |(apply R.jb T6 (i:=0);exact rfl;exact rfl;exact rfl;assumption)|refine ah.nil ?_ |(apply R.uz;exact rfl;exact rfl;exact rfl)|(apply R.mr;exact rfl;exact rfl;exact rfl)|(apply R.move;exact rfl)|(apply R.assign;exact rfl)|(apply R.iy;exact rfl;exact rfl)|(apply R.gO;exact rfl;exact rfl)|(apply R.cmp;exact rfl;exact rfl;exact rfl;all_goals intro hc;all_goals(try(exfalso;omega)))|(apply R.not;exact rfl;exact rfl)|refine Ev.seq ?_ |refine Ev.region ?_ |(apply Ev.iz;exact rfl)|refine Ev.ret ?_ |refine aE.normal ?_ |refine aE.ret ?_ |(apply aJ.ret;exact rfl)|fail))
     all_goals exact⟨_,rfl,by rw[Mz];rfl⟩
end Go.Pm
namespace Go.Pm
open Go.Proofs
attribute [local irreducible] aE aC aI aJ Ev ah ai ay
set_option maxRecDepth 4000
set_option maxHeartbeats 4000000
theorem nm(a b:Int):aO C 181 [.int .i64 a,.int .i64 b] (.int .i64 (eX a b)):=by
 refine aO.of (ay.dC Tryz.func181 rfl ?_);refine wXL (λhc=>?_) (λhc hc=>?_) λhc hc=>?_
 all_goals(refine⟨_,rfl,congrArg (PV.int .i64) ?_⟩;unfold eX;(repeat' split) <;>omega)
theorem rR(a b:Int):aO C 101 [.int .i64 a,.int .i64 b] (.int .i64 (eX a b)):=by
 refine aO.of (ay.dC Tryz.func101 rfl ?_);refine wXL (λhc=>?_) (λhc hc=>?_) λhc hc=>?_
 all_goals(refine⟨_,rfl,congrArg (PV.int .i64) ?_⟩;unfold eX;(repeat' split) <;>omega)
theorem OO(k s o l)(MN:bz l<1000000000)(ih:∀t∈l,aO C 176 [enc t] (.int .i64 (size t))):aO C 176 [enc (.mk k s o l)] (.int .i64 (size (.mk k s o l))):=by
 refine aO.of (ay.dC Tryz.func176 rfl ?_);rw[bj];have hlen:=bD l;have cT:=an l;have gm:=cW l;refine wXB ?_;refine Ev.loop (I:=λk' st=>∃(i:Nat) (n:Int) (ρ':Nat->PV),st=⟨al [(1,.ptr 0 0 0 0),(3,.int .i64 n),(4,.int .i64 i)] ρ',[⟨.m,0,4,[.agg [.int .i64 k,.str s,.int .i64 o,.aa false (ae l)]]⟩]⟩/\k'+i=l.length/\0<=n/\1+dJ l=n+dJ (l.drop i)) l.length ?_ ?_
 ·exact⟨0,1,_,St.aQ ⟨rfl,rfl,rfl,trivial⟩,rfl,by omega,rfl⟩
 ·rintro k' _ ⟨i,n,ρ',rfl,hk,hn,dK⟩;refine wXE (λhc=>?_) λhc=>?_
  ·obtain⟨k1,s1,o1,l1,eW,cV,hd,mX,_⟩:=fY hc;refine R.gE T6 rfl rfl rfl rfl cV rfl rfl ?_;have PC:=bN eW;have hsm:=gj (.mk k1 s1 o1 l1);have Dd:=cW (l.drop (i+1));rw[hd,dJ]at dK;refine wXB ?_;refine R.call rfl rfl ?_;show ai C 2 _ [.agg [.int .i64 k1,.str s1,.int .i64 o1,.aa false (ae l1)]] _ _;rw[<-bj];refine ai.pure (r:=.int .i64 (size (.mk k1 s1 o1 l1))) rfl (by simp[ar,pO]) (by simpa[aU,uO]using ih _ eW) ?_;refine wXB ?_;exact⟨k' - 1,by omega,i+1,n+size (.mk k1 s1 o1 l1),_,St.aQ ⟨rfl,rfl,rfl,trivial⟩,by omega,by omega,by omega⟩
  ·refine⟨_,rfl,?_⟩;simp only[b9,aY,size];rw[jM hc,dJ]at dK;rw[dK];simp
theorem vC(t:Tm)(hb:ax t<1000000000):aO C 176 [enc t] (.int .i64 (size t)):=by
 induction t using Tm.ind with
 |h k s o l ih=>
  simp only[ax]at hb;exact OO k s o l (by omega) (λt ht=>ih t ht (by have:=bN ht;omega))
theorem LN(k s o l)(MN:bz l<1000000000)(ih:∀t∈l,aO C 102 [enc t] (.int .i64 (size t))):aO C 102 [enc (.mk k s o l)] (.int .i64 (size (.mk k s o l))):=by
 refine aO.of (ay.dC Tryz.func102 rfl ?_);rw[bj];have hlen:=bD l;have cT:=an l;have gm:=cW l;refine wXB ?_;refine Ev.loop (I:=λk' st=>∃(i:Nat) (n:Int) (J:ab) (ρ':Nat->PV),st=⟨al [(1,.ptr 0 0 0 0),(3,.int .i64 n),(7,.aa false (ae l)),(8,.int .i64 (ae l).length),(9,.int .i64 i)] ρ',⟨.m,0,4,[.agg [.int .i64 k,.str s,.int .i64 o,.aa false (ae l)]]⟩::J⟩/\k'+i=l.length/\0<=n/\1+dJ l=n+dJ (l.drop i)) l.length ?_ ?_
 ·exact⟨0,1,[],_,St.aQ ⟨rfl,rfl,rfl,rfl,rfl,trivial⟩,rfl,by omega,rfl⟩
 ·rintro k' _ ⟨i,n,J,ρ',rfl,hk,hn,dK⟩;refine wXE (λhc=>?_) λhc=>?_
  ·obtain⟨k1,s1,o1,l1,eW,cV,hd,mX,_⟩:=fY hc;refine R.gE T6 rfl rfl rfl rfl cV rfl rfl ?_;have PC:=bN eW;have hsm:=gj (.mk k1 s1 o1 l1);have Dd:=cW (l.drop (i+1));rw[hd,dJ]at dK;refine wXB ?_;refine R.call rfl rfl ?_;show ai C 2 _ [.agg [.int .i64 k1,.str s1,.int .i64 o1,.aa false (ae l1)]] _ _;rw[<-bj];refine ai.pure (r:=.int .i64 (size (.mk k1 s1 o1 l1))) rfl (by simp[ar,pO]) (by simpa[aU,uO]using ih _ eW) ?_;refine wXB ?_;exact⟨k' - 1,by omega,i+1,n+size (.mk k1 s1 o1 l1),_,_,St.aQ ⟨rfl,rfl,rfl,rfl,rfl,trivial⟩,by omega,by omega,by omega⟩
  ·refine⟨_,rfl,?_⟩;simp only[b9,aY,size];rw[jM hc,dJ]at dK;rw[dK];simp
theorem sT(t:Tm)(hb:ax t<1000000000):aO C 102 [enc t] (.int .i64 (size t)):=by
 induction t using Tm.ind with
 |h k s o l ih=>
  simp only[ax]at hb;exact LN k s o l (by omega) (λt ht=>ih t ht (by have:=bN ht;omega))
end Go.Pm
namespace Go.Pm
open Go.Proofs
attribute [local irreducible] aE aC aI aJ Ev ah ai ay aV
set_option maxRecDepth 4000
set_option maxHeartbeats 4000000
theorem IA(k s o l)(hb:ax (.mk k s o l)<1000000000):aO C 235 [enc (.mk k s o l)] (.int .i64 (node (.mk k s o l))):=by
 refine aO.of (ay.dC Tryz.func235 rfl ?_);rw[bj];have cT:=an l;have hlen:=bD l;have Dx:s.size<1000000000:=by simp only[ax]at hb;omega
 (repeat' (first |refine ah.nil ?_ |(apply R.uz;exact rfl;exact rfl;exact rfl)|(apply R.mr;exact rfl;exact rfl;exact rfl)|(apply R.P4;exact rfl;exact rfl)|(apply R.move;exact rfl)|(apply R.assign;exact rfl)|(apply R.iy;exact rfl;exact rfl)|(apply R.gO;exact rfl;exact rfl)|(apply R.fF T6;exact rfl;exact rfl;exact rfl;exact rfl)|(apply R.fieldAddr T6;exact rfl;exact rfl;exact rfl;exact rfl)|(apply R.cmp;exact rfl;exact rfl;exact rfl;all_goals intro hc;all_goals(try(exfalso;omega)))|(apply R.not;exact rfl;exact rfl)|(apply R.qt T6;exact rfl;exact rfl)|(apply R.box;exact rfl;exact rfl;exact rfl;exact .nil)|refine Ev.seq ?_ |refine Ev.region ?_ |(apply Ev.iz;exact rfl)|refine Ev.ret ?_ |refine Ev.skip ?_ |refine aE.normal ?_ |refine aE.ret ?_ |(apply aJ.ret;exact rfl)|fail))
 all_goals first
  |(refine⟨_,rfl,congrArg (PV.int .i64) ?_⟩;rw[node,if_pos (by omega)])
  |(refine R.call rfl rfl (ai.pure rfl rfl (CD s Dx) ?_);cases hN:eF s <;>(repeat' (first |refine ah.nil ?_ |(apply R.assign;exact rfl)|(apply R.fF T6;exact rfl;exact rfl;exact rfl;exact rfl)|(apply R.fieldAddr T6;exact rfl;exact rfl;exact rfl;exact rfl)|(apply R.cmp;exact rfl;exact rfl;exact rfl;all_goals intro hc;all_goals(try(exfalso;omega)))|(apply R.not;exact rfl;exact rfl)|(apply R.qt T6;exact rfl;exact rfl)|refine Ev.seq ?_ |refine Ev.region ?_ |(apply Ev.iz;exact rfl)|refine Ev.ret ?_ |refine Ev.skip ?_ |refine aE.normal ?_ |refine aE.ret ?_ |(apply aJ.ret;exact rfl)|fail)))
 all_goals first
  |(refine⟨_,rfl,congrArg (PV.int .i64) ?_⟩;rw[node,if_neg (by omega),if_pos hN])
  |(refine⟨_,rfl,congrArg (PV.int .i64) ?_⟩;rw[node,if_neg (by omega),if_neg (by rw[hN];simp),if_pos (by omega)])
  |(refine⟨_,rfl,congrArg (PV.int .i64) ?_⟩;rw[node,if_neg (by omega),if_neg (by rw[hN];simp),if_neg (by omega)])
theorem IB(k s o l)(hb:ax (.mk k s o l)<1000000000)(ih:∀t∈l,aO C 175 [enc t] (.int .i64 (nodes t))):aO C 175 [enc (.mk k s o l)] (.int .i64 (nodes (.mk k s o l))):=by
 have zP:=IA k s o l hb;refine aO.of (ay.dC Tryz.func175 rfl ?_);rw[bj]at zP ⊢;have hlen:=bD l;have cT:=an l;simp only[ax]at hb;refine wXB ?_;refine R.call rfl rfl (ai.pure rfl (by simp[ar,aW]) (by simpa[aU,b9,ba]using zP) ?_);refine wXE (λhc=>?_) λhc=>?_
 ·refine⟨_,rfl,?_⟩;rw[nodes,if_pos (by assumption)];rfl
 ·have h0:nodes (.mk k s o l)=iO l:=by rw[nodes,if_neg (by assumption)]
  refine Ev.loop (I:=λk' st=>∃(i:Nat) (ρ':Nat->PV),st=⟨al [(1,.ptr 0 0 0 0),(4,.int .i64 i)] ρ',[⟨.m,0,4,[.agg [.int .i64 k,.str s,.int .i64 o,.aa false (ae l)]]⟩]⟩/\k'+i=l.length/\iO l=iO (l.drop i)) l.length ?_ ?_
  ·exact⟨0,_,St.aQ ⟨rfl,rfl,trivial⟩,rfl,rfl⟩
  ·rintro k' _ ⟨i,ρ',rfl,hk,dK⟩;refine wXE (λhc=>?_) λhc=>?_
   ·obtain⟨k1,s1,o1,l1,eW,cV,hd,mX,_⟩:=fY hc;refine R.gE T6 rfl rfl rfl rfl cV rfl rfl ?_;have yA:=ih _ eW;rw[bj]at yA;rw[hd,iO]at dK;refine wXB ?_;refine R.call rfl rfl (ai.pure rfl (by simp[ar,aW]) (by simpa[aU,b9,ba]using yA) ?_);refine wXE (λhc=>?_) λhc=>?_
    ·refine⟨_,rfl,?_⟩;rw[h0,dK,if_pos (by assumption)];rfl
    ·refine⟨k' - 1,by omega,i+1,_,St.aQ ⟨rfl,rfl,trivial⟩,by omega,?_⟩;rw[dK,if_neg (by assumption)]
   ·refine⟨_,rfl,?_⟩;rw[h0,dK,jM hc];rfl
theorem E7(t:Tm)(hb:ax t<1000000000):aO C 175 [enc t] (.int .i64 (nodes t)):=by
 induction t using Tm.ind with
 |h k s o l ih=>
  exact IB k s o l hb (λt ht=>ih t ht (by have:=bN ht;simp only[ax]at hb;omega))
theorem IC(k s o l)(hb:ax (.mk k s o l)<1000000000)(ih:∀t∈l,aO C 177 [enc t] (.int .i64 (depth t))):aO C 177 [enc (.mk k s o l)] (.int .i64 (depth (.mk k s o l))):=by
 refine aO.of (ay.dC Tryz.func177 rfl ?_);rw[bj];have hlen:=bD l;have cT:=an l;have gm:=cW l;have hds:=iT l;simp only[ax]at hb;refine wXB ?_;refine Ev.loop (I:=λk' st=>∃(i:Nat) (n:Int) (ρ':Nat->PV),st=⟨al [(1,.ptr 0 0 0 0),(3,.int .i64 n),(4,.int .i64 i)] ρ',[⟨.m,0,4,[.agg [.int .i64 k,.str s,.int .i64 o,.aa false (ae l)]]⟩]⟩/\k'+i=l.length/\0<=n/\gD l=max n (gD (l.drop i))) l.length ?_ ?_
 ·exact⟨0,0,_,St.aQ ⟨rfl,rfl,rfl,trivial⟩,rfl,by omega,by simp only[aaA];omega⟩
 ·rintro k' _ ⟨i,n,ρ',rfl,hk,hn,dK⟩;refine wXE (λhc=>?_) λhc=>?_
  ·obtain⟨k1,s1,o1,l1,eW,cV,hd,mX,_⟩:=fY hc;refine R.gE T6 rfl rfl rfl rfl cV rfl rfl ?_;have yA:=ih _ eW;rw[bj]at yA;rw[hd,gD]at dK;have K7:=ni (.mk k1 s1 o1 l1);refine wXB ?_;refine R.call rfl rfl (ai.pure rfl (by simp[ar,aW]) (by simpa[aU,b9,ba]using yA) ?_);refine wXB ?_;exact⟨k' - 1,by omega,i+1,_,_,St.aQ ⟨rfl,rfl,rfl,trivial⟩,by omega,by omega,by omega⟩
  ·rw[jM hc,gD]at dK
   skip
   refine⟨_,rfl,congrArg (PV.int .i64) ?_⟩;rw[depth];omega
theorem E8(t:Tm)(hb:ax t<1000000000):aO C 177 [enc t] (.int .i64 (depth t)):=by
 induction t using Tm.ind with
 |h k s o l ih=>
  exact IC k s o l hb (λt ht=>ih t ht (by have:=bN ht;simp only[ax]at hb;omega))
theorem xo(t:Tm)(hb:ax t<1000000000):aO C 125 [enc t] (.int .i64 (valid t)):=by
 have h1:=E7 t hb;have h2:=vC t hb;have h3:=E8 t hb;obtain⟨k,s,o,l⟩:=t;refine aO.of (ay.dC Tryz.func125 rfl ?_);rw[bj]at h1 h2 h3 ⊢;refine wXB ?_;refine R.call rfl rfl (ai.pure rfl (by simp[ar,aW]) (by simpa[aU,b9,ba]using h1) ?_);refine wXE (λhc=>?_) λhc=>?_
 ·refine⟨_,rfl,?_⟩;rw[valid,if_pos (by assumption)];rfl
 ·have h0:=hc;clear hc;refine R.call rfl rfl (ai.pure rfl (by simp[ar,aW]) (by simpa[aU,b9,ba]using h2) ?_);refine wXE (λhc=>?_) λhc=>?_
  ·refine⟨_,rfl,?_⟩;rw[valid,if_neg h0,if_pos (by omega)];rfl
  ·refine R.call rfl rfl (ai.pure rfl (by simp[ar,aW]) (by simpa[aU,b9,ba]using h3) ?_);refine wXE (λhc=>?_) λhc=>?_
   ·refine⟨_,rfl,?_⟩;rw[valid,if_neg h0,if_pos (by omega)];rfl
   ·refine⟨_,rfl,?_⟩;rw[valid,if_neg h0,if_neg (by omega)];rfl
set_option maxHeartbeats 2000000 in
theorem Np(k s o l k' s' o' l')(hb:ax (.mk k s o l)<1000000000)(dK:ax (.mk k' s' o' l')<1000000000)
  (ih:∀t∈l,∀t'∈l',aO C 134 [enc t,enc t'] (.int .i64 (aT t t'))):aO C 134 [enc (.mk k s o l),enc (.mk k' s' o' l')] (.int .i64 (aT (.mk k s o l) (.mk k' s' o' l'))):=by
 refine aO.of (ay.dC Tryz.func134 rfl ?_);rw[bj,bj];have z1:=vC _ hb;have z2:=vC _ dK;have v1:ar (ae l)=true:=eR l;have v2:ar (ae l')=true:=eR l';have e1:=an l;have e2:=an l';have b1:l.length<1000000000:=by have:=bD l;simp only[ax]at hb;omega
 have b2:l'.length<1000000000:=by have:=bD l';simp only[ax]at dK;omega
 rw[bj]at z1 z2;refine wXB ?_;refine D.jK rfl rfl rfl rfl (by simp[ar,aW,v1]) rfl rfl (by simpa[aU,b9,ba]using z1) ?_;refine wXB ?_;refine D.jK rfl rfl rfl rfl (by simp[ar,aW,v2]) rfl rfl (by simpa[aU,b9,ba]using z2) ?_;refine D.jK rfl rfl rfl rfl rfl rfl rfl (nm _ _) ?_;refine wXE (λhc=>?_) λhc=>?_
 ·exact⟨_,rfl,by simp only[b9,aY,aT];rw[if_pos hc]⟩
 have h1:=hc;clear hc;refine R.call rfl rfl (ai.pure rfl rfl (nm k k') ?_);refine wXQ (λhc=>?_) (λhc hc=>?_) (λhc hc hc=>?_) λhc hc hc=>?_
 ·exact⟨_,rfl,by simp only[b9,aY,aT];rw[if_neg h1,if_pos hc]⟩
 ·rename_i h2
  have h3:=hc;exact⟨_,rfl,by simp only[b9,aY,aT];rw[if_neg h1,if_neg h2,if_pos h3]⟩
 ·rename_i h2 h3
  have h4:=hc;exact⟨_,rfl,by simp only[b9,aY,aT];rw[if_neg h1,if_neg h2,if_neg (by rw[h3];simp),if_pos h4]⟩
 rename_i h2 h3
 have h4:=hc;clear hc;refine R.call rfl rfl (ai.pure rfl rfl (nm o o') ?_);refine wXE (λhc=>?_) λhc=>?_
 ·exact⟨_,rfl,by simp only[b9,aY,aT];rw[if_neg h1,if_neg h2,if_neg (by rw[h3];simp),if_neg (by rw[h4];simp),if_pos hc]⟩
 have h5:=hc;clear hc;refine R.call rfl rfl (ai.pure rfl rfl (nm (ae l).length (ae l').length) ?_);refine wXE (λhc=>?_) λhc=>?_
 ·refine⟨_,rfl,?_⟩;simp only[b9,aY,aT];rw[e1,e2]at hc ⊢;rw[if_neg h1,if_neg h2,if_neg (by rw[h3];simp),if_neg (by rw[h4];simp),if_neg h5,if_pos hc]
 have h6:=hc;clear hc
 have th:l.length=l'.length:=by
  rw[e1,e2]at h6;unfold eX at h6
  repeat' split at h6
  all_goals omega
 have PA:aT (.mk k s o l) (.mk k' s' o' l')=lB l l':=by
  rw[e1,e2]at h6;rw[aT,if_neg h1,if_neg h2,if_neg (by rw[h3];simp),if_neg (by rw[h4];simp),if_neg h5,if_neg h6]
 refine Ev.loop (I:=λQD st=>∃(i:Nat) (ρ':Nat->PV),st=⟨al [(2,.ptr 0 0 0 0),(3,.ptr 1 0 0 0),(9,.int .i64 i)] ρ',[⟨.m,0,4,[.agg [.int .i64 k,.str s,.int .i64 o,.aa false (ae l)]]⟩,⟨.m,0,4,[.agg [.int .i64 k',.str s',.int .i64 o',.aa false (ae l')]]⟩]⟩/\QD+i=l.length/\lB l l'=lB (l.drop i) (l'.drop i)) l.length ?_ ?_
 ·exact⟨0,_,St.aQ ⟨rfl,rfl,rfl,trivial⟩,rfl,rfl⟩
 ·rintro QD _ ⟨i,ρ',rfl,hk,vf⟩;refine wXE (λhc=>?_) λhc=>?_
  ·obtain⟨k1,s1,o1,l1,eW,cV,hd,mX,_⟩:=fY hc;obtain⟨k2,s2,o2,l2,JC,QE,Db,XG,_⟩:=fY (l:=l') (i:=i) (by omega);have w1:ar (ae l1)=true:=eR l1;have w2:ar (ae l2)=true:=eR l2;have yA:=ih _ eW _ JC;rw[bj,bj]at yA;refine D.gE T6 rfl rfl rfl rfl rfl cV rfl rfl ?_;refine wXB ?_;refine D.gE T6 rfl rfl rfl rfl rfl QE rfl rfl ?_;refine wXB ?_;refine D.jK rfl rfl rfl rfl (by simp[ar,aW,w1,w2]) rfl rfl (by simpa[aU,b9,ba]using yA) ?_;refine wXE (λhc=>?_) λhc=>?_
   ·refine⟨_,rfl,?_⟩;simp only[b9,aY];rw[PA,vf,hd,Db,lB,if_pos (by assumption)]
   ·refine⟨QD - 1,by omega,i+1,_,St.aQ ⟨rfl,rfl,rfl,trivial⟩,by omega,?_⟩;rw[vf,hd,Db,lB,if_neg (by assumption)]
  ·refine⟨_,rfl,?_⟩;simp only[b9,aY];rw[PA,vf,jM hc,lB]
theorem Jt(t t':Tm)(hb:ax t<1000000000)(dK:ax t'<1000000000):aO C 134 [enc t,enc t'] (.int .i64 (aT t t')):=by
 induction t using Tm.ind generalizing t' with
 |h k s o l ih=>
  obtain⟨k',s',o',l'⟩:=t';refine Np k s o l k' s' o' l' hb dK (λt ht t' TO=>ih t ht t' ?_ ?_)
  ·have:=bN ht;simp only[ax]at hb;omega
  ·have:=bN TO;simp only[ax]at dK;omega
theorem xc(k s o l):de (.mk k s o l)=decide (k=3/\(s.toList=sY\/s.toList=lI\/s.toList=sZ)):=by
 simp only[de,<-Bool.decide_or,<-Bool.decide_and,or_assoc]
theorem DP:(ByteArray.mk #[109,117,108]).toList=sY:=Jc
theorem vF:(ByteArray.mk #[105,110,118]).toList=lI:=Jd
theorem DQ:(ByteArray.mk #[111,110,101]).toList=sZ:=Je
theorem vE(k s o l):aO C 309 [enc (.mk k s o l)] (.bool (de (.mk k s o l))):=by
 refine aO.of (ay.dC Tryz.func309 rfl ?_);rw[bj,xc];refine wXS (λhc hc=>?_) (λhc hc hc=>?_) (λhc hc hc hc=>?_) (λhc hc hc hc=>?_) λhc=>?_
 all_goals try simp only[DP,vF,DQ]at *
 all_goals first
  |exact⟨_,rfl,congrArg PV.bool (decide_eq_true (by simp[*])).symm⟩
  |exact⟨_,rfl,congrArg PV.bool (decide_eq_false (by simp[*])).symm⟩
theorem E4(a b:ByteArray):aO C 153 [.str a,.str b] (.int .i64 (AN a b)):=by
 have e:AN a b=Lib.compareBytes a.data.toList b.data.toList:=by unfold AN eI;rw[ByteArray.toList_eq,ByteArray.toList_eq]
 rw[e];refine aO.of (ay.dC Tryz.func153 rfl ?_);refine wXB ?_;refine R.call rfl rfl (ai.ext rfl rfl rfl ?_);refine wXB ?_;exact⟨_,rfl,rfl⟩
theorem L9(a b:ByteArray):aO C 103 [.str a,.str b] (.int .i64 (AN a b)):=by
 refine aO.of (ay.dC Tryz.func103 rfl ?_);refine wXB ?_;refine R.call rfl rfl (ai.pure rfl rfl (E4 a b) ?_);refine wXB ?_;exact⟨_,rfl,rfl⟩
theorem OR(k s o l k' s' o' l')(hb:ax (.mk k s o l)<1000000000)(dK:ax (.mk k' s' o' l')<1000000000)
  (ih:∀t∈l,∀t'∈l',aO C 52 [enc t,enc t'] (.int .i64 (aT t t'))):aO C 52 [enc (.mk k s o l),enc (.mk k' s' o' l')] (.int .i64 (aT (.mk k s o l) (.mk k' s' o' l'))):=by
 refine aO.of (ay.dC Tryz.func52 rfl ?_);have AO:=lm k s o l k' s' o' l';have z1:=sT _ hb;have z2:=sT _ dK;rw[bj]at z1 z2;rw[bj,bj];generalize aT (.mk k s o l) (.mk k' s' o' l')=R0 at AO ⊢;have e1:=an l;have e2:=an l';have b1:l.length<1000000000:=by have:=bD l;simp only[ax]at hb;omega
 have b2:l'.length<1000000000:=by have:=bD l';simp only[ax]at dK;omega
 have th:eX (ae l).length (ae l').length=0->l.length=l'.length:=λh=>by have:=iH h;omega
 rw[<-e1,<-e2]at AO;refine wXB ?_;refine D.jK rfl rfl rfl rfl (by simp[ar,aW]) rfl rfl (by simpa[aU,b9,ba]using z1) ?_;refine wXB ?_;refine D.jK rfl rfl rfl rfl (by simp[ar,aW]) rfl rfl (by simpa[aU,b9,ba]using z2) ?_;refine D.jK rfl rfl rfl rfl rfl rfl rfl (rR _ _) ?_;generalize eX (size (.mk k s o l)) (size (.mk k' s' o' l'))=X1 at AO ⊢
 (repeat' (first |refine ah.nil ?_ |(apply R.move;exact rfl)|(apply R.assign;exact rfl)|(apply R.fF T6;exact rfl;exact rfl;exact rfl;exact rfl)|(apply R.fieldAddr T6;exact rfl;exact rfl;exact rfl;exact rfl)|(apply R.cmp;exact rfl;exact rfl;exact rfl;all_goals intro hc;all_goals(try(exfalso;omega)))|refine Ev.seq ?_ |refine Ev.region ?_ |refine aV.nil ?_ |(apply D.assign;exact rfl)|(apply Ev.iz;exact rfl)|refine Ev.skip ?_ |refine Ev.block ?_ |refine aE.normal ?_ |fail))
 all_goals try(refine R.call rfl rfl (ai.pure rfl rfl (rR k k') ?_);generalize eX k k'=X2 at AO ⊢;(repeat' (first |refine ah.nil ?_ |(apply R.move;exact rfl)|(apply R.assign;exact rfl)|(apply R.fF T6;exact rfl;exact rfl;exact rfl;exact rfl)|(apply R.fieldAddr T6;exact rfl;exact rfl;exact rfl;exact rfl)|(apply R.cmp;exact rfl;exact rfl;exact rfl;all_goals intro hc;all_goals(try(exfalso;omega)))|refine Ev.seq ?_ |refine Ev.region ?_ |(apply Ev.iz;exact rfl)|refine Ev.skip ?_ |refine Ev.block ?_ |refine aE.normal ?_ |fail)))
 all_goals try(refine R.call rfl rfl (ai.pure rfl rfl (L9 s s') ?_);generalize AN s s'=X3 at AO ⊢;(repeat' (first |refine ah.nil ?_ |(apply R.move;exact rfl)|(apply R.assign;exact rfl)|(apply R.fF T6;exact rfl;exact rfl;exact rfl;exact rfl)|(apply R.fieldAddr T6;exact rfl;exact rfl;exact rfl;exact rfl)|(apply R.cmp;exact rfl;exact rfl;exact rfl;all_goals intro hc;all_goals(try(exfalso;omega)))|refine Ev.seq ?_ |refine Ev.region ?_ |(apply Ev.iz;exact rfl)|refine Ev.skip ?_ |refine Ev.block ?_ |refine aE.normal ?_ |fail)))
 all_goals try(refine R.call rfl rfl (ai.pure rfl rfl (rR o o') ?_);generalize eX o o'=X4 at AO ⊢;refine wXJ (λhc=>?_) λhc=>?_)
 all_goals try(refine R.call rfl rfl (ai.pure rfl rfl (rR (ae l).length (ae l').length) ?_);generalize eX (ae l).length (ae l').length=X5 at AO th ⊢;refine wXD ?_)
 all_goals(
  refine Ev.loop (I:=λQD st=>∃(i:Nat) (c:Int) (ρ':Nat->PV),st=⟨al [(2,.ptr 0 0 0 0),(3,.ptr 1 0 0 0),(5,.int .i64 c),(6,.int .i64 i)] ρ',[⟨.m,0,4,[.agg [.int .i64 k,.str s,.int .i64 o,.aa false (ae l)]]⟩,⟨.m,0,4,[.agg [.int .i64 k',.str s',.int .i64 o',.aa false (ae l')]]⟩]⟩/\QD+i=l.length/\R0=ll c (lB (l.drop i) (l'.drop i))/\(c=0->l.length=l'.length)) l.length ?_ ?_
  ·refine⟨0,_,_,St.aQ ⟨rfl,rfl,rfl,rfl,trivial⟩,rfl,?_,?_⟩
   ·rw[AO];unfold ll;simp only[aaA];(repeat' split) <;>first |rfl |omega
   ·first |exact th |(intro h;exfalso;omega)
  ·clear AO th;rintro QD _ ⟨i,c,ρ',rfl,hk,vf,th⟩
   (repeat' (first |refine ah.nil ?_ |(apply R.uz;exact rfl;exact rfl;exact rfl)|(apply R.mr;exact rfl;exact rfl;exact rfl)|(apply R.move;exact rfl)|(apply R.assign;exact rfl)|(apply R.iy;exact rfl;exact rfl)|(apply R.gO;exact rfl;exact rfl)|(apply R.fF T6;exact rfl;exact rfl;exact rfl;exact rfl)|(apply R.fieldAddr T6;exact rfl;exact rfl;exact rfl;exact rfl)|(apply R.cmp;exact rfl;exact rfl;exact rfl;all_goals intro hc;all_goals(try(exfalso;omega)))|(apply R.qt T6;exact rfl;exact rfl)|refine Ev.seq ?_ |refine Ev.region ?_ |refine Ev.kb ?_ |(apply D.move;exact rfl)|(apply D.fieldAddr T6;exact rfl;exact rfl;exact rfl;exact rfl)|(apply D.fF T6;exact(by first |exact rfl |assumption);exact rfl;exact rfl;exact rfl;exact rfl;exact rfl)|(apply Ev.iz;exact rfl)|refine Ev.ret ?_ |refine Ev.skip ?_ |refine Ev.exit ?_ |refine Ev.block ?_ |refine aE.normal ?_ |refine aE.exit ?_ |refine aC.Qa ?_ |refine aI.exit ?_ |(apply aJ.ret;exact rfl)|fail))
   ·have th:=th (by assumption);obtain⟨k1,s1,o1,l1,eW,cV,hd,mX,_⟩:=fY hc;obtain⟨k2,s2,o2,l2,JC,QE,Db,XG,_⟩:=fY (l:=l') (i:=i) (by omega);have yA:=ih _ eW _ JC;rw[bj,bj]at yA;refine D.gE T6 rfl rfl rfl rfl rfl cV rfl rfl ?_;refine wXB ?_;refine D.gE T6 rfl rfl rfl rfl rfl QE rfl rfl ?_;refine wXB ?_;refine D.jK rfl rfl rfl rfl (by simp[ar,aW]) rfl rfl (by simpa[aU,b9,ba]using yA) ?_;refine wXB ?_;refine⟨QD - 1,by omega,i+1,_,_,St.aQ ⟨rfl,rfl,rfl,rfl,trivial⟩,by omega,?_,λ_=>th⟩;have CE:c=0:=by assumption
    rw[vf,CE,hd,Db,lq];rfl
   ·refine⟨_,rfl,congrArg (PV.int .i64) ?_⟩;have CE:c=0:=by assumption
    rw[vf,CE,jM hc,lB];rfl
   ·refine⟨_,rfl,congrArg (PV.int .i64) ?_⟩;rw[vf,ll,if_pos (by assumption)])
theorem dT(t t':Tm)(hb:ax t<1000000000)(dK:ax t'<1000000000):aO C 52 [enc t,enc t'] (.int .i64 (aT t t')):=by
 induction t using Tm.ind generalizing t' with
 |h k s o l ih=>
  obtain⟨k',s',o',l'⟩:=t';refine OR k s o l k' s' o' l' hb dK (λt ht t' TO=>ih t ht t' ?_ ?_)
  ·have:=bN ht;simp only[ax]at hb;omega
  ·have:=bN TO;simp only[ax]at dK;omega
theorem names{k s o l}(h:de (.mk k s o l)=true):k=3/\
  ((s.toList=(ByteArray.mk #[109,117,108]).toList/\¬s.toList=(ByteArray.mk #[105,110,118]).toList/\¬s.toList=(ByteArray.mk #[111,110,101]).toList)\/
   (¬s.toList=(ByteArray.mk #[109,117,108]).toList/\s.toList=(ByteArray.mk #[105,110,118]).toList/\¬s.toList=(ByteArray.mk #[111,110,101]).toList)\/
   (¬s.toList=(ByteArray.mk #[109,117,108]).toList/\¬s.toList=(ByteArray.mk #[105,110,118]).toList/\s.toList=(ByteArray.mk #[111,110,101]).toList)):=by
 rw[xc]at h;obtain⟨h1,h2⟩:=of_decide_eq_true h;refine⟨h1,?_⟩;rw[DP,vF,DQ];rcases h2 with h2 |h2 |h2 <;>rw[h2] <;>decide
theorem mW(k s o l n):uY (.mk k s o l,n)=.agg [.int .i64 k,.str s,.int .i64 o,.aa false (ae l),.int .i64 n]:=rfl
theorem eO(l:List Pw):(bh l).length=l.length:=by simp[bh]
theorem qY{l:List Pw}{i:Nat}(hc:(i:Int)<((bh l).length:Int)):∃k s o l' n,(.mk k s o l',n)∈l/\(bh l)[i]?=some (.agg [.int .i64 k,.str s,.int .i64 o,.aa false (ae l'),.int .i64 n])/\l.drop i=(.mk k s o l',n)::l.drop (i+1)/\i<l.length/\l[i]?=some (.mk k s o l',n):=by
 have mX:i<l.length:=by have:=eO l;omega
 rcases hp:l[i]with⟨⟨k,s,o,l'⟩,n⟩;refine⟨k,s,o,l',n,hp▸Z2 mX,?_,?_,mX,?_⟩
 ·unfold bh;rw[ZP,Zy mX,hp];rfl
 ·rw[aa2 mX,hp]
 ·rw[Zy mX,hp]
theorem GD{l:List Pw}{i:Nat}(hc:¬(i:Int)<((bh l).length:Int)):l.drop i=[]:=Z5 (by have:=eO l;omega)
theorem mY(l:List Pw):ar (bh l)=true:=by
 induction l with
 |nil=>rfl
 |cons p l ih=>
  obtain⟨⟨k,s,o,l'⟩,n⟩:=p;simp only[bh,ZN,ar]at *;rw[ih];rfl
theorem qm(l:List Pw):aU (bh l)=bh l:=by
 induction l with
 |nil=>rfl
 |cons p l ih=>
  obtain⟨⟨k,s,o,l'⟩,n⟩:=p;simp only[bh,ZN,aU]at *;rw[ih,mW];simp[b9,aU,ba]
def Sm(l:List Pw):Prop:=(∀p∈l,ax p.1<1000000000)/\l.length<100000000
def s9(t:Tm):List Pw->Nat
 |[]=>0
 |p::l=>if aT p.1 t<0 then s9 t l+1 else 0
theorem Ds(t:Tm):∀l:List Pw,s9 t l<=l.length
 |[]=>by simp[s9]
 |p::l=>by
  have:=Ds t l;rw[s9]
  split <;>simp <;>omega
theorem Fj(t:Tm):∀(l:List Pw),zJ l->∀(m:Nat) (p:Pw),l[m]?=some p->(aT p.1 t<0↔m<s9 t l)
 |[],_,m,p,h=>by simp at h
 |q::l,s,m,p,h=>by
  obtain⟨s1,s2⟩:=ZQ.1 s;rw[s9]
  cases m with
  |zero=>
   simp at h;subst h
   split
   ·simp;assumption
   ·simp;omega
  |succ m=>
   have h':l[m]?=some p:=by simpa using h
   have ih:=Fj t l s2 m p h';have hm:=s1 p (ZK h')
   split
   ·rw[ih];omega
   ·rename_i hq
    constructor
    ·intro hp
     exact absurd (dM hm hp) hq
    ·intro hh;omega
def MT(t:Tm)(l:List Pw):Bool:=match l[s9 t l]? with |some p=>decide (aT p.1 t=0)|none=>false
theorem Fk(t:Tm)(n:Int):∀l:List Pw,MT t l=false->je t n l=l.take (s9 t l)++[(t,n)]++l.drop (s9 t l)
 |[],_=>by simp[je,s9]
 |p::l,h=>by
  rw[je,s9]
  by_cases hc:aT p.1 t<0
  ·have h':MT t l=false:=by
    unfold MT at h ⊢;rw[s9,if_pos hc]at h;simpa using h
   rw[if_pos hc,if_pos hc,Fk t n l h'];simp
  ·have h0:¬aT p.1 t=0:=by
    unfold MT at h;rw[s9,if_neg hc]at h;simpa using h
   rw[if_neg hc,if_neg hc,if_neg h0];simp
theorem A3(t:Tm)(n:Int):∀(l:List Pw) (p:Pw),l[s9 t l]?=some p->aT p.1 t=0->
  je t n l=if p.2+n=0 then l.take (s9 t l)++l.drop (s9 t l+1)else l.set (s9 t l) (p.1,p.2+n)
 |[],p,h,_=>by simp at h
 |q::l,p,h,h0=>by
  rw[je,s9]
  by_cases hc:aT q.1 t<0
  ·have h':l[s9 t l]?=some p:=by
    rw[s9,if_pos hc]at h;simpa using h
   rw[if_pos hc,if_pos hc,A3 t n l p h' h0]
   split <;>simp
  ·have h':q=p:=by
    rw[s9,if_neg hc]at h;simpa using h
   subst h';rw[if_neg hc,if_neg hc,if_pos h0]
   split <;>simp
theorem R.Pg{C:cK}(T:lz C.P){ops:Array Oper}{d:Nat}{ty:TypeId}{pos:String}{af:Array Edge}{r:List Oper}{ρ:Nat->PV}{L:List (Nat×PV)}{h:ab}{Q:St->Prop}{s t:TypeId}{x:Operand}{k k':IntKind}{ks:Kd}{n n':Int}
  (hx:cG L x=some (.int k n)) (hs:T.kd s=some ks) (ht:T.kd t=some (.int k')) (hw:k'.wrap n=n') (kk:ah C ops r ⟨al ((d,.int k' n')::L) ρ,h⟩ Q):ah C ops (⟨some d,.convert s t x,ty,pos,af,none⟩::r) ⟨al L ρ,h⟩ Q:=by
 obtain⟨u,hu,_⟩:=lV (T.cP _ _ hs);exact ah.eK (λrun=>by simp[ao,az,ak hx,uV,hu,m' (T.cP _ _ ht),hw]) kk
theorem R.Xf{C:cK}{ops:Array Oper}{d:Nat}{ty:TypeId}{pos:String}{af:Array Edge}{r:List Oper}{ρ:Nat->PV}{L:List (Nat×PV)}{h:ab}{Q:St->Prop}{t yt:TypeId}{x y:Operand}{k k':IntKind}{n n':Int}
  (hx:cG L x=some (.int k n)) (hy:cG L y=some (.int k' 1)) (hb:Nat.ble 1 k.bits=true) (hn:n / 2=n') (kk:ah C ops r ⟨al ((d,.int k n')::L) ρ,h⟩ Q):ah C ops (⟨some d,.binOp .shr t x y yt,ty,pos,af,none⟩::r) ⟨al L ρ,h⟩ Q:=by
 refine ah.eK (λrun=>?_) kk;have dK:=aax hb;have e1:min (1:Int).toNat k.bits=1:=by simp;omega
 simp only[ao,az,ak hx,ak hy,fe,pw];rw[if_neg (by decide)];simp only[e1];rw[<-hn,Int.fdiv_eq_ediv_of_nonneg _ (by decide)]
 rfl
theorem Ph{n:Int}(h1:0<=n)(h2:n<=9223372036854775807):IntKind.u64.wrap n=n:=by
 have:IntKind.u64.wrap n=n % 18446744073709551616:=by simp[IntKind.wrap,IntKind.bits,IntKind.signed]
 rw[this];omega
theorem Jf(p:Pw)(t:Tm)(hp:ax p.1<1000000000)(ht:ax t<1000000000):aO C 350 [uY p,enc t] (.int .i64 (aT p.1 t)):=by
 have h1:=dT p.1 t hp ht;obtain⟨⟨k,s,o,l⟩,n⟩:=p;obtain⟨k',s',o',l'⟩:=t;refine aO.of (ay.dC Tryz.func350 rfl ?_);simp only[mW,bj]at h1 ⊢;refine wXB ?_;refine R.call rfl rfl (ai.pure rfl (by simp[ar,aW]) (by simpa[aU,b9,ba]using h1) ?_);refine wXB ?_;exact⟨_,rfl,rfl⟩
theorem MU(l:List Pw)(t:Tm)(hs:zJ l)(hl:Sm l)(ht:ax t<1000000000):
  aO C 349 [.aa false (bh l),enc t,.fn 350 []] (.cm [.int .i64 (s9 t l),.bool (MT t l)]):=by
 obtain⟨xD,cH⟩:=hl;have Da:∀p∈l,aO C 350 [uY p,enc t] (.int .i64 (aT p.1 t)):=λp hp=>Jf p t (xD p hp) ht
 have hle:=Ds t l;have Mv:=Fj t l hs;have oe:MT t l=match l[s9 t l]? with |some p=>decide (aT p.1 t=0)|none=>false:=rfl
 obtain⟨tk,ts,to,tl⟩:=t;rw[bj];simp only[bj]at Da;generalize MT (.mk tk ts to tl) l=FD at oe ⊢;generalize s9 (.mk tk ts to tl) l=LB at hle Mv oe ⊢;refine aO.of (ay.dC Tryz.func349 rfl ?_);have cT:=eO l;refine wXB ?_;refine Ev.loop (I:=λk' st=>∃(i j:Nat) (ρ':Nat->PV),st=⟨al [(0,.aa false (bh l)),(2,.fn 350 []),(4,.ptr 0 0 0 0),(8,.int .i64 (bh l).length),(9,.int .i64 i),(10,.int .i64 j)] ρ',[⟨.m,0,4,[.agg [.int .i64 tk,.str ts,.int .i64 to,.aa false (ae tl)]]⟩]⟩/\k'=j - i/\i<=LB/\LB<=j/\j<=l.length) l.length ?_ ?_
 ·exact⟨0,(bh l).length,_,St.aQ ⟨rfl,rfl,rfl,rfl,rfl,rfl,trivial⟩,by omega,by omega,by omega,by omega⟩
 ·rintro k' _ ⟨i,j,ρ',rfl,hk,i1,i2,i3⟩;refine wXL (λhc=>?_) (λhc hc=>?_) λhc hc=>?_
  ·refine R.Pg T6 rfl rfl rfl (Ph (by omega) (by omega)) ?_;refine R.Xf rfl rfl rfl rfl ?_;refine R.Pg T6 rfl rfl rfl (jh (by omega) (by omega)) ?_;obtain⟨m,hm⟩:∃m:Nat,((i:Int)+j) / 2=m:=⟨(i+j) / 2,by omega⟩;rw[hm];refine wXB ?_;obtain⟨k1,s1,o1,l1,n1,eW,cV,hd,mX,ua⟩:=qY (l:=l) (i:=m) (by omega);have qo:=Da _ eW;have MV:=Mv m _ ua;simp only[mW]at qo MV;refine D.gE T6 rfl rfl rfl rfl rfl cV rfl rfl ?_;refine wXB ?_;refine D.jK rfl rfl rfl rfl rfl rfl rfl (by simpa[aU,b9,ba]using qo) ?_;refine wXE (λhc=>?_) λhc=>?_
   ·exact⟨j - (m+1),by omega,m+1,j,_,St.aQ ⟨rfl,rfl,rfl,rfl,rfl,rfl,trivial⟩,rfl,by omega,by omega,by omega⟩
   ·exact⟨m - i,by omega,i,m,_,St.aQ ⟨rfl,rfl,rfl,rfl,rfl,rfl,trivial⟩,rfl,by omega,by omega,by omega⟩
  ·have hi:i=LB:=by omega
   subst hi
   ·obtain⟨k1,s1,o1,l1,n1,eW,cV,hd,mX,ua⟩:=qY (l:=l) (i:=i) (by omega);have qo:=Da _ eW;rw[ua]at oe;simp only[mW]at qo;refine D.gE T6 rfl rfl rfl rfl rfl cV rfl rfl ?_;refine wXB ?_;refine D.jK rfl rfl rfl rfl rfl rfl rfl (by simpa[aU,b9,ba]using qo) ?_;refine wXE (λhc=>?_) λhc=>?_
    ·refine⟨_,rfl,?_⟩;rw[oe];simp only[aY,b9,aU];rw[decide_eq_true (by assumption)]
    ·refine⟨_,rfl,?_⟩;rw[oe];simp only[aY,b9,aU];rw[decide_eq_false (by assumption)]
  ·have hi:i=LB:=by omega
   subst hi;refine⟨_,rfl,?_⟩;rw[oe,ZM (by omega)]
   rfl
theorem nh(l:List Tm):((ae l).all λv=>decide ((cells v).length=4)&& (cells v).all bG)=true:=by
 rw[Zw]
 intro v hv
 rw[cU]at hv;obtain⟨⟨k,s,o,l'⟩,_,rfl⟩:=Z0.1 hv;rw[bj];rfl
theorem vA(k s o l)(hb:ax (.mk k s o l)<1000000000)(ih:∀t∈l,aO C 252 [enc t] (enc t)):aO C 252 [enc (.mk k s o l)] (enc (.mk k s o l)):=by
 refine aO.of (ay.dC Tryz.func252 rfl ?_);rw[bj];have cT:=an l;have hlen:=bD l;simp only[ax]at hb;refine wXB ?_;refine ah.heap (h':=[⟨.m,0,4,[.agg [.int .i64 k,.str s,.int .i64 o,.aa false (ae l)]]⟩,⟨.m,0,4,[.agg [.int .i64 0,.str ByteArray.empty,.int .i64 0,.aa true []]]⟩]) rfl ?_;rcases hl:l with _ |⟨t0,l0⟩
 ·refine R.call rfl rfl (ai.cu (rv:=.aa true []) (h':=[⟨.m,0,4,[.agg [.int .i64 k,.str s,.int .i64 o,.aa false (ae [])]]⟩,⟨.m,0,4,[.agg [.int .i64 0,.str ByteArray.empty,.int .i64 0,.aa true []]]⟩]) rfl rfl ?_);refine wXB ?_;refine R.hZ T6 (n:=0) (o:=⟨.m,0,4,[.agg [.int .i64 k,.str s,.int .i64 o,.aa false (ae [])]]⟩) (i:=0) (e:=.agg [.int .i64 k,.str s,.int .i64 o,.aa false (ae [])]) rfl rfl rfl rfl rfl rfl rfl rfl (Zz 4) ?_;refine ah.heap (h':=[⟨.m,0,4,[.agg [.int .i64 k,.str s,.int .i64 o,.aa true []]]⟩,⟨.m,0,4,[.agg [.int .i64 0,.str ByteArray.empty,.int .i64 0,.aa true []]]⟩]) rfl ?_;refine wXB ?_;refine Ev.loop (I:=λk' st=>∃ρ',st=⟨al [(1,.ptr 0 0 0 0),(2,.ptr 1 0 0 0),(11,.int .i64 0),(12,.int .i64 0)] ρ',[⟨.m,0,4,[.agg [.int .i64 k,.str s,.int .i64 o,.aa true []]]⟩,⟨.m,0,4,[.agg [.int .i64 0,.str ByteArray.empty,.int .i64 0,.aa true []]]⟩]⟩) 0 ⟨_,St.aQ ⟨rfl,rfl,rfl,rfl,trivial⟩⟩ ?_;rintro _ _ ⟨ρ',rfl⟩;refine wXF λhc=>?_;refine R.hZ T6 (n:=0) (o:=⟨.m,0,4,[.agg [.int .i64 0,.str ByteArray.empty,.int .i64 0,.aa true []]]⟩) (i:=0) (e:=.agg [.int .i64 0,.str ByteArray.empty,.int .i64 0,.aa true []]) rfl rfl rfl rfl rfl rfl rfl rfl (Zz 4) ?_;refine wXB ?_;exact⟨_,rfl,rfl⟩
 ·rw[<-hl];refine R.call rfl rfl (ai.cu (rv:=.aj 2 0 0 (ae l).length) (h':=[⟨.m,0,4,[.agg [.int .i64 k,.str s,.int .i64 o,.aa false (ae l)]]⟩,⟨.m,0,4,[.agg [.int .i64 0,.str ByteArray.empty,.int .i64 0,.aa true []]]⟩,⟨.m,0,4,ae l⟩]) rfl ?_ ?_)
  ·show bu 4 [.aa false (ae l)] _=_;have bI:(ae l).isEmpty=false:=by rw[hl];rfl
   simp only[bu,bI,ZJ,if_false,newObj];rw[if_pos ⟨nh l,by omega⟩]
   rfl
  rw[cT];refine wXB ?_;refine R.hZ T6 (n:=0) (o:=⟨.m,0,4,[.agg [.int .i64 k,.str s,.int .i64 o,.aa false (ae l)]]⟩) (i:=0) (e:=.agg [.int .i64 k,.str s,.int .i64 o,.aa false (ae l)]) rfl rfl rfl rfl rfl rfl rfl rfl (Zz 4) ?_;refine ah.heap (h':=[⟨.m,0,4,[.agg [.int .i64 k,.str s,.int .i64 o,.aj 2 0 0 l.length]]⟩,⟨.m,0,4,[.agg [.int .i64 0,.str ByteArray.empty,.int .i64 0,.aa true []]]⟩,⟨.m,0,4,ae l⟩]) rfl ?_;refine wXB ?_;refine R.xU T6 (o:=⟨.m,0,4,ae l⟩) rfl rfl rfl (by show 0+l.length<=(ae l).length;omega) ?_;refine wXB ?_;refine Ev.loop (I:=λk' st=>∃(i:Nat) (J:ab) (ρ':Nat->PV),st=⟨al [(1,.ptr 0 0 0 0),(2,.ptr 1 0 0 0),(10,.aj 2 0 0 l.length),(11,.int .i64 l.length),(12,.int .i64 i)] ρ',⟨.m,0,4,[.agg [.int .i64 k,.str s,.int .i64 o,.aj 2 0 0 l.length]]⟩::⟨.m,0,4,[.agg [.int .i64 0,.str ByteArray.empty,.int .i64 0,.aa true []]]⟩::⟨.m,0,4,ae l⟩::J⟩/\k'+i=l.length/\HV J) l.length ?_ ?_
  ·exact⟨0,[],_,St.aQ ⟨rfl,rfl,rfl,rfl,rfl,trivial⟩,rfl,HV.nil⟩
  ·rintro k' _ ⟨i,J,ρ',rfl,hk,hJ⟩;refine wXE (λhc=>?_) λhc=>?_
   ·obtain⟨k1,s1,o1,l1,eW,cV,hd,mX,_⟩:=fY (l:=l) (i:=i) (by omega);have yA:=ih _ eW;rw[bj]at yA;refine R.qu T6 (o:=⟨.m,0,4,ae l⟩) rfl rfl rfl rfl rfl (by omega) (by show 0+l.length<=(ae l).length;omega) ?_;have xY:(ae l)[0+i]?=some (.agg [.int .i64 k1,.str s1,.int .i64 o1,.aa false (ae l1)]):=by rw[ZS];exact cV
    refine R.kN T6 (cs:=[.int .i64 k1,.str s1,.int .i64 o1,.aa false (ae l1)]) rfl rfl rfl ?_ (by repeat constructor) ?_
    ·simp[cC,getM,cV,cells]
    have No:=hJ.ct (HV.one (ep:=0) (n:=4) (es:=[.agg [.int .i64 k1,.str s1,.int .i64 o1,.aa false (ae l1)]]) rfl);have di:aR ([⟨.m,0,4,[.agg [.int .i64 k,.str s,.int .i64 o,.aj 2 0 0 l.length]]⟩,⟨.m,0,4,[.agg [.int .i64 0,.str ByteArray.empty,.int .i64 0,.aa true []]]⟩,⟨.m,0,4,ae l⟩]++(J++[⟨.m,0,4,[.agg [.int .i64 k1,.str s1,.int .i64 o1,.aa false (ae l1)]]⟩]))=true:=DG (by simp[bw,br,aL,bq _ _ (eR l)]) No;refine wXB ?_;refine D.jK (by assumption) rfl rfl rfl rfl rfl rfl (by simpa[aU,b9,ba]using yA) ?_;refine D.qu T6 (o:=⟨.m,0,4,ae l⟩) (by assumption) rfl rfl rfl rfl rfl (by omega) (by show 0+l.length<=(ae l).length;omega) ?_;refine D.hZ T6 (o:=⟨.m,0,4,ae l⟩) (j:=0+i) rfl rfl rfl rfl rfl rfl xY rfl rfl (Zz 4) ?_
    have j8:((⟨.m,0,4,[.agg [.int .i64 k,.str s,.int .i64 o,.aj 2 0 0 l.length]]⟩::⟨.m,0,4,[.agg [.int .i64 0,.str ByteArray.empty,.int .i64 0,.aa true []]]⟩::⟨.m,0,4,ae l⟩::J)++[⟨.m,0,4,[.agg [.int .i64 k1,.str s1,.int .i64 o1,.aa false (ae l1)]]⟩]:ab).set 2 {(⟨.m,0,4,ae l⟩:au)with es:=(⟨.m,0,4,ae l⟩:au).es.set (0+i) (eD 0 4 (.agg [.int .i64 k1,.str s1,.int .i64 o1,.aa false (ae l1)]) (.agg [.int .i64 k1,.str s1,.int .i64 o1,.aa false (ae l1)]))}=⟨.m,0,4,[.agg [.int .i64 k,.str s,.int .i64 o,.aj 2 0 0 l.length]]⟩::⟨.m,0,4,[.agg [.int .i64 0,.str ByteArray.empty,.int .i64 0,.aa true []]]⟩::⟨.m,0,4,ae l⟩::(J++[⟨.m,0,4,[.agg [.int .i64 k1,.str s1,.int .i64 o1,.aa false (ae l1)]]⟩]):=by
     have:(ae l).set (0+i) (.agg [.int .i64 k1,.str s1,.int .i64 o1,.aa false (ae l1)])=ae l:=by
      have cz:=ag xY;rw[Zy cz]at xY;rw[<-Zu xY];exact abI cz
     show⟨.m,0,4,[.agg [.int .i64 k,.str s,.int .i64 o,.aj 2 0 0 l.length]]⟩::⟨.m,0,4,[.agg [.int .i64 0,.str ByteArray.empty,.int .i64 0,.aa true []]]⟩::({(⟨.m,0,4,ae l⟩:au)with es:=(ae l).set (0+i) (.agg [.int .i64 k1,.str s1,.int .i64 o1,.aa false (ae l1)])}:au)::(J++[_])=_;rw[this]
    refine aV.heap j8 ?_;refine wXB ?_;exact⟨k' - 1,by omega,i+1,_,_,St.aQ ⟨rfl,rfl,rfl,rfl,rfl,trivial⟩,by omega,No⟩
   ·refine R.hZ T6 (n:=0) (o:=⟨.m,0,4,[.agg [.int .i64 0,.str ByteArray.empty,.int .i64 0,.aa true []]]⟩) (i:=0) (e:=.agg [.int .i64 0,.str ByteArray.empty,.int .i64 0,.aa true []]) rfl rfl rfl rfl rfl rfl rfl rfl (Zz 4) ?_;refine ah.heap (h':=⟨.m,0,4,[.agg [.int .i64 k,.str s,.int .i64 o,.aj 2 0 0 l.length]]⟩::⟨.m,0,4,[.agg [.int .i64 k,.str s,.int .i64 o,.aj 2 0 0 l.length]]⟩::⟨.m,0,4,ae l⟩::J) rfl ?_;refine wXB ?_;refine⟨.agg [.int .i64 k,.str s,.int .i64 o,.aa false (ae l)],?_,by simp[b9,aU,ba]⟩;have ht:(ae l).take l.length=ae l:=by rw[<-cT];exact aap
    simp[rb,ly,cells,aY];simp[nW,qi,getM,eR,aW,ht,cT]
theorem mw(t:Tm)(hb:ax t<1000000000):aO C 252 [enc t] (enc t):=by
 induction t using Tm.ind with
 |h k s o l ih=>exact vA k s o l hb (λt ht=>ih t ht (by have:=bN ht;simp only[ax]at hb;omega))
theorem BR(l:List Pw):(bh l).all (jT 5)=true:=by
 rw[Zw]
 intro v hv
 obtain⟨⟨⟨k,s,o,l'⟩,n⟩,_,rfl⟩:=Z0.1 hv
 rfl
theorem Hw(l:List Pw)(j:Nat)(p:Pw):(bh l).take j++[uY p]++(bh l).drop j=bh (l.take j++[p]++l.drop j):=by simp[bh]
theorem Hx(l:List Pw)(j:Nat):(bh l).take j++(bh l).drop (j+1)=bh (l.take j++l.drop (j+1)):=by simp[bh]
theorem GZ(l:List Pw)(t:Tm)(n:Int)(H:ab)(v:PV)(hH:HV H)(ho:Out 5 H v (bh l))(hs:zJ l)(hl:Sm l)(ht:ax t<1000000000)(hB:Bd 1000000000 l)(hn: -1000000000<=n/\n<=1000000000):
  ay C 310 [v,uY (t,n)] H (λr h'=>LP H v 5 (bh (je t n l)) r h'):=by
 have Hy:=MU l t hs hl ht;have di:=mw t ht;have hle:=Ds t l;have zP:=Fk t n l;have N0:=A3 t n l;have oe:MT t l=match l[s9 t l]? with |some p=>decide (aT p.1 t=0)|none=>false:=rfl
 have cT:=eO l;have cH:=hl.2;obtain⟨k,s,o,tl⟩:=t;refine ay.dC Tryz.func310 rfl ?_;rw[mW];rw[bj]at Hy di;generalize hLB:s9 (.mk k s o tl) l=LB at Hy hle zP N0 oe;refine wXB ?_;obtain⟨H1,lA⟩:∃x,x=H++[⟨.m,0,5,[.agg [.int .i64 k,.str s,.int .i64 o,.aa false (ae tl),.int .i64 n]]⟩]:=⟨_,rfl⟩;have v1:HV H1:=by rw[lA];exact hH.ct (HV.one rfl)
 have b1:H1[H.length]?=some ⟨.m,0,5,[.agg [.int .i64 k,.str s,.int .i64 o,.aa false (ae tl),.int .i64 n]]⟩:=by rw[lA];simp
 have g1:H1.length=H.length+1:=by rw[lA];simp
 have p1:∀j,j<H.length->H1[j]?=H[j]?:=λj hj=>by rw[lA,Zv hj]
 have o1:Out 5 H1 v (bh l):=by rw[lA];exact ho.ct _
 have nv:∀ep n,v≠.aj H.length ep 0 n:=by
  rcases ho with⟨rfl,_⟩|⟨id,ep,rfl,e2⟩
  ·intro ep n hh;cases hh
  ·intro gV n' hh
   have:=ag e2
   cases hh;omega
 refine ah.heap lA.symm ?_;clear lA
 skip
 refine R.call rfl rfl (ai.out rfl o1 (mY l) (by simp[ar,aW]) (by simpa[aU,b9,ba,qm]using Hy) rfl ?_);have fin:∀{r:PV} {h':ab} {es:List PV},LP H1 v 5 es r h'->LP H v 5 es r h':=λ{r h' es} a=>⟨a.out,a.hv,by have:=a.len;omega,λj hj bI=>by rw[a.fr j (by omega) bI,p1 j hj],λj ep n hh=>(a.ref j ep n hh).elim .inl (λhh=>.inr (by omega))⟩
 cases hf:MT (.mk k s o tl) l
 ·rw[zP hf];refine wXB ?_;refine D.jK v1.closed rfl rfl rfl rfl rfl rfl (by simpa[aU,b9,ba]using di) ?_;refine wXB ?_;refine D.buildSlice T6 v1.closed rfl rfl rfl rfl rfl (by decide) rfl rfl rfl rfl rfl ?_;obtain⟨rv,h',e1,e2⟩:=wi (full:=true) (e:=.agg [.int .i64 k,.str s,.int .i64 o,.aa false (ae tl),.int .i64 n]) (j:=LB) o1 v1 (by omega) (by omega) (BR l) rfl;refine D.call rfl rfl rfl (ai.cu rfl e1 ?_);refine wXB ?_;rw[<-mW,Hw]at e2;exact fin e2
 ·rw[hf]at oe
  obtain⟨p,hp,N1⟩:∃p,l[LB]?=some p/\aT p.1 (.mk k s o tl)=0:=by
   cases hg:l[LB]? with
   |none=>rw[hg]at oe;cases oe
   |some p=>rw[hg]at oe;exact⟨p,rfl,of_decide_eq_true oe.symm⟩
  have cz:=ag hp;have eW:=ZK hp;have MK:=hB _ eW;rw[N0 p hp N1];obtain⟨⟨k1,s1,I6,l1⟩,n1⟩:=p;simp only at MK
  have cV:(bh l)[0+LB]?=some (.agg [.int .i64 k1,.str s1,.int .i64 I6,.aa false (ae l1),.int .i64 n1]):=by
   rw[ZS,bh,ZP,hp];rfl
  rcases o1 with⟨_,e1⟩|⟨id,ep,rfl,e1⟩
  ·rw[e1]at cT;simp at cT;omega
  have bT:id≠H.length:=λhh=>nv ep (bh l).length (by rw[hh])
  have Vj:=ag e1;have Sj:=v1.closed;have ia:=v1.PL Vj
  have hpc:cC H1 (.ptr id ep (0+LB) (0+4))=some [.int .i64 n1]:=by
   simp only[cC,bg e1 rfl (by simp),cV];rfl
  refine wXB ?_;refine D.qu T6 (o:=⟨.m,ep,5,bh l⟩) Sj rfl rfl rfl (bg e1 rfl (by simp)) rfl (by omega) (by show 0+(bh l).length<=(bh l).length;omega) ?_;refine wXB ?_;refine D.fF T6 Sj rfl ia rfl rfl hpc ?_;refine wXB ?_;refine D.qu T6 (o:=⟨.m,ep,5,bh l⟩) Sj rfl rfl rfl (bg e1 rfl (by simp)) rfl (by omega) (by show 0+(bh l).length<=(bh l).length;omega) ?_;refine wXB ?_;refine D.hZ T6 (o:=⟨.m,ep,5,bh l⟩) (j:=0+LB) rfl rfl rfl rfl (bg e1 rfl (by simp)) rfl cV rfl rfl (Zz 5) ?_;obtain⟨H2,nN⟩:∃x,x=H1.set id ⟨.m,ep,5,bh (l.set LB (.mk k1 s1 I6 l1,n1+n))⟩:=⟨_,rfl⟩
  have j8:H1.set id {(⟨.m,ep,5,bh l⟩:au)with es:=(bh l).set (0+LB) (eD (0+4) 1 (.agg [.int .i64 k1,.str s1,.int .i64 I6,.aa false (ae l1),.int .i64 n1]) (.int .i64 (n1+n)))}=H2:=by
   rw[nN,ZS]
   congr 2
   unfold bh;rw[List.map_set]
   rfl
  refine aV.heap j8 ?_;have e2:H2[id]?=some ⟨.m,ep,5,bh (l.set LB (.mk k1 s1 I6 l1,n1+n))⟩:=by rw[nN];exact ZB Vj
  have v2:HV H2:=by rw[nN];exact v1.set id (by simp) (mY _)
  have g2:H2.length=H.length+1:=by rw[nN];simp[g1]
  have p2:∀j,j≠id->j<H1.length->H2[j]?=H1[j]?:=λj hj _=>by rw[nN];exact ZC (aak hj)
  have qw:(bh (l.set LB (.mk k1 s1 I6 l1,n1+n))).length=(bh l).length:=by rw[eO,eO];simp
  have oz:(bh (l.set LB (.mk k1 s1 I6 l1,n1+n)))[0+LB]?=some (.agg [.int .i64 k1,.str s1,.int .i64 I6,.aa false (ae l1),.int .i64 (n1+n)]):=by
   rw[ZS,bh,ZP,ZB cz];rfl
  have Yu:cC H2 (.ptr id ep (0+LB) (0+4))=some [.int .i64 (n1+n)]:=by
   simp only[cC,bg e2 rfl (by simp),oz];rfl
  clear j8 nN;refine wXB ?_;refine R.qu T6 (o:=⟨.m,ep,5,bh (l.set LB (.mk k1 s1 I6 l1,n1+n))⟩) rfl rfl rfl (bg e2 rfl (by simp)) rfl (by omega) (by show 0+(bh l).length<=(bh _).length;omega) ?_;refine wXB ?_;refine R.fF T6 rfl rfl rfl Yu ?_;refine wXE (λhc=>?_) λhc=>?_
  ·rw[if_pos (by assumption)];obtain⟨rv,h',e3,e4⟩:=wj (j:=LB) e2 v2 (by rw[qw];omega) (by rw[qw];omega) (BR _);rw[qw]at e3 e4;refine R.call rfl rfl (ai.cu rfl e3 ?_);refine wXB ?_
   have Yv:bh ((l.set LB (.mk k1 s1 I6 l1,n1+n)).take LB++(l.set LB (.mk k1 s1 I6 l1,n1+n)).drop (LB+1))=bh (l.take LB++l.drop (LB+1)):=by
    rw[List.take_set_of_le (Zz LB),List.drop_set_of_lt (by omega)]
   rw[Hx,Yv]at e4;exact fin ⟨e4.out,e4.hv,by have:=e4.len;omega,λj hj bI=>by rw[e4.fr j (by omega) bI,p2 j (λhh=>bI ep (bh l).length (by rw[hh])) hj],λj ep n hh=>(e4.ref j ep n hh).elim .inl (λhh=>.inr (by omega))⟩
  ·rw[if_neg (by assumption)];refine fin ⟨.inr ⟨id,ep,by rw[qw];rfl,e2⟩,v2,by omega,λj hj bI=>p2 j (λhh=>bI ep (bh l).length (by rw[hh])) hj,λj gV n' hh=>.inl ⟨gV,n',hh⟩⟩
structure CI(a:List Pw)(N:Int):Prop where
 AU:zJ a
 nz:Nz a
 sm:∀p∈a,ax p.1<1000000000
 len:(a.length:Int)+N<=10000000
 bd:∃B:Int,0<=B/\B+N<=10000000/\Bd B a
theorem CI.Sm{a:List Pw}{N:Int}(c:CI a N)(h:0<=N):Sm a:=⟨c.sm,by have:=c.len;omega⟩
theorem CI.Bd{a:List Pw}{N:Int}(c:CI a N)(h:0<=N):Bd 1000000000 a:=by
 obtain⟨B,h1,h2,h3⟩:=c.bd
 intro p hp
 have:=h3 p hp;omega
theorem CI.le{a:List Pw}{N M:Int}(c:CI a N)(h:M<=N):CI a M:=by
 obtain⟨B,h1,h2,h3⟩:=c.bd;exact⟨c.AU,c.nz,c.sm,by have:=c.len;omega,B,h1,by omega,h3⟩
theorem CI.fU{a:List Pw}{N:Int}{t:Tm}{n:Int}(c:CI a (size t+N))(hb:ax t<1000000000)(hn:n=1\/n=-1):CI (fU a t n) N:=by
 obtain⟨B,h1,h2,h3⟩:=c.bd;obtain⟨g1,g2,_⟩:=Gl t a n c.AU c.nz (by omega);have hs:=gj t;refine⟨g1,g2,?_,?_,B+size t,by omega,by omega,Gn t a n B (by omega) (by omega) h1 h3⟩
 ·refine AZ (Q:=λt=>ax t<1000000000) (P:=λt=>ax t<1000000000) (λ_ _ _ _ h _=>h) ?_ t a n hb c.sm
  intro k s o l h u hu
  have:=bN hu;simp only[ax]at h;omega
 ·have:=wP t a n;have:=c.len;omega
theorem CI.nil:CI [] 10000000:=⟨by simp[zJ],(λp hp=>by cases hp),(λp hp=>by cases hp),by simp,0,by omega,by omega,(λp hp=>by cases hp)⟩
def F3(t:Tm):List Pw×Int:=if valid t≠0 then([],valid t)else if arity t=false then([],6)else if 200<(fU [] t 1).length then([],3)else(fU [] t 1,0)
structure xH(H:ab)(n d:Int):Prop where
 f1:H[1]?=some ⟨.m,0,1,[.int .i64 n]⟩
 f2:H[2]?=some ⟨.m,0,1,[.int .i64 d]⟩
 hv:HV H
 len:3<=H.length
def Wu(H:ab)(t:Tm)(uy n d:Int)(r:PV)(h':ab):Prop:=r=.int .i64 (nodes t)/\∃n' d',xH h' n' d'/\H.length<=h'.length/\(∀j,j≠1->j≠2->j<H.length->h'[j]?=H[j]?)/\(nodes t=0->n'=n+size t/\d'=max d (uy - 1+depth t))
theorem xH.ct{H:ab}{n d:Int}(c:xH H n d){K:ab}(hK:HV K):xH (H++K) n d:=by
 have:=c.len;exact⟨by rw[Zv (by omega)];exact c.f1,by rw[Zv (by omega)];exact c.f2,c.hv.ct hK,by simp;omega⟩
theorem xH.Xq{H:ab}{n d:Int}(c:xH H n d)(n':Int):xH (H.set 1 ⟨.m,0,1,[.int .i64 n']⟩) n' d:=by
 have:=c.len;exact⟨ZB (by omega),by rw[ZC (by omega)];exact c.f2,c.hv.set 1 (by simp) rfl,by simp;omega⟩
theorem xH.Xr{H:ab}{n d:Int}(c:xH H n d)(d':Int):xH (H.set 2 ⟨.m,0,1,[.int .i64 d']⟩) n d':=by
 have:=c.len;exact⟨by rw[ZC (by omega)];exact c.f1,ZB (by omega),c.hv.set 2 (by simp) rfl,by simp;omega⟩
theorem xH.take{H:ab}{n d:Int}(c:xH H n d)(m:Nat)(hm:3<=m):xH (H.take m) n d:=by
 have:=c.len;exact⟨by rw[aaa (by omega)];exact c.f1,by rw[aaa (by omega)];exact c.f2,λo ho=>c.hv o (aae ho),by simp;omega⟩
theorem Jq(k s o l)(hb:ax (.mk k s o l)<1000000000)
  (ih:∀t∈l,∀(H:ab) (uy n d:Int),xH H n d->0<=n->n+size t<=1000000000->0<=d->d<=1000000000->0<=uy->uy+depth t<=1000000000->ay C 152 [enc t,.int .i64 uy,.ptr 1 0 0 0,.ptr 2 0 0 0] H (Wu H t uy n d))
  (H:ab) (uy n d:Int) (hH:xH H n d) (n0:0<=n) (n1:n+size (.mk k s o l)<=1000000000) (d0:0<=d) (d1:d<=1000000000) (l0:0<=uy) (l1:uy+depth (.mk k s o l)<=1000000000):
  ay C 152 [enc (.mk k s o l),.int .i64 uy,.ptr 1 0 0 0,.ptr 2 0 0 0] H (Wu H (.mk k s o l) uy n d):=by
 refine ay.dC Tryz.func152 rfl ?_;rw[bj];have hlen:=bD l;have cT:=an l;have gm:=cW l;have hds:=iT l;have Dx:s.size<1000000000:=by simp only[ax]at hb;omega
 have My:bz l<1000000000:=by simp only[ax]at hb;omega
 simp only[size]at n1;simp only[depth]at l1;have hHl:=hH.len;refine wXB ?_;obtain⟨H1,lA⟩:∃x,x=H++[⟨.m,0,4,[.agg [.int .i64 k,.str s,.int .i64 o,.aa false (ae l)]]⟩]:=⟨_,rfl⟩;have c1:xH H1 n d:=by rw[lA];exact hH.ct (HV.one rfl)
 have b1:H1[H.length]?=some ⟨.m,0,4,[.agg [.int .i64 k,.str s,.int .i64 o,.aa false (ae l)]]⟩:=by rw[lA];simp
 have g1:H1.length=H.length+1:=by rw[lA];simp
 have p1:∀j,j<H.length->H1[j]?=H[j]?:=λj hj=>by rw[lA,Zv hj]
 refine ah.heap lA.symm ?_;clear lA;have u1:=c1.f1;have u2:=c1.f2;refine wXB ?_;refine R.hZ T6 (n:=0) (o:=⟨.m,0,1,[.int .i64 n]⟩) (i:=0) (e:=.int .i64 n) rfl rfl rfl (bg u1 rfl (by simp)) rfl rfl rfl rfl (Zz 1) ?_;obtain⟨H2,nN⟩:∃x,x=H1.set 1 ⟨.m,0,1,[.int .i64 (n+1)]⟩:=⟨_,rfl⟩;have c2:xH H2 (n+1) d:=by rw[nN];exact c1.Xq _
 have b2:H2[H.length]?=some ⟨.m,0,4,[.agg [.int .i64 k,.str s,.int .i64 o,.aa false (ae l)]]⟩:=by rw[nN,ZC (by omega)];exact b1
 have g2:H2.length=H.length+1:=by rw[nN];simp[g1]
 have p2:∀j,j≠1->j<H.length->H2[j]?=H[j]?:=λj h1 hj=>by rw[nN,ZC (by omega)];exact p1 j hj
 refine ah.heap nN.symm ?_;clear nN c1 b1 g1 p1 u1 u2;have u1:=c2.f1;have u2:=c2.f2;refine wXB ?_;refine R.hZ T6 (n:=0) (o:=⟨.m,0,1,[.int .i64 d]⟩) (i:=0) (e:=.int .i64 d) rfl rfl rfl (bg u2 rfl (by simp)) rfl rfl rfl rfl (Zz 1) ?_;obtain⟨H3,Pr⟩:∃x,x=H2.set 2 ⟨.m,0,1,[.int .i64 (max d uy)]⟩:=⟨_,rfl⟩;have c3:xH H3 (n+1) (max d uy):=by rw[Pr];exact c2.Xr _
 have b3:H3[H.length]?=some ⟨.m,0,4,[.agg [.int .i64 k,.str s,.int .i64 o,.aa false (ae l)]]⟩:=by rw[Pr,ZC (by omega)];exact b2
 have g3:H3.length=H.length+1:=by rw[Pr];simp[g2]
 have p3:∀j,j≠1->j≠2->j<H.length->H3[j]?=H[j]?:=λj h1 h2 hj=>by rw[Pr,ZC (by omega)];exact p2 j h1 hj
 refine ah.heap Pr.symm ?_;clear Pr c2 b2 g2 p2 u1 u2
 have bad:∀e:Int,node (.mk k s o l)=e->e≠0->Wu H (.mk k s o l) uy n d (.int .i64 e) H3:=λe h1 h2=>by
  have:nodes (.mk k s o l)=e:=by rw[nodes,if_pos (by rw[h1];exact h2),h1]
  exact⟨by rw[this],_,_,c3,by omega,p3,λh=>absurd (this▸h) h2⟩
 (repeat' (first |refine ah.nil ?_ |(apply R.uz;exact rfl;exact rfl;exact rfl)|(apply R.mr;exact rfl;exact rfl;exact rfl)|(apply R.move;exact rfl)|(apply R.assign;exact rfl)|(apply R.iy;exact rfl;exact rfl)|(apply R.gO;exact rfl;exact rfl)|(apply R.fieldAddr T6;exact rfl;exact rfl;exact rfl;exact rfl)|(apply R.cmp;exact rfl;exact rfl;exact rfl;all_goals intro hc;all_goals(try(exfalso;omega)))|(apply R.qt T6;exact rfl;exact rfl)|(apply R.ov T6;exact rfl;exact rfl;exact rfl;exact(by assumption);exact rfl)|refine Ev.seq ?_ |refine Ev.region ?_ |(apply Ev.iz;exact rfl)|refine Ev.ret ?_ |refine Ev.skip ?_ |refine Ev.block ?_ |refine aE.normal ?_ |refine aE.ret ?_ |refine aC.normal ?_ |refine aC.ret ?_ |(apply aJ.ret;exact rfl)|fail))
 all_goals try(refine bad 1 ?_ (by decide);rw[node,if_pos (by omega)])
 all_goals(refine R.call rfl rfl (ai.pure rfl rfl (Dy s Dx) ?_);cases hN:eF s <;>(repeat' (first |refine ah.nil ?_ |(apply R.move;exact rfl)|(apply R.assign;exact rfl)|(apply R.fieldAddr T6;exact rfl;exact rfl;exact rfl;exact rfl)|(apply R.cmp;exact rfl;exact rfl;exact rfl;all_goals intro hc;all_goals(try(exfalso;omega)))|(apply R.not;exact rfl;exact rfl)|(apply R.qt T6;exact rfl;exact rfl)|(apply R.ov T6;exact rfl;exact rfl;exact rfl;exact(by assumption);exact rfl)|refine Ev.seq ?_ |refine Ev.region ?_ |(apply Ev.iz;exact rfl)|refine Ev.ret ?_ |refine Ev.skip ?_ |refine Ev.block ?_ |refine aE.normal ?_ |refine aE.ret ?_ |(apply aJ.ret;exact rfl)|fail)))
 all_goals try(refine bad 2 ?_ (by decide);rw[node,if_neg (by omega),if_pos hN])
 all_goals try(refine bad 3 ?_ (by decide);rw[node,if_neg (by omega),if_neg (by rw[hN];simp),if_pos (by omega)])
 all_goals(
  have zP:node (.mk k s o l)=0:=by rw[node,if_neg (by omega),if_neg (by rw[hN];simp),if_neg (by omega)]
  have h0:nodes (.mk k s o l)=iO l:=by rw[nodes,if_neg (by rw[zP];simp)]
  clear bad hc
  refine Ev.loop (I:=λk' st=>∃(i:Nat) (Hc:ab) (nc dc:Int) (ρ':Nat->PV),st=⟨al [(1,.int .i64 uy),(2,.ptr 1 0 0 0),(3,.ptr 2 0 0 0),(4,.ptr H.length 0 0 0),(57,.aa false (ae l)),(58,.int .i64 (ae l).length),(59,.int .i64 i)] ρ',Hc⟩/\k'+i=l.length/\
   xH Hc nc dc/\Hc[H.length]?=some ⟨.m,0,4,[.agg [.int .i64 k,.str s,.int .i64 o,.aa false (ae l)]]⟩/\H.length<Hc.length/\(∀j,j≠1->j≠2->j<H.length->Hc[j]?=H[j]?)/\0<=nc/\nc+dJ (l.drop i)=n+1+dJ l/\uy<=dc/\dc<=1000000000/\max dc (uy+gD (l.drop i))=max d (uy+gD l)/\iO l=iO (l.drop i)) l.length ?_ ?_
  ·exact⟨0,H3,_,_,_,St.aQ ⟨rfl,rfl,rfl,rfl,rfl,rfl,rfl,trivial⟩,rfl,c3,b3,by omega,p3,by omega,rfl,by omega,by omega,by simp only[aaA];omega,rfl⟩
  ·clear c3 b3 g3 p3;rintro k' _ ⟨i,Hc,nc,dc,ρ',rfl,hk,c4,b4,g4,p4,m0,m1,m2,m3,m4,dK⟩;refine wXE (λhc=>?_) λhc=>?_
   ·obtain⟨k1,s1,o1,Xs,eW,cV,hd,mX,_⟩:=fY hc;refine R.gE T6 rfl rfl rfl rfl cV rfl rfl ?_;have Dd:=cW (l.drop (i+1));have Zb:=iT (l.drop (i+1));have Ps:=qn _ eW;have IX:=gj (.mk k1 s1 o1 Xs);have Un:=ni (.mk k1 s1 o1 Xs);rw[hd,dJ]at m1;rw[hd,gD]at m4;rw[hd,iO]at dK;refine wXB ?_;obtain⟨H5,Uo⟩:∃x,x=Hc++[⟨.m,0,4,[.agg [.int .i64 k1,.str s1,.int .i64 o1,.aa false (ae Xs)]]⟩]:=⟨_,rfl⟩;have c5:xH H5 nc dc:=by rw[Uo];exact c4.ct (HV.one rfl)
    have b5:H5[H.length]?=some ⟨.m,0,4,[.agg [.int .i64 k,.str s,.int .i64 o,.aa false (ae l)]]⟩:=by rw[Uo,Zv (by omega)];exact b4
    have g5:H5.length=Hc.length+1:=by rw[Uo];simp
    have p5:∀j,j≠1->j≠2->j<H.length->H5[j]?=H[j]?:=λj h1 h2 hj=>by rw[Uo,Zv (by omega)];exact p4 j h1 h2 hj
    have yA:=ih _ eW H5 (uy+1) nc dc c5 m0 (by omega) (by omega) m3 (by omega) (by omega);rw[bj]at yA;refine R.call rfl rfl (ai.ra rfl Uo.symm rfl rfl yA ?_);rintro r h' ⟨rfl,n',d',c6,g6,p6,e6⟩;refine⟨c6.hv,λ_=>?_,λhf=>Bool.noConfusion hf⟩;have c7:=c6.take H5.length (by omega);have b7:(h'.take H5.length)[H.length]?=some ⟨.m,0,4,[.agg [.int .i64 k,.str s,.int .i64 o,.aa false (ae l)]]⟩:=by rw[aaa (by omega),p6 _ (by omega) (by omega) (by omega)];exact b5
    have g7:(h'.take H5.length).length=H5.length:=by simp;omega
    have p7:∀j,j≠1->j≠2->j<H.length->(h'.take H5.length)[j]?=H[j]?:=λj h1 h2 hj=>by rw[aaa (by omega),p6 j h1 h2 (by omega)];exact p5 j h1 h2 hj
    generalize h'.take H5.length=H7 at c7 b7 g7 p7 ⊢;clear c6 p6;refine wXE (λhc=>?_) λhc=>?_
    ·have bI:=hc;rw[if_pos bI]at dK;exact⟨by rw[h0,dK];rfl,_,_,c7,by omega,p7,λh=>absurd (by rw[<-dK,<-h0];exact h) bI⟩
    ·rw[if_neg (by assumption)]at dK;obtain⟨e7,e8⟩:=e6 (by omega);exact⟨k' - 1,by omega,i+1,H7,n',d',_,St.aQ ⟨rfl,rfl,rfl,rfl,rfl,rfl,rfl,trivial⟩,by omega,c7,b7,by omega,p7,by omega,by omega,by omega,by omega,by omega,dK⟩
   ·rw[jM hc]at dK m1 m4;simp only[dJ,gD,iO]at dK m1 m4;refine⟨by rw[h0,dK];rfl,_,_,c4,by omega,p4,λ_=>⟨?_,?_⟩⟩
    ·simp only[size];omega
    ·simp only[depth];omega)
theorem GP(t:Tm)(hb:ax t<1000000000):∀(H:ab) (uy n d:Int),xH H n d->0<=n->n+size t<=1000000000->0<=d->d<=1000000000->0<=uy->uy+depth t<=1000000000->ay C 152 [enc t,.int .i64 uy,.ptr 1 0 0 0,.ptr 2 0 0 0] H (Wu H t uy n d):=by
 induction t using Tm.ind with
 |h k s o l ih=>exact Jq k s o l hb (λt ht=>ih t ht (by have:=bN ht;simp only[ax]at hb;omega))
theorem fo(t:Tm)(hb:ax t<100000000):aO C 98 [enc t] (.int .i64 (valid t)):=by
 have Xt:=GP t (by omega);have gm:=gj t;have hdp:=ni t;obtain⟨k,s,o,l⟩:=t;refine aO.of (ay.dC Tryz.func98 rfl ?_);rw[bj]at Xt ⊢;refine wXB ?_;refine R.hZ T6 (n:=0) (o:=⟨.m,0,1,[.int .i64 0]⟩) (i:=0) (e:=.int .i64 0) rfl rfl rfl rfl rfl rfl rfl rfl (Zz 1) ?_
 skip
 refine R.hZ T6 (n:=0) (o:=⟨.m,0,1,[.int .i64 0]⟩) (i:=0) (e:=.int .i64 0) rfl rfl rfl rfl rfl rfl rfl rfl (Zz 1) ?_;refine ah.heap (h':=[⟨.m,0,4,[.agg [.int .i64 k,.str s,.int .i64 o,.aa false (ae l)]]⟩,⟨.m,0,1,[.int .i64 0]⟩,⟨.m,0,1,[.int .i64 0]⟩]) rfl ?_;refine wXB ?_
 have c0:xH [⟨.m,0,4,[.agg [.int .i64 k,.str s,.int .i64 o,.aa false (ae l)]]⟩,⟨.m,0,1,[.int .i64 0]⟩,⟨.m,0,1,[.int .i64 0]⟩] 0 0:=⟨rfl,rfl,λo ho=>by
  simp at ho;rcases ho with rfl |rfl <;>exact⟨by simp,rfl⟩,by simp⟩
 refine R.call rfl rfl (ai.ra rfl rfl rfl rfl (Xt _ 1 0 0 c0 (by omega) (by omega) (by omega) (by omega) (by omega) (by omega)) ?_);rintro r h' ⟨rfl,n',d',c6,g6,p6,e6⟩;refine⟨c6.hv,λ_=>?_,λhf=>Bool.noConfusion hf⟩;have c7:=c6.take 3 (Zz 3);refine ah.heap (h':=h'.take 3) rfl ?_;generalize h'.take 3=H7 at c7 ⊢;have u1:=c7.f1;have u2:=c7.f2;clear c6 p6 g6 Xt;have hv:nodes (.mk k s o l)≠0->valid (.mk k s o l)=nodes (.mk k s o l):=λh=>by rw[valid,if_pos h]
 have A6:nodes (.mk k s o l)=0->valid (.mk k s o l)=if 400<size (.mk k s o l)\/40<depth (.mk k s o l)then 3 else 0:=λh=>by rw[valid,if_neg (by omega)]
 refine wXQ (λhc=>?_) (λhc hc=>?_) (λhc hc hc=>?_) λhc hc hc=>?_
 ·exact⟨_,rfl,by rw[hv (by assumption)];rfl⟩
 ·have h0:nodes (.mk k s o l)=0:=by omega
  obtain⟨e7,e8⟩:=e6 h0;exact⟨_,rfl,by rw[A6 h0,if_pos (by omega)];rfl⟩
 ·have h0:nodes (.mk k s o l)=0:=by omega
  obtain⟨e7,e8⟩:=e6 h0;exact⟨_,rfl,by rw[A6 h0,if_pos (by omega)];rfl⟩
 ·have h0:nodes (.mk k s o l)=0:=by omega
  obtain⟨e7,e8⟩:=e6 h0;exact⟨_,rfl,by rw[A6 h0,if_neg (by omega)];rfl⟩
theorem LP.take{H:ab}{v:PV}{sz:Nat}{es:List PV}{r:PV}{h':ab}(a:LP H v sz es r h'){N:Nat}(hN:H.length<=N)(hr:cD N r=true):LP H v sz es r (h'.take N):=by
 refine⟨?_,a.hv.take N,by have:=a.len;simp;omega,λj hj bI=>by rw[aaa (by omega)];exact a.fr j hj bI,a.ref⟩;rcases a.out with⟨rfl,e⟩|⟨id,ep,rfl,e⟩
 ·exact .inl ⟨rfl,e⟩
 ·have:id<N:=by simpa[cD,dY]using hr
  exact .inr ⟨id,ep,rfl,by rw[aaa this];exact e⟩
theorem LP.start{H X:ab}{v:PV}{sz:Nat}{es:List PV}(o:Out sz H v es)(hH:HV H)(hX:HV X):LP H v sz es v (H++X):=
 ⟨o.ct X,hH.ct hX,by simp,λj hj _=>Zv hj,λj ep n hh=>.inl ⟨ep,n,hh⟩⟩
theorem LP.trans{H Hc X K:ab}{v vc rv:PV}{sz:Nat}{es fq:List PV}(a:LP H v sz es vc Hc)(b:LP (Hc++X) vc sz fq rv K):LP H v sz fq rv K:=by
 have h1:=a.len;have h2:=b.len;simp at h2;refine⟨b.out,b.hv,by omega,λj hj bI=>?_,λj ep n hh=>?_⟩
 ·rw[b.fr j (by simp;omega) (λep n hh=>?_),Zv (by omega),a.fr j hj bI];rcases a.ref j ep n hh with⟨gV,n',h3⟩|h3
  ·exact bI gV n' h3
  ·omega
 ·rcases b.ref j ep n hh with⟨gV,n',h3⟩|h3
  ·exact a.ref j gV n' h3
  ·simp at h3;exact .inr (by omega)
def p9(H:ab)(v:PV)(a:List Pw)(t:Tm)(n:Int)(r:PV)(h':ab):Prop:=
 if arity t=true then∃rv,r=.cm [rv,.bool true]/\LP H v 5 (bh (fU a t n)) rv h' else r=.cm [.aa true [],.bool false]/\HV h'
theorem DO(k s o l)(hb:ax (.mk k s o l)<1000000000)
  (ih:∀t∈l,∀(H:ab) (v:PV) (a:List Pw) (n:Int),HV H->Out 5 H v (bh a)->CI a (size t)->(n=1\/n=-1)->ay C 250 [v,enc t,.int .i64 n] H (p9 H v a t n))
  (H:ab) (v:PV) (a:List Pw) (n:Int) (hH:HV H) (ho:Out 5 H v (bh a)) (hc:CI a (size (.mk k s o l))) (hn:n=1\/n=-1):
  ay C 250 [v,enc (.mk k s o l),.int .i64 n] H (p9 H v a (.mk k s o l) n):=by
 have XI:=vE k s o l;have gm:=gj (.mk k s o l);have Zd:=cW l;have hlen:=bD l;have cT:=an l;have My:bz l<1000000000:=by simp only[ax]at hb;omega
 have PB:=hc
 have okP:arity (.mk k s o l)=true->∀rv h',LP H v 5 (bh (fU a (.mk k s o l) n)) rv h'->p9 H v a (.mk k s o l) n (.cm [rv,.bool true]) h':=λh rv h' hh=>by
  unfold p9;rw[if_pos h];exact⟨rv,rfl,hh⟩
 have noP:arity (.mk k s o l)=false->∀h',HV h'->p9 H v a (.mk k s o l) n (.cm [.aa true [],.bool false]) h':=λh h' hh=>by
  unfold p9;rw[if_neg (by rw[h];simp)];exact⟨rfl,hh⟩
 generalize p9 H v a (.mk k s o l) n=PP at okP noP ⊢;refine ay.dC Tryz.func250 rfl ?_;rw[bj]at XI ⊢;refine wXB ?_;obtain⟨H1,lA⟩:∃x,x=H++[⟨.m,0,4,[.agg [.int .i64 k,.str s,.int .i64 o,.aa false (ae l)]]⟩]:=⟨_,rfl⟩;have WA:LP H v 5 (bh a) v H1:=by rw[lA];exact LP.start ho hH (HV.one rfl)
 have b1:H1[H.length]?=some ⟨.m,0,4,[.agg [.int .i64 k,.str s,.int .i64 o,.aa false (ae l)]]⟩:=by rw[lA];simp
 have g1:H1.length=H.length+1:=by rw[lA];simp
 refine ah.heap lA.symm ?_
 skip
 refine R.call rfl rfl (ai.pure rfl (by simp[ar,aW]) (by simpa[aU,b9,ba]using XI) ?_)
 cases GX:de (.mk k s o l)
 ·have GY:arity (.mk k s o l)=true:=A0 GX;have QF:fU a (.mk k s o l) n=je (.mk k s o l) n a:=Dr GX a n;have kG:=GZ a (.mk k s o l) n H1 v WA.hv WA.out PB.AU (PB.Sm (by omega)) hb (PB.Bd (by omega)) (by omega);rw[mW]at kG;rw[QF]at okP;have lp0:LP H v 5 (bh a) v H:=by simpa using LP.start (X:=[]) ho hH HV.nil
  refine wXB ?_;refine R.call rfl rfl (ai.ra rfl rfl rfl rfl kG ?_)
  intro r kk hr
  refine⟨hr.hv,λhb=>?_,λhb=>?_⟩
  ·have hA:cD H1.length r=true:=by
    rcases hr.out with⟨rfl,_⟩|⟨id,ep,rfl,_⟩
    ·rfl
    ·exact hb
   have:=hr.take (Zz _) hA;rw[lA]at this;rw[lA];have:=lp0.trans this;refine wXB ?_;exact okP GY _ _ this
  ·rw[lA]at hr;have:=lp0.trans hr;refine wXB ?_;exact okP GY _ _ this
 ·have WB:arity (.mk k s o l)=if(s.toList=sY/\l.length<2)\/(s.toList=lI/\l.length≠1)\/(s.toList=sZ/\l.length≠0)then false else lK l:=by
   rw[arity,if_neg (by rw[GX];simp)]
  have h0:fU a (.mk k s o l) n=gL a l (if s.toList=lI then -n else n):=by rw[fU,if_neg (by rw[GX];simp)]
  rw[<-DP,<-vF,<-DQ]at WB;obtain⟨hk,Ns⟩:=names GX;generalize fU a (.mk k s o l) n=R0 at h0 okP;rcases Ns with⟨n1,n2,n3⟩|⟨n1,n2,n3⟩|⟨n1,n2,n3⟩ <;>refine wXE (λhc=>?_) λhc=>?_
  all_goals try(
   have GY:arity (.mk k s o l)=false:=by
    rw[WB,if_pos];first |exact .inl ⟨n1,by omega⟩|exact .inr (.inl ⟨n2,by omega⟩)|exact .inr (.inr ⟨n3,by omega⟩)
   exact noP GY _ WA.hv)
  all_goals(
   have GY:arity (.mk k s o l)=lK l:=by
    rw[WB,if_neg];rintro(⟨a,b⟩|⟨a,b⟩|⟨a,b⟩) <;>first |omega |contradiction
   obtain⟨n',JJ,JK,QF⟩:∃n',n'=(if s.toList=lI then -n else n)/\(n'=1\/n'=-1)/\R0=gL a l n':=⟨_,rfl,by split <;>omega,h0⟩
   first
    |rw[if_neg (by rw[<-vF];exact n2)]at JJ
    |(rw[if_pos (by rw[<-vF];exact n2)]at JJ;rw[<-Int.zero_sub]at JJ)
   rw[<-JJ];refine Ev.loop (I:=λk' st=>∃(i:Nat) (Hc:ab) (vc:PV) (acc:List Pw) (ρ':Nat->PV),st=⟨al [(0,vc),(2,.int .i64 n'),(52,.aa false (ae l)),(53,.int .i64 (ae l).length),(54,.int .i64 i)] ρ',Hc⟩/\k'+i=l.length/\LP H v 5 (bh acc) vc Hc/\CI acc (dJ (l.drop i))/\R0=gL acc (l.drop i) n'/\lK l=lK (l.drop i)) l.length ?_ ?_
   ·exact⟨0,H1,v,a,_,St.aQ ⟨rfl,rfl,rfl,rfl,rfl,trivial⟩,rfl,WA,PB.le (by simp only[size,aaA];omega),QF,rfl⟩
   ·clear JJ h0 QF XI WB;rintro k' _ ⟨i,Hc,vc,acc,ρ',rfl,Po,lp,PB,dK,Fy⟩;refine wXE (λhc=>?_) λhc=>?_
    ·obtain⟨k1,s1,o1,l1,eW,cV,hd,mX,_⟩:=fY hc;refine R.gE T6 rfl rfl rfl rfl cV rfl rfl ?_;rw[hd,dJ]at PB;rw[hd,gL]at dK;rw[hd,lK]at Fy;have Dd:=cW (l.drop (i+1));have PC:=bN eW;have UB:=PB.fU (n:=n') (by omega) JK;have yA:=ih _ eW (Hc++[⟨.m,0,4,[.agg [.int .i64 k1,.str s1,.int .i64 o1,.aa false (ae l1)]]⟩]) vc acc n' (lp.hv.ct (HV.one rfl)) (lp.out.ct _) (PB.le (by omega)) JK;rw[bj]at yA;refine wXB ?_;refine R.call rfl rfl (ai.ra rfl rfl rfl rfl yA ?_)
     intro r kk hr
     unfold p9 at hr
     split at hr
     ·rename_i QG
      obtain⟨rv,rfl,hr⟩:=hr;rw[if_neg (by rw[QG];simp)]at Fy;refine⟨hr.hv,λhb=>?_,λhb=>?_⟩
      ·have hA:cD (Hc++[(⟨.m,0,4,[.agg [.int .i64 k1,.str s1,.int .i64 o1,.aa false (ae l1)]]⟩:au)]).length rv=true:=by
        simp only[dZ,aaq,ZD]at hb;exact hb.1
       have XJ:=lp.trans (hr.take (Zz _) hA);refine wXB ?_;exact⟨k' - 1,by omega,i+1,_,rv,_,_,St.aQ ⟨rfl,rfl,rfl,rfl,rfl,trivial⟩,by omega,XJ,UB,dK,Fy⟩
      ·have XJ:=lp.trans hr;refine wXB ?_;exact⟨k' - 1,by omega,i+1,_,rv,_,_,St.aQ ⟨rfl,rfl,rfl,rfl,rfl,trivial⟩,by omega,XJ,UB,dK,Fy⟩
     ·rename_i QG
      obtain⟨rfl,hr⟩:=hr;rw[if_pos (by simpa using QG)]at Fy;refine⟨hr,λhb=>?_,λhb=>Bool.noConfusion hb⟩;refine wXB ?_;exact noP (by rw[GY,Fy]) _ (hr.take _)
    ·rw[jM hc]at Fy dK;rw[dK,gL]at okP;exact okP (by rw[GY,Fy,lK]) _ _ lp)
theorem Bt(t:Tm)(hb:ax t<1000000000):∀(H:ab) (v:PV) (a:List Pw) (n:Int),HV H->Out 5 H v (bh a)->CI a (size t)->(n=1\/n=-1)->ay C 250 [v,enc t,.int .i64 n] H (p9 H v a t n):=by
 induction t using Tm.ind with
 |h k s o l ih=>exact DO k s o l hb (λt ht=>ih t ht (by have:=bN ht;simp only[ax]at hb;omega))
theorem Out.ly{sz:Nat}{h:ab}{v:PV}{es:List PV}(o:Out sz h v es)(hv:ar es=true):∃r1,ly h v=some r1/\b9 r1=.aa false (aU es):=by
 rcases o with⟨rfl,rfl⟩|⟨id,ep,rfl,e2⟩
 ·exact⟨_,rfl,rfl⟩
 ·exact⟨.aa false es,by simp[Pm.ly,qi,getM,e2,hv],by simp[b9]⟩
theorem R.Dw{C:cK}(T:lz C.P){ops:Array Oper}{d:Nat}{ty:TypeId}{pos:String}{af:Array Edge}{r:List Oper}{ρ:Nat->PV}{L:List (Nat×PV)}{h:ab}{Q:St->Prop}{t el:TypeId}{x:Operand}{v:PV}{es:List PV}{sz:Nat}
  (hx:cG L x=some v) (hk:T.kd t=some (.sl el)) (o:Out sz h v es) (k:ah C ops r ⟨al ((d,(.int .i64 es.length))::L) ρ,h⟩ Q):
  ah C ops (⟨some d,.call ⟨.builtin .len,#[x],#[t]⟩,ty,pos,af,none⟩::r) ⟨al L ρ,h⟩ Q:=by
 rcases o with⟨rfl,rfl⟩|⟨id,ep,rfl,e2⟩
 ·exact R.qt T (xs:=[]) (ts:=[]) hx hk k
 ·exact R.xU T (xs:=[]) (ts:=[]) (o:=⟨.m,ep,sz,es⟩) hx hk (bg e2 rfl (by simp)) (by show 0+es.length<=es.length;omega) k
theorem Ss(t:Tm)(hb:ax t<100000000):aO C 197 [enc t] (.cm [.aa false (bh (F3 t).1),.int .i64 (F3 t).2]):=by
 have h1:=fo t hb;have QF:=Bt t (by omega);have W1:valid t=0->CI [] (size t):=λhv=>CI.nil.le (by have:=(fV.1 hv).2.1;omega)
 have hl:valid t=0->(bh (fU [] t 1)).length<1000000000:=λhv=>by
  have:=wP t [] 1;have:=(fV.1 hv).2.1;rw[eO];simp at *;omega
 have cT:=eO (fU [] t 1);have r1:valid t≠0->F3 t=([],valid t):=λh=>by rw[F3,if_pos h]
 have r2:valid t=0->arity t=false->F3 t=([],6):=λh h'=>by rw[F3,if_neg (by omega),if_pos h']
 have r3:valid t=0->arity t=true->200<(fU [] t 1).length->F3 t=([],3):=λh h' h2=>by rw[F3,if_neg (by omega),if_neg (by rw[h'];simp),if_pos h2]
 have r4:valid t=0->arity t=true->¬200<(fU [] t 1).length->F3 t=(fU [] t 1,0):=λh h' h2=>by rw[F3,if_neg (by omega),if_neg (by rw[h'];simp),if_neg h2]
 obtain⟨k,s,o,l⟩:=t;refine aO.of (ay.dC Tryz.func197 rfl ?_);rw[bj]at h1 QF ⊢;refine wXB ?_;refine R.call rfl rfl (ai.pure rfl (by simp[ar,aW]) (by simpa[aU,b9,ba]using h1) ?_);refine wXE (λhc=>?_) λhc=>?_
 ·refine⟨_,rfl,?_⟩;rw[r1 (by assumption)];rfl
 ·have h0:=Decidable.not_not.1 hc;clear hc;have hl:=hl h0;refine R.call rfl rfl (ai.ra rfl rfl rfl rfl (QF [⟨.m,0,4,[.agg [.int .i64 k,.str s,.int .i64 o,.aa false (ae l)]]⟩] (.aa true []) [] 1 (HV.one rfl) (Out.nil _ _) (W1 h0) (.inl rfl)) ?_)
  intro r kk hr
  unfold p9 at hr
  split at hr
  ·rename_i GY
   obtain⟨rv,rfl,hr⟩:=hr
   have fin:∀K:ab,LP [⟨.m,0,4,[.agg [.int .i64 k,.str s,.int .i64 o,.aa false (ae l)]]⟩] (.aa true []) 5 (bh (fU [] (.mk k s o l) 1)) rv K->¬200<(fU [] (.mk k s o l) 1).length->∃r1,rb K (aY [rv,.int .i64 0])=some r1/\b9 r1=PV.cm [PV.aa false (bh (F3 (.mk k s o l)).1),PV.int .i64 (F3 (.mk k s o l)).2]:=by
    intro K hK YQ
    obtain⟨r1,e1,e2⟩:=hK.out.ly (mY _);refine⟨.cm [r1,.int .i64 0],?_,?_⟩
    ·simp only[aY,rb,iK,e1];rfl
    ·rw[r4 h0 GY YQ];simp only[b9,aU,e2,qm]
   refine⟨hr.hv,λhb=>?_,λhb=>?_⟩
   ·have hA:cD [(⟨.m,0,4,[.agg [.int .i64 k,.str s,.int .i64 o,.aa false (ae l)]]⟩:au)].length rv=true:=by
     simp only[dZ,aaq,ZD]at hb;exact hb.1
    have hr:=hr.take (Zz _) hA;refine wXB ?_;refine R.Dw T6 rfl rfl hr.out ?_;refine wXE (λhc=>?_) λhc=>?_
    ·refine⟨_,rfl,?_⟩;rw[r3 h0 GY (by omega)];rfl
    ·exact fin _ hr (by omega)
   ·refine wXB ?_;refine R.Dw T6 rfl rfl hr.out ?_;refine wXE (λhc=>?_) λhc=>?_
    ·refine⟨_,rfl,?_⟩;rw[r3 h0 GY (by omega)];rfl
    ·exact fin _ hr (by omega)
  ·rename_i GY
   obtain⟨rfl,hr⟩:=hr;refine⟨hr,λhb=>?_,λhb=>Bool.noConfusion hb⟩;refine wXB ?_;refine⟨_,rfl,?_⟩;rw[r2 h0 (by simpa using GY)];rfl
def ka:Option Tm->List Pw->Int
 |_,[]=>0
 |pr,p::l=>if valid p.1≠0 then valid p.1 else if de p.1=true then 1 else if p.2=0\/p.2< -1000\/1000<p.2 then 7 else
  if(match pr with |some q=>decide (0<=aT q p.1)|none=>false)=true then 5 else ka (some p.1) l
theorem nB(pr:Option Tm)(p:Pw)(l:List Pw):ka pr (p::l)=if valid p.1≠0 then valid p.1 else if de p.1=true then 1 else if p.2=0\/p.2< -1000\/1000<p.2 then 7 else
  if(match pr with |some q=>decide (0<=aT q p.1)|none=>false)=true then 5 else ka (some p.1) l:=by
 cases pr <;>rfl
theorem tK(pr:Option Tm):ka pr []=0:=by cases pr <;>rfl
def lf(l:List Pw):Int:=if 200<l.length then 3 else ka none l
def P8(l:List Pw)(i:Nat):Option Tm:=match i with |0=>none |i+1=>(l[i]?).map (·.1)
set_option maxHeartbeats 8000000 in
theorem ED(l:List Pw)(hb:∀p∈l,ax p.1<100000000)(hl:l.length<100000000):aO C 251 [.aa false (bh l)] (.int .i64 (lf l)):=by
 have cT:=eO l;have r1:200<l.length->lf l=3:=λh=>by rw[lf,if_pos h]
 have r2:¬200<l.length->lf l=ka none l:=λh=>by rw[lf,if_neg h]
 refine aO.of (ay.dC Tryz.func251 rfl ?_);generalize lf l=R0 at r1 r2 ⊢;refine wXE (λhc=>?_) λhc=>?_
 ·exact⟨_,rfl,by rw[r1 (by omega)];rfl⟩
 ·have r2:=r2 (by omega);clear r1;refine Ev.loop (I:=λk' st=>∃(i:Nat) (J:ab) (ρ':Nat->PV),st=⟨al [(0,.aa false (bh l)),(9,.aa false (bh l)),(10,.int .i64 (bh l).length),(11,.int .i64 i)] ρ',J⟩/\k'+i=l.length/\HV J/\R0=ka (P8 l i) (l.drop i)) l.length ?_ ?_
  ·exact⟨0,[],_,St.aQ ⟨rfl,rfl,rfl,rfl,trivial⟩,rfl,HV.nil,r2⟩
  ·clear r2;rintro k' _ ⟨i,J,ρ',rfl,hk,hJ,dK⟩;refine wXE (λhc=>?_) λhc=>?_
   ·obtain⟨k1,s1,o1,l1,n1,eW,cV,hd,mX,ua⟩:=qY hc;have I5:=fo _ (hb _ eW);have hsy:=vE k1 s1 o1 l1;rw[hd,nB]at dK;simp only at I5 dK;rw[bj]at I5 hsy;have No:=hJ.ct (HV.one (ep:=0) (n:=5) (es:=[.agg [.int .i64 k1,.str s1,.int .i64 o1,.aa false (ae l1),.int .i64 n1]]) rfl);have di:=No.closed;clear hc;refine R.gE T6 rfl rfl rfl rfl cV rfl rfl ?_;refine wXB ?_;refine R.call rfl rfl (ai.pure rfl (by simp[ar,aW]) (by simpa[aU,b9,ba]using I5) ?_);refine wXE (λhc=>?_) λhc=>?_
    ·rw[if_pos (by assumption)]at dK;exact⟨_,rfl,by rw[dK];rfl⟩
    ·rw[if_neg (by assumption)]at dK;refine R.call rfl rfl (ai.pure rfl (by simp[ar,aW]) (by simpa[aU,b9,ba]using hsy) ?_)
     cases GX:de (.mk k1 s1 o1 l1)
     ·rw[if_neg (by rw[GX];simp)]at dK
      (repeat' (first |refine ah.nil ?_ |(apply R.uz;exact rfl;exact rfl;exact rfl)|(apply R.mr;exact rfl;exact rfl;exact rfl)|(apply R.move;exact rfl)|(apply R.assign;exact rfl)|(apply R.iy;exact rfl;exact rfl)|(apply R.gO;exact rfl;exact rfl)|(apply R.fieldAddr T6;exact rfl;exact rfl;exact rfl;exact rfl)|(apply R.cmp;exact rfl;exact rfl;exact rfl;all_goals intro hc;all_goals(try(exfalso;omega)))|(apply R.arith;exact rfl;exact rfl;exact rfl;exact(jh (by omega) (by omega)))|(apply R.uM T6;exact rfl;exact rfl;exact rfl;exact rfl)|refine Ev.seq ?_ |refine Ev.region ?_ |refine Ev.kb ?_ |refine aV.nil ?_ |(apply D.move;exact rfl)|(apply D.assign;exact rfl)|(apply D.uz;exact rfl;exact rfl;exact rfl;exact rfl)|(apply D.mr;exact rfl;exact rfl;exact rfl)|(apply D.gO;exact rfl;exact rfl)|(apply D.cmp;exact rfl;exact rfl;exact rfl;all_goals intro hc;all_goals(try(exfalso;omega)))|(apply D.arith;exact rfl;exact rfl;exact rfl;exact(jh (by omega) (by omega)))|(apply Ev.iz;exact rfl)|refine Ev.ret ?_ |refine Ev.skip ?_ |refine aE.normal ?_ |refine aE.ret ?_ |refine aC.normal ?_ |refine aC.ret ?_ |refine aI.normal ?_ |refine aI.ret ?_ |(apply aJ.ret;exact rfl)|fail))
      all_goals try(rw[if_pos (by omega)]at dK;exact⟨_,rfl,by rw[dK];rfl⟩)
      ·-- a factor before it
       rw[if_neg (by omega)]at dK;obtain⟨i',rfl⟩:∃i',i=i'+1:=⟨i - 1,by omega⟩;obtain⟨k2,s2,o2,l2,n2,VV,oz,I0,Zs,VW⟩:=qY (l:=l) (i:=i') (by omega);have qo:=dT _ _ (by have:=hb _ VV;simp only at this;omega:ax (.mk k2 s2 o2 l2)<1000000000) (by have:=hb _ eW;simp only at this;omega:ax (.mk k1 s1 o1 l1)<1000000000);rw[bj,bj]at qo;have Gj:P8 l (i'+1)=some (.mk k2 s2 o2 l2):=by simp only[P8,VW];rfl
       rw[Gj]at dK;simp only at dK;refine D.gE T6 (by assumption) rfl (congrArg (λz=>some (PV.int .i64 z)) (show((i'+1:Nat):Int) - 1=(i':Int) by omega)) rfl rfl oz rfl rfl ?_;refine wXB ?_;refine D.jK (by assumption) rfl rfl rfl rfl rfl rfl (by simpa[aU,b9,ba]using qo) ?_;refine wXE (λhc=>?_) λhc=>?_
       ·rw[if_pos (decide_eq_true (by assumption))]at dK;exact⟨_,rfl,by rw[dK];rfl⟩
       ·rw[if_neg (by rw[decide_eq_false (by assumption)];simp)]at dK;refine⟨k' - 1,by omega,i'+1+1,_,_,St.aQ ⟨rfl,rfl,rfl,rfl,trivial⟩,by omega,No,?_⟩;have:P8 l (i'+1+1)=some (.mk k1 s1 o1 l1):=by simp only[P8,ua];rfl
        rw[this];exact dK
      ·rw[if_neg (by omega)]at dK;obtain rfl:i=0:=by omega
       simp only[P8,ZJ,if_false]at dK;refine⟨k' - 1,by omega,0+1,_,_,St.aQ ⟨rfl,rfl,rfl,rfl,trivial⟩,by omega,No,?_⟩;have:P8 l (0+1)=some (.mk k1 s1 o1 l1):=by simp only[P8,ua];rfl
       rw[this];exact dK
     ·rw[if_pos GX]at dK;refine wXB ?_;exact⟨_,rfl,by rw[dK];rfl⟩
   ·rw[GD hc,tK]at dK;exact⟨_,rfl,by rw[dK];rfl⟩
end Go.Pm
namespace Go.Pm
open Go.Proofs
section
variable{C:cK}(T:lz C.P)
variable{ops:Array Oper}{d:Nat}{ty:TypeId}{pos:String}{af:Array Edge}{r:List Oper}{ρ:Nat->PV}{L:List (Nat×PV)}{h:ab}{Q:St->Prop}
set_option maxRecDepth 4000
set_option maxHeartbeats 4000000
theorem Ev.nf{c:Code}{s:St}{Q:Ex->St->Prop}(k:Ev C c s (aI (λs'=>Ev C (.loop c) s' Q) Q)):Ev C (.loop c) s Q:=by
 obtain⟨ex,s',q,n0,hn⟩:=k
 cases ex with
 |normal=>
  obtain⟨Uk,s2,q2,n1,Dc⟩:=q;refine⟨Uk,s2,q2,max n0 n1+1,λn m h1 h2=>?_⟩;obtain⟨m,rfl⟩:∃i',m=i'+1:=⟨m - 1,by omega⟩;have e1:=hn n (m+1) (by omega) (by omega);have e2:=Dc n m (by omega) (by omega);simp only[bJ]at e2 ⊢;simp only[iter,e1];exact pB (λs x hh=>vq (λ_ _ _ _ hh=>hh) (abd m) c hh) (Zz m) e2
 |exit id=>
  refine⟨_,_,q,n0+1,λn m h1 h2=>?_⟩;obtain⟨m,rfl⟩:∃i',m=i'+1:=⟨m - 1,by omega⟩;simp only[bJ,iter,hn n (m+1) (by omega) (by omega)]
 |ret=>
  refine⟨_,_,q,n0+1,λn m h1 h2=>?_⟩;obtain⟨m,rfl⟩:∃i',m=i'+1:=⟨m - 1,by omega⟩;simp only[bJ,iter,hn n (m+1) (by omega) (by omega)]
theorem R.Jo{t el:TypeId}{x:Operand}(hx:cG L x=some (.aa true []))(hk:T.kd t=some (.sl el))(k:ah C ops r ⟨al ((d,.int .i64 0)::L) ρ,h⟩ Q):
  ah C ops (⟨some d,.call ⟨.builtin .cap,#[x],#[t]⟩,ty,pos,af,none⟩::r) ⟨al L ρ,h⟩ Q:=
 ah.eK (λrun=>by simp[ao,ak hx,bo,Qg,bp (T.cP _ _ hk)]) k
theorem R.Jp{t el:TypeId}{x y:Operand}{k:IntKind}{sz:Nat}(hx:cG L x=some (.aa true []))(hy:cG L y=some (.int k 0))(hk:T.kd t=some (.sl el))(hs:T.ts el=some sz)(kk:ah C ops r ⟨al ((d,.aa true [])::L) ρ,h⟩ Q):
  ah C ops (⟨some d,.slice t x none (some y) none,ty,pos,af,none⟩::r) ⟨al L ρ,h⟩ Q:=
 ah.eK (λrun=>by simp[ao,az,ak hx,ak hy,bX,bp (T.cP _ _ hk),T.dO _ _ hs,cx]) kk
theorem R.Nf{t el:TypeId}{x y:Operand}{k:IntKind}{id ep len:Nat}{o:au}(hx:cG L x=some (.aj id ep 0 len))(hy:cG L y=some (.int k 0))(hk:T.kd t=some (.sl el))(hg:getM h id ep=some o)(hs:T.ts el=some o.bB)(hle:len<=o.es.length)(kk:ah C ops r ⟨al ((d,.aj id ep 0 0)::L) ρ,h⟩ Q):
  ah C ops (⟨some d,.slice t x none (some y) none,ty,pos,af,none⟩::r) ⟨al L ρ,h⟩ Q:=
 ah.eK (λrun=>by
  have h1:¬((len:Int)<0):=by omega
  simp[ao,az,ak hx,ak hy,bX,bp (T.cP _ _ hk),T.dO _ _ hs,beyond,h1,cx,hg,hle]) kk
theorem R.Ng{st xt el:TypeId}{sz fX n:Nat}{z:PV}{ki:IntKind}{x y:Operand}(hx:cG L x=some (.aa true []))(hy:cG L y=some (.int ki (n:Int)))(hk:T.kd st=some (.sl el))(fR:T.kd xt=some (.int ki))(hs:T.ts el=some (sz+1))(hb:T.tb el=some fX)(hz:T.tz el=some z)(jc:fX<=1000)(hl:(cells z).length=sz+1)(ho:(cells z).all bG=true)
  (Tw:0<n) (hn:n<1000000000) (kk:ah C ops r ⟨al ((d,.aj h.length 0 0 n)::L) ρ,h++[⟨.m,0,sz+1,List.replicate n z⟩]⟩ Q):
  ah C ops (⟨some d,.call ⟨.builtin .append,#[x,y],#[st,xt]⟩,ty,pos,af,none⟩::r) ⟨al L ρ,h⟩ Q:=by
 refine ah.eK (λrun=>?_) kk;have bI:(List.replicate n z).isEmpty=false:=by cases n with |zero=>omega |succ n=>rfl
 have eA:(List.replicate n z).all (λv=>decide ((cells v).length=sz+1)&& (cells v).all bG)=true:=by
  rw[Zw];intro v hv;rw[(aba.1 hv).2,hl,ho];simp
 have lY:bL C.P 2 h st xt (.aa true []) (.int ki (n:Int))=some (.aj h.length 0 0 n,h++[⟨.m,0,sz+1,List.replicate n z⟩]):=by
  unfold bL;rw[bp (T.cP _ _ hk)];simp only[T.dO _ _ hs,T.rV _ _ hb,T.mO _ _ hz,cy,m' (T.cP _ _ fR)];rw[if_pos ⟨by omega,by omega⟩];simp only[aaH];rw[if_pos ⟨by omega,by omega,⟨hl,ho⟩,eA⟩];simp only[bI,ZJ,if_false,Z',ZS,aaW,aad,newObj,aaN];rw[if_pos ⟨trivial,by omega,iS hn jc,trivial⟩]
 simp only[ao,bo,ZN,ZX,ak hx,ak hy,lY]
def Gr(H:ab)(sz:Nat)(h:ab)(v:PV)(es:List PV):Prop:=(v=.aa true []/\es=[]/\h=H)\/∃ep o,v=.aj H.length ep 0 es.length/\h=H++[⟨.m,ep,sz,o⟩]/\o.take es.length=es/\es.length<=o.length
theorem Out.ch{sz:Nat}{h:ab}{v:PV}{es:List PV}(o:Out sz h v es):ch h v=some es:=by
 rcases o with⟨rfl,rfl⟩|⟨id,ep,rfl,e2⟩
 ·rfl
 ·simp[Pm.ch,getM,e2]
def Ls(sz:Nat)(h:ab)(v:PV)(es:List PV):Prop:=Out sz h v es\/∃f,v=.aa f es
theorem Ls.ch{sz:Nat}{h:ab}{v:PV}{es:List PV}(o:Ls sz h v es):ch h v=some es:=by
 rcases o with o |⟨f,rfl⟩
 ·exact o.ch
 ·rfl
theorem Ls.ct{sz:Nat}{h:ab}{v:PV}{es:List PV}(o:Ls sz h v es)(J:ab):Ls sz (h++J) v es:=o.imp (λx=>x.ct J) id
theorem R.Fu{H:ab}{st xt el pU:TypeId}{sz fX:Nat}{z:PV}{es ys:List PV}{x y:Operand}{v u:PV}{ep:Nat}{o:List PV}(hx:cG L x=some (.aj H.length ep 0 es.length))(hy:cG L y=some u)(hk:T.kd st=some (.sl el))(fR:T.kd xt=some (.sl pU))(hs:T.ts el=some (sz+1))(hb:T.tb el=some fX)(hz:T.tz el=some z)
  (jc:fX<=1000) (hl:(cells z).length=sz+1) (ho:(cells z).all bG=true) (yy:du (sz+1) ys) (hu:Ls (sz+1) H u ys) (hn:es.length+ys.length<1000000000) (g1:o.take es.length=es) (g2:es.length<=o.length)
  (kk:∀gV o',o'.take (es++ys).length=es++ys->(es++ys).length<=o'.length->(ys≠[]->o'=es++ys)->(ys=[]->o'=o)->ah C ops r ⟨al ((d,.aj H.length gV 0 (es++ys).length)::L) ρ,H++[⟨.m,gV,sz+1,o'⟩]⟩ Q):
  ah C ops (⟨some d,.call ⟨.builtin .append,#[x,y],#[st,xt]⟩,ty,pos,af,none⟩::r) ⟨al L ρ,H++[⟨.m,ep,sz+1,o⟩]⟩ Q:=by
 have cT:=(hu.ct [⟨.m,ep,sz+1,o⟩]).ch;have hg:getM (H++[(⟨.m,ep,sz+1,o⟩:au)]) H.length ep=some ⟨.m,ep,sz+1,o⟩:=by simp[getM]
 unfold du at yy
 cases nR:ys with
 |nil=>
  subst nR;refine ah.eK (λrun=>?_) (kk ep o (by simpa using g1) (by simpa using g2) (λh=>absurd rfl h) (λ_=>rfl))
  have lY:bL C.P 2 (H++[⟨.m,ep,sz+1,o⟩]) st xt (.aj H.length ep 0 es.length) u=some (.aj H.length ep 0 (es++[]).length,H++[⟨.m,ep,sz+1,o⟩]):=by
   unfold bL;rw[bp (T.cP _ _ hk)];simp only[T.dO _ _ hs,T.rV _ _ hb,T.mO _ _ hz,cy,bp (T.cP _ _ fR),cT];rw[if_pos ⟨by omega,by omega,⟨hl,ho⟩,yy⟩];simp only[hg];rw[if_pos ⟨by omega,trivial⟩];simp
  simp only[ao,bo,ZN,ZX,ak hx,ak hy,lY]
 |cons y0 ys0=>
  have bI:ys.isEmpty=false:=by rw[nR];rfl
  refine ah.eK (λrun=>?_) (kk (ep+1) (es++ys) aap (Zz _) (λ_=>rfl) (λh=>by rw[h]at bI;cases bI))
  have lY:bL C.P 2 (H++[⟨.m,ep,sz+1,o⟩]) st xt (.aj H.length ep 0 es.length) u=some (.aj H.length (ep+1) 0 (es++ys).length,H++[⟨.m,ep+1,sz+1,es++ys⟩]):=by
   unfold bL;rw[bp (T.cP _ _ hk)];simp only[T.dO _ _ hs,T.rV _ _ hb,T.mO _ _ hz,cy,bp (T.cP _ _ fR),cT];rw[if_pos ⟨by omega,by omega,⟨hl,ho⟩,yy⟩];simp only[hg];rw[if_pos ⟨by omega,trivial⟩];simp only[bI,ZJ,if_false]
   have Nh:jD H.length u=false:=by
    rcases hu with(⟨rfl,_⟩|⟨id,gV,rfl,e2⟩)|⟨f,rfl⟩
    ·rfl
    rotate_left
    ·rfl
    ·have:=ag e2;simp[jD];omega
   rw[if_neg (by rw[Nh];simp),if_pos ⟨trivial,by omega,trivial,iS hn jc⟩,g1]
   have:(H++[(⟨.m,ep,sz+1,o⟩:au)]).set H.length ⟨.m,ep+1,sz+1,es++ys⟩=H++[⟨.m,ep+1,sz+1,es++ys⟩]:=by
    refine(aaO H.length _ (Zz _)).trans ?_;simp
   rw[this,Zx]
  simp only[ao,bo,ZN,ZX,ak hx,ak hy,lY]
theorem R.Fv{st xt el pU:TypeId}{sz fX:Nat}{z:PV}{x y:Operand}{u:PV}(hx:cG L x=some (.aa true []))(hy:cG L y=some u)(hk:T.kd st=some (.sl el))(fR:T.kd xt=some (.sl pU))(hs:T.ts el=some (sz+1))(hb:T.tb el=some fX)(hz:T.tz el=some z)
  (jc:fX<=1000) (hl:(cells z).length=sz+1) (ho:(cells z).all bG=true) (hu:Ls (sz+1) h u []) (kk:ah C ops r ⟨al ((d,.aa true [])::L) ρ,h⟩ Q):
  ah C ops (⟨some d,.call ⟨.builtin .append,#[x,y],#[st,xt]⟩,ty,pos,af,none⟩::r) ⟨al L ρ,h⟩ Q:=by
 refine ah.eK (λrun=>?_) kk;have cT:=hu.ch
 have lY:bL C.P 2 h st xt (.aa true []) u=some (.aa true [],h):=by
  unfold bL;rw[bp (T.cP _ _ hk)];simp only[T.dO _ _ hs,T.rV _ _ hb,T.mO _ _ hz,cy,bp (T.cP _ _ fR),cT];rw[if_pos ⟨by omega,by omega,⟨hl,ho⟩,rfl⟩]
  rfl
 simp only[ao,bo,ZN,ZX,ak hx,ak hy,lY]
end
section
variable{C:cK}(T:lz C.P)
set_option maxRecDepth 4000
set_option maxHeartbeats 4000000
def X2(H:ab)(x v1 v2:PV):Prop:=x=.aa true [v1,v2]\/∃id,x=.aj id 0 0 2/\H[id]?=some ⟨.m,0,1,[v1,v2]⟩
theorem X2.ct{H:ab}{x v1 v2:PV}(a:X2 H x v1 v2)(J:ab):X2 (H++J) x v1 v2:=by
 rcases a with a |⟨id,e1,e2⟩
 ·exact .inl a
 ·exact .inr ⟨id,e1,by rw[Zv (ag e2)];exact e2⟩
theorem Out.cells{sz:Nat}{h:ab}{v:PV}{es:List PV}(o:Out sz h v es):cells v=[v]:=by
 rcases o with⟨rfl,rfl⟩|⟨id,ep,rfl,e2⟩ <;>rfl
theorem Ls.cells{sz:Nat}{h:ab}{v:PV}{es:List PV}(o:Ls sz h v es):Pm.cells v=[v]:=by
 rcases o with o |⟨f,rfl⟩
 ·exact o.cells
 ·rfl
theorem R.Pq{ops:Array Oper}{d:Nat}{ty:TypeId}{pos:String}{af:Array Edge}{r:List Oper}{ρ:Nat->PV}{L:List (Nat×PV)}{h:ab}{Q:St->Prop}{t el:TypeId}{x:Operand}{v:PV}{es:List PV}{sz:Nat}(hx:cG L x=some v)(hk:T.kd t=some (.sl el))(o:Ls sz h v es)(k:ah C ops r ⟨al ((d,(.int .i64 es.length))::L) ρ,h⟩ Q):
  ah C ops (⟨some d,.call ⟨.builtin .len,#[x],#[t]⟩,ty,pos,af,none⟩::r) ⟨al L ρ,h⟩ Q:=by
 rcases o with o |⟨f,rfl⟩
 ·exact R.Dw T hx hk o k
 ·exact R.qt T (xs:=[]) (ts:=[]) hx hk k
theorem R.Qv{ops:Array Oper}{d:Nat}{ty:TypeId}{pos:String}{af:Array Edge}{r:List Oper}{ρ:Nat->PV}{L:List (Nat×PV)}{h:ab}{Q:St->Prop}{t el:TypeId}{x:Operand}{u v1 v2:PV}
  (hx:cG L x=some u) (hk:T.kd t=some (.sl el)) (a:X2 h u v1 v2) (k:ah C ops r ⟨al ((d,(.int .i64 2))::L) ρ,h⟩ Q):
  ah C ops (⟨some d,.call ⟨.builtin .len,#[x],#[t]⟩,ty,pos,af,none⟩::r) ⟨al L ρ,h⟩ Q:=by
 rcases a with rfl |⟨id,rfl,e2⟩
 ·exact R.qt T (xs:=[]) (ts:=[]) hx hk k
 ·exact R.xU T (xs:=[]) (ts:=[]) (o:=⟨.m,0,1,[v1,v2]⟩) hx hk (bg e2 rfl (by simp)) (by show 0+2<=2;omega) k
theorem R.GN{ops:Array Oper}{d d2:Nat}{ty ty2:TypeId}{pos Xo:String}{af af2:Array Edge}{r:List Oper}{ρ:Nat->PV}{L:List (Nat×PV)}{h:ab}{Q:St->Prop}{t t2 el:TypeId}{x ix:Operand}{u v1 v2 v:PV}{i:Nat}{k:IntKind}
  (hx:cG L x=some u) (hi:cG L ix=some (.int k (i:Int))) (hk:T.kd t=some (.sl el)) (hs:T.ts el=some 1) (Ul:T.ts t2=some 1) (ht2:T.ta t2=some false) (a:X2 h u v1 v2) (hv:[v1,v2][i]?=some v) (hc:cells v=[v])
  (kk:∀p,ah C ops r ⟨al ((d2,v)::(d,p)::L) ρ,h⟩ Q):
  ah C ops (⟨some d,.indexAddr t x ix,ty,pos,af,none⟩::⟨some d2,.load t2 (.tmp d),ty2,Xo,af2,none⟩::r) ⟨al L ρ,h⟩ Q:=by
 have xG:∀p,cG ((d,p)::L) (.tmp d)=some p:=λp=>by simp[cG,lk]
 rcases a with rfl |⟨id,rfl,e2⟩
 ·refine R.gE T hx hi hk (sz:=0) hs hv hc rfl ?_;exact R.fF T (xG _) Ul ht2 (cs:=[]) rfl (kk _)
 ·have cz:i<2:=by have:=ag hv;simpa using this
  refine R.qu T (o:=⟨.m,0,1,[v1,v2]⟩) hx hi hk (bg e2 rfl (by simp)) hs cz (by show 0+2<=2;omega) ?_;refine R.fF T (xG _) Ul ht2 (c:=v) (cs:=[]) ?_ (kk _);simp only[cC,bg e2 rfl (show Mu.m≠.x by simp),ZS,hv,hc,aaA]
end
attribute [local irreducible] aE aC aI aJ Ev ah ai ay aV
set_option maxRecDepth 4000
set_option maxHeartbeats 4000000
theorem Ni(n:Nat)(hn:n<1000000000)(H:ab):ay C 203 [.aa true [],.int .i64 n] H (λr h'=>Gr H 4 h' r []/\(n=0->r=.aa true [])/\(r=.aa true []->n=0)):=by
 refine ay.dC Tryz.func203 rfl ?_;refine wXF λhc=>?_;apply R.Jo T6;exact rfl;exact rfl;refine wXD ?_;refine R.arith (c':=0) rfl rfl rfl (by decide) ?_;refine wXJ (λhc=>?_) λhc=>?_
 ·apply R.Jo T6;exact rfl;exact rfl
  skip
  apply R.Jp T6;exact rfl;exact rfl;exact rfl;exact rfl;refine wXD ?_;apply R.Ng T6 (n:=n)
  ·exact rfl
  ·exact(congrArg (λz=>some (PV.int .i64 z)) (by simp))
  all_goals first |exact rfl |exact(by decide:(_:Nat)<=1000)|omega |skip
  refine wXD ?_;apply R.Nf T6 (o:=⟨.m,0,4,List.replicate n (.agg [.int .i64 0,.str ByteArray.empty,.int .i64 0,.aa true []])⟩)
  ·exact rfl
  ·exact rfl
  ·exact rfl
  ·exact kK
  ·exact rfl
  ·simp
  refine wXD ?_;exact⟨.inr ⟨0,List.replicate n (.agg [.int .i64 0,.str ByteArray.empty,.int .i64 0,.aa true []]),rfl,rfl,rfl,by simp⟩,λh=>by omega,λh=>by cases h⟩
 ·exact⟨.inl ⟨rfl,rfl,rfl⟩,λ_=>rfl,λ_=>by omega⟩
theorem cd(a b:List Tm):ae (a++b)=ae a++ae b:=by rw[cU,cU,cU,aal]
def Xp(H:ab)(l:List Tm)(r:PV)(h':ab):Prop:=(l=[]/\r=.aa true []/\h'=H)\/∃ep,r=.aj H.length ep 0 (ae l).length/\h'=H++[⟨.m,ep,4,ae l⟩]
set_option maxHeartbeats 8000000 in
theorem yz(a b:List Tm)(H:ab)(x v1 v2:PV)(hx:X2 H x v1 v2)(h1:Ls 4 H v1 (ae a))(h2:Ls 4 H v2 (ae b))(hl:a.length+b.length<100000000):
  ay C 158 [x] H (Xp H (a++b)):=by
 refine ay.dC Tryz.func158 rfl ?_;have e1:=an a;have e2:=an b;refine wXD ?_;apply R.Qv T6;exact rfl;exact rfl;exact hx;refine wXD ?_;apply Ev.nf;refine wXF λhc=>?_;apply R.GN T6 (i:=0);exact rfl;exact rfl;exact rfl;exact rfl;exact rfl;exact rfl;exact hx;exact rfl;exact h1.cells
 intro p1
 refine wXD ?_;apply R.Pq T6;exact rfl;exact rfl;exact h1;refine wXF λhc=>?_;apply Ev.nf;refine wXF λhc=>?_;apply R.GN T6 (i:=1);exact rfl;exact rfl;exact rfl;exact rfl;exact rfl;exact rfl;exact hx;exact rfl;exact h2.cells
 intro p2
 refine wXD ?_;apply R.Pq T6;exact rfl;exact rfl;exact h2;refine wXF λhc=>?_;apply Ev.nf;refine wXF λhc=>?_;refine R.call rfl rfl (ai.opened rfl ?_);refine ay.heap (args':=[.aa true [],.int .i64 ((a.length+b.length:Nat):Int)]) rfl (by simp[e1,e2]) ((Ni (a.length+b.length) (by omega) H).mono ?_);rintro r h' ⟨hg,hz,GO⟩
 have key:(if(dZ H.length r&& (h'.take H.length).all λo=>o.es.all (cD H.length))=true then h'.take H.length else h')=h':=by
  rcases hg with⟨_,_,rfl⟩|⟨ep,o,rfl,rfl,_,_⟩
  ·simp
  ·rw[if_neg (by simp[dZ,cD,dY])]
 rw[key]
 have Um:X2 h' x v1 v2:=by
  rcases hg with⟨_,_,rfl⟩|⟨ep,o,rfl,rfl,_,_⟩
  ·exact hx
  ·exact hx.ct _
 by_cases Qw:a.length+b.length=0
 ·have hr:=hz Qw;subst hr;have ha:a=[]:=ZL (by omega);have hb:b=[]:=ZL (by omega);subst ha;subst hb;rcases hg with⟨_,_,rfl⟩|⟨ep,o,hh,_⟩
  ·refine wXD ?_;apply R.Qv T6;exact rfl;exact rfl;exact Um;refine wXD ?_;apply Ev.nf;refine wXF λhc=>?_;apply R.GN T6 (i:=0);exact rfl;exact rfl;exact rfl;exact rfl;exact rfl;exact rfl;exact Um;exact rfl;exact h1.cells
   intro p3
   refine wXD ?_;refine R.Fv T6 rfl rfl rfl rfl rfl rfl rfl (by decide) rfl rfl h1 ?_;refine wXD ?_;apply Ev.nf;refine wXF λhc=>?_;apply R.GN T6 (i:=1);exact rfl;exact rfl;exact rfl;exact rfl;exact rfl;exact rfl;exact Um;exact rfl;exact h2.cells
   intro p4
   refine wXD ?_;refine R.Fv T6 rfl rfl rfl rfl rfl rfl rfl (by decide) rfl rfl h2 ?_;refine wXD ?_;apply Ev.nf;refine wXF λhc=>?_;exact .inl ⟨rfl,rfl,rfl⟩
  ·cases hh
 ·rcases hg with⟨hr,_,_⟩|⟨ep,o,rfl,rfl,g1,g2⟩
  ·exact absurd (GO hr) Qw
  ·refine wXD ?_;apply R.Qv T6;exact rfl;exact rfl;exact Um;refine wXD ?_;apply Ev.nf;refine wXF λhc=>?_;apply R.GN T6 (i:=0);exact rfl;exact rfl;exact rfl;exact rfl;exact rfl;exact rfl;exact Um;exact rfl;exact h1.cells
   intro p3
   refine wXD ?_;refine R.Fu T6 (es:=[]) (ys:=ae a) (v:=.dW) rfl rfl rfl rfl rfl rfl rfl (by decide) rfl rfl (nh a) h1 (by simp;omega) g1 g2 ?_
   intro ep1 o1 t1 t2 t3 t4
   refine wXD ?_;apply Ev.nf;refine wXF λhc=>?_;apply R.GN T6 (i:=1);exact rfl;exact rfl;exact rfl;exact rfl;exact rfl;exact rfl;exact(hx.ct _);exact rfl;exact h2.cells
   intro p4
   refine wXD ?_;refine R.Fu T6 (es:=ae a) (ys:=ae b) (v:=.dW) rfl rfl rfl rfl rfl rfl rfl (by decide) rfl rfl (nh b) h2 (by omega) t1 t2 ?_
   intro Wo o2 u1 u2 u3 u4
   refine wXD ?_;apply Ev.nf;refine wXF λhc=>?_
   have ho:o2=ae (a++b):=by
    rw[cd]
    by_cases hb:ae b=[]
    ·rw[u4 hb,hb,ZV];refine t3 (λha=>?_);rw[ha]at e1;rw[hb]at e2;simp at e1 e2;omega
    ·exact u3 hb
   refine .inr ⟨Wo,?_,by rw[ho]⟩;rw[cd];rfl
end Go.Pm
namespace Go.Pm
open Go.Proofs
set_option maxRecDepth 4000
set_option maxHeartbeats 4000000
def eL:Tm:=.mk 0 ByteArray.empty 0 []
theorem Out.lt{sz:Nat}{h:ab}{v:PV}{es:List PV}(o:Out sz h v es){j ep n:Nat}(hv:v=.aj j ep 0 n):j<h.length:=by
 rcases o with⟨rfl,_⟩|⟨id,gV,rfl,e2⟩
 ·cases hv
 ·cases hv;exact ag e2
theorem LP.obj{H:ab}{v:PV}{sz:Nat}{es:List PV}{r:PV}{h':ab}(a:LP H v sz es r h'){b:Nat}{o:au}(e:H[b]?=some o)(hb:∀ep n,v≠.aj b ep 0 n):h'[b]?=some o/\∀ep n,r≠.aj b ep 0 n:=by
 refine⟨by rw[a.fr b (ag e) hb];exact e,λep n hh=>?_⟩;rcases a.ref b ep n hh with⟨gV,n',h3⟩|h3
 ·exact hb gV n' h3
 ·have:=ag e;omega
end Go.Pm
