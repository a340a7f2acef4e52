/-
  A part of the library Pm and its contracts (joined by program): PmPr PmEr7 PmEr8 PmPrG PmEr9 PmErA PmRm PmMemM PmSm PmEx PmNu PmSt3 PmPCk. Conditions: none.
-/
import Derived.Test.YtejhjciockgicaaGreatPzAE
import Derived.Test.YtejhjciockgicaaGreatPzAK
import Derived.Test.YtejhjciockgicaaGreatPzAJ
import Derived.Test.YtejhjciockgicaaGreatPzAI
set_option linter.unusedVariables false
set_option linter.unusedSimpArgs false
section
namespace Go.Pm
def Prim (p:Nat):Prop:=2≤p∧∀ d,2≤d→d<p→¬ d ∣ p
def primeB (p:Nat):Bool:=Nat.ble 2 p && (List.range p).all fun d=>Nat.ble d 1 || !(Nat.beq (p % d) 0)
theorem prim_of {p:Nat} (h:primeB p=true):Prim p:=by
 unfold primeB at h
 rw [Bool.and_eq_true,List.all_eq_true] at h
 refine ⟨Nat.le_of_ble_eq_true h.1,fun d h1 h2 h3=>?_⟩
 have:=h.2 d (List.mem_range.2 h2)
 rw [Bool.or_eq_true] at this
 rcases this with h | h
 ·have:=Nat.le_of_ble_eq_true h;omega
 ·rw [Nat.mod_eq_zero_of_dvd h3] at h;cases h
theorem Prim.cop {p n:Nat} (h:Prim p) (hn:¬ p ∣ n):Nat.gcd p n=1:=by
 have h1:=Nat.gcd_dvd_left p n
 have h2:=Nat.gcd_dvd_right p n
 have hp:=h.1
 have hle:=Nat.le_of_dvd (by omega) h1
 have h0:Nat.gcd p n≠0:=fun hh=>by rw [hh] at h1;have:=Nat.eq_zero_of_zero_dvd h1;omega
 by_cases he:Nat.gcd p n=p
 ·exact absurd (he ▸ h2) hn
 ·refine Classical.byContradiction fun h3=>?_
  exact h.2 _ (by omega) (by omega) h1
def prodN (l:List Nat):Nat:=l.foldr (· * ·) 1
def copB:List Nat→Bool
 | []=>true
 | p::l=>Nat.beq (Nat.gcd p (prodN l)) 1 && copB l
theorem prod_dvd {N:Nat}:∀ {l:List Nat},copB l=true→(∀ p∈l,p ∣ N)→prodN l ∣ N
 | [],_,_=>Nat.one_dvd _
 | p::l,hc,h=>by
  rw [copB,Bool.and_eq_true] at hc
  exact Nat.Coprime.mul_dvd_of_dvd_of_dvd (Nat.eq_of_beq_eq_true hc.1) (h p (by simp)) (prod_dvd hc.2 fun q hq=>h q (by simp [hq]))
def ps:List Nat:=[2,3,5,7,11,13,17,19,23,29,31,37,41,43,47,53,59,61,67,71,73,79,83,89,97,101,103,107,109,113,127,131,137,139,149,151,157,163,167,173,179,181,191,193,197,199,211,223,227,229,233,239,241,251,257,263,269,271,277,281,283,293,307,311,313,317,331,337,347,349,353,359,367,373,379,383,389]
theorem ps_ok:ps.all (fun p=>primeB p && Nat.ble p 400)=true:=by decide +kernel
theorem ps_cop:copB ps=true:=by decide +kernel
theorem ps_big:(2 ^ 40) ^ 13<prodN ps:=by decide +kernel
theorem prod_le {B:Nat} (hB:1≤B):∀ {l:List Nat},(∀ n∈l,n≤B)→prodN l≤B ^ l.length
 | [],_=>by simp [prodN]
 | a::l,h=>by
  have h1:=prod_le hB (l:=l) fun n hn=>h n (by simp [hn])
  have h2:=h a (by simp)
  show a * prodN l≤B ^ (l.length+1)
  rw [Nat.pow_succ,Nat.mul_comm]
  exact Nat.mul_le_mul h1 h2
theorem prod_ne:∀ {l:List Nat},(∀ n∈l,n≠0)→prodN l≠0
 | [],_=>by simp [prodN]
 | a::l,h=>by
  have h1:=prod_ne (l:=l) fun n hn=>h n (by simp [hn])
  have h2:=h a (by simp)
  show a * prodN l≠0
  exact Nat.mul_ne_zero h2 h1
theorem good_ex (L:List Int) (hl:L.length≤13) (h:∀ n∈L,n≠0∧n.natAbs≤2 ^ 40):∃ p,p≤400∧Prim p∧∀ n∈L,¬ (p:Int) ∣ n:=by
 refine Classical.byContradiction fun hno=>?_
 have hall:∀ p∈ps,p ∣ prodN (L.map Int.natAbs):=fun p hp=>by
  have h1:=List.all_eq_true.1 ps_ok p hp
  rw [Bool.and_eq_true] at h1
  have hP:=prim_of h1.1
  refine Classical.byContradiction fun hnd=>hno ⟨p,Nat.le_of_ble_eq_true h1.2,hP,fun n hn hd=>hnd ?_⟩
  have h2:p ∣ n.natAbs:=by have:=Int.natAbs_dvd_natAbs.2 hd;simpa using this
  have key:∀ {l:List Nat} {a:Nat},a∈l→a ∣ prodN l:=by
   intro l
   induction l with
   | nil=>intro a ha;cases ha
   | cons b l ih=>
    intro a ha
    rcases List.mem_cons.1 ha with rfl | ha
    ·exact Nat.dvd_mul_right _ _
    ·exact Nat.dvd_trans (ih ha) (Nat.dvd_mul_left _ _)
  exact Nat.dvd_trans h2 (key (List.mem_map_of_mem hn))
 have hd:=prod_dvd ps_cop hall
 have hne:prodN (L.map Int.natAbs)≠0:=prod_ne fun n hn=>by
  obtain ⟨x,hx,rfl⟩:=List.mem_map.1 hn
  have:=(h x hx).1;omega
 have hle:=Nat.le_of_dvd (by omega) hd
 have hb:=prod_le (B:=2 ^ 40) (by decide) (l:=L.map Int.natAbs) fun n hn=>by
  obtain ⟨x,hx,rfl⟩:=List.mem_map.1 hn
  exact (h x hx).2
 rw [List.length_map] at hb
 have h3:(2 ^ 40) ^ L.length≤(2 ^ 40) ^ 13:=Nat.pow_le_pow_right (by decide) hl
 have:=ps_big
 exact absurd (Nat.lt_of_lt_of_le this (Nat.le_trans hle (Nat.le_trans hb h3))) (Nat.lt_irrefl _)
theorem bez (a b:Nat):∃ x y:Int,a * x+b * y=(Nat.gcd a b:Int):=by
 induction a,b using Nat.gcd.induction with
 | H0 n=>exact ⟨0,1,by simp⟩
 | H1 m n hm ih=>
  obtain ⟨x,y,h⟩:=ih
  refine ⟨y - (n / m:Nat) * x,x,?_⟩
  have e:(n:Int)=m * (n / m:Nat)+(n % m:Nat):=by
   have:=Nat.div_add_mod n m
   exact_mod_cast this.symm
  rw [Nat.gcd_rec m n,← h]
  generalize hq:(n / m:Nat)=q at *
  generalize hr:(n % m:Nat)=r at *
  rw [e,Int.mul_sub,Int.add_mul,Int.mul_assoc]
  omega
theorem inv_ex {p n:Nat} (hg:Nat.gcd p n=1) (hp:0<p) (s:Int):∃ v:Int,0≤v∧v<p∧(p:Int) ∣ s+n * v:=by
 obtain ⟨x,y,h⟩:=bez p n
 rw [hg] at h
 refine ⟨(-s * y) % p,Int.emod_nonneg _ (by omega),Int.emod_lt_of_pos _ (by omega),?_⟩
 have e:=Int.mul_ediv_add_emod (-s * y) p
 generalize (-s * y) % p=v at *
 generalize (-s * y) / p=k at *
 refine ⟨s * x - n * k,?_⟩
 have h2:s+n * (-s * y)=p * (s * x):=by
  have:s * (p * x+n * y)=s:=by rw [h];simp
  have e2:n * (-s * y)=-(s * (n * y)):=by
   rw [Int.neg_mul,Int.mul_neg,Int.mul_left_comm]
  rw [e2,Int.mul_left_comm (p:Int) s x]
  rw [Int.mul_add] at this
  omega
 rw [← e,Int.mul_add] at h2
 have h3:(n:Int) * (p * k)=p * (n * k):=by rw [Int.mul_left_comm]
 rw [Int.mul_sub]
 omega
end Go.Pm
end
section
set_option maxRecDepth 4000
namespace Go.Pm
open Go.Proofs
theorem modI_bd {n q:Int} (hq:0<q):0≤modI n q∧modI n q<q:=by
  have a1:=Int.tmod_lt_of_pos n hq
  have a2:=Int.lt_tmod_of_pos n hq
  unfold modI
  exact ⟨Int.tmod_nonneg _ (by omega),Int.tmod_lt_of_pos _ hq⟩
theorem mul_rng {a b A B:Int} (h1:0≤a∧a≤A) (h2:0≤b∧b≤B):0≤a * b∧a * b≤A * B:=
  ⟨Int.mul_nonneg h1.1 h2.1,Int.mul_le_mul h1.2 h2.2 h2.1 (by omega)⟩
attribute [local irreducible] thenQ blockQ loopQ bodyQ Ev EvOps CallEv FnEv EvD
theorem rdiv_fun (n p q:Int) (hn:0≤n∧n<q) (hp:p≠0∧-1099511627776≤p∧p≤1099511627776) (hq:1≤q∧q≤1073741824) :
    ∃ v,0≤v∧v<q∧Fun C 102 [.int .i64 n,.int .i64 p,.int .i64 q] (.int .i64 v):=by
  obtain ⟨n',p',h1,h2,hw⟩:∃ n' p':Int,(0≤n'∧n'<q)∧(0<p'∧p'≤1099511627776)∧((p<0∧p'=0 - p∧n'=modI (0 - n) q)∨(¬ p<0∧p'=p∧n'=n)):=by
    by_cases h:p<0
    · exact ⟨modI (0 - n) q,0 - p,modI_bd (by omega),by omega,.inl ⟨h,rfl,rfl⟩⟩
    · exact ⟨n,p,hn,by omega,.inr ⟨h,rfl,rfl⟩⟩
  have hm1:=mod_fun (0 - n) q (by omega) (by omega)
  by_cases hd:n'.tmod p'=0
  · have hdv:0≤n'.tdiv p'∧n'.tdiv p'≤n':=⟨Int.tdiv_nonneg h1.1 (by omega),by
      rw [Int.tdiv_eq_ediv_of_nonneg h1.1];exact Int.ediv_le_self _ h1.1⟩
    refine ⟨n'.tdiv p',hdv.1,by omega,Fun.x T6 Tryz.func102 rfl ?_⟩
    rcases hw with ⟨a1,rfl,rfl⟩ | ⟨a1,rfl,rfl⟩
    · (repeat' (first | (refine Rn.go ?_;conv=>whnf) | refine .mk ?_ | refine .tt ?_ | refine .ff ?_ | refine .m2 ?_ | refine .m3 ?_ | refine .mk (fun hc=>?_) fun hc=>?_ | refine .lp fun v H lp=>?_ | fail))
      refine .p hm1 ?_
      (repeat' (first | (refine Rn.go ?_;conv=>whnf) | refine .mk ?_ | refine .tt ?_ | refine .ff ?_ | refine .m2 ?_ | refine .m3 ?_ | refine .mk (fun hc=>?_) fun hc=>?_ | refine .lp fun v H lp=>?_ | fail))
      exact ⟨_,rfl,rfl⟩
    · (repeat' (first | (refine Rn.go ?_;conv=>whnf) | refine .mk ?_ | refine .tt ?_ | refine .ff ?_ | refine .m2 ?_ | refine .m3 ?_ | refine .mk (fun hc=>?_) fun hc=>?_ | refine .lp fun v H lp=>?_ | fail))
      exact ⟨_,rfl,rfl⟩
  · have hm2:=mod_fun p' q (by omega) (by omega)
    have hb2:=modI_bd (n:=p') (q:=q) (by omega)
    obtain ⟨v,hv1,hv2,hv3⟩:∃ v:Int,0≤v∧v<q∧((∀ y:Int,0≤y→y<v→modI (y * modI p' q) q≠n')∧modI (v * modI p' q) q=n'∨(∀ y:Int,0≤y→y<q→modI (y * modI p' q) q≠n')∧v=0):=by
      have key:∀ k:Nat,(∀ y:Int,0≤y→y<k→modI (y * modI p' q) q≠n')∨∃ v:Int,0≤v∧v<k∧(∀ y:Int,0≤y→y<v→modI (y * modI p' q) q≠n')∧modI (v * modI p' q) q=n':=by
        intro k
        induction k with
        | zero=>exact .inl fun y h1 h2=>by omega
        | succ k ih=>
          rcases ih with ih | ⟨v,a,b,c⟩
          · by_cases hk:modI (k * modI p' q) q=n'
            · exact .inr ⟨k,by omega,by omega,ih,hk⟩
            · refine .inl fun y h1 h2=>?_
              by_cases hy:y=k
              · rw [hy];exact hk
              · exact ih y h1 (by omega)
          · exact .inr ⟨v,a,by omega,c⟩
      rcases key q.toNat with h | ⟨v,a,b,c⟩
      · exact ⟨0,by omega,by omega,.inr ⟨fun y h1 h2=>h y h1 (by omega),rfl⟩⟩
      · exact ⟨v,a,by omega,.inl c⟩
    refine ⟨v,hv1,hv2,Fun.x T6 Tryz.func102 rfl ?_⟩
    rcases hw with ⟨a1,e1,e2⟩ | ⟨a1,rfl,rfl⟩
    · have hd2:¬ (modI (0 - n) q).tmod (0 - p)=0:=by rw [← e1,← e2];exact hd
      (repeat' (first | (refine Rn.go ?_;conv=>whnf) | refine .mk ?_ | refine .tt ?_ | refine .ff ?_ | refine .m2 ?_ | refine .m3 ?_ | refine .mk (fun hc=>?_) fun hc=>?_ | refine .lp fun v H lp=>?_ | fail))
      refine .p hm1 ?_
      (repeat' (first | (refine Rn.go ?_;conv=>whnf) | refine .mk ?_ | refine .tt ?_ | refine .ff ?_ | refine .m2 ?_ | refine .m3 ?_ | refine .mk (fun hc=>?_) fun hc=>?_ | refine .lp fun v H lp=>?_ | fail))
      rw [← e1,← e2]
      refine LpX.nat T6 (fun k L h=>∃ x:Int,L=[(0,.int .i64 n'),(1,.int .i64 p'),(2,.int .i64 q),(7,.int .i64 x)]∧0≤x∧x+k=q∧(((∀ y:Int,0≤y→y<v→modI (y * modI p' q) q≠n')∧modI (v * modI p' q) q=n'∧x≤v)∨(∀ y:Int,0≤y→y<q→modI (y * modI p' q) q≠n')∧v=0)) q.toNat (.nx ⟨0,rfl,by omega,by omega,(hv3.elim (fun b=>.inl ⟨b.1,b.2,hv1⟩) .inr)⟩) ?_
      rintro k _ h ρ ⟨x,rfl,x1,x2,x3⟩
      by_cases hk:x<q
      · have hmr:=mul_rng (A:=1073741824) (B:=1073741824) (a:=x) (b:=modI p' q) (by omega) (by omega)
        have hm3:=mod_fun (x * modI p' q) q (by omega) (by omega)
        (repeat' (first | (refine Rn.go ?_;conv=>whnf) | refine .mk ?_ | refine .tt ?_ | refine .ff ?_ | refine .m2 ?_ | refine .m3 ?_ | refine .mk (fun hc=>?_) fun hc=>?_ | refine .lp fun v H lp=>?_ | fail))
        refine .p hm2 ?_
        (repeat' (first | (refine Rn.go ?_;conv=>whnf) | refine .mk ?_ | refine .tt ?_ | refine .ff ?_ | refine .m2 ?_ | refine .m3 ?_ | refine .mk (fun hc=>?_) fun hc=>?_ | refine .lp fun v H lp=>?_ | fail))
        refine .p hm3 ?_
        (repeat' (first | (refine Rn.go ?_;conv=>whnf) | refine .mk ?_ | refine .tt ?_ | refine .ff ?_ | refine .m2 ?_ | refine .m3 ?_ | refine .mk (fun hc=>?_) fun hc=>?_ | refine .lp fun v H lp=>?_ | fail))
        all_goals first
          | (refine .nx ⟨k - 1,by omega,x+1,rfl,by omega,by omega,?_⟩
             rcases x3 with ⟨b1,b2,b3⟩ | b
             · refine .inl ⟨b1,b2,?_⟩
               by_cases hxv:x=v
               · exact absurd (hxv ▸ b2) (by assumption)
               · omega
             · exact .inr b)
          | (have hxv:x=v:=by
               rcases x3 with ⟨b1,b2,b3⟩ | b
               · by_cases hxv:x=v
                 · exact hxv
                 · exact absurd (by assumption) (b1 x x1 (by omega))
               · exact absurd (by assumption) (b.1 x x1 hk)
             subst hxv
             exact ⟨_,rfl,rfl⟩)
      · have hv0:v=0:=by
          rcases x3 with ⟨_,_,b⟩ | b
          · omega
          · exact b.2
        (repeat' (first | (refine Rn.go ?_;conv=>whnf) | refine .mk ?_ | refine .tt ?_ | refine .ff ?_ | refine .m2 ?_ | refine .m3 ?_ | refine .mk (fun hc=>?_) fun hc=>?_ | refine .lp fun v H lp=>?_ | fail))
        exact ⟨_,rfl,by rw [hv0];rfl⟩
    · (repeat' (first | (refine Rn.go ?_;conv=>whnf) | refine .mk ?_ | refine .tt ?_ | refine .ff ?_ | refine .m2 ?_ | refine .m3 ?_ | refine .mk (fun hc=>?_) fun hc=>?_ | refine .lp fun v H lp=>?_ | fail))
      refine LpX.nat T6 (fun k L h=>∃ x:Int,L=[(0,.int .i64 n'),(1,.int .i64 p'),(2,.int .i64 q),(7,.int .i64 x)]∧0≤x∧x+k=q∧(((∀ y:Int,0≤y→y<v→modI (y * modI p' q) q≠n')∧modI (v * modI p' q) q=n'∧x≤v)∨(∀ y:Int,0≤y→y<q→modI (y * modI p' q) q≠n')∧v=0)) q.toNat (.nx ⟨0,rfl,by omega,by omega,(hv3.elim (fun b=>.inl ⟨b.1,b.2,hv1⟩) .inr)⟩) ?_
      rintro k _ h ρ ⟨x,rfl,x1,x2,x3⟩
      by_cases hk:x<q
      · have hmr:=mul_rng (A:=1073741824) (B:=1073741824) (a:=x) (b:=modI p' q) (by omega) (by omega)
        have hm3:=mod_fun (x * modI p' q) q (by omega) (by omega)
        (repeat' (first | (refine Rn.go ?_;conv=>whnf) | refine .mk ?_ | refine .tt ?_ | refine .ff ?_ | refine .m2 ?_ | refine .m3 ?_ | refine .mk (fun hc=>?_) fun hc=>?_ | refine .lp fun v H lp=>?_ | fail))
        refine .p hm2 ?_
        (repeat' (first | (refine Rn.go ?_;conv=>whnf) | refine .mk ?_ | refine .tt ?_ | refine .ff ?_ | refine .m2 ?_ | refine .m3 ?_ | refine .mk (fun hc=>?_) fun hc=>?_ | refine .lp fun v H lp=>?_ | fail))
        refine .p hm3 ?_
        (repeat' (first | (refine Rn.go ?_;conv=>whnf) | refine .mk ?_ | refine .tt ?_ | refine .ff ?_ | refine .m2 ?_ | refine .m3 ?_ | refine .mk (fun hc=>?_) fun hc=>?_ | refine .lp fun v H lp=>?_ | fail))
        all_goals first
          | (refine .nx ⟨k - 1,by omega,x+1,rfl,by omega,by omega,?_⟩
             rcases x3 with ⟨b1,b2,b3⟩ | b
             · refine .inl ⟨b1,b2,?_⟩
               by_cases hxv:x=v
               · exact absurd (hxv ▸ b2) (by assumption)
               · omega
             · exact .inr b)
          | (have hxv:x=v:=by
               rcases x3 with ⟨b1,b2,b3⟩ | b
               · by_cases hxv:x=v
                 · exact hxv
                 · exact absurd (by assumption) (b1 x x1 (by omega))
               · exact absurd (by assumption) (b.1 x x1 hk)
             subst hxv
             exact ⟨_,rfl,rfl⟩)
      · have hv0:v=0:=by
          rcases x3 with ⟨_,_,b⟩ | b
          · omega
          · exact b.2
        (repeat' (first | (refine Rn.go ?_;conv=>whnf) | refine .mk ?_ | refine .tt ?_ | refine .ff ?_ | refine .m2 ?_ | refine .m3 ?_ | refine .mk (fun hc=>?_) fun hc=>?_ | refine .lp fun v H lp=>?_ | fail))
        exact ⟨_,rfl,by rw [hv0];rfl⟩
end Go.Pm
end
section
set_option maxRecDepth 4000
namespace Go.Pm
open Go.Proofs
def inQ (q:Int) (l:List Int):Prop:=∀ x∈l,0≤x∧x<q
theorem inQ.set {q v:Int} {l:List Int} (h:inQ q l) (hv:0≤v∧v<q) (i:Nat):inQ q (l.set i v):=fun x hx=>by
 rcases List.mem_or_eq_of_mem_set hx with hx | rfl
 ·exact h x hx
 ·exact hv
theorem inQ.at_ {q:Int} {l:List Int} (h:inQ q l) {i:Nat} (hi:i<l.length):0≤atR l i∧atR l i<q:=h _ (List.mem_of_getElem? (i:=i) (by simp [atR,List.getD,List.getElem?_eq_getElem hi]))
theorem encIs_set (l:List Int) (i:Nat) (v:Int):(encIs l).set i (.int .i64 v)=encIs (l.set i v):=by simp [encIs,List.map_set]
theorem small_at {l:List Int} (h:small l=true) {i:Nat} (hi:i<l.length) : -1099511627776≤atR l i∧atR l i≤1099511627776:=
 of_decide_eq_true (List.all_eq_true.1 h (atR l i) (List.mem_of_getElem? (i:=i) (by simp [atR,List.getD,List.getElem?_eq_getElem hi])))
attribute [local irreducible] thenQ blockQ loopQ bodyQ Ev EvOps CallEv FnEv EvD
theorem rchar_ev (H:AHeap) (hR:HR H) (cols:List Tm) (rv pv:PV) (Z:List Rf) (P:List Int) (c:Nat) (fst q:Int) (er:Out 1 H rv (Z.map Rf.v)) (ez:∀ z∈Z,H[z.i]?=some ⟨.m,z.e,1,encIs z.r⟩∧z.r.length=cols.length+Z.length∧small z.r=true) (ep:Out 1 H pv (encIs P)) (hP:P.length=cols.length) (hpv:PvOk (Z.map Rf.m) P)
  (hn:cols.length<1000) (hk:Z.length<1000) (hc:c<cols.length) (hf:0≤fst∧fst≤1073741824) (hq:1≤q∧q≤1073741824) :
  FnEv C 69 [.agg [.snap false (encs cols),rv,pv],.int .i64 c,.int .i64 fst,.int .i64 q] H (fun r h'=>HR h'∧H.length≤h'.length∧(∀ j,j<H.length→h'[j]?=H[j]?) ∧
   ∃ v L,r=.agg [.int .i64 q,v]∧Out 5 h' v (encPs L)∧∀ i∈vid v,H.length≤i):=by
 have hec:=encs_len cols
 have hrv:=er.oneC
 have hpv1:=ep.oneC
 have hzl:(Z.map Rf.v).length=Z.length:=by simp
 have hx:(cells (PV.agg [.snap false (encs cols),rv,pv])).all oneC=true:=by
  show (true && (oneC rv && (oneC pv && true)))=true
  rw [hrv.1,hpv1.1];rfl
 have hmf:=mod_fun fst q (by omega) (by omega)
 have hmb:=modI_bd (n:=fst) (q:=q) (by omega)
 obtain ⟨G,hG⟩:∃ G,G=H++[(⟨.m,0,3,[.agg [.snap false (encs cols),rv,pv]]⟩:AObj)]++[(⟨.m,0,2,[.agg [.int .i64 0,.snap true []]]⟩:AObj)]:=⟨_,rfl⟩
 have hR1:HR (H++[(⟨.m,0,3,[.agg [.snap false (encs cols),rv,pv]]⟩:AObj)]):=hR.app1 (by simp) (by
  simp only [visRs,visR,Bool.and_true,Bool.true_and,Bool.and_eq_true]
  exact ⟨visR_imp (f:=fun i=>decide (i<H.length)) (fun i hi=>by have:=of_decide_eq_true hi;exact decide_eq_true (by omega)) _ er.visR,visR_imp (f:=fun i=>decide (i<H.length)) (fun i hi=>by have:=of_decide_eq_true hi;exact decide_eq_true (by omega)) _ ep.visR⟩)
 have hl1:(H++[(⟨.m,0,3,[.agg [.snap false (encs cols),rv,pv]]⟩:AObj)]).length=H.length+1:=by simp
 have hRG:HR G:=by rw [hG];exact hR1.appV (HV.one rfl)
 have lG:G.length=H.length+2:=by rw [hG];simp
 have fG:∀ j,j<H.length→G[j]?=H[j]?:=fun j hj=>by rw [hG,List.getElem?_append_left (by simp;omega),List.getElem?_append_left hj]
 have bG:G[H.length]?=some ⟨.m,0,3,[.agg [.snap false (encs cols),rv,pv]]⟩:=by rw [hG,List.getElem?_append_left (by simp)];simp
 have cG:G[H.length+1]?=some ⟨.m,0,2,[.agg [.int .i64 0,.snap true []]]⟩:=by rw [hG,← hl1,List.getElem?_append_right (Nat.le_refl _)];simp
 refine FnEv.x T6 Tryz.func69 rfl ?_
 (repeat' (first | (refine Rn.go ?_;conv=>whnf) | refine .mk ?_ | refine .tt ?_ | refine .ff ?_ | refine .m2 ?_ | refine .m3 ?_ | refine .mk (fun hc=>?_) fun hc=>?_ | refine .lp fun v H lp=>?_ | fail))
 rw [hx]
 conv=>whnf
 (repeat' (first | (refine Rn.go ?_;conv=>whnf) | refine .mk ?_ | refine .tt ?_ | refine .ff ?_ | refine .m2 ?_ | refine .m3 ?_ | refine .mk (fun hc=>?_) fun hc=>?_ | refine .lp fun v H lp=>?_ | fail))
 rw [← hG,lG,hec,hl1]
 obtain ⟨n,hnn⟩:∃ n,n=cols.length:=⟨_,rfl⟩
 rw [← hnn] at hec hc hP hn
 rw [← hnn]
 obtain ⟨K,hK⟩:∃ K,K=G++[(⟨.m,0,0+1,List.replicate n (.int .i64 0)⟩:AObj)]:=⟨_,rfl⟩
 have hRK:HR K:=by rw [hK];exact hRG.app1 (by simp) (vis_vals _ _ (by rw [isVals_eq,List.all_eq_true];intro y hy;rw [List.eq_of_mem_replicate hy];rfl))
 have lK:K.length=H.length+3:=by rw [hK];simp [lG]
 have fK:∀ j,j<H.length+2→K[j]?=G[j]?:=fun j hj=>by rw [hK,List.getElem?_append_left (by omega)]
 have xK:K[H.length+2]?=some ⟨.m,0,1,encIs (List.replicate n 0)⟩:=by rw [hK,← lG,List.getElem?_append_right (Nat.le_refl _)];simp [encIs]
 rw [← hK]
 refine .p hmf ?_
 have hl0:(encIs (List.replicate n 0)).length=n:=by simp
 have hat0:=nthI (a:=List.replicate n 0) (c:=c) (by simp;omega)
 (repeat' (first | (refine Rn.go ?_;conv=>whnf) | refine .mk ?_ | refine .tt ?_ | refine .ff ?_ | refine .m2 ?_ | refine .m3 ?_ | refine .mk (fun hc=>?_) fun hc=>?_ | refine .lp fun v H lp=>?_ | fail))
 rw [encIs_set,Nat.zero_add]
 have in0:inQ q ((List.replicate n 0).set c (modI fst q)):=inQ.set (fun x hx=>by rw [List.eq_of_mem_replicate hx];omega) hmb _
 have BX:∀ h:AHeap,(∀ j,j<H.length+1→h[j]?=G[j]?)→h[H.length]?=some ⟨.m,0,3,[.agg [.snap false (encs cols),rv,pv]]⟩∧Out 1 h rv (Z.map Rf.v)∧Out 1 h pv (encIs P)∧(∀ z∈Z,h[z.i]?=some ⟨.m,z.e,1,encIs z.r⟩)∧∀ j,j<H.length→h[j]?=H[j]?:=fun h f=>
  ⟨by rw [f _ (by omega)];exact bG,er.of_eq fun i hi=>by have:=er.vlt i hi;rw [f i (by omega),fG i (by omega)],ep.of_eq fun i hi=>by have:=ep.vlt i hi;rw [f i (by omega),fG i (by omega)],fun z hz=>by have:=lt_of_some (ez z hz).1;rw [f z.i (by omega),fG z.i (by omega)];exact (ez z hz).1,fun j hj=>by rw [f j (by omega),fG j hj]⟩
 refine LpX.nat T6 (fun m L h=>∃ xs:List Int,L=[(1,.int .i64 c),(3,.int .i64 q),(4,.ptr H.length 0 0 0),(8,.ptr (H.length+1) 0 0 0),(9,.mref (H.length+2) 0 0 n),(10,.int .i64 ((m:Int) - 1))]∧m≤c∧HR h∧h.length=H.length+3∧(∀ j,j<H.length+2→h[j]?=G[j]?)∧h[H.length+2]?=some ⟨.m,0,1,encIs xs⟩∧xs.length=n∧inQ q xs) c (.nx ⟨_,rfl,Nat.le_refl _,hRK.set _ (by simp) (vis_vals _ _ (by simp)),by simp [lK],fun j hj=>by rw [List.getElem?_set_ne (by omega)];exact fK j hj,List.getElem?_set_self (by omega),by simp,in0⟩) ?_
 rintro m _ h ρ ⟨xs,rfl,hmc,hh,hlen,hfr,hxs,lxs,hin⟩
 obtain ⟨b1,b2,b3,b4,b5⟩:=BX h (fun j hj=>hfr j (by omega))
 have hlx:(encIs xs).length=n:=by simp [lxs]
 by_cases hm0:m=0
 ·subst hm0
  (repeat' (first | (refine Rn.go ?_;conv=>whnf) | refine .mk ?_ | refine .tt ?_ | refine .ff ?_ | refine .m2 ?_ | refine .m3 ?_ | refine .mk (fun hc=>?_) fun hc=>?_ | refine .lp fun v H lp=>?_ | fail))
  rw [hlen]
  have hRh2:HR (h++[(⟨.m,0,2,[.agg [.int .i64 q,.snap true []]]⟩:AObj)]):=hh.appV (HV.one rfl)
  have hc1:h[H.length+1]?=some ⟨.m,0,2,[.agg [.int .i64 0,.snap true []]]⟩:=by rw [hfr _ (by omega)];exact cG
  refine LpX.nat T6 (fun m2 L h2=>∃ (i:Nat) (v:PV) (Q:List Pw),L=[(1,.int .i64 c),(4,.ptr H.length 0 0 0),(8,.ptr (H.length+1) 0 0 0),(9,.mref (H.length+2) 0 0 n),(14,.ptr (H.length+3) 0 0 0),(15,.int .i64 i)]∧i+m2=c+1∧HR h2∧H.length+3<h2.length∧(∀ j,j<H.length+3→h2[j]?=h[j]?)∧h2[H.length+3]?=some ⟨.m,0,2,[.agg [.int .i64 q,v]]⟩∧Out 5 h2 v (encPs Q)∧Q.length≤i∧∀ i∈vid v,H.length+3<i) (c+1)
   (.nx ⟨0,.snap true [],[],rfl,by omega,hRh2,by simp [hlen],fun j hj=>List.getElem?_append_left (by omega),by rw [← hlen,List.getElem?_append_right (Nat.le_refl _)];simp,.inl ⟨rfl,rfl⟩,by simp,by simp [vid]⟩) ?_
  rintro m2 _ h2 ρ ⟨i,v,Q,rfl,hi2,hh2,hln2,hf2,hcl,ho,hQ,hvi⟩
  have e1:h2[H.length]?=some ⟨.m,0,3,[.agg [.snap false (encs cols),rv,pv]]⟩:=by rw [hf2 _ (by omega)];exact b1
  have e2:h2[H.length+2]?=some ⟨.m,0,1,encIs xs⟩:=by rw [hf2 _ (by omega)];exact hxs
  have e3:h2[H.length+1]?=some ⟨.m,0,2,[.agg [.int .i64 0,.snap true []]]⟩:=by rw [hf2 _ (by omega)];exact hc1
  have hvc:=ho.oneC
  have hcx:(cells (PV.agg [.int .i64 q,v])).all oneC=true:=by
   show (true && (oneC v && true))=true
   rw [hvc.1];rfl
  have hvr:=ho.visR
  by_cases hm2:m2=0
  ·(repeat' (first | (refine Rn.go ?_;conv=>whnf) | refine .mk ?_ | refine .tt ?_ | refine .ff ?_ | refine .m2 ?_ | refine .m3 ?_ | refine .mk (fun hc=>?_) fun hc=>?_ | refine .lp fun v H lp=>?_ | fail))
   rw [hcx]
   conv=>whnf
   (repeat' (first | (refine Rn.go ?_;conv=>whnf) | refine .mk ?_ | refine .tt ?_ | refine .ff ?_ | refine .m2 ?_ | refine .m3 ?_ | refine .mk (fun hc=>?_) fun hc=>?_ | refine .lp fun v H lp=>?_ | fail))
   refine .mk ?_ (resC_cellN (T:=T6) rfl (List.getElem?_set_self (by omega)) rfl rfl rfl rfl)
   refine Rn.go ?_
   refine ⟨hh2.set _ (by simp) ?_,by simp;omega,fun j hj=>by rw [List.getElem?_set_ne (by omega),hf2 j (by omega)];exact b5 j hj,v,Q,rfl,ho.of_eq fun i hi=>List.getElem?_set_ne (by have:=hvi i hi;omega),fun i hi=>by have:=hvi i hi;omega⟩
   simp only [visRs,visR,Bool.and_true,Bool.true_and]
   exact hvr
  ·have hxi:=nthI (a:=xs) (c:=i) (by omega)
   obtain ⟨t,ht⟩:∃ t,cols[i]?=some t:=⟨_,List.getElem?_eq_getElem (show i<cols.length by omega)⟩
   have hsp:cols=cols.take i++t::cols.drop (i+1):=by
    have h1:=List.take_append_drop i cols
    rw [List.drop_eq_getElem_cons (show i<cols.length by omega)] at h1
    rw [List.getElem?_eq_getElem (show i<cols.length by omega)] at ht
    cases ht;exact h1.symm
   have hat:=at_encs hsp
   rw [List.length_take,Nat.min_eq_left (by omega)] at hat
   by_cases hz:atR xs i=0
   ·(repeat' (first | (refine Rn.go ?_;conv=>whnf) | refine .mk ?_ | refine .tt ?_ | refine .ff ?_ | refine .m2 ?_ | refine .m3 ?_ | refine .mk (fun hc=>?_) fun hc=>?_ | refine .lp fun v H lp=>?_ | fail))
    exact .nx ⟨m2 - 1,by omega,i+1,v,Q,rfl,by omega,hh2,hln2,hf2,hcl,ho,by omega,hvi⟩
   ·have hQl:=encPs_len Q
    (repeat' (first | (refine Rn.go ?_;conv=>whnf) | refine .mk ?_ | refine .tt ?_ | refine .ff ?_ | refine .m2 ?_ | refine .m3 ?_ | refine .mk (fun hc=>?_) fun hc=>?_ | refine .lp fun v H lp=>?_ | fail))
    refine .lr (fun w' H' lr=>?_)
    have lo:=lr.out
    have lh:=lr.hr
    have ll:=lr.len
    have hnv:∀ j,j≤H.length+3→∀ ep n,v≠.mref j ep 0 n:=fun j hj ep n hh=>by have:=hvi j (by rw [hh];simp [vid]);omega
    have lf:∀ j,j≤H.length+3→H'[j]?=h2[j]?:=fun j hj=>lr.fr j (by omega) (hnv j hj)
    have lv:∀ i∈vid w',H.length+3<i:=fun i hi=>by
     rcases lr.vid i hi with h | h
     ·exact hvi i h
     ·omega
    clear lr
    have e5:H'[H.length+3]?=some ⟨.m,0,2,[.agg [.int .i64 q,v]]⟩:=by rw [lf _ (Nat.le_refl _)];exact hcl
    have k5:=lt_of_some e5
    have hwr:=lo.visR
    have e6:encPs Q++[.agg [.int .i64 t.k,.str t.s,.int .i64 t.o,.snap false (encs t.l),.int .i64 (atR xs i)]]=encPs (Q++[(t,atR xs i)]):=by simp [encPs,encP,enc_x,cells]
    rw [e6] at lo
    rcases lo with ⟨_,h0⟩ | ⟨iw,ew,rfl,ow⟩
    ·have:=congrArg List.length h0;simp [encPs] at this
    (repeat' (first | (refine Rn.go ?_;conv=>whnf) | refine .mk ?_ | refine .tt ?_ | refine .ff ?_ | refine .m2 ?_ | refine .m3 ?_ | refine .mk (fun hc=>?_) fun hc=>?_ | refine .lp fun v H lp=>?_ | fail))
    refine .nx ⟨m2 - 1,by omega,i+1,_,Q++[(t,atR xs i)],rfl,by omega,lh.set _ (by simp) ?_,by simp;omega,fun j hj=>by rw [List.getElem?_set_ne (by omega),lf j (by omega)];exact hf2 j hj,List.getElem?_set_self k5,?_,by simp;omega,lv⟩
    ·simp only [visRs,visR,Bool.and_true,Bool.true_and]
     exact hwr
    ·exact .inr ⟨iw,ew,rfl,by rw [List.getElem?_set_ne (by have:=lv iw (by simp [vid]);omega)];exact ow⟩
 ·obtain ⟨i,rfl⟩:∃ i,m=i+1:=⟨m - 1,by omega⟩
  have hi1:(((i+1:Nat):Int) - 1)=(i:Int):=by omega
  rw [hi1]
  obtain ⟨ip,pe,rfl,ep2⟩:∃ ip pe,pv=.mref ip pe 0 P.length∧h[ip]?=some ⟨.m,pe,1,encIs P⟩:=by
   rcases b3 with ⟨_,h0⟩ | ⟨ip,pe,g1,g2⟩
   ·have:=congrArg List.length h0;rw [encIs_len,List.length_nil] at this;omega
   ·exact ⟨ip,pe,by rw [g1];simp,g2⟩
  have hPl:(encIs P).length=P.length:=by simp
  have hPi:i<P.length:=by omega
  have hPat:=nthI (a:=P) (c:=i) hPi
  have hpi:=hpv i (atR P i) (by simp [atR,List.getD,List.getElem?_eq_getElem hPi])
  by_cases hneg:atR P i<0
  ·(repeat' (first | (refine Rn.go ?_;conv=>whnf) | refine .mk ?_ | refine .tt ?_ | refine .ff ?_ | refine .m2 ?_ | refine .m3 ?_ | refine .mk (fun hc=>?_) fun hc=>?_ | refine .lp fun v H lp=>?_ | fail))
   exact .nx ⟨i,Nat.lt_succ_self _,xs,rfl,by omega,hh,hlen,hfr,hxs,lxs,hin⟩
  obtain ⟨b,u,hbs,hbz⟩:=hpi.2 (by omega)
  obtain ⟨B,hB,hBm⟩:∃ B,Z[(atR P i).toNat]?=some B∧B.m=(b,u):=by
   rw [List.getElem?_map] at hbs
   cases hB:Z[(atR P i).toNat]? with
   | none=>rw [hB] at hbs;cases hbs
   | some B=>rw [hB] at hbs;exact ⟨B,rfl,by simpa using hbs⟩
  have hBin:=List.mem_of_getElem? hB
  have hBlt:=lt_of_some hB
  have hbeq:b=B.r:=congrArg Prod.fst hBm.symm
  subst hbeq
  obtain ⟨_,lB,sB⟩:=ez B hBin
  have eB:=b4 B hBin
  obtain ⟨rr,re,rfl,er3⟩:∃ rr re,rv=.mref rr re 0 Z.length∧h[rr]?=some ⟨.m,re,1,Z.map Rf.v⟩:=by
   rcases b2 with ⟨_,h0⟩ | ⟨rr,re,g1,g2⟩
   ·have:=congrArg List.length h0;simp at this;rw [this] at hBlt;simp at hBlt
   ·exact ⟨rr,re,by rw [g1,hzl],g2⟩
  have hatB:(Z.map Rf.v)[0+(atR P i).toNat]?=some (.mref B.i B.e 0 B.r.length):=by rw [Nat.zero_add,List.getElem?_map,hB];rfl
  have hlB:(encIs B.r).length=B.r.length:=by simp
  have hltR:=er.vlt rr (by simp [vid])
  have hltP:=ep.vlt ip (by simp [vid])
  have hltB:=lt_of_some (ez B hBin).1
  (repeat' (first | (refine Rn.go ?_;conv=>whnf) | refine .mk ?_ | refine .tt ?_ | refine .ff ?_ | refine .m2 ?_ | refine .m3 ?_ | refine .mk (fun hc=>?_) fun hc=>?_ | refine .lp fun v H lp=>?_ | fail))
  refine LpX.nat T6 (fun m2 L h2=>∃ (k:Nat) (s:Int),L=[(1,.int .i64 c),(3,.int .i64 q),(4,.ptr H.length 0 0 0),(8,.ptr (H.length+1) 0 0 0),(9,.mref (H.length+2) 0 0 n),(10,.int .i64 i),(11,.mref B.i B.e 0 B.r.length),(12,.int .i64 s),(13,.int .i64 k)]∧h2=h∧k+m2=c+1∧0≤s∧s<q) (c - i) (.nx ⟨i+1,0,rfl,rfl,by omega,by omega,by omega⟩) ?_
  rintro m2 _ _ ρ ⟨k,s,rfl,rfl,hk2,hs1,hs2⟩
  by_cases hm2:m2=0
  ·have hdv:=rdiv_fun s (atR B.r i) q ⟨hs1,hs2⟩ ⟨hbz,small_at sB (by omega)⟩ (by omega)
   obtain ⟨v,hv1,hv2,hdf⟩:=hdv
   have hmv:=mod_fun v q (by omega) (by omega)
   have hmvb:=modI_bd (n:=v) (q:=q) (by omega)
   have hpB:=nthI (a:=B.r) (c:=i) (by omega)
   have hxi:=nthI (a:=xs) (c:=i) (by omega)
   (repeat' (first | (refine Rn.go ?_;conv=>whnf) | refine .mk ?_ | refine .tt ?_ | refine .ff ?_ | refine .m2 ?_ | refine .m3 ?_ | refine .mk (fun hc=>?_) fun hc=>?_ | refine .lp fun v H lp=>?_ | fail))
   refine .p hdf ?_
   (repeat' (first | (refine Rn.go ?_;conv=>whnf) | refine .mk ?_ | refine .tt ?_ | refine .ff ?_ | refine .m2 ?_ | refine .m3 ?_ | refine .mk (fun hc=>?_) fun hc=>?_ | refine .lp fun v H lp=>?_ | fail))
   refine .p hmv ?_
   (repeat' (first | (refine Rn.go ?_;conv=>whnf) | refine .mk ?_ | refine .tt ?_ | refine .ff ?_ | refine .m2 ?_ | refine .m3 ?_ | refine .mk (fun hc=>?_) fun hc=>?_ | refine .lp fun v H lp=>?_ | fail))
   rw [encIs_set,Nat.zero_add]
   exact .nx ⟨i,Nat.lt_succ_self _,xs.set i (modI v q),rfl,by omega,hh.set _ (by simp) (vis_vals _ _ (by simp)),by simp [hlen],fun j hj=>by rw [List.getElem?_set_ne (by omega)];exact hfr j hj,List.getElem?_set_self (by omega),by simp [lxs],hin.set hmvb _⟩
  ·have hpB:=nthI (a:=B.r) (c:=k) (by omega)
   have hxk:=nthI (a:=xs) (c:=k) (by omega)
   have hpb:=small_at sB (i:=k) (by omega)
   have hxb:=hin.at_ (i:=k) (by omega)
   have hm3:=mod_fun (atR B.r k) q (by omega) (by omega)
   have hm3b:=modI_bd (n:=atR B.r k) (q:=q) (by omega)
   have hmr:=mul_rng (A:=1073741824) (B:=1073741824) (a:=modI (atR B.r k) q) (b:=atR xs k) (by omega) (by omega)
   have hm4:=mod_fun (s - modI (atR B.r k) q * atR xs k) q (by omega) (by omega)
   have hm4b:=modI_bd (n:=s - modI (atR B.r k) q * atR xs k) (q:=q) (by omega)
   (repeat' (first | (refine Rn.go ?_;conv=>whnf) | refine .mk ?_ | refine .tt ?_ | refine .ff ?_ | refine .m2 ?_ | refine .m3 ?_ | refine .mk (fun hc=>?_) fun hc=>?_ | refine .lp fun v H lp=>?_ | fail))
   refine .p hm3 ?_
   (repeat' (first | (refine Rn.go ?_;conv=>whnf) | refine .mk ?_ | refine .tt ?_ | refine .ff ?_ | refine .m2 ?_ | refine .m3 ?_ | refine .mk (fun hc=>?_) fun hc=>?_ | refine .lp fun v H lp=>?_ | fail))
   refine .p hm4 ?_
   (repeat' (first | (refine Rn.go ?_;conv=>whnf) | refine .mk ?_ | refine .tt ?_ | refine .ff ?_ | refine .m2 ?_ | refine .m3 ?_ | refine .mk (fun hc=>?_) fun hc=>?_ | refine .lp fun v H lp=>?_ | fail))
   exact .nx ⟨m2 - 1,by omega,k+1,_,rfl,rfl,by omega,hm4b.1,hm4b.2⟩
end Go.Pm
end
section
namespace Go.Pm
theorem small_any {l:List Int} (h:small l=true) (i:Nat) : -1099511627776≤atR l i∧atR l i≤1099511627776:=by
 by_cases hi:i<l.length
 ·exact of_decide_eq_true (List.all_eq_true.1 h (atR l i) (List.mem_of_getElem? (i:=i) (by simp [atR,List.getD,List.getElem?_eq_getElem hi])))
 ·simp [atR,List.getD,List.getElem?_eq_none (Nat.le_of_not_lt hi)]
def pn (S:List Row) (P:List Int) (i:Nat):Int:=if atR P i<0 then 0 else atR (rowAt S (atR P i)) i
theorem pn_ok {S:List Row} {P:List Int} (hp:PvOk S P) (hs:∀ R∈S,small R.1=true) {i:Nat} (hi:i<P.length):(pn S P i=0↔atR P i<0)∧-1099511627776≤pn S P i∧pn S P i≤1099511627776:=by
 unfold pn
 obtain ⟨h1,h2⟩:=hp i (atR P i) (by simp [atR,List.getD,List.getElem?_eq_getElem hi])
 by_cases h:atR P i<0
 ·rw [if_pos h];exact ⟨⟨fun _=>h,fun _=>rfl⟩,by omega,by omega⟩
 ·rw [if_neg h]
  obtain ⟨b,u,e1,e2⟩:=h2 (by omega)
  rw [rowAt_of e1]
  have:=small_any (hs _ (List.mem_of_getElem? e1)) i
  exact ⟨⟨fun hh=>absurd hh e2,fun hh=>absurd hh h⟩,this⟩
theorem dvd_tmod {a b:Int}:b ∣ a↔a.tmod b=0:=⟨fun h=>Int.tmod_eq_zero_of_dvd h,fun h=>Int.dvd_of_tmod_eq_zero h⟩
theorem table_prime {S:List Row} {P:List Int} {c:Nat} {last:Int} (hp:PvOk S P) (hs:∀ R∈S,small R.1=true) (hc:c≤P.length) (h12:c≤12) (hl:last≠0) (hb : -1099511627776≤last∧last≤1099511627776) :
  ∃ p:Nat,2≤p∧p≤400∧Prim p∧last.tmod p≠0∧∀ i,i<c→pn S P i=0∨(pn S P i).tmod p≠0:=by
 obtain ⟨p,h1,h2,h3⟩:=good_ex (last::((List.range c).map (pn S P)).filter fun n=>decide (n≠0)) (by
  have:=List.length_filter_le (fun n:Int=>decide (n≠0)) ((List.range c).map (pn S P))
  simp only [List.length_map,List.length_range] at this
  simp only [List.length_cons];omega) (fun n hn=>by
   rcases List.mem_cons.1 hn with rfl | hn
   ·exact ⟨hl,by omega⟩
   ·obtain ⟨hn,h0⟩:=List.mem_filter.1 hn
    obtain ⟨i,hi,rfl⟩:=List.mem_map.1 hn
    have:=pn_ok hp hs (show i<P.length by have:=List.mem_range.1 hi;omega)
    exact ⟨of_decide_eq_true h0,by omega⟩)
 refine ⟨p,h2.1,h1,h2,fun hh=>h3 last (by simp) (dvd_tmod.2 hh),fun i hi=>?_⟩
 by_cases h0:pn S P i=0
 ·exact .inl h0
 ·exact .inr fun hh=>h3 (pn S P i) (List.mem_cons_of_mem _ (List.mem_filter.2 ⟨List.mem_map_of_mem (List.mem_range.2 hi),by simpa using h0⟩)) (dvd_tmod.2 hh)
theorem prim_tmod {p d:Nat} (h:Prim p) (h1:2≤d) (h2:d<p):(p:Int).tmod d≠0:=fun hh=>h.2 d h1 h2 (Int.natCast_dvd_natCast.1 (dvd_tmod.2 hh))
end Go.Pm
end
section
set_option maxRecDepth 4000
namespace Go.Pm
open Go.Proofs
attribute [local irreducible] thenQ blockQ loopQ bodyQ Ev EvOps CallEv FnEv EvD
theorem rprime_ev (H:AHeap) (hR:HR H) (cols:List Tm) (rv pv:PV) (Z:List Rf) (P:List Int) (c:Nat) (last:Int) (er:Out 1 H rv (Z.map Rf.v)) (ez:∀ z∈Z,H[z.i]?=some ⟨.m,z.e,1,encIs z.r⟩∧z.r.length=cols.length+Z.length∧small z.r=true) (ep:Out 1 H pv (encIs P)) (hP:P.length=cols.length) (hpv:PvOk (Z.map Rf.m) P)
  (hn:cols.length≤12) (hk:Z.length<1000) (hc:c<cols.length) (hl0:last≠0) (hlb : -1099511627776≤last∧last≤1099511627776) :
  FnEv C 67 [.agg [.snap false (encs cols),rv,pv],.int .i64 c,.int .i64 last] H (fun r h'=>HR h'∧H.length≤h'.length∧(∀ j,j<H.length→h'[j]?=H[j]?) ∧
   ∃ q:Nat,r=.int .i64 q∧2≤q∧q≤400):=by
 have hrv:=er.oneC
 have hpv1:=ep.oneC
 have hzl:(Z.map Rf.v).length=Z.length:=by simp
 have hx:(cells (PV.agg [.snap false (encs cols),rv,pv])).all oneC=true:=by
  show (true && (oneC rv && (oneC pv && true)))=true
  rw [hrv.1,hpv1.1];rfl
 have hsm:∀ R∈Z.map Rf.m,small R.1=true:=fun R hR=>by
  obtain ⟨z,hz,rfl⟩:=List.mem_map.1 hR
  exact (ez z hz).2.2
 obtain ⟨p0,g1,g2,g3,g4,g5⟩:=table_prime hpv hsm (show c≤P.length by omega) (by omega) hl0 hlb
 obtain ⟨G,hG⟩:∃ G,G=H++[(⟨.m,0,3,[.agg [.snap false (encs cols),rv,pv]]⟩:AObj)]:=⟨_,rfl⟩
 have hRG:HR G:=by
  rw [hG]
  refine hR.app1 (by simp) ?_
  simp only [visRs,visR,Bool.and_true,Bool.true_and,Bool.and_eq_true]
  exact ⟨visR_imp (f:=fun i=>decide (i<H.length)) (fun i hi=>by have:=of_decide_eq_true hi;exact decide_eq_true (by omega)) _ er.visR,visR_imp (f:=fun i=>decide (i<H.length)) (fun i hi=>by have:=of_decide_eq_true hi;exact decide_eq_true (by omega)) _ ep.visR⟩
 have lG:G.length=H.length+1:=by rw [hG];simp
 have fG:∀ j,j<H.length→G[j]?=H[j]?:=fun j hj=>by rw [hG,List.getElem?_append_left hj]
 have bG:G[H.length]?=some ⟨.m,0,3,[.agg [.snap false (encs cols),rv,pv]]⟩:=by rw [hG];simp
 have b2:Out 1 G rv (Z.map Rf.v):=er.of_eq fun i hi=>fG i (er.vlt i hi)
 have b3:Out 1 G pv (encIs P):=ep.of_eq fun i hi=>fG i (ep.vlt i hi)
 have b4:∀ z∈Z,G[z.i]?=some ⟨.m,z.e,1,encIs z.r⟩:=fun z hz=>by rw [fG _ (lt_of_some (ez z hz).1)];exact (ez z hz).1
 obtain ⟨ip,pe,rfl,ep2⟩:∃ ip pe,pv=.mref ip pe 0 P.length∧G[ip]?=some ⟨.m,pe,1,encIs P⟩:=by
  rcases b3 with ⟨_,h0⟩ | ⟨ip,pe,g1,g2⟩
  ·have:=congrArg List.length h0;rw [encIs_len,List.length_nil] at this;omega
  ·exact ⟨ip,pe,by rw [g1];simp,g2⟩
 have hPl:(encIs P).length=P.length:=by simp
 refine FnEv.x T6 Tryz.func67 rfl ?_
 (repeat' (first | (refine Rn.go ?_;conv=>whnf) | refine .mk ?_ | refine .tt ?_ | refine .ff ?_ | refine .m2 ?_ | refine .m3 ?_ | refine .mk (fun hc=>?_) fun hc=>?_ | refine .lp fun v H lp=>?_ | fail))
 rw [hx]
 conv=>whnf
 (repeat' (first | (refine Rn.go ?_;conv=>whnf) | refine .mk ?_ | refine .tt ?_ | refine .ff ?_ | refine .m2 ?_ | refine .m3 ?_ | refine .mk (fun hc=>?_) fun hc=>?_ | refine .lp fun v H lp=>?_ | fail))
 rw [← hG]
 refine LpX.nat T6 (fun m L h=>∃ p:Nat,L=[(1,.int .i64 c),(2,.int .i64 last),(3,.ptr H.length 0 0 0),(7,.int .i64 p)]∧h=G∧2≤p∧p+m=p0) (p0 - 2) (.nx ⟨2,rfl,rfl,by omega,by omega⟩) ?_
 rintro m _ G ρ ⟨p,rfl,rfl,hp2,hpm⟩
 have ok1:p=p0→last.tmod p≠0:=fun hh=>by rw [hh];exact g4
 (repeat' (first | (refine Rn.go ?_;conv=>whnf) | refine .mk ?_ | refine .tt ?_ | refine .ff ?_ | refine .m2 ?_ | refine .m3 ?_ | refine .mk (fun hc=>?_) fun hc=>?_ | refine .lp fun v H lp=>?_ | fail))
 all_goals
  first
   | (have _hc:¬ last.tmod p=0:=hc;refine LpX.nat T6 (fun m2 L h=>∃ (d:Nat) (ok:Bool),L=[(1,.int .i64 c),(2,.int .i64 last),(3,.ptr H.length 0 0 0),(7,.int .i64 p),(8,.bool ok),(9,.int .i64 d)]∧h=G∧2≤d∧d+m2=p∧(p=p0→ok=true)) (p - 2) (.nx ⟨2,true,rfl,rfl,by omega,by omega,fun _=>rfl⟩) ?_)
   | (have _hc:last.tmod p=0:=hc;refine LpX.nat T6 (fun m2 L h=>∃ (d:Nat) (ok:Bool),L=[(1,.int .i64 c),(2,.int .i64 last),(3,.ptr H.length 0 0 0),(7,.int .i64 p),(8,.bool ok),(9,.int .i64 d)]∧h=G∧2≤d∧d+m2=p∧(p=p0→ok=true)) (p - 2) (.nx ⟨2,false,rfl,rfl,by omega,by omega,fun hh=>absurd hc (ok1 hh)⟩) ?_)
  clear hc
  rintro m2 _ G ρ ⟨d,ok,rfl,rfl,hd2,hdm,hok⟩
  by_cases hm2:m2=0
  ·(repeat' (first | (refine Rn.go ?_;conv=>whnf) | refine .mk ?_ | refine .tt ?_ | refine .ff ?_ | refine .m2 ?_ | refine .m3 ?_ | refine .mk (fun hc=>?_) fun hc=>?_ | refine .lp fun v H lp=>?_ | fail))
   refine LpX.nat T6 (fun m3 L h=>∃ (i:Nat) (ok:Bool),L=[(1,.int .i64 c),(2,.int .i64 last),(3,.ptr H.length 0 0 0),(7,.int .i64 p),(8,.bool ok),(10,.int .i64 i)]∧h=G∧i+m3=c∧(p=p0→ok=true)) c (.nx ⟨0,ok,rfl,rfl,by omega,hok⟩) ?_
   clear hok ok
   rintro m3 _ G ρ ⟨i,ok,rfl,rfl,him,hok⟩
   by_cases hm3:m3=0
   ·cases ok
    ·have hlt:p≠p0:=fun hh=>by have:=hok hh;cases this
     (repeat' (first | (refine Rn.go ?_;conv=>whnf) | refine .mk ?_ | refine .tt ?_ | refine .ff ?_ | refine .m2 ?_ | refine .m3 ?_ | refine .mk (fun hc=>?_) fun hc=>?_ | refine .lp fun v H lp=>?_ | fail))
     exact .nx ⟨m - 1,by omega,p+1,rfl,rfl,by omega,by omega⟩
    ·(repeat' (first | (refine Rn.go ?_;conv=>whnf) | refine .mk ?_ | refine .tt ?_ | refine .ff ?_ | refine .m2 ?_ | refine .m3 ?_ | refine .mk (fun hc=>?_) fun hc=>?_ | refine .lp fun v H lp=>?_ | fail))
     refine ⟨hRG,by omega,fG,p,rfl,hp2,by omega⟩
   ·have hPi:i<P.length:=by omega
    have hPat:=nthI (a:=P) (c:=i) hPi
    have hpn:=pn_ok hpv hsm hPi
    have h5:=g5 i (by omega)
    cases ok
    ·have hlt:p≠p0:=fun hh=>by have:=hok hh;cases this
     (repeat' (first | (refine Rn.go ?_;conv=>whnf) | refine .mk ?_ | refine .tt ?_ | refine .ff ?_ | refine .m2 ?_ | refine .m3 ?_ | refine .mk (fun hc=>?_) fun hc=>?_ | refine .lp fun v H lp=>?_ | fail))
     exact .nx ⟨m3 - 1,by omega,i+1,false,rfl,rfl,by omega,fun hh=>absurd hh hlt⟩
    ·by_cases hneg:atR P i<0
     ·(repeat' (first | (refine Rn.go ?_;conv=>whnf) | refine .mk ?_ | refine .tt ?_ | refine .ff ?_ | refine .m2 ?_ | refine .m3 ?_ | refine .mk (fun hc=>?_) fun hc=>?_ | refine .lp fun v H lp=>?_ | fail))
      exact .nx ⟨m3 - 1,by omega,i+1,true,rfl,rfl,by omega,fun _=>rfl⟩
     ·obtain ⟨b,u,hbs,hbz⟩:=(hpv i (atR P i) (by simp [atR,List.getD,List.getElem?_eq_getElem hPi])).2 (by omega)
      obtain ⟨B,hB,hBm⟩:∃ B,Z[(atR P i).toNat]?=some B∧B.m=(b,u):=by
       rw [List.getElem?_map] at hbs
       cases hB:Z[(atR P i).toNat]? with
       | none=>rw [hB] at hbs;cases hbs
       | some B=>rw [hB] at hbs;exact ⟨B,rfl,by simpa using hbs⟩
      have hBin:=List.mem_of_getElem? hB
      have hBlt:=lt_of_some hB
      have hbeq:b=B.r:=congrArg Prod.fst hBm.symm
      subst hbeq
      obtain ⟨_,lB,sB⟩:=ez B hBin
      have eB:=b4 B hBin
      obtain ⟨rr,re,rfl,er3⟩:∃ rr re,rv=.mref rr re 0 Z.length∧G[rr]?=some ⟨.m,re,1,Z.map Rf.v⟩:=by
       rcases b2 with ⟨_,h0⟩ | ⟨rr,re,g1,g2⟩
       ·have:=congrArg List.length h0;simp at this;rw [this] at hBlt;simp at hBlt
       ·exact ⟨rr,re,by rw [g1,hzl],g2⟩
      have hatB:(Z.map Rf.v)[0+(atR P i).toNat]?=some (.mref B.i B.e 0 B.r.length):=by rw [Nat.zero_add,List.getElem?_map,hB];rfl
      have hlB:(encIs B.r).length=B.r.length:=by simp
      have hpB:=nthI (a:=B.r) (c:=i) (by omega)
      have hpe:pn (Z.map Rf.m) P i=atR B.r i:=by rw [pn,if_neg hneg,rowAt_of hbs]
      rw [hpe] at h5
      have h6:p=p0→(atR B.r i).tmod p≠0:=fun hh=>by rw [hh];exact h5.resolve_left hbz
      have hsB:=small_any sB i
      (repeat' (first | (refine Rn.go ?_;conv=>whnf) | refine .mk ?_ | refine .tt ?_ | refine .ff ?_ | refine .m2 ?_ | refine .m3 ?_ | refine .mk (fun hc=>?_) fun hc=>?_ | refine .lp fun v H lp=>?_ | fail))
      all_goals first | (have _hc:¬ (atR B.r i).tmod p=0:=hc;exact .nx ⟨m3 - 1,by omega,i+1,true,rfl,rfl,by omega,fun _=>rfl⟩) | exact .nx ⟨m3 - 1,by omega,i+1,false,rfl,rfl,by omega,fun hh=>absurd hc (h6 hh)⟩
  ·have hpt:p=p0→(p:Int).tmod d≠0:=fun hh=>by rw [hh];exact prim_tmod g3 hd2 (by omega)
   cases ok
   ·have hlt:p≠p0:=fun hh=>by have:=hok hh;cases this
    (repeat' (first | (refine Rn.go ?_;conv=>whnf) | refine .mk ?_ | refine .tt ?_ | refine .ff ?_ | refine .m2 ?_ | refine .m3 ?_ | refine .mk (fun hc=>?_) fun hc=>?_ | refine .lp fun v H lp=>?_ | fail))
    exact .nx ⟨m2 - 1,by omega,d+1,false,rfl,rfl,by omega,by omega,fun hh=>absurd hh hlt⟩
   ·(repeat' (first | (refine Rn.go ?_;conv=>whnf) | refine .mk ?_ | refine .tt ?_ | refine .ff ?_ | refine .m2 ?_ | refine .m3 ?_ | refine .mk (fun hc=>?_) fun hc=>?_ | refine .lp fun v H lp=>?_ | fail))
    all_goals first | (have _hc:¬ (p:Int).tmod d=0:=hc;exact .nx ⟨m2 - 1,by omega,d+1,true,rfl,rfl,by omega,by omega,fun _=>rfl⟩) | exact .nx ⟨m2 - 1,by omega,d+1,false,rfl,rfl,by omega,by omega,fun hh=>absurd hc (hpt hh)⟩
end Go.Pm
end
section
set_option maxRecDepth 4000
namespace Go.Pm
open Go.Proofs
def nb (S:List Row) (P:List Int) (i:Nat):Nat:=if pn S P i=0 then 1 else (pn S P i).natAbs
def befN (S:List Row) (P:List Int):Nat→Nat
 | 0=>1
 | i+1=>befN S P i * nb S P i
theorem nb_pos (S:List Row) (P:List Int) (i:Nat):1≤nb S P i:=by unfold nb;split <;> omega
theorem befN_pos (S:List Row) (P:List Int):∀ i,1≤befN S P i
 | 0=>Nat.le_refl _
 | i+1=>Nat.mul_le_mul (befN_pos S P i) (nb_pos S P i)
theorem befN_mono (S:List Row) (P:List Int) {i j:Nat} (h:i≤j):befN S P i≤befN S P j:=by
 induction h with
 | refl=>exact Nat.le_refl _
 | @step k _ ih=>exact Nat.le_trans ih (Nat.le_mul_of_pos_right _ (nb_pos S P k))
def refE (g:Giv):Int:=match g with
 | .err e=>e
 | .ok S P _ c=>if c<0 then 5 else if atR P c.toNat<0 then 0 else if 1073741824<befN S P c.toNat * nb S P c.toNat then 3 else 0
theorem rabs_nat {n:Int} (h : -9223372036854775807≤n∧n≤9223372036854775807):Fun C 68 [.int .i64 n] (.int .i64 (n.natAbs:Int)):=by
 have:=rabs_fun n h
 rw [absI] at this;exact this
theorem rb_char {h:AHeap} {w w1 a b:PV} {sz:Nat} {es:List PV} (o:Out sz h w es) (hw:rbA h w=some w1) (ha:rb1 h a=some a:=by rfl) (hb:rbA h b=some b:=by rfl):rb h (tupOf [.agg [a,w],b])=some (.tup [.agg [a,w1],b]):=by
 have h1:rb1 h w=some w1:=by rcases o with ⟨rfl,_⟩ | ⟨_,_,rfl,_⟩ <;> exact hw
 show (rbAs h [.agg [a,w],b]).map PV.tup=_
 simp [rbAs,rbA,rb1s,h1,ha]
 have hb2:=hb
 simp only [rbA] at hb2
 rw [hb2]
attribute [local irreducible] thenQ blockQ loopQ bodyQ Ev EvOps CallEv FnEv EvD
theorem rref_fun (l:List (List Pw)) (m:List Pw) (g:Giv) (hl:l.length≤12) (hs:SmT (l++[m])) (hg:GivR l m g) :
  ∃ x,(∃ a vs,x=.agg [.int .i64 a,.snap false vs])∧Fun C 23 [.snap false (encPPs l),.snap false (encPs m)] (.tup [x,.int .i64 (refE g)]):=by
 have hel:(encPPs l).length=l.length:=by simp
 have hgv:=given_ev [⟨.m,0,2,[.agg [.int .i64 0,.snap true []]]⟩] (HV.one rfl) l m g hl hs hg
 suffices hmain:FnEv C 23 [.snap false (encPPs l),.snap false (encPs m)] [] (fun r0 hc=>∃ x,(∃ a vs,x=.agg [.int .i64 a,.snap false vs])∧∃ r1,rb hc r0=some r1∧nrm r1=.tup [x,.int .i64 (refE g)]) by
  exact Fun.ex hmain
 refine FnEv.x T6 Tryz.func23 rfl ?_
 cases g with
 | err e=>
  have he:e≠0:=by
   cases hg with
   | bad h=>exact h
   | wide=>decide
   | big=>decide
   | big2=>decide
  (repeat' (first | (refine Rn.go ?_;conv=>whnf) | refine .mk ?_ | refine .tt ?_ | refine .ff ?_ | refine .m2 ?_ | refine .m3 ?_ | refine .mk (fun hc=>?_) fun hc=>?_ | refine .lp fun v H lp=>?_ | fail))
  refine .fr hgv (fun r h hr hb=>givPost_fr hr hb) (fun r h r1 r2 r3 r4=>?_)
  replace r4:r=_:=r4
  subst r4
  have e0:h[0]?=some ⟨.m,0,2,[.agg [.int .i64 0,.snap true []]]⟩:=by rw [r3 0 (by simp)];rfl
  (repeat' (first | (refine Rn.go ?_;conv=>whnf) | refine .mk ?_ | refine .tt ?_ | refine .ff ?_ | refine .m2 ?_ | refine .m3 ?_ | refine .mk (fun hc=>?_) fun hc=>?_ | refine .lp fun v H lp=>?_ | fail))
  refine .mk ?_ (resC_cellN (T:=T6) rfl (List.getElem?_set_self (by simp)) rfl rfl rfl rfl)
  refine Rn.go ?_
  exact ⟨.agg [.int .i64 0,.snap false []],⟨_,_,rfl⟩,_,rfl,rfl⟩
 | ok S P t c=>
  obtain ⟨g1,g2,g3,g4,g5,g6⟩:=givR_t hg
  by_cases hc:c<0
  ·(repeat' (first | (refine Rn.go ?_;conv=>whnf) | refine .mk ?_ | refine .tt ?_ | refine .ff ?_ | refine .m2 ?_ | refine .m3 ?_ | refine .mk (fun hc=>?_) fun hc=>?_ | refine .lp fun v H lp=>?_ | fail))
   refine .fr hgv (fun r h hr hb=>givPost_fr hr hb) (fun r h r1 r2 r3 r4=>?_)
   obtain ⟨rv,pv,v,Z,rfl,q⟩:=r4
   have hrv:=q.er.oneC
   have hpv:=q.ep.oneC
   have hcx:(cells (PV.agg [.snap false (encs (facs (l++[m]))),rv,pv])).all oneC=true:=by
    show (true && (oneC rv && (oneC pv && true)))=true
    rw [hrv.1,hpv.1];rfl
   have e0:h[0]?=some ⟨.m,0,2,[.agg [.int .i64 0,.snap true []]]⟩:=by rw [r3 0 (by simp)];rfl
   (repeat' (first | (refine Rn.go ?_;conv=>whnf) | refine .mk ?_ | refine .tt ?_ | refine .ff ?_ | refine .m2 ?_ | refine .m3 ?_ | refine .mk (fun hc=>?_) fun hc=>?_ | refine .lp fun v H lp=>?_ | fail))
   rw [hcx]
   conv=>whnf
   (repeat' (first | (refine Rn.go ?_;conv=>whnf) | refine .mk ?_ | refine .tt ?_ | refine .ff ?_ | refine .m2 ?_ | refine .m3 ?_ | refine .mk (fun hc=>?_) fun hc=>?_ | refine .lp fun v H lp=>?_ | fail))
   refine .mk ?_ (resC_cellN (T:=T6) rfl (List.getElem?_set_self (by simp)) rfl rfl rfl rfl)
   refine Rn.go ?_
   exact ⟨.agg [.int .i64 0,.snap false []],⟨_,_,rfl⟩,_,rfl,by simp [refE,hc,tupOf,nrm,nrms,cells]⟩
  ·obtain ⟨e,rfl,hen⟩:=g6.resolve_left (by omega)
   have hrE:refE (.ok S P t e)=if atR P e<0 then 0 else if 1073741824<befN S P e * nb S P e then 3 else 0:=by
    rw [refE,if_neg hc,Int.toNat_natCast]
   obtain ⟨_,_,_,hok⟩:True∧True∧True∧∃ i,P[e]?=some i∧atR t e≠0:=by
    refine ⟨trivial,trivial,trivial,?_⟩
    cases hg with
    | ok h1 h2 h3 h4=>
     obtain ⟨_,_,_,d⟩:=red_ok (EInv.el h3 (row0s_inv l m) _ _ rfl) P 0 _ t e rfl (t0r_len l m) (by simp) h4
     obtain ⟨e',e1,e2,e3,e4,i,e5,_⟩:=d (by omega)
     have:e'=e:=by omega
     subst this
     exact ⟨i,e5,e3⟩
   obtain ⟨_,_,hte⟩:=hok
   have hPl0:P.length=(facs (l++[m])).length:=g5.pl
   rw [hrE]
   (repeat' (first | (refine Rn.go ?_;conv=>whnf) | refine .mk ?_ | refine .tt ?_ | refine .ff ?_ | refine .m2 ?_ | refine .m3 ?_ | refine .mk (fun hc=>?_) fun hc=>?_ | refine .lp fun v H lp=>?_ | fail))
   refine .fr hgv (fun r h hr hb=>givPost_fr hr hb) (fun r h r1 r2 r3 r4=>?_)
   obtain ⟨rv,pv,v,Z,rfl,q⟩:=r4
   have hrv:=q.er.oneC
   have hpv:=q.ep.oneC
   have hcx:(cells (PV.agg [.snap false (encs (facs (l++[m]))),rv,pv])).all oneC=true:=by
    show (true && (oneC rv && (oneC pv && true)))=true
    rw [hrv.1,hpv.1];rfl
   have e0:h[0]?=some ⟨.m,0,2,[.agg [.int .i64 0,.snap true []]]⟩:=by rw [r3 0 (by simp)];rfl
   (repeat' (first | (refine Rn.go ?_;conv=>whnf) | refine .mk ?_ | refine .tt ?_ | refine .ff ?_ | refine .m2 ?_ | refine .m3 ?_ | refine .mk (fun hc=>?_) fun hc=>?_ | refine .lp fun v H lp=>?_ | fail))
   rw [hcx]
   conv=>whnf
   (repeat' (first | (refine Rn.go ?_;conv=>whnf) | refine .mk ?_ | refine .tt ?_ | refine .ff ?_ | refine .m2 ?_ | refine .m3 ?_ | refine .mk (fun hc=>?_) fun hc=>?_ | refine .lp fun v H lp=>?_ | fail))
   obtain ⟨G,hG⟩:∃ G,G=h++[(⟨.m,0,3,[.agg [.snap false (encs (facs (l++[m]))),rv,pv]]⟩:AObj)]:=⟨_,rfl⟩
   have hRG:HR G:=by
    rw [hG]
    refine r1.app1 (by simp) ?_
    simp only [visRs,visR,Bool.and_true,Bool.true_and,Bool.and_eq_true]
    exact ⟨visR_imp (f:=fun i=>decide (i<h.length)) (fun i hi=>by have:=of_decide_eq_true hi;exact decide_eq_true (by omega)) _ q.er.visR,visR_imp (f:=fun i=>decide (i<h.length)) (fun i hi=>by have:=of_decide_eq_true hi;exact decide_eq_true (by omega)) _ q.ep.visR⟩
   have lG:G.length=h.length+1:=by rw [hG];simp
   have lh0:=lt_of_some e0
   have fG:∀ j,j<h.length→G[j]?=h[j]?:=fun j hj=>by rw [hG,List.getElem?_append_left hj]
   have bG:G[h.length]?=some ⟨.m,0,3,[.agg [.snap false (encs (facs (l++[m]))),rv,pv]]⟩:=by rw [hG];simp
   have e0G:G[0]?=some ⟨.m,0,2,[.agg [.int .i64 0,.snap true []]]⟩:=by rw [fG 0 lh0];exact e0
   have b2:Out 1 G rv (Z.map Rf.v):=q.er.of_eq fun i hi=>fG i (q.er.vlt i hi)
   have b3:Out 1 G pv (encIs P):=q.ep.of_eq fun i hi=>fG i (q.ep.vlt i hi)
   have b5:Out 1 G v (encIs t):=q.et.of_eq fun i hi=>fG i (q.et.vlt i hi)
   have b4:∀ z∈Z,G[z.i]?=some ⟨.m,z.e,1,encIs z.r⟩∧z.r.length=(facs (l++[m])).length+Z.length∧small z.r=true:=fun z hz=>by
    obtain ⟨q1,q2,q3⟩:=q.ez z hz
    exact ⟨by rw [fG _ (lt_of_some q1)];exact q1,by rw [q.lZ];exact q2,q3⟩
   have hZl:=q.lZ
   have hZS:=q.eS
   clear q
   subst hZS
   have hzl:(Z.map Rf.v).length=Z.length:=by simp
   have hpv2:=g5.ok
   have hsm:∀ R∈Z.map Rf.m,small R.1=true:=fun R hR=>by
    obtain ⟨z,hz,rfl⟩:=List.mem_map.1 hR
    exact (b4 z hz).2.2
   obtain ⟨ip,pe,rfl,ep2⟩:∃ ip pe,pv=.mref ip pe 0 P.length∧G[ip]?=some ⟨.m,pe,1,encIs P⟩:=by
    rcases b3 with ⟨_,h0⟩ | ⟨ip,pe,g1,g2⟩
    ·have:=congrArg List.length h0;rw [encIs_len,List.length_nil] at this;omega
    ·exact ⟨ip,pe,by rw [g1];simp,g2⟩
   obtain ⟨it,et,rfl,et2⟩:∃ it et,v=.mref it et 0 t.length∧G[it]?=some ⟨.m,et,1,encIs t⟩:=by
    rcases b5 with ⟨_,h0⟩ | ⟨ip,pe,g1,g2⟩
    ·have:=congrArg List.length h0;rw [encIs_len,List.length_nil] at this;omega
    ·exact ⟨ip,pe,by rw [g1];simp,g2⟩
   have hPl:(encIs P).length=P.length:=by simp
   have htl:(encIs t).length=t.length:=by simp
   have hPi:e<P.length:=by omega
   have hti:e<t.length:=by omega
   have hPat:=nthI (a:=P) (c:=e) hPi
   have htat:=nthI (a:=t) (c:=e) hti
   have htb:=small_any g4 e
   rw [← hG]
   have row:∀ i,i<P.length→¬ atR P i<0→∃ (rr re:Nat) (B:Rf),rv=.mref rr re 0 Z.length∧G[rr]?=some ⟨.m,re,1,Z.map Rf.v⟩∧(Z.map Rf.v)[0+(atR P i).toNat]?=some (.mref B.i B.e 0 B.r.length)∧G[B.i]?=some ⟨.m,B.e,1,encIs B.r⟩∧(atR P i).toNat<Z.length∧i<B.r.length∧pn (Z.map Rf.m) P i=atR B.r i∧atR B.r i≠0∧(-1099511627776≤atR B.r i∧atR B.r i≤1099511627776):=fun i hi hneg=>by
    obtain ⟨b,u,hbs,hbz⟩:=(hpv2 i (atR P i) (by simp [atR,List.getD,List.getElem?_eq_getElem hi])).2 (by omega)
    obtain ⟨B,hB,hBm⟩:∃ B,Z[(atR P i).toNat]?=some B∧B.m=(b,u):=by
     rw [List.getElem?_map] at hbs
     cases hB:Z[(atR P i).toNat]? with
     | none=>rw [hB] at hbs;cases hbs
     | some B=>rw [hB] at hbs;exact ⟨B,rfl,by simpa using hbs⟩
    have hBin:=List.mem_of_getElem? hB
    have hBlt:=lt_of_some hB
    have hbeq:b=B.r:=congrArg Prod.fst hBm.symm
    subst hbeq
    obtain ⟨eB,lB,sB⟩:=b4 B hBin
    obtain ⟨rr,re,hrv3,er3⟩:∃ rr re,rv=.mref rr re 0 Z.length∧G[rr]?=some ⟨.m,re,1,Z.map Rf.v⟩:=by
     rcases b2 with ⟨_,h0⟩ | ⟨rr,re,g1,g2⟩
     ·have:=congrArg List.length h0;simp at this;rw [this] at hBlt;simp at hBlt
     ·exact ⟨rr,re,by rw [g1,hzl],g2⟩
    exact ⟨rr,re,B,hrv3,er3,by rw [Nat.zero_add,List.getElem?_map,hB];rfl,eB,hBlt,by omega,by rw [pn,if_neg hneg,rowAt_of hbs],hbz,small_any sB i⟩
   by_cases hneg:atR P e<0
   ·have hpr:=rprime_ev G hRG (facs (l++[m])) rv (.mref ip pe 0 P.length) Z P e (atR t e) b2 b4 b3 hPl0 hpv2 g2 (by omega) hen hte htb
    (repeat' (first | (refine Rn.go ?_;conv=>whnf) | refine .mk ?_ | refine .tt ?_ | refine .ff ?_ | refine .m2 ?_ | refine .m3 ?_ | refine .mk (fun hc=>?_) fun hc=>?_ | refine .lp fun v H lp=>?_ | fail))
    refine .fr hpr (fun r h6 hr _=>hr) (fun r h6 s1 s2 s3 s4=>?_)
    obtain ⟨q,rfl,q1,q2⟩:=s4
    have b6:h6[h.length]?=some ⟨.m,0,3,[.agg [.snap false (encs (facs (l++[m]))),rv,.mref ip pe 0 P.length]]⟩:=by rw [s3 _ (by omega)];exact bG
    have hch:=rchar_ev h6 s1 (facs (l++[m])) rv (.mref ip pe 0 P.length) Z P e 1 (q:Int) (b2.of_eq fun i hi=>s3 i (b2.vlt i hi)) (fun z hz=>⟨by rw [s3 _ (lt_of_some (b4 z hz).1)];exact (b4 z hz).1,(b4 z hz).2⟩) (b3.of_eq fun i hi=>s3 i (b3.vlt i hi)) hPl0 hpv2 (by omega) (by omega) hen (by omega) (by omega)
    (repeat' (first | (refine Rn.go ?_;conv=>whnf) | refine .mk ?_ | refine .tt ?_ | refine .ff ?_ | refine .m2 ?_ | refine .m3 ?_ | refine .mk (fun hc=>?_) fun hc=>?_ | refine .lp fun v H lp=>?_ | fail))
    refine .fr hch (fun r h8 hr hb=>?_) (fun r h8 u1 u2 u3 u4=>?_)
    ·obtain ⟨w,Q,rfl,o,f⟩:=hr
     simp only [belowR,belowA,List.all_cons,List.all_nil,Bool.and_true,Bool.and_eq_true] at hb
     obtain ⟨rfl,w2⟩:=out_b1 o hb.2 f
     exact ⟨_,[],rfl,.inl ⟨rfl,rfl⟩,by simp [vid]⟩
    obtain ⟨w,Q,rfl,o,f⟩:=u4
    have how:=o.oneC
    have hcx2:(cells (PV.agg [.int .i64 (q:Int),w])).all oneC=true:=by
     show (true && (oneC w && true))=true
     rw [how.1];rfl
    have e8:h8[0]?=some ⟨.m,0,2,[.agg [.int .i64 0,.snap true []]]⟩:=by rw [u3 0 (by omega),s3 0 (by omega)];exact e0G
    have k8:=lt_of_some e8
    (repeat' (first | (refine Rn.go ?_;conv=>whnf) | refine .mk ?_ | refine .tt ?_ | refine .ff ?_ | refine .m2 ?_ | refine .m3 ?_ | refine .mk (fun hc=>?_) fun hc=>?_ | refine .lp fun v H lp=>?_ | fail))
    rw [hcx2]
    conv=>whnf
    (repeat' (first | (refine Rn.go ?_;conv=>whnf) | refine .mk ?_ | refine .tt ?_ | refine .ff ?_ | refine .m2 ?_ | refine .m3 ?_ | refine .mk (fun hc=>?_) fun hc=>?_ | refine .lp fun v H lp=>?_ | fail))
    refine .mk ?_ (resC_cellN (T:=T6) rfl (List.getElem?_set_self k8) rfl rfl rfl rfl)
    refine Rn.go ?_
    have w2:Out 5 (h8.set 0 ⟨.m,0,2,[.agg [.int .i64 (q:Int),w]]⟩) w (encPs Q):=o.of_eq fun i hi=>List.getElem?_set_ne (by have:=f i hi;omega)
    obtain ⟨w1,w3,w4⟩:=w2.rbA (encPs_vals _)
    exact ⟨.agg [.int .i64 q,nrm w1],⟨_,_,by rw [w4]⟩,_,rb_char w2 w3,by simp [nrm,nrms,hneg]⟩
   ·obtain ⟨rr,re,B,rfl,er3,hatB,eB,hBlt,hBi,hpe,hbz,hbb⟩:=row e hPi hneg
    have hlB:(encIs B.r).length=B.r.length:=by simp
    have hpB:=nthI (a:=B.r) (c:=e) hBi
    have habs:=rabs_nat (n:=atR B.r e) (by omega)
    have hnbe:nb (Z.map Rf.m) P e=(atR B.r e).natAbs:=by rw [nb,hpe,if_neg hbz]
    (repeat' (first | (refine Rn.go ?_;conv=>whnf) | refine .mk ?_ | refine .tt ?_ | refine .ff ?_ | refine .m2 ?_ | refine .m3 ?_ | refine .mk (fun hc=>?_) fun hc=>?_ | refine .lp fun v H lp=>?_ | fail))
    refine .p habs ?_
    (repeat' (first | (refine Rn.go ?_;conv=>whnf) | refine .mk ?_ | refine .tt ?_ | refine .ff ?_ | refine .m2 ?_ | refine .m3 ?_ | refine .mk (fun hc=>?_) fun hc=>?_ | refine .lp fun v H lp=>?_ | fail))
    refine LpX.nat T6 (fun m L h7=>∃ (i fs q:Nat),L=[(4,.ptr 0 0 0 0),(6,.ptr h.length 0 0 0),(8,.int .i64 e),(10,.int .i64 fs),(11,.int .i64 q),(12,.int .i64 i)]∧h7=G∧i+m=e∧((q≤1073741824∧q=nb (Z.map Rf.m) P e * befN (Z.map Rf.m) P i∧fs=befN (Z.map Rf.m) P i)∨(1073741824<q∧1073741824<befN (Z.map Rf.m) P e * nb (Z.map Rf.m) P e))) e (.nx ⟨0,1,(atR B.r e).natAbs,rfl,rfl,by omega,?_⟩) ?_
    ·by_cases hb:(atR B.r e).natAbs≤1073741824
     ·exact .inl ⟨hb,by rw [hnbe];simp [befN],rfl⟩
     ·refine .inr ⟨by omega,?_⟩
      have h1:=Nat.mul_le_mul_right (nb (Z.map Rf.m) P e) (befN_pos (Z.map Rf.m) P e)
      rw [Nat.one_mul,hnbe] at h1
      rw [hnbe];omega
    ·rintro m3 _ G ρ ⟨i,fs,q,rfl,rfl,him,hq⟩
     by_cases hgo:m3≠0∧q≤1073741824
     ·have hi1:i<P.length:=by omega
      have hq1:q=nb (Z.map Rf.m) P e * befN (Z.map Rf.m) P i∧fs=befN (Z.map Rf.m) P i:=by
       rcases hq with ⟨_,h⟩ | ⟨h,_⟩
       ·exact h
       ·omega
      have hPat2:=nthI (a:=P) (c:=i) hi1
      have hsuc:befN (Z.map Rf.m) P (i+1)=befN (Z.map Rf.m) P i * nb (Z.map Rf.m) P i:=rfl
      by_cases hneg2:atR P i<0
      ·have hnb1:nb (Z.map Rf.m) P i=1:=by rw [nb,if_pos (by rw [pn,if_pos hneg2])]
       (repeat' (first | (refine Rn.go ?_;conv=>whnf) | refine .mk ?_ | refine .tt ?_ | refine .ff ?_ | refine .m2 ?_ | refine .m3 ?_ | refine .mk (fun hc=>?_) fun hc=>?_ | refine .lp fun v H lp=>?_ | fail))
       exact .nx ⟨m3 - 1,by omega,i+1,fs,q,rfl,rfl,by omega,.inl ⟨by omega,by rw [hsuc,hnb1,Nat.mul_one];exact hq1.1,by rw [hsuc,hnb1,Nat.mul_one];exact hq1.2⟩⟩
      ·obtain ⟨rr2,re2,B2,hrr2,er4,hatB2,eB2,hBlt2,hBi2,hpe2,hbz2,hbb2⟩:=row i hi1 hneg2
       simp only [PV.mref.injEq] at hrr2
       obtain ⟨rfl,rfl,_,_⟩:=hrr2
       have hlB2:(encIs B2.r).length=B2.r.length:=by simp
       have hpB2:=nthI (a:=B2.r) (c:=i) hBi2
       have habs2:=rabs_nat (n:=atR B2.r i) (by omega)
       have hnbi:nb (Z.map Rf.m) P i=(atR B2.r i).natAbs:=by rw [nb,hpe2,if_neg hbz2]
       have hfq:fs≤q:=by rw [hq1.1,hq1.2];exact Nat.le_mul_of_pos_left _ (nb_pos _ _ _)
       by_cases hbig:(atR B2.r i).natAbs≤1073741824
       ·have hmf:=mul_rng (a:=(fs:Int)) (b:=((atR B2.r i).natAbs:Int)) (A:=1073741824) (B:=1073741824) (by omega) (by omega)
        have hmq:=mul_rng (a:=(q:Int)) (b:=((atR B2.r i).natAbs:Int)) (A:=1073741824) (B:=1073741824) (by omega) (by omega)
        (repeat' (first | (refine Rn.go ?_;conv=>whnf) | refine .mk ?_ | refine .tt ?_ | refine .ff ?_ | refine .m2 ?_ | refine .m3 ?_ | refine .mk (fun hc=>?_) fun hc=>?_ | refine .lp fun v H lp=>?_ | fail))
        refine .p habs2 ?_
        (repeat' (first | (refine Rn.go ?_;conv=>whnf) | refine .mk ?_ | refine .tt ?_ | refine .ff ?_ | refine .m2 ?_ | refine .m3 ?_ | refine .mk (fun hc=>?_) fun hc=>?_ | refine .lp fun v H lp=>?_ | fail))
        refine .p habs2 ?_
        (repeat' (first | (refine Rn.go ?_;conv=>whnf) | refine .mk ?_ | refine .tt ?_ | refine .ff ?_ | refine .m2 ?_ | refine .m3 ?_ | refine .mk (fun hc=>?_) fun hc=>?_ | refine .lp fun v H lp=>?_ | fail))
        refine .p habs2 ?_
        (repeat' (first | (refine Rn.go ?_;conv=>whnf) | refine .mk ?_ | refine .tt ?_ | refine .ff ?_ | refine .m2 ?_ | refine .m3 ?_ | refine .mk (fun hc=>?_) fun hc=>?_ | refine .lp fun v H lp=>?_ | fail))
        rw [← Int.natCast_mul,← Int.natCast_mul]
        refine .nx ⟨m3 - 1,by omega,i+1,fs * (atR B2.r i).natAbs,q * (atR B2.r i).natAbs,rfl,rfl,by omega,?_⟩
        have h9:q * (atR B2.r i).natAbs=nb (Z.map Rf.m) P e * befN (Z.map Rf.m) P (i+1):=by rw [hsuc,hq1.1,hnbi,Nat.mul_assoc]
        by_cases hle:q * (atR B2.r i).natAbs≤1073741824
        ·exact .inl ⟨hle,h9,by rw [hsuc,hq1.2,hnbi]⟩
        ·refine .inr ⟨by omega,?_⟩
         have h10:=Nat.mul_le_mul_left (nb (Z.map Rf.m) P e) (befN_mono (Z.map Rf.m) P (show i+1≤e by omega))
         rw [Nat.mul_comm (befN _ _ _)]
         omega
       ·have h8:1073741824<befN (Z.map Rf.m) P e * nb (Z.map Rf.m) P e:=by
         have h1:=befN_mono (Z.map Rf.m) P (show i+1≤e by omega)
         have h2:=Nat.le_mul_of_pos_left (nb (Z.map Rf.m) P i) (befN_pos (Z.map Rf.m) P i)
         have h3:=Nat.le_mul_of_pos_right (befN (Z.map Rf.m) P e) (nb_pos (Z.map Rf.m) P e)
         rw [hsuc] at h1
         omega
        (repeat' (first | (refine Rn.go ?_;conv=>whnf) | refine .mk ?_ | refine .tt ?_ | refine .ff ?_ | refine .m2 ?_ | refine .m3 ?_ | refine .mk (fun hc=>?_) fun hc=>?_ | refine .lp fun v H lp=>?_ | fail))
        refine .p habs2 ?_
        (repeat' (first | (refine Rn.go ?_;conv=>whnf) | refine .mk ?_ | refine .tt ?_ | refine .ff ?_ | refine .m2 ?_ | refine .m3 ?_ | refine .mk (fun hc=>?_) fun hc=>?_ | refine .lp fun v H lp=>?_ | fail))
        exact .nx ⟨m3 - 1,by omega,i+1,fs,1073741825,rfl,rfl,by omega,.inr ⟨by omega,h8⟩⟩
     ·have hend:(1073741824<q∧1073741824<befN (Z.map Rf.m) P e * nb (Z.map Rf.m) P e)∨(i=e∧q≤1073741824∧q=befN (Z.map Rf.m) P e * nb (Z.map Rf.m) P e∧fs=befN (Z.map Rf.m) P e):=by
       rcases hq with ⟨h1,h2,h3⟩ | h
       ·have:i=e:=by omega
        subst this
        exact .inr ⟨rfl,h1,by rw [h2,Nat.mul_comm],h3⟩
       ·exact .inl h
      rcases hend with ⟨h1,h2⟩ | ⟨rfl,h1,h2,h3⟩
      ·(repeat' (first | (refine Rn.go ?_;conv=>whnf) | refine .mk ?_ | refine .tt ?_ | refine .ff ?_ | refine .m2 ?_ | refine .m3 ?_ | refine .mk (fun hc=>?_) fun hc=>?_ | refine .lp fun v H lp=>?_ | fail))
       all_goals
        refine .mk ?_ (resC_cellN (T:=T6) rfl (List.getElem?_set_self (by omega)) rfl rfl rfl rfl)
        refine Rn.go ?_
        exact ⟨.agg [.int .i64 0,.snap false []],⟨_,_,rfl⟩,_,rfl,by simp [hneg,h2,tupOf,nrm,nrms,cells]⟩
      ·have hle:¬ 1073741824<befN (Z.map Rf.m) P i * nb (Z.map Rf.m) P i:=by omega
       have hp1:=befN_pos (Z.map Rf.m) P i
       have hfq:fs≤q:=by rw [h2,h3];exact Nat.le_mul_of_pos_right _ (nb_pos _ _ _)
       have hch:=rchar_ev G hRG (facs (l++[m])) (.mref rr re 0 Z.length) (.mref ip pe 0 P.length) Z P i (fs:Int) (q:Int) b2 b4 b3 hPl0 hpv2 (by omega) (by omega) hen (by omega) (by omega)
       (repeat' (first | (refine Rn.go ?_;conv=>whnf) | refine .mk ?_ | refine .tt ?_ | refine .ff ?_ | refine .m2 ?_ | refine .m3 ?_ | refine .mk (fun hc=>?_) fun hc=>?_ | refine .lp fun v H lp=>?_ | fail))
       refine .fr hch (fun r h8 hr hb=>?_) (fun r h8 u1 u2 u3 u4=>?_)
       ·obtain ⟨w,Q,rfl,o,f⟩:=hr
        simp only [belowR,belowA,List.all_cons,List.all_nil,Bool.and_true,Bool.and_eq_true] at hb
        obtain ⟨rfl,w2⟩:=out_b1 o hb.2 f
        exact ⟨_,[],rfl,.inl ⟨rfl,rfl⟩,by simp [vid]⟩
       obtain ⟨w,Q,rfl,o,f⟩:=u4
       have how:=o.oneC
       have hcx2:(cells (PV.agg [.int .i64 (q:Int),w])).all oneC=true:=by
        show (true && (oneC w && true))=true
        rw [how.1];rfl
       have e8:h8[0]?=some ⟨.m,0,2,[.agg [.int .i64 0,.snap true []]]⟩:=by rw [u3 0 (by omega)];exact e0G
       have k8:=lt_of_some e8
       (repeat' (first | (refine Rn.go ?_;conv=>whnf) | refine .mk ?_ | refine .tt ?_ | refine .ff ?_ | refine .m2 ?_ | refine .m3 ?_ | refine .mk (fun hc=>?_) fun hc=>?_ | refine .lp fun v H lp=>?_ | fail))
       rw [hcx2]
       conv=>whnf
       (repeat' (first | (refine Rn.go ?_;conv=>whnf) | refine .mk ?_ | refine .tt ?_ | refine .ff ?_ | refine .m2 ?_ | refine .m3 ?_ | refine .mk (fun hc=>?_) fun hc=>?_ | refine .lp fun v H lp=>?_ | fail))
       refine .mk ?_ (resC_cellN (T:=T6) rfl (List.getElem?_set_self k8) rfl rfl rfl rfl)
       refine Rn.go ?_
       have w2:Out 5 (h8.set 0 ⟨.m,0,2,[.agg [.int .i64 (q:Int),w]]⟩) w (encPs Q):=o.of_eq fun i hi=>List.getElem?_set_ne (by have:=f i hi;omega)
       obtain ⟨w1,w3,w4⟩:=w2.rbA (encPs_vals _)
       exact ⟨.agg [.int .i64 q,nrm w1],⟨_,_,by rw [w4]⟩,_,rb_char w2 w3,by simp [nrm,nrms,hneg,hle]⟩
end Go.Pm
end
section
set_option maxRecDepth 4000
namespace Go.Pm
open Go.Proofs
theorem absN_fun (n:Int) (h : -9223372036854775807≤n∧n≤9223372036854775807):Fun C 101 [.int .i64 n] (.int .i64 (n.natAbs:Int)):=by
 have:=abs_fun n h
 rw [absI] at this;exact this
theorem emod_abs (a b:Int) (q:Nat) (hq:0<q):(a * b) % (q:Int)=if 0<(a.natAbs * b.natAbs) % q∧(decide (a<0))≠(decide (b<0)) then (q:Int) - ((a.natAbs * b.natAbs) % q:Nat) else ((a.natAbs * b.natAbs) % q:Nat):=by
 have hq':(q:Int)≠0:=by omega
 by_cases hs:decide (a<0)≠decide (b<0)
 ·have e:a * b=-((a.natAbs * b.natAbs:Nat):Int):=by
   rw [Int.natCast_mul]
   rcases Int.lt_or_le a 0 with ha | ha <;> rcases Int.lt_or_le b 0 with hb | hb
   ·simp [ha,hb] at hs
   ·rw [show ((a.natAbs:Nat):Int)=-a by omega,show ((b.natAbs:Nat):Int)=b by omega,Int.neg_mul,Int.neg_neg]
   ·rw [show ((a.natAbs:Nat):Int)=a by omega,show ((b.natAbs:Nat):Int)=-b by omega,Int.mul_neg,Int.neg_neg]
   ·have h1:¬ a<0:=by omega
    have h2:¬ b<0:=by omega
    simp [h1,h2] at hs
  rw [e]
  generalize a.natAbs * b.natAbs=p
  have h1:=Nat.mod_lt p hq
  have h2:=Nat.div_add_mod p q
  generalize p % q=r at *
  generalize hk:p / q=k at *
  have h3 : -(p:Int)=-(r:Int)+(q:Int) * (-(k:Int)):=by rw [← h2,Int.natCast_add,Int.natCast_mul,Int.mul_neg];omega
  rw [h3,Int.add_mul_emod_self_left]
  split
  ·rename_i h
   rw [show -(r:Int)=(q - r:Int)+(q:Int) * (-1) by omega,Int.add_mul_emod_self_left]
   exact Int.emod_eq_of_lt (by omega) (by omega)
  ·rename_i h
   have:r=0:=Classical.byContradiction fun hh=>h ⟨by omega,hs⟩
   subst this;simp
 ·have e:a * b=((a.natAbs * b.natAbs:Nat):Int):=by
   rw [Int.natCast_mul]
   have hs:=Classical.not_not.1 hs
   rcases Int.lt_or_le a 0 with ha | ha <;> rcases Int.lt_or_le b 0 with hb | hb
   ·rw [show ((a.natAbs:Nat):Int)=-a by omega,show ((b.natAbs:Nat):Int)=-b by omega,Int.neg_mul_neg]
   ·have h2:¬ b<0:=by omega
    simp [ha,h2] at hs
   ·have h2:¬ a<0:=by omega
    simp [hb,h2] at hs
   ·rw [show ((a.natAbs:Nat):Int)=a by omega,show ((b.natAbs:Nat):Int)=b by omega]
  rw [if_neg (fun h=>hs h.2),e]
  exact (Int.natCast_emod _ _).symm
attribute [local irreducible] thenQ blockQ loopQ bodyQ Ev EvOps CallEv FnEv EvD
theorem rem_fun (a b:Int) (q:Nat) (ha : -9223372036854775807≤a∧a≤9223372036854775807) (hb : -9223372036854775807≤b∧b≤9223372036854775807) (hq:0<q) (hq2:q≤9223372036854775807):Fun C 120 [.int .i64 a,.int .i64 b,.int .i64 q] (.int .i64 ((a * b) % (q:Int))):=by
 have fa:=absN_fun a ha
 have fb:=absN_fun b hb
 have fm:=mul64_fun a.natAbs b.natAbs (by omega) (by omega)
 have hhb:a.natAbs * b.natAbs / 18446744073709551616 % q<q:=Nat.mod_lt _ hq
 obtain ⟨z,fd⟩:=div64_fun (a.natAbs * b.natAbs / 18446744073709551616 % q) (a.natAbs * b.natAbs % 18446744073709551616) q (by omega) hhb (by omega)
 have hr:(a.natAbs * b.natAbs / 18446744073709551616 % q * 18446744073709551616+a.natAbs * b.natAbs % 18446744073709551616) % q=a.natAbs * b.natAbs % q:=by
  generalize a.natAbs * b.natAbs=p
  have h1:p=(p / 18446744073709551616) * 18446744073709551616+p % 18446744073709551616:=(Nat.div_add_mod' p _).symm
  have h2:p % q=((p / 18446744073709551616) * 18446744073709551616+p % 18446744073709551616) % q:=by rw [← h1]
  rw [h2,Nat.add_mod,Nat.mul_mod,Nat.mod_mod,← Nat.mul_mod,← Nat.add_mod]
 rw [hr] at fd
 have hrb:a.natAbs * b.natAbs % q<q:=Nat.mod_lt _ hq
 rw [emod_abs a b q hq]
 generalize a.natAbs * b.natAbs % q=r at *
 refine Fun.x T6 Tryz.func120 rfl ?_
 (repeat' (first | (refine Rn.go ?_;conv=>whnf) | refine .mk ?_ | refine .tt ?_ | refine .ff ?_ | refine .m2 ?_ | refine .m3 ?_ | refine .mk (fun hc=>?_) fun hc=>?_ | refine .lp fun v H lp=>?_ | fail))
 refine .p fa ?_
 (repeat' (first | (refine Rn.go ?_;conv=>whnf) | refine .mk ?_ | refine .tt ?_ | refine .ff ?_ | refine .m2 ?_ | refine .m3 ?_ | refine .mk (fun hc=>?_) fun hc=>?_ | refine .lp fun v H lp=>?_ | fail))
 refine .p fb ?_
 (repeat' (first | (refine Rn.go ?_;conv=>whnf) | refine .mk ?_ | refine .tt ?_ | refine .ff ?_ | refine .m2 ?_ | refine .m3 ?_ | refine .mk (fun hc=>?_) fun hc=>?_ | refine .lp fun v H lp=>?_ | fail))
 refine .p fm ?_
 (repeat' (first | (refine Rn.go ?_;conv=>whnf) | refine .mk ?_ | refine .tt ?_ | refine .ff ?_ | refine .m2 ?_ | refine .m3 ?_ | refine .mk (fun hc=>?_) fun hc=>?_ | refine .lp fun v H lp=>?_ | fail))
 rw [remN]
 refine .p fd ?_
 (repeat' (first | (refine Rn.go ?_;conv=>whnf) | refine .mk ?_ | refine .tt ?_ | refine .ff ?_ | refine .m2 ?_ | refine .m3 ?_ | refine .mk (fun hc=>?_) fun hc=>?_ | refine .lp fun v H lp=>?_ | fail))
 all_goals
  refine ⟨_,rfl,?_⟩
  simp only [tupOf,nrm,PV.int.injEq,true_and]
  split
  all_goals (rename_i hh;simp at hh;omega)
end Go.Pm
end
section
namespace Go.Pm
def gen (cs:List Int) (l:List (List Pw)) (t:Tm):Int:=dotZ (cs.zip l) t
theorem gen_cons (c:Int) (cs:List Int) (x:List Pw) (l:List (List Pw)) (t:Tm):gen (c::cs) (x::l) t=c * pwr x t+gen cs l t:=by simp [gen,dotZ]
theorem gen_nil (l:List (List Pw)) (t:Tm):gen [] l t=0:=by simp [gen,dotZ]
theorem gen_nil' (cs:List Int) (t:Tm):gen cs [] t=0:=by simp [gen,dotZ]
theorem gen_sub (t:Tm) (q:Int):∀ (l:List (List Pw)) (a b:List Int),a.length=b.length→gen (subL a b q) l t=gen a l t - q * gen b l t
 | [],a,b,_=>by simp [gen_nil']
 | x::l,[],b,h=>by
  have:b=[]:=List.eq_nil_of_length_eq_zero h.symm
  subst this;simp [subL,gen_nil]
 | x::l,a::u,[],h=>by simp at h
 | x::l,a::u,b::bs,h=>by
  have ih:=gen_sub t q l u bs (by simpa using h)
  have e:subL (a::u) (b::bs) q=(a - q * b)::subL u bs q:=rfl
  rw [e,gen_cons,gen_cons,gen_cons,ih,Int.sub_mul,Int.mul_add,Int.mul_assoc]
  omega
theorem gen_zero (t:Tm):∀ (l:List (List Pw)) (k:Nat),gen (List.replicate k 0) l t=0
 | _,0=>by simp [gen_nil]
 | [],_=>by simp [gen_nil']
 | x::l,k+1=>by rw [List.replicate_succ,gen_cons,gen_zero t l k];simp
theorem gen_unit (t:Tm):∀ (l:List (List Pw)) (i:Nat) (x:List Pw),l[i]?=some x→gen (unitR l.length i) l t=pwr x t
 | [],i,x,h=>by simp at h
 | y::l,0,x,h=>by
  simp at h;subst h
  show gen ((List.replicate (l.length+1) 0).set 0 1) (y::l) t=_
  rw [List.replicate_succ,List.set_cons_zero,gen_cons,gen_zero];simp
 | y::l,i+1,x,h=>by
  show gen ((List.replicate (l.length+1) 0).set (i+1) 1) (y::l) t=_
  rw [List.replicate_succ,List.set_cons_succ,gen_cons]
  have:=gen_unit t l i x (by simpa using h)
  unfold unitR at this
  rw [this];simp
theorem gen_neg (t:Tm):∀ (l:List (List Pw)) (cs:List Int),gen (cs.map fun n=>-n) l t=-gen cs l t
 | _,[]=>by simp [gen_nil]
 | [],_=>by simp [gen_nil']
 | x::l,c::cs=>by rw [List.map_cons,gen_cons,gen_cons,gen_neg t l cs,Int.neg_mul];omega
theorem subL_drop (n:Nat) (a b:List Int) (q:Int):(subL a b q).drop n=subL (a.drop n) (b.drop n) q:=by unfold subL;rw [List.drop_zipWith]
def genF (n:Nat) (l:List (List Pw)) (t:Tm) (j:Nat) (r:List Int):Int:=atR r j - gen (r.drop n) l t
theorem genF_lin (w n j:Nat) (l:List (List Pw)) (t:Tm):LinF w (genF n l t j):=fun a b q ha hb=>by
 unfold genF
 rw [atR_sub (by omega),subL_drop,gen_sub _ _ _ _ _ (by simp [ha,hb]),Int.mul_sub]
 omega
theorem atR_map {cols:List Tm} {x:List Pw} {r:List Int} {j:Nat} {t:Tm} (h:cols[j]?=some t):atR (cols.map (pwr x)++r) j=pwr x t:=by
 have hj:=lt_of_some h
 rw [atR_app (by simpa using hj)]
 simp [atR,List.getD,h]
theorem genF_row0s {l:List (List Pw)} {m:List Pw} {j:Nat} {t:Tm} (h:(facs (l++[m]))[j]?=some t):∀ R∈row0s l m,R.1.length=(facs (l++[m])).length+l.length∧genF (facs (l++[m])).length l t j R.1=0:=fun R hR=>by
 obtain ⟨i,x,hx,rfl⟩:=row0s_mem hR
 refine ⟨row0_len _ _ _ _,?_⟩
 show atR (row0 _ _ i x) j - gen ((row0 _ _ i x).drop _) l t=0
 unfold row0
 rw [atR_map h,List.drop_left' (by simp),gen_unit t l i x hx];omega
theorem mem_ok {l:List (List Pw)} {m:List Pw} {S:List Row} {P t:List Int} {c:Int} (hg:GivR l m (.ok S P t c)) (hc:c<0):ckR (((t.drop (facs (l++[m])).length).map fun n=>-n).zip l) m=true:=by
 obtain ⟨h1,h2,h3,h4,h5,h6⟩:=givR_t hg
 have hc1:c=-1:=by rcases h6 with h | ⟨e,h,_⟩ <;> omega
 have hl:((t.drop (facs (l++[m])).length).map fun n=>-n).length=l.length:=by simp [h3]
 have e1:(((t.drop (facs (l++[m])).length).map fun n=>-n).zip l).map (·.2)=l:=List.map_snd_zip (by omega)
 have hv:=gErr_zero h1
 cases hg with
 | ok g1 g2 g3 g4=>
 unfold ckR
 rw [e1,Bool.and_eq_true,Bool.and_eq_true,List.all_eq_true]
 refine ⟨⟨decide_eq_true (hv m (by simp)),?_⟩,fun tm htm=>decide_eq_true ?_⟩
 ·unfold okZ
  rw [List.all_eq_true]
  rintro ⟨n,x⟩ hx
  have hx1:=List.of_mem_zip hx
  rw [Bool.and_eq_true]
  refine ⟨decide_eq_true (hv x (by simp [hx1.2])),?_⟩
  obtain ⟨y,hy,rfl⟩:=List.mem_map.1 hx1.1
  have:=of_decide_eq_true (List.all_eq_true.1 h4 y (List.mem_of_mem_drop hy))
  unfold inr;rw [decide_eq_true_eq];dsimp only at *;omega
 ·obtain ⟨j,hj⟩:=List.getElem?_of_mem htm
  have hjl:=lt_of_some hj
  obtain ⟨_,q2,q3,_⟩:=red_ok h5 P 0 _ t c rfl (t0r_len l m) (by simp) g4
  have z:=q2 (genF (facs (l++[m])).length l tm j) 0 (genF_lin _ _ _ _ _) (fun R hR=>by
   rw [(El.zero_fw (genF_lin _ _ _ _ _) g3 (genF_row0s hj) _ _ rfl R hR).2];exact Int.dvd_refl _)
  have z2:=Int.zero_dvd.1 z
  have z3:genF (facs (l++[m])).length l tm j (t0r l m)=pwr m tm:=by
   unfold genF t0r
   rw [atR_map hj,List.drop_left' (by simp),gen_zero];omega
  have z4:genF (facs (l++[m])).length l tm j t=-gen (t.drop (facs (l++[m])).length) l tm:=by
   unfold genF;rw [q3 hc1 j hjl];omega
  have z5:=gen_neg tm l (t.drop (facs (l++[m])).length)
  show gen _ l tm=_
  rw [z5];omega
def chrL:List Tm→List Int→List Pw
 | t::cols,n::x=>if n=0 then chrL cols x else (t,n)::chrL cols x
 | _,_=>[]
def dotX:List Int→List Int→Int
 | n::x,r::row=>n * r+dotX x row
 | _,_=>0
theorem chrL_cons (t:Tm) (cols:List Tm) (n:Int) (x:List Int):chrL (t::cols) (n::x)=if n=0 then chrL cols x else (t,n)::chrL cols x:=rfl
theorem chrL_mem:∀ {cols:List Tm} {x:List Int} {p:Pw},p∈chrL cols x→p.1∈cols∧p.2∈x∧p.2≠0
 | [],_,_,h=>by simp [chrL] at h
 | _::_,[],_,h=>by simp [chrL] at h
 | t::cols,n::x,p,h=>by
  rw [chrL_cons] at h
  split at h
  ·have:=chrL_mem h;exact ⟨by simp [this.1],by simp [this.2.1],this.2.2⟩
  ·rcases List.mem_cons.1 h with rfl | h
   ·rename_i hn;exact ⟨by simp,by simp,hn⟩
   ·have:=chrL_mem h;exact ⟨by simp [this.1],by simp [this.2.1],this.2.2⟩
theorem chrL_srt:∀ {cols:List Tm} {x:List Int},SrtT cols→Srt (chrL cols x)
 | [],_,_=>by simp [chrL,Srt]
 | _::_,[],_=>by simp [chrL,Srt]
 | t::cols,n::x,h=>by
  unfold SrtT at h
  obtain ⟨h1,h2⟩:=List.pairwise_cons.1 h
  rw [chrL_cons]
  split
  ·exact chrL_srt h2
  ·exact List.pairwise_cons.2 ⟨fun p hp=>h1 _ (chrL_mem hp).1,chrL_srt h2⟩
theorem chrL_len:∀ (cols:List Tm) (x:List Int),(chrL cols x).length≤cols.length
 | [],_=>by simp [chrL]
 | _::_,[]=>by simp [chrL]
 | t::cols,n::x=>by
  have:=chrL_len cols x
  rw [chrL_cons];split <;> simp <;> omega
theorem valS_nil (m:List Pw):valS [] m=0:=by
 induction m with
 | nil=>rfl
 | cons p m ih=>simp only [valS,List.map_cons,List.sum_cons,pwr] at *;omega
theorem valS_cons {v:Pw} {vs:List Pw} (hv:∀ y∈vs,cmpT v.1 y.1<0):∀ {m:List Pw},Srt m→valS (v::vs) m=v.2 * pwr m v.1+valS vs m
 | [],_=>by simp [valS,pwr]
 | p::m,hs=>by
  obtain ⟨h1,h2⟩:=List.pairwise_cons.1 hs
  have ih:=valS_cons hv h2
  have e1:valS (v::vs) (p::m)=p.2 * pwr (v::vs) p.1+valS (v::vs) m:=by simp [valS]
  have e2:valS vs (p::m)=p.2 * pwr vs p.1+valS vs m:=by simp [valS]
  rw [e1,e2,ih,pwr,pwr]
  by_cases hc:cmpT v.1 p.1=0
  ·have he:=cmpT_zero hc
   have hc2:cmpT p.1 v.1=0:=by rw [he];exact cmpT_self _
   rw [if_pos hc,if_pos hc2]
   have h3:pwr m v.1=0:=pwr_none fun y hy hh=>by
    have:=h1 y hy
    rw [← he,← cmpT_zero hh,cmpT_self] at this;omega
   have h4:pwr vs p.1=0:=pwr_none fun y hy hh=>by
    have:=hv y hy
    rw [he,← cmpT_zero hh,cmpT_self] at this;omega
   rw [h3,h4,Int.mul_comm p.2];simp
  ·have hc2:¬ cmpT p.1 v.1=0:=fun hh=>hc (by rw [cmpT_zero hh];exact cmpT_self _)
   rw [if_neg hc,if_neg hc2];omega
theorem valS_chr {m:List Pw} (hm:Srt m):∀ {cols:List Tm} {x:List Int},SrtT cols→valS (chrL cols x) m=dotX x (cols.map (pwr m))
 | [],[],_=>by simp [chrL,dotX,valS_nil]
 | [],_::_,_=>by simp [chrL,dotX,valS_nil]
 | _::_,[],_=>by simp [chrL,dotX,valS_nil]
 | t::cols,n::x,h=>by
  unfold SrtT at h
  obtain ⟨h1,h2⟩:=List.pairwise_cons.1 h
  have ih:=valS_chr (x:=x) hm h2
  rw [List.map_cons,dotX,← ih]
  rw [chrL_cons]
  split
  ·rename_i hn;rw [hn];simp
  ·rw [valS_cons (fun y hy=>h1 _ (chrL_mem hy).1) hm]
theorem dotX_lin:∀ (x a b:List Int) (q:Int),a.length=b.length→dotX x (subL a b q)=dotX x a - q * dotX x b
 | [],a,b,q,_=>by simp [dotX]
 | n::x,[],b,q,h=>by
  have:b=[]:=List.eq_nil_of_length_eq_zero h.symm
  subst this;simp [subL,dotX]
 | n::x,a::u,[],q,h=>by simp at h
 | n::x,a::u,b::bs,q,h=>by
  have ih:=dotX_lin x u bs q (by simpa using h)
  have e:subL (a::u) (b::bs) q=(a - q * b)::subL u bs q:=rfl
  rw [e,dotX,dotX,dotX,ih,Int.mul_sub,Int.mul_add,Int.mul_left_comm]
  omega
theorem dotX_app:∀ (x a b:List Int),x.length≤a.length→dotX x (a++b)=dotX x a
 | [],a,b,_=>by simp [dotX]
 | n::x,[],b,h=>by simp at h
 | n::x,a::u,b,h=>by rw [List.cons_append,dotX,dotX,dotX_app x u b (by simpa using h)]
theorem dotX_drop:∀ (x r:List Int) (k:Nat),(∀ i,i<k→atR x i * atR r i=0)→dotX x r=dotX (x.drop k) (r.drop k)
 | x,r,0,_=>rfl
 | [],r,k+1,_=>by simp [dotX]
 | n::x,[],k+1,_=>by
  simp [dotX]
 | n::x,a::r,k+1,h=>by
  have h0:=h 0 (by omega)
  have ih:=dotX_drop x r k fun i hi=>by have:=h (i+1) (by omega);simpa [atR,List.getD] using this
  rw [dotX,ih,List.drop_succ_cons,List.drop_succ_cons]
  have h0':n * a=0:=h0
  rw [h0'];simp
theorem dotX_zero:∀ (x r:List Int),(∀ i,i<x.length→atR x i * atR r i=0)→dotX x r=0:=fun x r h=>by
 rw [dotX_drop x r x.length h,List.drop_length];rfl
theorem dotX_at {x r:List Int} {k:Nat} (hk:k<x.length) (hr:k<r.length):dotX (x.drop k) (r.drop k)=atR x k * atR r k+dotX (x.drop (k+1)) (r.drop (k+1)):=by
 rw [List.drop_eq_getElem_cons hk,List.drop_eq_getElem_cons hr,dotX]
 simp [atR,List.getD,List.getElem?_eq_getElem hk,List.getElem?_eq_getElem hr]
structure Kills (S:List Row) (P:List Int) (e:Nat) (q:Int) (x:List Int):Prop where
 np:∀ i,i<e→atR P i<0→atR x i=0
 kl:∀ i,i≤e→¬ atR P i<0→q ∣ dotX (x.drop i) ((rowAt S (atR P i)).drop i)
 hi:∀ i,e<i→atR x i=0
theorem kills_row {w n e:Nat} {S:List Row} {P x:List Int} {q:Int} (h:EInv w n S P) (k:Kills S P e q x) (he:e<n) (hx:x.length=n):∀ R∈S,q ∣ dotX x R.1:=by
 rintro ⟨b,u⟩ hR
 cases u with
 | false=>
  have:dotX x b=0:=dotX_zero x b fun i hi=>by rw [h.un b hR i (by omega)];simp
  dsimp only;rw [this];exact ⟨0,by simp⟩
 | true=>
  obtain ⟨j,hj⟩:=List.getElem?_of_mem hR
  obtain ⟨c,hc⟩:=h.us j b hj
  have hPc:atR P c=j:=by simp [atR,List.getD,hc]
  obtain ⟨_,h2⟩:=h.pv c _ hc
  obtain ⟨b',e1,e2,e3⟩:=h2 (by omega)
  have hb:b'=b:=by rw [Int.toNat_natCast] at e1;rw [hj] at e1;cases e1;rfl
  subst hb
  have hra:rowAt S (atR P c)=b':=by rw [hPc];exact rowAt_of e1
  have hd:dotX x b'=dotX (x.drop c) (b'.drop c):=dotX_drop x b' c fun i hi=>by rw [e3 i hi];simp
  dsimp only
  by_cases hce:c≤e
  ·rw [hd,← hra];exact k.kl c hce (by rw [hPc];omega)
  ·have:dotX x b'=0:=dotX_zero x b' fun i hi=>by
    by_cases hic:i<c
    ·rw [e3 i hic];simp
    ·rw [k.hi i (by omega)];simp
   rw [this];exact ⟨0,by simp⟩
theorem valS_all {cols:List Tm} {x:List Int} {m:List Pw} (hm:Srt m) (hs:SrtT cols) (hx:x.length=cols.length) (y:List Int):valS (chrL cols x) m=dotX x (cols.map (pwr m)++y):=by
 rw [valS_chr hm hs,dotX_app _ _ _ (by simp;omega)]
theorem ref_ok {l:List (List Pw)} {m:List Pw} {S:List Row} {P t x:List Int} {e:Nat} {q:Int} (hg:GivR l m (.ok S P t e)) (k:Kills S P e q x) (hx:x.length=(facs (l++[m])).length) (hq:¬ q ∣ atR x e * atR t e) :
  (∀ y∈l,q ∣ valS (chrL (facs (l++[m])) x) y)∧¬ q ∣ valS (chrL (facs (l++[m])) x) m:=by
 obtain ⟨h1,h2,h3,h4,h5,h6⟩:=givR_t hg
 obtain ⟨e',he1,he2⟩:=h6.resolve_left (by omega)
 have hee:e'=e:=by omega
 subst hee
 have hv:=gErr_zero h1
 have hsr:=facs_srt (l++[m])
 have hl:LinF ((facs (l++[m])).length+l.length) (dotX x):=fun a b q ha hb=>dotX_lin x a b q (by omega)
 have hk:=kills_row h5 k he2 hx
 cases hg with
 | ok g1 g2 g3 g4=>
 constructor
 ·intro y hy
  obtain ⟨i,hi⟩:=List.getElem?_of_mem hy
  have:=El.dvd_bw (f:=dotX x) hl g3 (fun R hR=>(row0s_inv l m).len R hR) _ _ rfl hk (row0 (facs (l++[m])) l.length i y,false) (by
   unfold row0s rows0
   refine List.mem_map.2 ⟨_,List.mem_of_getElem? (i:=i) ?_,rfl⟩
   rw [List.getElem?_mapIdx,hi];rfl)
  rw [valS_all ((validP_zero (hv y (by simp [hy]))).2.2.2.2) hsr hx]
  exact this
 ·intro hd
  rw [valS_all ((validP_zero (hv m (by simp))).2.2.2.2) hsr hx (List.replicate l.length 0)] at hd
  obtain ⟨_,q2,_,q4⟩:=red_ok h5 P 0 _ t e' rfl (t0r_len l m) (by simp) g4
  have z:=q2 (dotX x) q hl hk
  obtain ⟨e2,w1,w2,w3,w4,_⟩:=q4 (by omega)
  have hee:e2=e':=by omega
  subst hee
  have hd2:q ∣ dotX x t:=by
   have:=Int.dvd_add z hd
   unfold t0r at this
   simpa using this
  have hd3:dotX x t=atR x e2 * atR t e2:=by
   rw [dotX_drop x t e2 fun i hi=>by rw [w4 i hi];simp,dotX_at (by omega) (by omega),dotX_zero (x.drop (e2+1)) (t.drop (e2+1))]
   ·omega
   ·intro i hi
    have:atR (x.drop (e2+1)) i=atR x (e2+1+i):=by simp [atR,List.getD]
    rw [this,k.hi _ (by omega)];simp
  rw [hd3] at hd2
  exact hq hd2
end Go.Pm
end
section
set_option maxRecDepth 4000
namespace Go.Pm
open Go.Proofs
def sumQ (A X:List Int) (c:Nat) (q:Int):Int:=dotX (X.drop (c+1)) (A.drop (c+1)) % q
theorem nthM {a:List Int} {c:Nat} (h:c<a.length):(encIs a)[0+c]?=some (.int .i64 (atR a c)):=nthI h
attribute [local irreducible] thenQ blockQ loopQ bodyQ Ev EvOps CallEv FnEv EvD
theorem sum_ev (H:AHeap) (hR:HR H) (pr pp pc vi ve c q:Nat) (m1 m2 m3:Mu) (u:Bool) (A X:List Int) (B:Nat) (h1:m1≠.x) (h2:m2≠.x) (h3:m3≠.x) (e1:H[pr]?=some ⟨m1,0,3,[.agg [.mref pp 0 0 A.length,.mref pc 0 0 B,.bool u]]⟩)
  (e2:H[pp]?=some ⟨m2,0,1,encIs A⟩) (e3:H[vi]?=some ⟨m3,ve,1,encIs X⟩) (hl:X.length≤A.length) (hn:A.length<1000000) (hc:c<X.length) (hA:small A=true) (hX:inQ 1152921504606846976 X) (hq:0<q) (hq2:q≤1152921504606846976) :
  FnEv C 100 [.ptr pr 0 0 0,.int .i64 c,.mref vi ve 0 X.length,.int .i64 q] H (fun r h'=>r=.int .i64 (sumQ A X c q)∧h'=H):=by
 have hla:(encIs A).length=A.length:=by simp
 have hlx:(encIs X).length=X.length:=by simp
 refine FnEv.x T6 Tryz.func100 rfl ?_
 (repeat' (first | (refine Rn.go ?_;conv=>whnf) | refine .mk ?_ | refine .tt ?_ | refine .ff ?_ | refine .m2 ?_ | refine .m3 ?_ | refine .mk (fun hc=>?_) fun hc=>?_ | refine .lp fun v H lp=>?_ | fail))
 refine LpX.nat T6 (fun m L h=>∃ (i:Nat) (s:Int),L=[(0,.ptr pr 0 0 0),(2,.mref vi ve 0 X.length),(3,.int .i64 q),(9,.int .i64 s),(10,.int .i64 i)]∧h=H∧i+m=X.length∧0≤s∧s<q∧(s+dotX (X.drop i) (A.drop i)) % q=sumQ A X c q) (X.length - (c+1)) (.nx ⟨c+1,0,rfl,rfl,by omega,by omega,by omega,by rw [Int.zero_add];rfl⟩) ?_
 rintro m _ _ ρ ⟨i,s,rfl,rfl,him,s0,s1,hs⟩
 by_cases hm:m=0
 ·have hi:i=X.length:=by omega
  subst hi
  rw [List.drop_length,show dotX [] (A.drop X.length)=0 from by simp [dotX],Int.add_zero,Int.emod_eq_of_lt s0 s1] at hs
  (repeat' (first | (refine Rn.go ?_;conv=>whnf) | refine .mk ?_ | refine .tt ?_ | refine .ff ?_ | refine .m2 ?_ | refine .m3 ?_ | refine .mk (fun hc=>?_) fun hc=>?_ | refine .lp fun v H lp=>?_ | fail))
  exact ⟨by rw [← hs];rfl,rfl⟩
 ·have ha:=nthM (a:=A) (c:=i) (by omega)
  have hx:=nthM (a:=X) (c:=i) (by omega)
  have hab:=small_at hA (i:=i) (by omega)
  have hxb:=hX.at_ (i:=i) (by omega)
  have hrm:=rem_fun (atR A i) (atR X i) q (by omega) (by omega) hq (by omega)
  have hrb:=Int.emod_nonneg (atR A i * atR X i) (show (q:Int)≠0 by omega)
  have hrc:=Int.emod_lt_of_pos (atR A i * atR X i) (show (0:Int)<q by omega)
  have hst:(s+(atR A i * atR X i) % q).tmod q=(s+atR A i * atR X i) % q:=by
   rw [Int.tmod_eq_emod_of_nonneg (by omega),Int.add_emod_emod]
  have hb0:=Int.emod_nonneg (s+atR A i * atR X i) (show (q:Int)≠0 by omega)
  have hb1:=Int.emod_lt_of_pos (s+atR A i * atR X i) (show (0:Int)<q by omega)
  rw [dotX_at (by omega) (by omega),Int.mul_comm (atR X i),← Int.add_assoc] at hs
  (repeat' (first | (refine Rn.go ?_;conv=>whnf) | refine .mk ?_ | refine .tt ?_ | refine .ff ?_ | refine .m2 ?_ | refine .m3 ?_ | refine .mk (fun hc=>?_) fun hc=>?_ | refine .lp fun v H lp=>?_ | fail))
  refine .p hrm ?_
  (repeat' (first | (refine Rn.go ?_;conv=>whnf) | refine .mk ?_ | refine .tt ?_ | refine .ff ?_ | refine .m2 ?_ | refine .m3 ?_ | refine .mk (fun hc=>?_) fun hc=>?_ | refine .lp fun v H lp=>?_ | fail))
  rw [hst]
  exact .nx ⟨m - 1,by omega,i+1,_,rfl,rfl,by omega,hb0,hb1,by rw [Int.emod_add_emod];exact hs⟩
end Go.Pm
end
section
set_option maxRecDepth 4000
namespace Go.Pm
open Go.Proofs
theorem CallEv.same {C:Cfg} {f:FuncId} {args:List PV} {H:AHeap} {P:PV→Prop} {Q:PV→AHeap→Prop} (a:FnEv C f args H (fun r h'=>P r∧h'=H)) (q:∀ r,P r→Q r H) (hm:C.mode f=.opened:=by rfl):CallEv C 2 f args H Q:=by
 refine CallEv.opened hm (a.mono fun r k hr=>?_)
 obtain ⟨hp,rfl⟩:=hr
 split
 ·rw [List.take_length];exact q r hp
 ·exact q r hp
def exI (A X:List Int) (c:Nat) (q:Int):Int:=
 modI (if 0<atR A c then -((sumQ A X c (q * (atR A c).natAbs)).tdiv ((atR A c).natAbs:Int)) else (sumQ A X c (q * (atR A c).natAbs)).tdiv ((atR A c).natAbs:Int)) q
attribute [local irreducible] thenQ blockQ loopQ bodyQ Ev EvOps CallEv FnEv EvD
theorem exact_ev (H:AHeap) (hR:HR H) (x pr pp pc vi ve c q:Nat) (m1 m2 m3:Mu) (u:Bool) (A X:List Int) (B:Nat) (h1:m1≠.x) (h2:m2≠.x) (h3:m3≠.x) (e1:H[pr]?=some ⟨m1,0,3,[.agg [.mref pp 0 0 A.length,.mref pc 0 0 B,.bool u]]⟩)
  (e2:H[pp]?=some ⟨m2,0,1,encIs A⟩) (e3:H[vi]?=some ⟨m3,ve,1,encIs X⟩) (hl:X.length≤A.length) (hn:A.length<1000000) (hc:c<X.length) (hA:small A=true) (hX:inQ 1073741824 X) (hq:0<q) (hq2:q≤1073741824) (hz:atR A c≠0) (hzb:(atR A c).natAbs≤1073741824) :
  FnEv C 66 [.ptr x 0 0 0,.ptr pr 0 0 0,.int .i64 c,.mref vi ve 0 X.length,.int .i64 q] H (fun r h'=>r=.int .i64 (exI A X c q)∧h'=H):=by
 have hla:(encIs A).length=A.length:=by simp
 have ha:=nthI (a:=A) (c:=c) (by omega)
 have fa:=absN_fun (atR A c) (by omega)
 have hX2:inQ 1152921504606846976 X:=fun y hy=>by have:=hX y hy;omega
 obtain ⟨N,hN⟩:∃ N,N=(atR A c).natAbs:=⟨_,rfl⟩
 have hqN1:0<q * N:=Nat.mul_pos hq (by omega)
 have hqN:q * N≤1152921504606846976:=Nat.mul_le_mul hq2 (show N≤1073741824 by omega)
 have hs:=sum_ev H hR pr pp pc vi ve c (q * N) m1 m2 m3 u A X B h1 h2 h3 e1 e2 e3 hl hn hc hA hX2 hqN1 hqN
 have s0:0≤sumQ A X c ((q * N:Nat):Int):=Int.emod_nonneg _ (by omega)
 have s1:sumQ A X c ((q * N:Nat):Int)<((q * N:Nat):Int):=Int.emod_lt_of_pos _ (by omega)
 unfold exI
 rw [← hN,← Int.natCast_mul]
 rw [← hN] at fa
 generalize sumQ A X c ((q * N:Nat):Int)=S at *
 have d0:S.tdiv (N:Int)=S / N:=Int.tdiv_eq_ediv_of_nonneg s0
 have d1:0≤S / (N:Int):=Int.ediv_nonneg s0 (by omega)
 have d2:S / (N:Int)≤S:=Int.ediv_le_self _ s0
 refine FnEv.x T6 Tryz.func66 rfl ?_
 (repeat' (first | (refine Rn.go ?_;conv=>whnf) | refine .mk ?_ | refine .tt ?_ | refine .ff ?_ | refine .m2 ?_ | refine .m3 ?_ | refine .mk (fun hc=>?_) fun hc=>?_ | refine .lp fun v H lp=>?_ | fail))
 refine .p fa ?_
 (repeat' (first | (refine Rn.go ?_;conv=>whnf) | refine .mk ?_ | refine .tt ?_ | refine .ff ?_ | refine .m2 ?_ | refine .m3 ?_ | refine .mk (fun hc=>?_) fun hc=>?_ | refine .lp fun v H lp=>?_ | fail))
 rw [← Int.natCast_mul]
 refine .same hs fun r hr=>?_
 subst hr
 (repeat' (first | (refine Rn.go ?_;conv=>whnf) | refine .mk ?_ | refine .tt ?_ | refine .ff ?_ | refine .m2 ?_ | refine .m3 ?_ | refine .mk (fun hc=>?_) fun hc=>?_ | refine .lp fun v H lp=>?_ | fail))
 refine .p fa ?_
 have tb:∀ n:Int,-(q:Int)<n.tmod q∧n.tmod q<q:=fun n=>⟨Int.lt_tmod_of_pos n (by omega),Int.tmod_lt_of_pos n (by omega)⟩
 have t1:=tb (0 - S.tdiv N)
 have t2:=tb (S.tdiv N)
 (repeat' (first | (refine Rn.go ?_;conv=>whnf) | refine .mk ?_ | refine .tt ?_ | refine .ff ?_ | refine .m2 ?_ | refine .m3 ?_ | refine .mk (fun hc=>?_) fun hc=>?_ | refine .lp fun v H lp=>?_ | fail))
 ·exact ⟨by rw [if_pos hc,Int.zero_sub];rfl,rfl⟩
 ·exact ⟨by rw [if_neg hc];rfl,rfl⟩
theorem lock_ob {H:AHeap} {i:Nat} {o:AObj} (e:H[i]?=some o):(H.map lock1)[i]?=some (lock1 o):=by rw [List.getElem?_map,e];rfl
theorem lock_hr {H:AHeap} (h:HR H):HR (H.map lock1):=fun o ho=>by
 obtain ⟨o',h1,rfl⟩:=List.mem_map.1 ho
 obtain ⟨a,b⟩:=h o' h1
 refine ⟨?_,?_⟩
 ·unfold lock1;split <;> simp_all
 ·rw [List.length_map];unfold lock1;split <;> exact b
theorem lock_eq (mu:Mu) (ep n:Nat) (es:List PV) (h:mu≠.x):∃ m',m'≠.x∧lock1 ⟨mu,ep,n,es⟩=⟨m',ep,n,es⟩:=by cases mu <;> simp [lock1] at h ⊢
theorem modI_emod (n:Int) {q:Int} (hq:0<q):modI n q=n % q:=by
 have h1:=Int.lt_tmod_of_pos n hq
 unfold modI
 rw [Int.tmod_eq_emod_of_nonneg (by omega),Int.tmod_def,show n - q * n.tdiv q+q=n+q * (1 - n.tdiv q) by rw [Int.mul_sub];omega,Int.add_mul_emod_self_left]
theorem p1_ev (H:AHeap) (hR:HR H) (pr pp pc vi ve c q:Nat) (m1 m2 m3:Mu) (u:Bool) (A X:List Int) (B:Nat) (h1:m1≠.x) (h2:m2≠.x) (h3:m3≠.x) (e1:H[pr]?=some ⟨m1,0,3,[.agg [.mref pp 0 0 A.length,.mref pc 0 0 B,.bool u]]⟩) (e2:H[pp]?=some ⟨m2,0,1,encIs A⟩) (e3:H[vi]?=some ⟨m3,ve,1,encIs X⟩)
  (hl:X.length≤A.length) (hn:A.length<1000000) (hc:c<X.length) (hA:small A=true) (hX:inQ 1073741824 X) (hq:0<q) (hq2:q≤1000) (w:Nat) (hw:w<q) (hwd:(q:Int) ∣ dotX (X.drop (c+1)) (A.drop (c+1))+atR A c * w) :
  FnEv C 99 [.ptr pr 0 0 0,.int .i64 c,.mref vi ve 0 X.length,.int .i64 q] H (fun r h'=>(∃ v:Nat,r=.int .i64 v∧v<q∧(q:Int) ∣ dotX (X.drop (c+1)) (A.drop (c+1))+atR A c * v)∧h'=H):=by
 have hla:(encIs A).length=A.length:=by simp
 have ha:=nthI (a:=A) (c:=c) (by omega)
 have hab:=small_at hA (i:=c) (by omega)
 have hX2:inQ 1152921504606846976 X:=fun y hy=>by have:=hX y hy;omega
 obtain ⟨n1,k1,l1⟩:=lock_eq m1 0 3 [.agg [.mref pp 0 0 A.length,.mref pc 0 0 B,.bool u]] h1
 obtain ⟨n2,k2,l2⟩:=lock_eq m2 0 1 (encIs A) h2
 obtain ⟨n3,k3,l3⟩:=lock_eq m3 ve 1 (encIs X) h3
 have hs:=sum_ev (H.map lock1) (lock_hr hR) pr pp pc vi ve c q n1 n2 n3 u A X B k1 k2 k3 (by rw [lock_ob e1,l1]) (by rw [lock_ob e2,l2]) (by rw [lock_ob e3,l3]) hl hn hc hA hX2 hq (by omega)
 have s0:0≤sumQ A X c q:=Int.emod_nonneg _ (by omega)
 have s1:sumQ A X c q<q:=Int.emod_lt_of_pos _ (by omega)
 have sd:∀ z:Int,(q:Int) ∣ dotX (X.drop (c+1)) (A.drop (c+1))+z↔(q:Int) ∣ sumQ A X c q+z:=fun z=>by
  unfold sumQ
  rw [Int.dvd_iff_emod_eq_zero,Int.dvd_iff_emod_eq_zero,Int.emod_add_emod]
 have tb:∀ n:Int,-(q:Int)<n.tmod q∧n.tmod q<q:=fun n=>⟨Int.lt_tmod_of_pos n (by omega),Int.tmod_lt_of_pos n (by omega)⟩
 have t1:=tb (atR A c)
 have mb:=modI_bd (n:=atR A c) (q:=q) (by omega)
 have hmd:∀ v:Int,(q:Int) ∣ sumQ A X c q+modI (atR A c) q * v↔(q:Int) ∣ dotX (X.drop (c+1)) (A.drop (c+1))+atR A c * v:=fun v=>by
  rw [sd,modI_emod _ (show (0:Int)<q by omega),Int.dvd_iff_emod_eq_zero,Int.dvd_iff_emod_eq_zero,Int.add_emod,Int.mul_emod,Int.emod_emod,← Int.mul_emod,← Int.add_emod]
 rw [← hmd] at hwd
 refine FnEv.x T6 Tryz.func99 rfl ?_
 (repeat' (first | (refine Rn.go ?_;conv=>whnf) | refine .mk ?_ | refine .tt ?_ | refine .ff ?_ | refine .m2 ?_ | refine .m3 ?_ | refine .mk (fun hc=>?_) fun hc=>?_ | refine .lp fun v H lp=>?_ | fail))
 refine .o1 (.int .i64 (sumQ A X c q)) (hs.mono fun r h' hh=>⟨hh.1,by rw [hh.2];simp⟩) ?_ (by simp [visRs,visR,vis_at e1 h1,vis_at e3 h3])
 (repeat' (first | (refine Rn.go ?_;conv=>whnf) | refine .mk ?_ | refine .tt ?_ | refine .ff ?_ | refine .m2 ?_ | refine .m3 ?_ | refine .mk (fun hc=>?_) fun hc=>?_ | refine .lp fun v H lp=>?_ | fail))
 rw [show ((atR A c).tmod q+q).tmod q=modI (atR A c) q from rfl]
 generalize sumQ A X c q=S at *
 generalize modI (atR A c) q=N at *
 refine LpX.nat T6 (fun m L h=>∃ i:Nat,L=[(3,.int .i64 q),(9,.int .i64 S),(10,.int .i64 N),(30,.int .i64 q),(31,.int .i64 i)]∧h=H∧i+m=w) w (.nx ⟨0,rfl,rfl,by omega⟩) ?_
 rintro m _ _ ρ ⟨i,rfl,rfl,him⟩
 have hNi:=mul_rng (a:=N) (b:=(i:Int)) (A:=1000) (B:=1000) (by omega) (by omega)
 have h0:0≤S+N * i:=by omega
 (repeat' (first | (refine Rn.go ?_;conv=>whnf) | refine .mk ?_ | refine .tt ?_ | refine .ff ?_ | refine .m2 ?_ | refine .m3 ?_ | refine .mk (fun hc=>?_) fun hc=>?_ | refine .lp fun v H lp=>?_ | fail))
 ·exact ⟨⟨i,rfl,by omega,(hmd i).1 (dvd_tmod.2 (by assumption))⟩,rfl⟩
 ·refine .nx ⟨m - 1,?_,i+1,rfl,rfl,?_⟩
  all_goals
   have hne:m≠0:=fun hm=>by
    have:i=w:=by omega
    subst this
    exact hc (dvd_tmod.1 hwd)
   omega
end Go.Pm
end
section
set_option maxRecDepth 4000
namespace Go.Pm
open Go.Proofs
theorem Lay.piv {H:AHeap} {x n k c:Nat} {cv rv pv:PV} {Rs:List Rw} {P:List Int} {lg:Bool} (L:Lay H x cv rv pv n k Rs P lg) (hP:P.length=n) (hpv:PvOk (Rs.map Rw.m) P) (hc:c<n) (hneg:¬ atR P c<0) :
  ∃ (rr re:Nat) (B:Rw),rv=.mref rr re 0 Rs.length∧H[rr]?=some ⟨.m,re,1,Rs.map Rw.ptr⟩∧(Rs.map Rw.ptr)[0+(atR P c).toNat]?=some (.ptr B.r 0 0 0)∧B∈Rs∧RwAt H B∧B.a.length=n∧B.b.length=k∧(atR P c).toNat<Rs.length∧rowAt (Rs.map Rw.m) (atR P c)=B.a++B.b∧atR B.a c≠0:=by
 obtain ⟨b,u,hbs,hbz⟩:=(hpv c (atR P c) (by simp [atR,List.getD,List.getElem?_eq_getElem (show c<P.length by omega)])).2 (by omega)
 obtain ⟨B,hB,hBm⟩:∃ B,Rs[(atR P c).toNat]?=some B∧B.m=(b,u):=by
  rw [List.getElem?_map] at hbs
  cases hB:Rs[(atR P c).toNat]? with
  | none=>rw [hB] at hbs;cases hbs
  | some B=>rw [hB] at hbs;exact ⟨B,rfl,by simpa using hbs⟩
 have hBin:=List.mem_of_getElem? hB
 have hBlt:=lt_of_some hB
 obtain ⟨a1,a2,a3⟩:=L.at_ B hBin
 have hbeq:b=B.a++B.b:=congrArg Prod.fst hBm.symm
 obtain ⟨rr,re,hrv,er⟩:∃ rr re,rv=.mref rr re 0 Rs.length∧H[rr]?=some ⟨.m,re,1,Rs.map Rw.ptr⟩:=by
  rcases L.er with ⟨_,h0⟩ | ⟨rr,re,g1,g2⟩
  ·have:=congrArg List.length h0;simp at this;rw [this] at hBlt;simp at hBlt
  ·exact ⟨rr,re,by rw [g1];simp,g2⟩
 exact ⟨rr,re,B,hrv,er,by rw [Nat.zero_add,List.getElem?_map,hB];rfl,hBin,a1,a2,a3,hBlt,by rw [rowAt_of hbs,hbeq],by rw [hbeq,atR_app (by omega)] at hbz;exact hbz⟩
theorem Lay.piv0 {H:AHeap} {x n k:Nat} {cv rv pv:PV} {Rs:List Rw} {P:List Int} {lg:Bool} (L:Lay H x cv rv pv n k Rs P lg) (hP:0<P.length):∃ pi pe,pv=.mref pi pe 0 P.length∧H[pi]?=some ⟨.m,pe,1,encIs P⟩:=by
 rcases L.ep with ⟨_,h0⟩ | ⟨ip,pe,g1,g2⟩
 ·have:=congrArg List.length h0;rw [encIs_len,List.length_nil] at this;omega
 ·exact ⟨ip,pe,by rw [g1];simp,g2⟩
attribute [local irreducible] thenQ blockQ loopQ bodyQ Ev EvOps CallEv FnEv EvD
theorem number_ev (n k x:Nat) (cv rv pv:PV) (H:AHeap) (Rs:List Rw) (P:List Int) (lg:Bool) (c:Nat) (L:Lay H x cv rv pv n k Rs P lg) (hP:P.length=n) (hpv:PvOk (Rs.map Rw.m) P) (hc:c<n) (hsm:∀ R∈Rs,small R.a=true) (hn:n<1000) (hl:Rs.length<1000) :
  FnEv C 64 [.ptr x 0 0 0,.int .i64 c] H (fun r h'=>r=.int .i64 ((pn (Rs.map Rw.m) P c).natAbs:Int)∧h'=H):=by
 obtain ⟨pi,pe,rfl,epv⟩:=L.piv0 (by omega)
 have ex:=L.ex
 have hR:=L.hr
 have hPl:(encIs P).length=P.length:=by simp
 have hPat:=nthI (a:=P) (c:=c) (by omega)
 refine FnEv.x T6 Tryz.func64 rfl ?_
 by_cases hneg:atR P c<0
 ·(repeat' (first | (refine Rn.go ?_;conv=>whnf) | refine .mk ?_ | refine .tt ?_ | refine .ff ?_ | refine .m2 ?_ | refine .m3 ?_ | refine .mk (fun hc=>?_) fun hc=>?_ | refine .lp fun v H lp=>?_ | fail))
  exact ⟨by rw [pn,if_pos hneg];rfl,rfl⟩
 ·obtain ⟨rr,re,B,rfl,er,hatB,hBin,⟨f1,f2,f3⟩,b1,b2,hBlt,hrow,hBz⟩:=L.piv hP hpv hc hneg
  have hrl:(Rs.map Rw.ptr).length=Rs.length:=by simp
  have hBa:(encIs B.a).length=B.a.length:=by simp
  have hBv:=nthI (a:=B.a) (c:=c) (by omega)
  have hab:=small_at (hsm B hBin) (i:=c) (by omega)
  have fa:=absN_fun (atR B.a c) (by omega)
  have hpn:pn (Rs.map Rw.m) P c=atR B.a c:=by rw [pn,if_neg hneg,hrow,atR_app (by omega)]
  rw [hpn]
  (repeat' (first | (refine Rn.go ?_;conv=>whnf) | refine .mk ?_ | refine .tt ?_ | refine .ff ?_ | refine .m2 ?_ | refine .m3 ?_ | refine .mk (fun hc=>?_) fun hc=>?_ | refine .lp fun v H lp=>?_ | fail))
  refine .p fa ?_
  (repeat' (first | (refine Rn.go ?_;conv=>whnf) | refine .mk ?_ | refine .tt ?_ | refine .ff ?_ | refine .m2 ?_ | refine .m3 ?_ | refine .mk (fun hc=>?_) fun hc=>?_ | refine .lp fun v H lp=>?_ | fail))
  exact ⟨rfl,rfl⟩
end Go.Pm
end
section
set_option maxRecDepth 4000
namespace Go.Pm
open Go.Proofs
theorem vid_nd (v:PV):(vid v).Nodup:=by cases v <;> simp [vid]
theorem Lay.pivot {h h':AHeap} {x n k:Nat} {cv rv pv pv':PV} {Rs:List Rw} {P:List Int} {lg:Bool} {i:Int} (L:Lay h x cv rv pv n k Rs P lg) (hcv:visR (fun i=>decide (i<h.length)) cv=true) (l:LR h pv 1 (encIs P++[.int .i64 i]) pv' h') :
  Lay (h'.set x ⟨.m,0,4,[.agg [cv,rv,pv',.bool lg]]⟩) x cv rv pv' n k Rs (P++[i]) lg∧(∀ j∈vid pv',j∈vid pv∨h.length≤j)∧∀ j,j<h.length→j∉Lay.all x rv pv Rs→(h'.set x ⟨.m,0,4,[.agg [cv,rv,pv',.bool lg]]⟩)[j]?=h[j]?:=by
 have lt:=L.lt
 have nd:=L.nd
 rw [List.nodup_cons,List.nodup_append,List.nodup_append] at nd
 obtain ⟨n1,n2,⟨n3,n4,n5⟩,n6⟩:=nd
 simp only [List.mem_append,not_or] at n1
 have hl:=l.len
 have lv:=l.vid
 have kx:=lt_of_some L.ex
 have far:∀ j,j<h.length→j∉vid pv→j≠x→(h'.set x ⟨.m,0,4,[.agg [cv,rv,pv',.bool lg]]⟩)[j]?=h[j]?:=fun j hj hn hx=>by
  rw [List.getElem?_set_ne (Ne.symm hx)];exact l.fr j hj fun ep n hh=>hn (by rw [hh];simp [vid])
 have hxv:x∉vid pv':=fun hh=>by
  rcases lv x hh with h1 | h1
  ·exact n1.2.1 h1
  ·omega
 refine ⟨⟨l.hr.set x (by simp) ?_,List.getElem?_set_self (by omega),L.er.of_eq fun j hj=>far j (L.er.vlt j hj) (fun hh=>n6 j hj j (by simp [hh]) rfl) (fun hh=>n1.1 (hh ▸ hj)),?_,fun R hR=>⟨(L.at_ R hR).1.of_eq fun j hj=>?_,(L.at_ R hR).2⟩,?_⟩,lv,fun j hj hn=>?_⟩
 ·have h1:=L.er.visR
  have h2:=l.out.visR
  have up:∀ v,visR (fun i=>decide (i<h.length)) v=true→visR (fun i=>decide (i<h'.length)) v=true:=fun v hv=>visR_imp (fun i hi=>by have:=of_decide_eq_true hi;exact decide_eq_true (by omega)) _ hv
  simp only [visRs,visR,Bool.and_true,Bool.and_eq_true]
  exact ⟨up _ hcv,up _ h1,h2⟩
 ·have:Out 1 (h'.set x ⟨.m,0,4,[.agg [cv,rv,pv',.bool lg]]⟩) pv' (encIs P++[.int .i64 i]):=l.out.of_eq fun j hj=>List.getElem?_set_ne (fun hh=>hxv (by rw [hh];exact hj))
  simpa [encIs] using this
 ·have hm:j∈Rs.flatMap Rw.ids:=List.mem_flatMap.2 ⟨R,hR,hj⟩
  exact far j (lt j (by simp only [Lay.all,List.mem_cons,List.mem_append];exact .inr (.inr (.inr hm)))) (fun hh=>n5 j hh j hm rfl) (fun hh=>n1.2.2 (hh ▸ hm))
 ·rw [List.nodup_cons,List.nodup_append,List.nodup_append]
  refine ⟨?_,n2,⟨vid_nd _,n4,fun a h1 b h2 hh=>?_⟩,fun a h1 b h2 hh=>?_⟩
  ·simp only [List.mem_append,not_or];exact ⟨n1.1,hxv,n1.2.2⟩
  ·subst hh
   rcases lv a h1 with h3 | h3
   ·exact n5 a h3 a h2 rfl
   ·have:=lt a (by simp only [Lay.all,List.mem_cons,List.mem_append];exact .inr (.inr (.inr h2)));omega
  ·subst hh
   rcases List.mem_append.1 h2 with h2 | h2
   ·rcases lv a h2 with h3 | h3
    ·exact n6 a h1 a (by simp [h3]) rfl
    ·have:=L.er.vlt a h1;omega
   ·exact n6 a h1 a (by simp only [List.mem_append];exact .inr h2) rfl
 ·simp only [Lay.all,List.mem_cons,List.mem_append,not_or] at hn
  exact far j hj hn.2.2.1 hn.1
attribute [local irreducible] thenQ blockQ loopQ bodyQ Ev EvOps CallEv FnEv EvD
theorem column0_ev (c x:Nat) (cv pv:PV) (n k:Nat) (P:List Int) (H:AHeap) (L:Lay H x cv (.snap true []) pv n k [] P false):FnEv C 116 [.ptr x 0 0 0,.int .i64 c] H (fun r h'=>r=.tup []∧h'=H):=by
 have ex:=L.ex
 have hR:=L.hr
 refine FnEv.x T6 Tryz.func116 rfl ?_
 (repeat' (first | (refine Rn.go ?_;conv=>whnf) | refine .mk ?_ | refine .tt ?_ | refine .ff ?_ | refine .m2 ?_ | refine .m3 ?_ | refine .mk (fun hc=>?_) fun hc=>?_ | refine .lp fun v H lp=>?_ | fail))
 refine LpX.nat T6 (fun m L h=>m=0∧L=[(0,.ptr x 0 0 0),(1,.int .i64 c)]∧h=H) 0 (.nx ⟨rfl,rfl,rfl⟩) ?_
 rintro m _ h ρ ⟨rfl,rfl,rfl⟩
 (repeat' (first | (refine Rn.go ?_;conv=>whnf) | refine .mk ?_ | refine .tt ?_ | refine .ff ?_ | refine .m2 ?_ | refine .m3 ?_ | refine .mk (fun hc=>?_) fun hc=>?_ | refine .lp fun v H lp=>?_ | fail))
 refine LpX.zip T6 ([]:List Rw) (fun p q L' h'=>h'=h∧p=[]∧L'=[(0,.ptr x 0 0 0),(1,.int .i64 c),(4,.int .i64 (-1)),(5,.int .i64 0),(18,.snap true []),(19,.int .i64 0),(20,.int .i64 0)]) (.nx ⟨rfl,rfl,rfl⟩) ?_ ?_
 ·rintro p a q L' h' ρ e
  simp at e
 ·rintro _ h ρ ⟨rfl,_,rfl⟩
  (repeat' (first | (refine Rn.go ?_;conv=>whnf) | refine .mk ?_ | refine .tt ?_ | refine .ff ?_ | refine .m2 ?_ | refine .m3 ?_ | refine .mk (fun hc=>?_) fun hc=>?_ | refine .lp fun v H lp=>?_ | fail))
  exact ⟨rfl,rfl⟩
theorem columnL_ev (c x:Nat) (cv rv pv:PV) (n k:Nat) (Rs:List Rw) (P:List Int) (H:AHeap) (L:Lay H x cv rv pv n k Rs P true):FnEv C 116 [.ptr x 0 0 0,.int .i64 c] H (fun r h'=>r=.tup []∧h'=H):=by
 have ex:=L.ex
 have hR:=L.hr
 refine FnEv.x T6 Tryz.func116 rfl ?_
 (repeat' (first | (refine Rn.go ?_;conv=>whnf) | refine .mk ?_ | refine .tt ?_ | refine .ff ?_ | refine .m2 ?_ | refine .m3 ?_ | refine .mk (fun hc=>?_) fun hc=>?_ | refine .lp fun v H lp=>?_ | fail))
 refine LpX.nat T6 (fun m L h=>m=0∧L=[(0,.ptr x 0 0 0),(1,.int .i64 c)]∧h=H) 0 (.nx ⟨rfl,rfl,rfl⟩) ?_
 rintro m _ _ ρ ⟨rfl,rfl,rfl⟩
 (repeat' (first | (refine Rn.go ?_;conv=>whnf) | refine .mk ?_ | refine .tt ?_ | refine .ff ?_ | refine .m2 ?_ | refine .m3 ?_ | refine .mk (fun hc=>?_) fun hc=>?_ | refine .lp fun v H lp=>?_ | fail))
 exact ⟨rfl,rfl⟩
theorem reduce0_ev (n k x:Nat) (pv:PV) (f:Bool) (cs:List PV) (H:AHeap) (P:List Int) (T:Rw) (L:Lay H x (.snap f cs) (.snap true []) pv n k [] P false) (hT:RwAt H T) (lTa:T.a.length=n) (hP:P.length=n) (hcs:cs.length=n) (hpv:∀ i∈P,i=-1) (hn:n<1000) :
  FnEv C 96 [.ptr x 0 0 0,.ptr T.r 0 0 0] H (fun r h'=>h'=H∧∃ c',r=.int .i64 c'∧redF [] P 0 (T.a++T.b)=some (T.a++T.b,c')):=by
 have ex:=L.ex
 have hR:=L.hr
 obtain ⟨e1,e2,e3⟩:=hT
 refine FnEv.x T6 Tryz.func96 rfl ?_
 (repeat' (first | (refine Rn.go ?_;conv=>whnf) | refine .mk ?_ | refine .tt ?_ | refine .ff ?_ | refine .m2 ?_ | refine .m3 ?_ | refine .mk (fun hc=>?_) fun hc=>?_ | refine .lp fun v H lp=>?_ | fail))
 rw [hcs]
 refine LpX.zip T6 P (fun p q L h=>L=[(0,.ptr x 0 0 0),(1,.ptr T.r 0 0 0),(12,.int .i64 n),(13,.int .i64 p.length)]∧h=H∧redF [] P 0 (T.a++T.b)=redF [] q p.length (T.a++T.b)) (.nx ⟨rfl,rfl,rfl⟩) ?_ ?_
 ·rintro p i q _ _ ρ e ⟨rfl,rfl,hred⟩
  have hl2:=congrArg List.length e
  simp only [List.length_append,List.length_cons] at hl2
  have hav:=nthI (a:=T.a) (c:=p.length) (by omega)
  have hea:(encIs T.a).length=T.a.length:=by simp
  have hPl:(encIs P).length=P.length:=by simp
  have hi:=hpv i (by rw [e];simp)
  have hPat:(encIs P)[0+p.length]?=some (.int .i64 i):=by rw [e];simp [encIs]
  obtain ⟨pi,pe,rfl,epv⟩:=L.piv0 (by omega)
  have hat:atR (T.a++T.b) p.length=atR T.a p.length:=atR_app (by omega)
  rw [redF,hat] at hred
  by_cases hz:atR T.a p.length=0
  ·rw [if_pos hz] at hred
   (repeat' (first | (refine Rn.go ?_;conv=>whnf) | refine .mk ?_ | refine .tt ?_ | refine .ff ?_ | refine .m2 ?_ | refine .m3 ?_ | refine .mk (fun hc=>?_) fun hc=>?_ | refine .lp fun v H lp=>?_ | fail))
   exact .nx ⟨rfl,rfl,by rw [hred];simp⟩
  ·rw [if_neg hz,if_pos (by omega)] at hred
   (repeat' (first | (refine Rn.go ?_;conv=>whnf) | refine .mk ?_ | refine .tt ?_ | refine .ff ?_ | refine .m2 ?_ | refine .m3 ?_ | refine .mk (fun hc=>?_) fun hc=>?_ | refine .lp fun v H lp=>?_ | fail))
   exact ⟨rfl,_,rfl,hred⟩
 ·rintro _ _ ρ ⟨rfl,rfl,hred⟩
  (repeat' (first | (refine Rn.go ?_;conv=>whnf) | refine .mk ?_ | refine .tt ?_ | refine .ff ?_ | refine .m2 ?_ | refine .m3 ?_ | refine .mk (fun hc=>?_) fun hc=>?_ | refine .lp fun v H lp=>?_ | fail))
  exact ⟨rfl,_,rfl,hred⟩
end Go.Pm
end
section
set_option maxRecDepth 4000
namespace Go.Pm
open Go.Proofs
attribute [local irreducible] thenQ blockQ loopQ bodyQ Ev EvOps CallEv FnEv EvD
theorem ck1_fun (x:List Pw) (hb:∀ p∈x,bulk p.1<100000000) (hl:x.length<100000000):Fun C 49 [.snap false (encPs x)] (.bool (decide (validP x≠0))):=by
 have hv:=pvalid_fun x hb hl
 refine Fun.x T6 Tryz.func49 rfl ?_
 (repeat' (first | (refine Rn.go ?_;conv=>whnf) | refine .mk ?_ | refine .tt ?_ | refine .ff ?_ | refine .m2 ?_ | refine .m3 ?_ | refine .mk (fun hc=>?_) fun hc=>?_ | refine .lp fun v H lp=>?_ | fail))
 refine .p hv ?_
 (repeat' (first | (refine Rn.go ?_;conv=>whnf) | refine .mk ?_ | refine .tt ?_ | refine .ff ?_ | refine .m2 ?_ | refine .m3 ?_ | refine .mk (fun hc=>?_) fun hc=>?_ | refine .lp fun v H lp=>?_ | fail))
 all_goals exact ⟨_,rfl,by simp [tupOf, *]⟩
theorem clone_out {H:AHeap} {f:Bool} {es:List PV} (hH:HV H) (hv:isVals es=true) (he:esOk 1 es) (hl:es.length<1000000000):∃ v h',clonePrim 1 [.snap f es] H=some (v,h')∧Out 1 h' v es∧HV h':=by
 cases es with
 | nil=>exact ⟨.snap true [],H,rfl,.inl ⟨rfl,rfl⟩,hH⟩
 | cons x r=>
  refine ⟨.mref H.length 0 0 (x::r).length,newObj H 1 (x::r),?_,.inr ⟨H.length,0,rfl,by simp [newObj]⟩,hH.app (HV.one hv)⟩
  unfold clonePrim
  simp only [List.isEmpty_cons]
  rw [if_neg (by simp),if_pos ⟨he,hl⟩]
theorem ckR_bad {z:List (Int × List Pw)} {m:List Pw} (h:validP m≠0∨(z.any fun p=>decide (p.1 < -35184372088832∨35184372088832<p.1))=true∨(z.any fun p=>decide (validP p.2≠0))=true):ckR z m=false:=by
 rcases h with h | h | h
 ·simp [ckR,h]
 ·have:okZ z=false:=by
   rw [okZ,List.all_eq_false]
   obtain ⟨x,hx,h⟩:=List.any_eq_true.1 h
   exact ⟨x,hx,by simp [inr] at h ⊢;omega⟩
  simp [ckR,this]
 ·have:okZ z=false:=by
   rw [okZ,List.all_eq_false]
   obtain ⟨x,hx,h⟩:=List.any_eq_true.1 h
   exact ⟨x,hx,by simp at h ⊢;simp [h]⟩
  simp [ckR,this]
theorem okZ_of {z:List (Int × List Pw)} (h1:(z.any fun p=>decide (p.1 < -35184372088832∨35184372088832<p.1))=false) (h2:(z.any fun p=>decide (validP p.2≠0))=false):okZ z=true:=by
 rw [okZ,List.all_eq_true]
 rw [List.any_eq_false] at h1 h2
 intro p hp
 have a:=h1 p hp
 have b:=h2 p hp
 simp only [decide_eq_true_eq,Decidable.not_not] at a b
 simp only [inr,Bool.and_eq_true,decide_eq_true_eq]
 exact ⟨b,by omega,by omega⟩
namespace Nine
theorem pck_fun (z:List (Int × List Pw)) (m:List Pw) (hz:z.length≤8) (hs:SmT (z.map (·.2)++[m])):Fun C 12 [.snap false (encPPs (z.map (·.2))),.snap false (encPs m),.snap false (encIs (z.map (·.1)))] (.bool (ckR z m)):=by
 have hel:(encPPs (z.map (·.2))).length=z.length:=by simp
 have hei:(encIs (z.map (·.1))).length=z.length:=by simp
 have hsm:=hs.1 m (by simp)
 have hsz:∀ x∈z.map (·.2),(∀ q∈x,bulk q.1<100000000)∧x.length≤200:=fun x hx=>hs.1 x (by simp at hx ⊢;exact .inl hx)
 have hvm:=(pvalid_fun m hsm.1 (by omega)).nine
 have ho:=(cntN_fun 39 rfl (fun n=>decide (n < -35184372088832∨35184372088832<n)) (z.map (·.1)) (by simp;omega) (fun x _=>outside_fun x)).nine
 have hcols:=cols_fun _ hs
 rw [List.any_map] at ho
 have hcp:=(cntPP_ev (z.map (·.2)) _ [] (fun x=>decide (validP x≠0)) [] (by simp;omega) (fun x hx H' _ Q hQ=>.p (ck1_fun x (hsz x hx).1 (by have:=(hsz x hx).2;omega)) (hQ _ (Exd.refl _)))).nine
 rw [List.any_map] at hcp
 refine Fun.x T6 Tryz.func12 rfl ?_
 (repeat' (first | (refine Rn.go ?_;conv=>whnf) | refine .mk ?_ | refine .tt ?_ | refine .ff ?_ | refine .m2 ?_ | refine .m3 ?_ | refine .mk (fun hc=>?_) fun hc=>?_ | refine .lp fun v H lp=>?_ | fail))
 refine .p ho ?_
 cases h1:z.any ((fun n=>decide (n < -35184372088832∨35184372088832<n)) ∘ fun x=>x.1)
 rotate_left
 ·(repeat' (first | (refine Rn.go ?_;conv=>whnf) | refine .mk ?_ | refine .tt ?_ | refine .ff ?_ | refine .m2 ?_ | refine .m3 ?_ | refine .mk (fun hc=>?_) fun hc=>?_ | refine .lp fun v H lp=>?_ | fail))
  exact ⟨_,rfl,by rw [ckR_bad (.inr (.inl h1))];rfl⟩
 (repeat' (first | (refine Rn.go ?_;conv=>whnf) | refine .mk ?_ | refine .tt ?_ | refine .ff ?_ | refine .m2 ?_ | refine .m3 ?_ | refine .mk (fun hc=>?_) fun hc=>?_ | refine .lp fun v H lp=>?_ | fail))
 refine .p hvm ?_
 (repeat' (first | (refine Rn.go ?_;conv=>whnf) | refine .mk ?_ | refine .tt ?_ | refine .ff ?_ | refine .m2 ?_ | refine .m3 ?_ | refine .mk (fun hc=>?_) fun hc=>?_ | refine .lp fun v H lp=>?_ | fail))
 rotate_left
 ·exact ⟨_,rfl,by rw [ckR_bad (.inl hc)];rfl⟩
 have vm:=hc
 clear hc ho hvm
 refine .ex hcp (fun h' hE=>?_)
 cases h2:z.any ((fun x=>decide (validP x≠0)) ∘ fun x=>x.2)
 rotate_left
 ·(repeat' (first | (refine Rn.go ?_;conv=>whnf) | refine .mk ?_ | refine .tt ?_ | refine .ff ?_ | refine .m2 ?_ | refine .m3 ?_ | refine .mk (fun hc=>?_) fun hc=>?_ | refine .lp fun v H lp=>?_ | fail))
  exact ⟨_,rfl,by rw [ckR_bad (.inr (.inr h2))];rfl⟩
 have ok:=okZ_of h1 h2
 obtain ⟨v1,h3,c1,c2,c3⟩:=clone_out (f:=false) (es:=encPPs (z.map (·.2))) (hE.hv HV.nil) (by simp) (by simp [esOk,encPPs,cells,oneC]) (by omega)
 (repeat' (first | (refine Rn.go ?_;conv=>whnf) | refine .mk ?_ | refine .tt ?_ | refine .ff ?_ | refine .m2 ?_ | refine .m3 ?_ | refine .mk (fun hc=>?_) fun hc=>?_ | refine .lp fun v H lp=>?_ | fail))
 refine CallEv.primL rfl c1 ?_
 (repeat' (first | (refine Rn.go ?_;conv=>whnf) | refine .mk ?_ | refine .tt ?_ | refine .ff ?_ | refine .m2 ?_ | refine .m3 ?_ | refine .mk (fun hc=>?_) fun hc=>?_ | refine .lp fun v H lp=>?_ | fail))
 have hlo:=lp.out
 have hlv:=lp.hv
 rw [show encPPs (z.map (·.2))++[PV.snap false (encPs m)]=encPPs (z.map (·.2)++[m]) by simp [encPPs]] at hlo
 refine .po hlo hcols (fun h4 hh4=>?_)
 have hv4:HV h4:=by
  rcases hh4 with rfl | ⟨_,_,_,rfl⟩
  ·exact hlv
  ·exact hlv.set _ (by simp) (by simp)
 have fs:=facs_srt (z.map (·.2)++[m])
 have fi:=facs_in (z.map (·.2)++[m])
 have fl:(facs (z.map (·.2)++[m])).length≤1800:=by
  have a:=accs_len (allT (z.map (·.2)++[m])) []
  have b:=allT_le (l:=z.map (·.2)++[m]) fun x hx=>(hs.1 x hx).2
  have:facs (z.map (·.2)++[m])=accs (allT (z.map (·.2)++[m])) []:=rfl
  rw [this]
  simp at a b ⊢
  omega
 have fb:∀ t∈facs (z.map (·.2)++[m]),bulk t<1000000000:=fun t ht=>by
  obtain ⟨x,hx,ht⟩:=List.mem_flatMap.1 ((fi t).1 ht)
  obtain ⟨p,hp,rfl⟩:=List.mem_map.1 ht
  exact Nat.lt_trans ((hs.1 x hx).1 p hp) (by decide)
 have fm:∀ x∈z.map (·.2)++[m],∀ p∈x,p.1∈facs (z.map (·.2)++[m]):=fun x hx p hp=>(fi p.1).2 (List.mem_flatMap.2 ⟨x,hx,List.mem_map.2 ⟨p,hp,rfl⟩⟩)
 have hck:ckR z m=(facs (z.map (·.2)++[m])).all fun t=>decide (dotZ z t=pwr m t):=by simp [ckR,vm,ok]
 rw [hck]
 clear hcols hck fi hlo hh4 c1 c2 hcp
 generalize facs (z.map (·.2)++[m])=all at *
 have vmz:=validP_zero vm
 have hela:=encs_len all
 have mbd:=pwr_bd (B:=1000) (by decide) vmz.2.1
 (repeat' (first | (refine Rn.go ?_;conv=>whnf) | refine .mk ?_ | refine .tt ?_ | refine .ff ?_ | refine .m2 ?_ | refine .m3 ?_ | refine .mk (fun hc=>?_) fun hc=>?_ | refine .lp fun v H lp=>?_ | fail))
 refine .nw (pof_ev all m h4 hv4 fs (by omega) fb vmz.2.2.2.2 (by omega) (fm m (by simp))).nine (fun h5 hh5=>?_)
 obtain ⟨hv5,e5,l5,_⟩:=hh5
 (repeat' (first | (refine Rn.go ?_;conv=>whnf) | refine .mk ?_ | refine .tt ?_ | refine .ff ?_ | refine .m2 ?_ | refine .m3 ?_ | refine .mk (fun hc=>?_) fun hc=>?_ | refine .lp fun v H lp=>?_ | fail))
 generalize h4.length=id at *
 refine LpX.zip T6 z (fun p q L H=>L=[(2,.snap false (encIs (z.map (·.1)))),(7,.snap false (encs all)),(8,.mref id 0 0 all.length),(45,.snap false (encPPs (z.map (·.2)))),(46,.int .i64 z.length),(47,.int .i64 p.length)]∧HV H∧H[id]?=some ⟨.m,0,1,encIs (all.map fun t=>pwr m t - dotZ p t)⟩)
  (.nx ⟨rfl,hv5,by rw [e5];congr 3;exact List.map_congr_left fun t _=>by simp [dotZ]⟩) ?_ ?_
 ·rintro p ⟨c,x⟩ q _ H ρ e ⟨rfl,hH,e1⟩
  have hat:=at_encPPs (l:=z.map (·.2)) (p:=p.map (·.2)) (x:=x) (q:=q.map (·.2)) (by rw [e];simp)
  have hat2:=at_encIs (l:=z.map (·.1)) (p:=p.map (·.1)) (x:=c) (q:=q.map (·.1)) (by rw [e];simp)
  rw [List.length_map] at hat hat2
  have hl2:=congrArg List.length e
  simp only [List.length_append,List.length_cons] at hl2
  have hxm:x∈z.map (·.2):=by rw [e];simp
  have hxx:=hsz x hxm
  have okx:validP x=0∧inr c=true:=by
   have:=List.all_eq_true.1 ok (c,x) (by rw [e];simp)
   simpa using this
  have okp:okZ p=true:=by rw [okZ,List.all_eq_true];exact fun y hy=>List.all_eq_true.1 ok y (by rw [e];simp [hy])
  have vx:=validP_zero okx.1
  have xbd:=pwr_bd (B:=1000) (by decide) vx.2.1
  have cbd:=of_decide_eq_true okx.2
  (repeat' (first | (refine Rn.go ?_;conv=>whnf) | refine .mk ?_ | refine .tt ?_ | refine .ff ?_ | refine .m2 ?_ | refine .m3 ?_ | refine .mk (fun hc=>?_) fun hc=>?_ | refine .lp fun v H lp=>?_ | fail))
  refine .nw (pof_ev all x H hH fs (by omega) fb vx.2.2.2.2 (by omega) (fm x (by simp only [List.mem_append];exact .inl hxm))).nine (fun h6 hh6=>?_)
  obtain ⟨hv6,e6,l6,k6⟩:=hh6
  have hidl:=lt_of_some e1
  have e7:h6[id]?=some ⟨.m,0,1,encIs (all.map fun t=>pwr m t - dotZ p t)⟩:=by rw [k6 id hidl];exact e1
  clear k6
  (repeat' (first | (refine Rn.go ?_;conv=>whnf) | refine .mk ?_ | refine .tt ?_ | refine .ff ?_ | refine .m2 ?_ | refine .m3 ?_ | refine .mk (fun hc=>?_) fun hc=>?_ | refine .lp fun v H lp=>?_ | fail))
  have hid2:id<H.length:=hidl
  generalize H.length=id2 at *
  refine LpX.zip T6 all (fun A B L H=>L=[(2,.snap false (encIs (z.map (·.1)))),(7,.snap false (encs all)),(8,.mref id 0 0 all.length),(9,.int .i64 p.length),(45,.snap false (encPPs (z.map (·.2)))),(46,.int .i64 z.length),(47,.int .i64 p.length),(54,.mref id2 0 0 all.length),(55,.int .i64 all.length),(56,.int .i64 A.length)]∧HV H ∧
   H[id2]?=some ⟨.m,0,1,encIs (all.map (pwr x))⟩∧H[id]?=some ⟨.m,0,1,encIs (A.map (fun t=>pwr m t - dotZ (p++[(c,x)]) t)++B.map fun t=>pwr m t - dotZ p t)⟩) (.nx ⟨rfl,hv6,e6,e7⟩) ?_ ?_
  ·rintro A t B _ h7 ρ e2 ⟨rfl,hv7,e8,e9⟩
   have hl3:=congrArg List.length e2
   simp only [List.length_append,List.length_cons] at hl3
   have hat3:(encIs (all.map (pwr x)))[0+A.length]?=some (.int .i64 (pwr x t)):=by rw [e2];simp [encIs]
   have hat4:(encIs (A.map (fun t=>pwr m t - dotZ (p++[(c,x)]) t)++(t::B).map fun t=>pwr m t - dotZ p t))[0+A.length]?=some (.int .i64 (pwr m t - dotZ p t)):=by simp [encIs]
   have hb1:=dotZ_bd okp t
   have hb2:=mbd t
   have hb3:=xbd t
   have hb4:=mul_bd cbd.1 cbd.2 hb3.1 hb3.2
   have hval:pwr m t - dotZ p t - c * pwr x t=pwr m t - dotZ (p++[(c,x)]) t:=by rw [dotZ_snoc];dsimp only;omega
   have hset:(encIs (A.map (fun t=>pwr m t - dotZ (p++[(c,x)]) t)++(t::B).map fun t=>pwr m t - dotZ p t)).set (0+A.length) (.int .i64 (pwr m t - dotZ p t - c * pwr x t))=encIs ((A++[t]).map (fun t=>pwr m t - dotZ (p++[(c,x)]) t)++B.map fun t=>pwr m t - dotZ p t):=by
    rw [hval,Nat.zero_add,encIs,List.map_append,List.set_append_right _ _ (by simp)]
    simp [encIs]
   (repeat' (first | (refine Rn.go ?_;conv=>whnf) | refine .mk ?_ | refine .tt ?_ | refine .ff ?_ | refine .m2 ?_ | refine .m3 ?_ | refine .mk (fun hc=>?_) fun hc=>?_ | refine .lp fun v H lp=>?_ | fail))
   rw [hset]
   exact .nx ⟨rfl,hv7.set _ (by simp) (by simp),by rw [List.getElem?_set_ne (by omega)];exact e8,List.getElem?_set_self (lt_of_some e9)⟩
  ·rintro _ h7 ρ ⟨rfl,hv7,e8,e9⟩
   (repeat' (first | (refine Rn.go ?_;conv=>whnf) | refine .mk ?_ | refine .tt ?_ | refine .ff ?_ | refine .m2 ?_ | refine .m3 ?_ | refine .mk (fun hc=>?_) fun hc=>?_ | refine .lp fun v H lp=>?_ | fail))
   exact .nx ⟨rfl,hv7,by rw [e9];simp⟩
 ·rintro _ H ρ ⟨rfl,hH,e1⟩
  have hcn:=(cntN_fun 53 rfl (fun n=>decide (n≠0)) (all.map fun t=>pwr m t - dotZ z t) (by simp;omega) (fun n _=>ne0_fun n)).nine
  have hlo:Out 1 H (.mref id 0 0 all.length) (encIs (all.map fun t=>pwr m t - dotZ z t)):=.inr ⟨id,0,by simp,e1⟩
  have hres:(!((all.map fun t=>pwr m t - dotZ z t).any fun n=>decide (n≠0)))=all.all fun t=>decide (dotZ z t=pwr m t):=by
   rw [List.any_map,List.not_any_eq_all_not]
   congr 1
   funext t
   simp only [Function.comp,ne_eq,decide_not,Bool.not_not,decide_eq_decide]
   omega
  rw [← hres]
  (repeat' (first | (refine Rn.go ?_;conv=>whnf) | refine .mk ?_ | refine .tt ?_ | refine .ff ?_ | refine .m2 ?_ | refine .m3 ?_ | refine .mk (fun hc=>?_) fun hc=>?_ | refine .lp fun v H lp=>?_ | fail))
  refine .plS (.inl hlo) hcn ?_
  generalize (all.map fun t=>pwr m t - dotZ z t).any (fun n=>decide (n≠0))=b
  cases b
  all_goals
   (repeat' (first | (refine Rn.go ?_;conv=>whnf) | refine .mk ?_ | refine .tt ?_ | refine .ff ?_ | refine .m2 ?_ | refine .m3 ?_ | refine .mk (fun hc=>?_) fun hc=>?_ | refine .lp fun v H lp=>?_ | fail))
   exact ⟨_,rfl,rfl⟩
end Nine
end Go.Pm
end
