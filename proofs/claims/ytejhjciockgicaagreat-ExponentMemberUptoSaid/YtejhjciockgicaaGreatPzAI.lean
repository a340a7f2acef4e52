/-
  A part of the library Pm and its contracts (joined by program): PmCk2 PmCk3 PmCk4 PmDd PmCol PmEl0 PmElM PmEl1 PmEl2. Conditions: none.
-/
import Derived.Test.YtejhjciockgicaaGreatPzAH
import Derived.Test.YtejhjciockgicaaGreatPzAD
import Derived.Test.YtejhjciockgicaaGreatPzAG
set_option linter.unusedVariables false
set_option linter.unusedSimpArgs false
section
set_option maxRecDepth 4000
namespace Go.Pm
open Go.Proofs
theorem addT_len (t:Tm):∀ l:List Tm,(addT t l).length≤l.length+1
 | []=>by simp [addT]
 | x::r=>by
  have:=addT_len t r
  unfold addT
  split
  ·split <;> simp
  ·simp only [List.length_cons];omega
theorem addT_mem {t:Tm} {y:Tm}:∀ {l:List Tm},y∈addT t l→y=t∨y∈l
 | [],h=>by simp [addT] at h;exact .inl h
 | x::r,h=>by
  unfold addT at h
  split at h
  ·split at h
   ·rcases List.mem_cons.1 h with h | h
    ·exact .inl h
    ·exact .inr h
   ·exact .inr h
  ·rcases List.mem_cons.1 h with h | h
   ·exact .inr (by simp [h])
   ·rcases addT_mem h with h | h
    ·exact .inl h
    ·exact .inr (by simp [h])
def facs (l:List (List Pw)):List Tm:=(allT l).foldl (fun a t=>addT t a) []
def SmT (l:List (List Pw)):Prop:=(∀ x∈l,(∀ p∈x,bulk p.1<100000000)∧x.length≤200)∧l.length≤1000
def accs (ts:List Tm) (a:List Tm):List Tm:=ts.foldl (fun a t=>addT t a) a
theorem accs_len:∀ (ts a:List Tm),(accs ts a).length≤a.length+ts.length
 | [],a=>by simp [accs]
 | t::ts,a=>by
  have:=accs_len ts (addT t a)
  have:=addT_len t a
  simp only [accs,List.foldl_cons,List.length_cons] at *
  omega
theorem accs_mem {y:Tm}:∀ {ts a:List Tm},y∈accs ts a→y∈ts∨y∈a
 | [],a,h=>.inr h
 | t::ts,a,h=>by
  rcases accs_mem (ts:=ts) (a:=addT t a) h with h | h
  ·exact .inl (by simp [h])
  ·rcases addT_mem h with h | h
   ·exact .inl (by simp [h])
   ·exact .inr h
attribute [local irreducible] thenQ blockQ loopQ bodyQ Ev EvOps CallEv FnEv EvD
theorem facs_fun (l:List (List Pw)) (hs:SmT l):Fun C 54 [.snap false (encPPs l)] (.snap false (encs (facs l))):=by
 have hel:(encPPs l).length=l.length:=by simp
 have hb1:∀ x∈l,∀ p∈x,bulk p.1<100000000:=fun x hx=>(hs.1 x hx).1
 have hl1:=hs.2
 refine Fun.x T6 Tryz.func54 rfl ?_
 (repeat' (first | (refine Rn.go ?_;conv=>whnf) | refine .mk ?_ | refine .tt ?_ | refine .ff ?_ | refine .m2 ?_ | refine .m3 ?_ | refine .mk (fun hc=>?_) fun hc=>?_ | refine .lp fun v H lp=>?_ | fail))
 refine LpX.zip T6 l (fun p q L H=>∃ f acc,L=[(0,.snap false (encPPs l)),(3,.snap f (encs acc)),(4,.int .i64 p.length)]∧H=[]∧(∀ t∈acc,bulk t<100000000)∧acc.length≤200 * p.length∧accs (allT q) acc=facs l) (.nx ⟨true,[],rfl,rfl,(fun t h=>by cases h),by simp,rfl⟩) ?_ ?_
 ·rintro p x q _ _ ρ e ⟨f,acc,rfl,rfl,ha,hal,hg⟩
  have hat:=at_encPPs e
  have hl2:=congrArg List.length e
  simp only [List.length_append,List.length_cons] at hl2
  have hx:=hs.1 x (by rw [e];simp)
  have helx:=encPs_len x
  (repeat' (first | (refine Rn.go ?_;conv=>whnf) | refine .mk ?_ | refine .tt ?_ | refine .ff ?_ | refine .m2 ?_ | refine .m3 ?_ | refine .mk (fun hc=>?_) fun hc=>?_ | refine .lp fun v H lp=>?_ | fail))
  refine LpX.zip T6 x (fun p2 q2 L H=>∃ f acc,L=[(0,.snap false (encPPs l)),(3,.snap f (encs acc)),(4,.int .i64 p.length),(5,.int .i64 p2.length)]∧H=[]∧(∀ t∈acc,bulk t<100000000)∧acc.length≤200 * p.length+p2.length∧accs (q2.map (·.1)++allT q) acc=facs l) (.nx ⟨f,acc,rfl,rfl,ha,by simp;omega,by rw [← hg];simp [allT]⟩) ?_ ?_
  ·rintro p2 ⟨u,n⟩ q2 _ _ ρ e2 ⟨f2,acc2,rfl,rfl,ha2,hal2,hg2⟩
   have hat2:=at_encPs e2
   have hl3:=congrArg List.length e2
   simp only [List.length_append,List.length_cons] at hl3
   have hu:=hx.1 (u,n) (by rw [e2];simp)
   have had:=addT_fun u acc2 (Nat.lt_trans hu (by decide)) (fun y hy=>Nat.lt_trans (ha2 y hy) (by decide)) (by omega)
   rw [enc_x] at had
   (repeat' (first | (refine Rn.go ?_;conv=>whnf) | refine .mk ?_ | refine .tt ?_ | refine .ff ?_ | refine .m2 ?_ | refine .m3 ?_ | refine .mk (fun hc=>?_) fun hc=>?_ | refine .lp fun v H lp=>?_ | fail))
   refine .p had ?_
   (repeat' (first | (refine Rn.go ?_;conv=>whnf) | refine .mk ?_ | refine .tt ?_ | refine .ff ?_ | refine .m2 ?_ | refine .m3 ?_ | refine .mk (fun hc=>?_) fun hc=>?_ | refine .lp fun v H lp=>?_ | fail))
   refine .nx ⟨_,addT u acc2,rfl,rfl,fun y hy=>by rcases addT_mem hy with rfl | h;exact hu;exact ha2 y h,by have:=addT_len u acc2;simp;omega,by rw [← hg2];simp [accs]⟩
  ·rintro _ _ ρ ⟨f2,acc2,rfl,rfl,ha2,hal2,hg2⟩
   (repeat' (first | (refine Rn.go ?_;conv=>whnf) | refine .mk ?_ | refine .tt ?_ | refine .ff ?_ | refine .m2 ?_ | refine .m3 ?_ | refine .mk (fun hc=>?_) fun hc=>?_ | refine .lp fun v H lp=>?_ | fail))
   exact .nx ⟨_,acc2,rfl,rfl,ha2,by simp;omega,by rw [← hg2];simp⟩
 ·rintro _ _ ρ ⟨f,acc,rfl,rfl,ha,hal,hg⟩
  (repeat' (first | (refine Rn.go ?_;conv=>whnf) | refine .mk ?_ | refine .tt ?_ | refine .ff ?_ | refine .m2 ?_ | refine .m3 ?_ | refine .mk (fun hc=>?_) fun hc=>?_ | refine .lp fun v H lp=>?_ | fail))
  exact ⟨_,rfl,by rw [← hg];simp [tupOf,nrm,nrms_encs,allT,accs]⟩
end Go.Pm
end
section
set_option maxRecDepth 4000
namespace Go.Pm
open Go.Proofs
theorem allT_le:∀ {l:List (List Pw)},(∀ x∈l,x.length≤200)→(allT l).length≤200 * l.length
 | [],_=>by simp [allT]
 | x::l,h=>by
  have h1:=allT_le (l:=l) fun y hy=>h y (by simp [hy])
  have h2:=h x (by simp)
  have h3:(allT (x::l)).length=x.length+(allT l).length:=by simp [allT]
  rw [h3,List.length_cons];omega
def inr (n:Int):Bool:=decide (-35184372088832≤n∧n≤35184372088832)
def okZ (z:List (Int × List Pw)):Bool:=z.all fun p=>decide (validP p.2=0) && inr p.1
def dotZ (z:List (Int × List Pw)) (t:Tm):Int:=(z.map fun p=>p.1 * pwr p.2 t).sum
def ckR (z:List (Int × List Pw)) (m:List Pw):Bool:=decide (validP m=0) && okZ z && (facs (z.map (·.2)++[m])).all fun t=>decide (dotZ z t=pwr m t)
theorem dotZ_snoc (z:List (Int × List Pw)) (x:Int × List Pw) (t:Tm):dotZ (z++[x]) t=dotZ z t+x.1 * pwr x.2 t:=by simp [dotZ]
theorem dotZ_bd {z:List (Int × List Pw)} (hz:okZ z=true) (t:Tm) : -(z.length:Int) * 35184372088832000≤dotZ z t∧dotZ z t≤(z.length:Int) * 35184372088832000:=by
 induction z with
 | nil=>simp [dotZ]
 | cons x z ih=>
  simp only [okZ,List.all_cons,Bool.and_eq_true,decide_eq_true_eq,inr] at hz
  obtain ⟨⟨h1,h2⟩,h3⟩:=hz
  obtain ⟨_,hb,_⟩:=validP_zero h1
  have hp:=pwr_bd (by omega) hb t
  have hm:=mul_bd h2.1 h2.2 hp.1 hp.2
  have:=ih (by simpa [okZ,inr] using h3)
  have e:dotZ (x::z) t=x.1 * pwr x.2 t+dotZ z t:=by simp [dotZ]
  rw [e,List.length_cons]
  omega
@[simp] theorem esOk_encPPs (l:List (List Pw)):esOk (0+1) (encPPs l):=by
 unfold esOk
 rw [List.all_eq_true]
 intro v hv
 obtain ⟨x,_,rfl⟩:=List.mem_map.1 hv
 rfl
attribute [local irreducible] thenQ blockQ loopQ bodyQ Ev EvOps CallEv FnEv EvD
theorem rck_fun (z:List (Int × List Pw)) (m:List Pw) (hz:z.length≤8) (hs:SmT (z.map (·.2)++[m])):Fun C 14 [.snap false (encPPs (z.map (·.2))),.snap false (encPs m),.snap false (encIs (z.map (·.1)))] (.bool (ckR z m)):=by
 have hel:(encPPs (z.map (·.2))).length=z.length:=by simp
 have hei:(encIs (z.map (·.1))).length=z.length:=by simp
 have hsm:=hs.1 m (by simp)
 have hsz:∀ p∈z,(∀ q∈p.2,bulk q.1<100000000)∧p.2.length≤200:=fun p hp=>hs.1 p.2 (by simp;exact .inl ⟨p.1,hp⟩)
 have hvm:=rpvalid_fun m hsm.1 (by omega)
 have hfa:=facs_fun _ hs
 refine Fun.x T6 Tryz.func14 rfl ?_
 (repeat' (first | (refine Rn.go ?_;conv=>whnf) | refine .mk ?_ | refine .tt ?_ | refine .ff ?_ | refine .m2 ?_ | refine .m3 ?_ | refine .mk (fun hc=>?_) fun hc=>?_ | refine .lp fun v H lp=>?_ | fail))
 refine .p hvm ?_
 (repeat' (first | (refine Rn.go ?_;conv=>whnf) | refine .mk ?_ | refine .tt ?_ | refine .ff ?_ | refine .m2 ?_ | refine .m3 ?_ | refine .mk (fun hc=>?_) fun hc=>?_ | refine .lp fun v H lp=>?_ | fail))
 rotate_left
 ·exact ⟨_,rfl,by simp [ckR,hc,tupOf]⟩
 have vm:=hc
 clear hc
 refine LpX.zip T6 z (fun p q L H=>L=[(0,.snap false (encPPs (z.map (·.2)))),(1,.snap false (encPs m)),(2,.snap false (encIs (z.map (·.1)))),(7,.int .i64 p.length)]∧H=[]∧okZ p=true) (.nx ⟨rfl,rfl,rfl⟩) ?_ ?_
 ·rintro p ⟨c,x⟩ q _ _ ρ e ⟨rfl,rfl,hp⟩
  have hat:=at_encPPs (l:=z.map (·.2)) (p:=p.map (·.2)) (x:=x) (q:=q.map (·.2)) (by rw [e];simp)
  have hat2:=at_encIs (l:=z.map (·.1)) (p:=p.map (·.1)) (x:=c) (q:=q.map (·.1)) (by rw [e];simp)
  rw [List.length_map] at hat hat2
  have hl2:=congrArg List.length e
  simp only [List.length_append,List.length_cons] at hl2
  have hx:=hsz (c,x) (by rw [e];simp)
  have hvx:=rpvalid_fun x hx.1 (by have:=hx.2;dsimp only at this;omega)
  have hmem:(c,x)∈z:=by rw [e];simp
  have bad:(validP x≠0∨c < -35184372088832∨35184372088832<c)→ckR z m=false:=fun hh=>by
   have:okZ z=false:=by
    rw [okZ,List.all_eq_false]
    exact ⟨_,hmem,by simp [inr];omega⟩
   simp [ckR,this]
  (repeat' (first | (refine Rn.go ?_;conv=>whnf) | refine .mk ?_ | refine .tt ?_ | refine .ff ?_ | refine .m2 ?_ | refine .m3 ?_ | refine .mk (fun hc=>?_) fun hc=>?_ | refine .lp fun v H lp=>?_ | fail))
  refine .p hvx ?_
  (repeat' (first | (refine Rn.go ?_;conv=>whnf) | refine .mk ?_ | refine .tt ?_ | refine .ff ?_ | refine .m2 ?_ | refine .m3 ?_ | refine .mk (fun hc=>?_) fun hc=>?_ | refine .lp fun v H lp=>?_ | fail))
  ·exact ⟨_,rfl,by rw [bad (.inr (.inl hc))];simp [tupOf]⟩
  ·exact ⟨_,rfl,by rw [bad (.inr (.inr hc))];simp [tupOf]⟩
  ·refine .nx ⟨rfl,rfl,?_⟩
   simp only [okZ,inr,List.all_append,List.all_cons,List.all_nil,Bool.and_eq_true,decide_eq_true_eq] at hp ⊢
   exact ⟨hp,⟨⟨by assumption,by omega⟩,trivial⟩⟩
  ·exact ⟨_,rfl,by rw [bad (.inl hc)];simp [tupOf]⟩
 ·rintro _ _ ρ ⟨rfl,rfl,hok⟩
  have bm:=validP_zero vm
  have hap:encPPs (z.map (·.2))++[.snap false (encPs m)]=encPPs (z.map (·.2)++[m]):=by simp [encPPs]
  (repeat' (first | (refine Rn.go ?_;conv=>whnf) | refine .mk ?_ | refine .tt ?_ | refine .ff ?_ | refine .m2 ?_ | refine .m3 ?_ | refine .mk (fun hc=>?_) fun hc=>?_ | refine .lp fun v H lp=>?_ | fail))
  have lo:=lp.out
  have hH:=lp.hv
  have hll:(([]:List PV)++encPPs (z.map (·.2))).length=z.length:=by simp
  clear lp
  (repeat' (first | (refine Rn.go ?_;conv=>whnf) | refine .mk ?_ | refine .tt ?_ | refine .ff ?_ | refine .m2 ?_ | refine .m3 ?_ | refine .mk (fun hc=>?_) fun hc=>?_ | refine .lp fun v H lp=>?_ | fail))
  have lo2:=lp.out
  have hH2:=lp.hv
  rw [List.nil_append,hap] at lo2
  clear lp
  refine .pl (.inl lo2) hfa (fun h' fz=>?_)
  (repeat' (first | (refine Rn.go ?_;conv=>whnf) | refine .mk ?_ | refine .tt ?_ | refine .ff ?_ | refine .m2 ?_ | refine .m3 ?_ | refine .mk (fun hc=>?_) fun hc=>?_ | refine .lp fun v H lp=>?_ | fail))
  have hH3:=fz.hv hH2 (by simp)
  clear fz lo lo2 hfa
  have hbF:∀ t∈facs (z.map (·.2)++[m]),bulk t<100000000:=fun t ht=>by
   rcases accs_mem (ts:=allT (z.map (·.2)++[m])) (a:=[]) ht with h | h
   ·simp only [allT,List.mem_flatMap,List.mem_map] at h
    obtain ⟨x,hx,p,hp,rfl⟩:=h
    exact (hs.1 x hx).1 p hp
   ·cases h
  have hlF:(facs (z.map (·.2)++[m])).length<100000:=by
   have h1:=accs_len (allT (z.map (·.2)++[m])) []
   have h2:=allT_le (l:=z.map (·.2)++[m]) fun x hx=>(hs.1 x hx).2
   simp only [List.length_append,List.length_map,List.length_cons,List.length_nil] at h2 h1
   have h3:facs (z.map (·.2)++[m])=accs (allT (z.map (·.2)++[m])) []:=rfl
   rw [h3];omega
  have hck:ckR z m=(facs (z.map (·.2)++[m])).all fun t=>decide (dotZ z t=pwr m t):=by simp [ckR,vm,hok]
  rw [hck]
  clear hck
  generalize facs (z.map (·.2)++[m])=F at *
  have heF:(encs F).length=F.length:=by simp
  refine LpX.zip T6 F (fun p q L H=>L=[(0,.snap false (encPPs (z.map (·.2)))),(1,.snap false (encPs m)),(2,.snap false (encIs (z.map (·.1)))),(8,.snap false (encs F)),(9,.int .i64 p.length)]∧HV H∧(p.all fun t=>decide (dotZ z t=pwr m t))=true) (.nx ⟨rfl,hH3,rfl⟩) ?_ ?_
  ·rintro p t q _ h ρ e ⟨rfl,hH,hp⟩
   have hat:=at_encs e
   have hl2:=congrArg List.length e
   simp only [List.length_append,List.length_cons] at hl2
   have ht:=hbF t (by rw [e];simp)
   have hpm:=rpower_fun m t ⟨fun p hp=>Nat.lt_trans (hsm.1 p hp) (by decide),by have:=hsm.2;omega⟩ (by omega)
   rw [enc_x] at hpm
   (repeat' (first | (refine Rn.go ?_;conv=>whnf) | refine .mk ?_ | refine .tt ?_ | refine .ff ?_ | refine .m2 ?_ | refine .m3 ?_ | refine .mk (fun hc=>?_) fun hc=>?_ | refine .lp fun v H lp=>?_ | fail))
   refine LpX.zip T6 z (fun p2 q2 L H=>L=[(0,.snap false (encPPs (z.map (·.2)))),(1,.snap false (encPs m)),(2,.snap false (encIs (z.map (·.1)))),(8,.snap false (encs F)),(9,.int .i64 p.length),(10,.int .i64 (dotZ p2 t)),(11,.int .i64 p2.length)]∧HV H) (.nx ⟨rfl,by assumption⟩) ?_ ?_
   ·rintro p2 ⟨c,x⟩ q2 _ h ρ e2 ⟨rfl,hH⟩
    have hat1:=at_encPPs (l:=z.map (·.2)) (p:=p2.map (·.2)) (x:=x) (q:=q2.map (·.2)) (by rw [e2];simp)
    have hat2:=at_encIs (l:=z.map (·.1)) (p:=p2.map (·.1)) (x:=c) (q:=q2.map (·.1)) (by rw [e2];simp)
    rw [List.length_map] at hat1 hat2
    have hl3:=congrArg List.length e2
    simp only [List.length_append,List.length_cons] at hl3
    have hx:=hsz (c,x) (by rw [e2];simp)
    have hpx:=rpower_fun x t ⟨fun p hp=>Nat.lt_trans (hx.1 p hp) (by decide),by have:=hx.2;dsimp only at this;omega⟩ (by omega)
    rw [enc_x] at hpx
    have hsn:=dotZ_snoc p2 (c,x) t
    have hok2:okZ p2=true∧validP x=0∧inr c=true:=by
     have h1:=hok
     rw [e2] at h1
     simp only [okZ,List.all_append,List.all_cons,Bool.and_eq_true,decide_eq_true_eq] at h1 ⊢
     exact ⟨h1.1,h1.2.1⟩
    obtain ⟨k1,k2,k3⟩:=hok2
    obtain ⟨_,hb,_⟩:=validP_zero k2
    have b1:=pwr_bd (by omega) hb t
    simp only [inr,decide_eq_true_eq] at k3
    have b2:=mul_bd k3.1 k3.2 b1.1 b1.2
    have b3:=dotZ_bd k1 t
    dsimp only at hsn
    (repeat' (first | (refine Rn.go ?_;conv=>whnf) | refine .mk ?_ | refine .tt ?_ | refine .ff ?_ | refine .m2 ?_ | refine .m3 ?_ | refine .mk (fun hc=>?_) fun hc=>?_ | refine .lp fun v H lp=>?_ | fail))
    refine .p hpx ?_
    (repeat' (first | (refine Rn.go ?_;conv=>whnf) | refine .mk ?_ | refine .tt ?_ | refine .ff ?_ | refine .m2 ?_ | refine .m3 ?_ | refine .mk (fun hc=>?_) fun hc=>?_ | refine .lp fun v H lp=>?_ | fail))
    exact .nx ⟨by rw [hsn],by assumption⟩
   ·rintro _ h ρ ⟨rfl,hH⟩
    have b3:=dotZ_bd hok t
    (repeat' (first | (refine Rn.go ?_;conv=>whnf) | refine .mk ?_ | refine .tt ?_ | refine .ff ?_ | refine .m2 ?_ | refine .m3 ?_ | refine .mk (fun hc=>?_) fun hc=>?_ | refine .lp fun v H lp=>?_ | fail))
    refine .p hpm ?_
    (repeat' (first | (refine Rn.go ?_;conv=>whnf) | refine .mk ?_ | refine .tt ?_ | refine .ff ?_ | refine .m2 ?_ | refine .m3 ?_ | refine .mk (fun hc=>?_) fun hc=>?_ | refine .lp fun v H lp=>?_ | fail))
    ·exact .nx ⟨rfl,hH,by rw [List.all_append,hp];simp [hc]⟩
    ·exact ⟨_,rfl,by rw [show (F.all fun t=>decide (dotZ z t=pwr m t))=false by rw [e,List.all_append];simp [hc]];simp [tupOf]⟩
  ·rintro _ h ρ ⟨rfl,hH,hp⟩
   (repeat' (first | (refine Rn.go ?_;conv=>whnf) | refine .mk ?_ | refine .tt ?_ | refine .ff ?_ | refine .m2 ?_ | refine .m3 ?_ | refine .mk (fun hc=>?_) fun hc=>?_ | refine .lp fun v H lp=>?_ | fail))
   exact ⟨_,rfl,by rw [hp];simp [tupOf]⟩
end Go.Pm
end
section
set_option maxRecDepth 4000
namespace Go.Pm
open Go.Proofs
def SrtT (l:List Tm):Prop:=l.Pairwise fun p q=>cmpT p q<0
theorem addT_in (t:Tm):∀ (l:List Tm) (y:Tm),y∈addT t l↔y=t∨y∈l
 | [],y=>by simp [addT]
 | x::r,y=>by
  unfold addT
  by_cases h1:cmpT t x≤0
  ·rw [if_pos h1]
   by_cases h2:cmpT t x<0
   ·rw [if_pos h2];simp
   ·rw [if_neg h2]
    obtain rfl:=cmpT_zero (t:=t) (t':=x) (by omega)
    simp
  ·rw [if_neg h1,List.mem_cons,addT_in t r y,List.mem_cons]
   constructor
   ·rintro (h | h | h)
    ·exact .inr (.inl h)
    ·exact .inl h
    ·exact .inr (.inr h)
   ·rintro (h | h | h)
    ·exact .inr (.inl h)
    ·exact .inl h
    ·exact .inr (.inr h)
theorem addT_srt {t:Tm}:∀ {l:List Tm},SrtT l→SrtT (addT t l)
 | [],_=>by simp [addT,SrtT]
 | x::r,h=>by
  have hp:=List.pairwise_cons.1 h
  unfold addT
  by_cases h1:cmpT t x≤0
  ·rw [if_pos h1]
   by_cases h2:cmpT t x<0
   ·rw [if_pos h2]
    refine List.pairwise_cons.2 ⟨fun y hy=>?_,h⟩
    rcases List.mem_cons.1 hy with rfl | hy
    ·exact h2
    ·exact cmpT_trans h2 (hp.1 y hy)
   ·rw [if_neg h2];exact h
  ·rw [if_neg h1]
   refine List.pairwise_cons.2 ⟨fun y hy=>?_,addT_srt hp.2⟩
   rcases (addT_in t r y).1 hy with rfl | hy
   ·have:=cmpT_neg y x;omega
   ·exact hp.1 y hy
theorem accs_srt:∀ {ts a:List Tm},SrtT a→SrtT (accs ts a)
 | [],a,h=>h
 | t::ts,a,h=>accs_srt (ts:=ts) (addT_srt (t:=t) h)
theorem accs_in:∀ (ts a:List Tm) (y:Tm),y∈accs ts a↔y∈ts∨y∈a
 | [],a,y=>by simp [accs]
 | t::ts,a,y=>by
  have:=accs_in ts (addT t a) y
  rw [show accs (t::ts) a=accs ts (addT t a) from rfl,this,addT_in,List.mem_cons]
  constructor
  ·rintro (h | h | h)
   ·exact .inl (.inr h)
   ·exact .inl (.inl h)
   ·exact .inr h
  ·rintro ((h | h) | h)
   ·exact .inr (.inl h)
   ·exact .inl h
   ·exact .inr (.inr h)
theorem srt_ext:∀ {a b:List Tm},SrtT a→SrtT b→(∀ y,y∈a↔y∈b)→a=b
 | [],[],_,_,_=>rfl
 | [],y::b,_,_,h=>by have:=(h y).2 (by simp);cases this
 | x::a,[],_,_,h=>by have:=(h x).1 (by simp);cases this
 | x::a,y::b,ha,hb,h=>by
  have pa:=List.pairwise_cons.1 ha
  have pb:=List.pairwise_cons.1 hb
  have irr:∀ {u:Tm},¬ cmpT u u<0:=fun {u} hh=>by rw [cmpT_self] at hh;omega
  have hxy:x=y:=by
   rcases List.mem_cons.1 ((h x).1 (by simp)) with e | hx
   ·exact e
   ·rcases List.mem_cons.1 ((h y).2 (by simp)) with e | hy
    ·exact e.symm
    ·exact (irr (cmpT_trans (pb.1 x hx) (pa.1 y hy))).elim
  subst hxy
  have:a=b:=srt_ext pa.2 pb.2 fun z=>by
   constructor
   ·intro hz
    rcases List.mem_cons.1 ((h z).1 (by simp [hz])) with rfl | h1
    ·exact (irr (pa.1 z hz)).elim
    ·exact h1
   ·intro hz
    rcases List.mem_cons.1 ((h z).2 (by simp [hz])) with rfl | h1
    ·exact (irr (pb.1 z hz)).elim
    ·exact h1
  rw [this]
theorem facs_srt (l:List (List Pw)):SrtT (facs l):=accs_srt (ts:=allT l) (a:=[]) (by simp [SrtT])
theorem facs_in (l:List (List Pw)) (y:Tm):y∈facs l↔y∈allT l:=by
 have:=accs_in (allT l) [] y
 simpa [accs,facs] using this
end Go.Pm
end
section
set_option maxRecDepth 4000
namespace Go.Pm
open Go.Proofs
def ddp (p:Tm):List Tm→List Tm
 | []=>[]
 | a::r=>if cmpT a p=0 then ddp a r else a::ddp a r
def dd:List Tm→List Tm
 | []=>[]
 | x::r=>x::ddp x r
theorem ddp_len (p:Tm):∀ l:List Tm,(ddp p l).length≤l.length
 | []=>by simp [ddp]
 | a::r=>by
  have:=ddp_len a r
  unfold ddp
  split <;> simp <;> omega
theorem dd_len:∀ l:List Tm,(dd l).length≤l.length
 | []=>by simp [dd]
 | a::r=>by have:=ddp_len a r;simp [dd];omega
theorem nth_enc {l:List Tm} {i:Nat} {t:Tm} (h:l[i]?=some t):(encs l)[i]?=some (.agg [.int .i64 t.k,.str t.s,.int .i64 t.o,.snap false (encs t.l)]):=by rw [encs_eq,List.getElem?_map,h,← enc_x];rfl
theorem set_encs {l:List Tm} {i:Nat} {t:Tm}:(encs l).set i (enc t)=encs (l.set i t):=by rw [encs_eq,encs_eq,List.map_set]
theorem nth_at {α:Type} {L A B:List α} {x:α} {i:Nat} (e:L=A++x::B) (hi:i=A.length):L[i]?=some x:=by subst e hi;simp
theorem list_set_self {α:Type} {l:List α} {i:Nat} {x:α} (h:l[i]?=some x):l.set i x=l:=by
 obtain ⟨h1,rfl⟩:=List.getElem?_eq_some_iff.1 h
 exact List.set_getElem_self h1
section
variable {C:Cfg} (T:Tab C.P) {h:AHeap}
theorem slice_lo {t el:TypeId} {sz id ep len n:Nat} {k:IntKind} {es:List PV} (hk:T.kd t=some (.sl el)) (hs:T.ts el=some sz) (e:h[id]?=some ⟨.m,ep,sz,es⟩) (hl:len≤es.length) (h0:0<n) (hn:n<len) :
  sliceP C.P h t (.mref id ep 0 len) (some (.int k n)) none none=some (.mref id ep (0+n) (len - n)):=by
 have hg:getM h id ep=some ⟨.m,ep,sz,es⟩:=getM_at e rfl (by simp)
 simp only [sliceP,kd_sl (T.hkd _ _ hk),T.hts _ _ hs,hg]
 rw [if_pos ⟨trivial,by show 0+len≤es.length;omega⟩]
 have hb:beyond none none len (es.length - 0)=none:=rfl
 simp only [beyond,boundP]
 rw [if_pos (by omega)]
 simp only [Int.toNat_natCast]
 rw [if_pos (by rfl),if_neg (by simp),if_neg (by omega),if_neg (by omega)]
theorem slice_hi {t el:TypeId} {sz id ep len n:Nat} {k:IntKind} {es:List PV} (hk:T.kd t=some (.sl el)) (hs:T.ts el=some sz) (e:h[id]?=some ⟨.m,ep,sz,es⟩) (hl:len≤es.length) (hn:n≤len) :
  sliceP C.P h t (.mref id ep 0 len) none (some (.int k n)) none=some (.mref id ep 0 n):=by
 have hg:getM h id ep=some ⟨.m,ep,sz,es⟩:=getM_at e rfl (by simp)
 simp only [sliceP,kd_sl (T.hkd _ _ hk),T.hts _ _ hs,hg]
 rw [if_pos ⟨trivial,by show 0+len≤es.length;omega⟩]
 simp only [beyond,boundP]
 rw [if_neg (by omega),if_pos (by omega)]
 simp
theorem clear_at {t el:TypeId} {sz id ep off len:Nat} {z:PV} {es:List PV} (hk:T.kd t=some (.sl el)) (hs:T.ts el=some sz) (hz:T.tz el=some z) (e:h[id]?=some ⟨.m,ep,sz,es⟩) (hl:off+len≤es.length) (hc:(cells z).length=sz) (ho:(cells z).all oneC=true) :
  clearP C.P 2 h t (.mref id ep off len)=some (.tup [],h.set id ⟨.m,ep,sz,es.take off++List.replicate len z++es.drop (off+len)⟩):=by
 have hg:getM h id ep=some ⟨.m,ep,sz,es⟩:=getM_at e rfl (by simp)
 simp only [clearP,kd_sl (T.hkd _ _ hk),T.hts _ _ hs,T.htz _ _ hz,hg]
 rw [if_pos ⟨by omega,trivial,trivial,hl,hc,ho⟩]
theorem OtherR.sl {L:Al} {t:TypeId} {x lo:Operand} {v u w:PV} {K:PV→Prop} (hx:evL L x=some v) (hl:evL L lo=some u) (hs:sliceP C.P h t v (some u) none none=some w) (kk:Rn (K w)):OtherR C (.slice t x (some lo) none none) L h K:=
 .mk (fun run lv ρ=>by simp only [opVal,stepOp,evL_ev hx,evL_ev hl,Option.map_some,Option.map_none,hs]) kk
theorem OtherR.sh {L:Al} {t:TypeId} {x hi:Operand} {v u w:PV} {K:PV→Prop} (hx:evL L x=some v) (hl:evL L hi=some u) (hs:sliceP C.P h t v none (some u) none=some w) (kk:Rn (K w)):OtherR C (.slice t x none (some hi) none) L h K:=
 .mk (fun run lv ρ=>by simp only [opVal,stepOp,evL_ev hx,evL_ev hl,Option.map_some,Option.map_none,hs]) kk
theorem OpqX.clr {L:Al} {t:TypeId} {x:Operand} {v:PV} {h':AHeap} {K:PV→AHeap→Prop} (hx:evL L x=some v) (hs:clearP C.P 2 h t v=some (.tup [],h')) (kk:Rn (K (.tup []) h')):OpqX C (.call ⟨.builtin .clear,#[x],#[t]⟩) L h K:=
 .mk (fun run ρ=>by simp only [opVal,builtinP,List.map_cons,List.map_nil,evL_ev hx,hs]) kk
end
attribute [local irreducible] thenQ blockQ loopQ bodyQ Ev EvOps CallEv FnEv EvD
theorem col1_fun (a b:Tm) (ha:bulk a<1000000000) (hb:bulk b<1000000000):Fun C 87 [enc a,enc b] (.bool (decide (cmpT a b=0))):=by
 have h1:=tcmp_fun a b ha hb
 rw [enc_x,enc_x] at h1 ⊢
 refine Fun.x T6 Tryz.func87 rfl ?_
 (repeat' (first | (refine Rn.go ?_;conv=>whnf) | refine .mk ?_ | refine .tt ?_ | refine .ff ?_ | refine .m2 ?_ | refine .m3 ?_ | refine .mk (fun hc=>?_) fun hc=>?_ | refine .lp fun v H lp=>?_ | fail))
 refine .p h1 ?_
 (repeat' (first | (refine Rn.go ?_;conv=>whnf) | refine .mk ?_ | refine .tt ?_ | refine .ff ?_ | refine .m2 ?_ | refine .m3 ?_ | refine .mk (fun hc=>?_) fun hc=>?_ | refine .lp fun v H lp=>?_ | fail))
 all_goals exact ⟨_,rfl,by simp [tupOf, *]⟩
theorem compact_nil (H:AHeap):FnEv C 86 [.snap true [],.fn 87 []] H (fun r h'=>r=.snap true []∧h'=H):=by
 refine FnEv.x T6 Tryz.func86 rfl ?_
 (repeat' (first | (refine Rn.go ?_;conv=>whnf) | refine .mk ?_ | refine .tt ?_ | refine .ff ?_ | refine .m2 ?_ | refine .m3 ?_ | refine .mk (fun hc=>?_) fun hc=>?_ | refine .lp fun v H lp=>?_ | fail))
 exact ⟨rfl,rfl⟩
theorem compact_ev (x:Tm) (l:List Tm) (H:AHeap) (hH:HV H) (id ep:Nat) (e1:H[id]?=some ⟨.m,ep,4,encs (x::l)⟩) (hn:l.length<100000000) (hb:∀ t∈x::l,bulk t<1000000000) :
  FnEv C 86 [.mref id ep 0 (encs (x::l)).length,.fn 87 []] H
   (fun r h'=>r=.mref id ep 0 (dd (x::l)).length∧∃ tl,isVals tl=true∧h'=H.set id ⟨.m,ep,4,encs (dd (x::l))++tl⟩):=by
 have hel:(encs (x::l)).length=l.length+1:=by rw [encs_len];rfl
 refine FnEv.x T6 Tryz.func86 rfl ?_
 (repeat' (first | (refine Rn.go ?_;conv=>whnf) | refine .mk ?_ | refine .tt ?_ | refine .ff ?_ | refine .m2 ?_ | refine .m3 ?_ | refine .mk (fun hc=>?_) fun hc=>?_ | refine .lp fun v H lp=>?_ | fail))
 ·obtain rfl:l=[]:=List.eq_nil_of_length_eq_zero (by omega)
  exact ⟨rfl,[],rfl,by rw [List.append_nil];exact (list_set_self e1).symm⟩
 refine LpX.zip T6 l (fun p q L h=>h=H∧∃ P' prev,x::p=P'++[prev]∧P'++prev::ddp prev q=dd (x::l)∧L=[(0,.mref id ep 0 (encs (x::l)).length),(1,.fn 87 []),(5,.int .i64 ((p.length+1:Nat):Int))]) (.nx ⟨rfl,[],x,rfl,rfl,rfl⟩) ?_ ?_
 ·rintro p a q _ h ρ e ⟨rfl,P',prev,hp,hd,rfl⟩
  have hl2:=congrArg List.length e
  simp only [List.length_append,List.length_cons] at hl2
  have hpl:=congrArg List.length hp
  simp only [List.length_append,List.length_cons,List.length_nil] at hpl
  have hat1:(encs (x::l))[0+(p.length+1)]?=some (.agg [.int .i64 a.k,.str a.s,.int .i64 a.o,.snap false (encs a.l)]):=nth_enc (by rw [e,Nat.zero_add];simp)
  have hat2:(encs (x::l))[0+(((p.length+1:Nat):Int) - 1).toNat]?=some (.agg [.int .i64 prev.k,.str prev.s,.int .i64 prev.o,.snap false (encs prev.l)]):=nth_enc (by
   rw [show (((p.length+1:Nat):Int) - 1).toNat=p.length by omega,e,← List.cons_append,hp,Nat.zero_add,List.getElem?_append_left (by simp;omega),List.getElem?_append_right (by omega)]
   simp [show p.length - P'.length=0 by omega])
  have hq:=col1_fun a prev (hb a (by rw [e];simp)) (hb prev (by rw [e,← List.cons_append,hp];simp))
  rw [enc_x,enc_x] at hq
  (repeat' (first | (refine Rn.go ?_;conv=>whnf) | refine .mk ?_ | refine .tt ?_ | refine .ff ?_ | refine .m2 ?_ | refine .m3 ?_ | refine .mk (fun hc=>?_) fun hc=>?_ | refine .lp fun v H lp=>?_ | fail))
  refine .p hq ?_
  cases hc:decide (cmpT a prev=0)
  ·(repeat' (first | (refine Rn.go ?_;conv=>whnf) | refine .mk ?_ | refine .tt ?_ | refine .ff ?_ | refine .m2 ?_ | refine .m3 ?_ | refine .mk (fun hc=>?_) fun hc=>?_ | refine .lp fun v H lp=>?_ | fail))
   refine .nx ⟨rfl,P'++[prev],a,by rw [← List.cons_append,hp],?_,rfl⟩
   rw [← hd,ddp,if_neg (by simpa using hc)]
   simp
  ·(repeat' (first | (refine Rn.go ?_;conv=>whnf) | refine .mk ?_ | refine .tt ?_ | refine .ff ?_ | refine .m2 ?_ | refine .m3 ?_ | refine .mk (fun hc=>?_) fun hc=>?_ | refine .lp fun v H lp=>?_ | fail))
   rw [hel] at *
   refine .sl rfl rfl (slice_lo T6 rfl rfl e1 (by rw [encs_len];simp) (by omega) (by omega)) ?_
   (repeat' (first | (refine Rn.go ?_;conv=>whnf) | refine .mk ?_ | refine .tt ?_ | refine .ff ?_ | refine .m2 ?_ | refine .m3 ?_ | refine .mk (fun hc=>?_) fun hc=>?_ | refine .lp fun v H lp=>?_ | fail))
   refine LpX.zip T6 q (fun p2 q2 L h'=>∃ R M0 pr,bulk pr<1000000000∧R.length+M0.length=p.length+1+p2.length∧R++ddp pr q2=dd (x::l)∧h'=h.set id ⟨.m,ep,4,encs (R++(M0++[pr]++q2))⟩ ∧
    L=[(0,.mref id ep 0 (l.length+1)),(1,.fn 87 []),(5,.int .i64 (R.length:Int)),(6,.mref id ep (0+(p.length+1)) (l.length+1 - (p.length+1))),(7,.int .i64 ((p2.length+1:Nat):Int))]) (.nx ⟨P'++[prev],[],a,hb a (by rw [e];simp),by simp only [List.length_append,List.length_cons,List.length_nil];omega,?_,?_,rfl⟩) ?_ ?_
   ·rw [← hd,ddp,if_pos (by simpa using hc)];simp
   ·rw [list_set_self];rw [e1,e,← List.cons_append,hp];simp
   ·rintro p2 b q2 _ _ ρ2 e2 ⟨R,M0,pr,hpb,hl3,hd2,rfl,rfl⟩
    have hl4:=congrArg List.length e2
    simp only [List.length_append,List.length_cons] at hl4
    have e1':(h.set id ⟨.m,ep,4,encs (R++(M0++[pr]++b::q2))⟩)[id]?=some ⟨.m,ep,4,encs (R++(M0++[pr]++b::q2))⟩:=List.getElem?_set_self (lt_of_some e1)
    have hH':HV (h.set id ⟨.m,ep,4,encs (R++(M0++[pr]++b::q2))⟩):=hH.set id (by simp) (by simp)
    have hn2:(encs (R++(M0++[pr]++b::q2))).length=l.length+1:=by rw [encs_len];simp;omega
    have hat3:(encs (R++(M0++[pr]++b::q2)))[0+(p.length+1)+(p2.length+1)]?=some (.agg [.int .i64 b.k,.str b.s,.int .i64 b.o,.snap false (encs b.l)]):=nth_enc (nth_at (A:=R++M0++[pr]) (B:=q2) (by simp) (by simp;omega))
    have hat4:(encs (R++(M0++[pr]++b::q2)))[0+(p.length+1)+(((p2.length+1:Nat):Int) - 1).toNat]?=some (.agg [.int .i64 pr.k,.str pr.s,.int .i64 pr.o,.snap false (encs pr.l)]):=nth_enc (nth_at (A:=R++M0) (B:=b::q2) (by simp) (by simp;omega))
    have hq2:=col1_fun b pr (hb b (by rw [e,e2];simp)) hpb
    rw [enc_x,enc_x] at hq2
    obtain ⟨m,M1,hM⟩:∃ m M1,M0++[pr]=m::M1:=by cases M0 with | nil=>exact ⟨_,_,rfl⟩ | cons m M=>exact ⟨m,M++[pr],rfl⟩
    have hM1:=congrArg List.length hM
    simp only [List.length_append,List.length_cons,List.length_nil] at hM1
    have hat5:(encs (R++(M0++[pr]++b::q2)))[0+R.length]?=some (.agg [.int .i64 m.k,.str m.s,.int .i64 m.o,.snap false (encs m.l)]):=nth_enc (nth_at (A:=R) (B:=M1++b::q2) (by rw [hM];simp) (by omega))
    have hset:(encs (R++(M0++[pr]++b::q2))).set (0+R.length) (.agg [.int .i64 b.k,.str b.s,.int .i64 b.o,.snap false (encs b.l)])=encs ((R++[b])++(M1++[b]++q2)):=by
     rw [← enc_x,set_encs,hM,Nat.zero_add];simp
    clear hq hat1 hat2
    (repeat' (first | (refine Rn.go ?_;conv=>whnf) | refine .mk ?_ | refine .tt ?_ | refine .ff ?_ | refine .m2 ?_ | refine .m3 ?_ | refine .mk (fun hc=>?_) fun hc=>?_ | refine .lp fun v H lp=>?_ | fail))
    refine .p hq2 ?_
    cases hc2:decide (cmpT b pr=0)
    ·(repeat' (first | (refine Rn.go ?_;conv=>whnf) | refine .mk ?_ | refine .tt ?_ | refine .ff ?_ | refine .m2 ?_ | refine .m3 ?_ | refine .mk (fun hc=>?_) fun hc=>?_ | refine .lp fun v H lp=>?_ | fail))
     rw [hset,List.set_set]
     refine .nx ⟨R++[b],M1,b,hb b (by rw [e,e2];simp),by simp;omega,?_,rfl,rfl⟩
     rw [← hd2,ddp,if_neg (by simpa using hc2)];simp
    ·(repeat' (first | (refine Rn.go ?_;conv=>whnf) | refine .mk ?_ | refine .tt ?_ | refine .ff ?_ | refine .m2 ?_ | refine .m3 ?_ | refine .mk (fun hc=>?_) fun hc=>?_ | refine .lp fun v H lp=>?_ | fail))
     refine .nx ⟨R,M0++[pr],b,hb b (by rw [e,e2];simp),by simp;omega,?_,by simp,rfl⟩
     rw [← hd2,ddp,if_pos (by simpa using hc2)]
   ·rintro _ _ ρ2 ⟨R,M0,pr,hpb,hl3,hd2,rfl,rfl⟩
    have e1':(h.set id ⟨.m,ep,4,encs (R++(M0++[pr]++[]))⟩)[id]?=some ⟨.m,ep,4,encs (R++(M0++[pr]++[]))⟩:=List.getElem?_set_self (lt_of_some e1)
    have hH':HV (h.set id ⟨.m,ep,4,encs (R++(M0++[pr]++[]))⟩):=hH.set id (by simp) (by simp)
    have hn2:(encs (R++(M0++[pr]++[]))).length=l.length+1:=by rw [encs_len];simp;omega
    rw [ddp,List.append_nil] at hd2
    subst hd2
    (repeat' (first | (refine Rn.go ?_;conv=>whnf) | refine .mk ?_ | refine .tt ?_ | refine .ff ?_ | refine .m2 ?_ | refine .m3 ?_ | refine .mk (fun hc=>?_) fun hc=>?_ | refine .lp fun v H lp=>?_ | fail))
    refine .sl rfl rfl (slice_lo T6 rfl rfl e1' (by omega) ?_ (by omega)) ?_
    ·simp [dd]
    (repeat' (first | (refine Rn.go ?_;conv=>whnf) | refine .mk ?_ | refine .tt ?_ | refine .ff ?_ | refine .m2 ?_ | refine .m3 ?_ | refine .mk (fun hc=>?_) fun hc=>?_ | refine .lp fun v H lp=>?_ | fail))
    refine .clr rfl (clear_at T6 rfl rfl rfl e1' (by omega) rfl rfl) ?_
    have hfin:List.take (0+(dd (x::l)).length) (encs (dd (x::l)++(M0++[pr]++[])))=encs (dd (x::l)):=by rw [encs_eq,encs_eq,Nat.zero_add,List.map_append,List.take_left' (by simp)]
    have hdr:List.drop (0+(dd (x::l)).length+(l.length+1 - (dd (x::l)).length)) (encs (dd (x::l)++(M0++[pr]++[])))=[]:=List.drop_eq_nil_of_le (by omega)
    rw [hfin,hdr,List.set_set]
    obtain ⟨tl,htl,hlt,hvt⟩:∃ tl:List PV,tl=List.replicate (l.length+1 - (dd (x::l)).length) (.agg [.int .i64 0,.str ByteArray.empty,.int .i64 0,.snap true []])∧tl.length=l.length+1 - (dd (x::l)).length∧isVals tl=true:=
     ⟨_,rfl,by simp,by rw [isVals_eq,List.all_eq_true];intro y hy;rw [List.eq_of_mem_replicate hy];rfl⟩
    have e3:(h.set id ⟨.m,ep,4,encs (dd (x::l))++tl⟩)[id]?=some ⟨.m,ep,4,encs (dd (x::l))++tl⟩:=List.getElem?_set_self (lt_of_some e1)
    rw [← htl,List.append_nil]
    (repeat' (first | (refine Rn.go ?_;conv=>whnf) | refine .mk ?_ | refine .tt ?_ | refine .ff ?_ | refine .m2 ?_ | refine .m3 ?_ | refine .mk (fun hc=>?_) fun hc=>?_ | refine .lp fun v H lp=>?_ | fail))
    refine .sh rfl rfl (slice_hi T6 rfl rfl e3 (by rw [List.length_append,encs_len,hlt];have:=dd_len (x::l);simp at this;omega) (by omega)) ?_
    (repeat' (first | (refine Rn.go ?_;conv=>whnf) | refine .mk ?_ | refine .tt ?_ | refine .ff ?_ | refine .m2 ?_ | refine .m3 ?_ | refine .mk (fun hc=>?_) fun hc=>?_ | refine .lp fun v H lp=>?_ | fail))
    exact ⟨rfl,tl,hvt,rfl⟩
 ·rintro _ h ρ ⟨rfl,P',prev,hp,hd,rfl⟩
  have hdd:encs (dd (x::l))=encs (x::l):=by rw [← hd,hp,ddp]
  (repeat' (first | (refine Rn.go ?_;conv=>whnf) | refine .mk ?_ | refine .tt ?_ | refine .ff ?_ | refine .m2 ?_ | refine .m3 ?_ | refine .mk (fun hc=>?_) fun hc=>?_ | refine .lp fun v H lp=>?_ | fail))
  exact ⟨congrArg (PV.mref id ep 0) (by rw [← hdd,encs_len]),[],rfl,by rw [hdd,List.append_nil];exact (list_set_self e1).symm⟩
end Go.Pm
end
section
set_option maxRecDepth 4000
namespace Go.Pm
open Go.Proofs
theorem ddp_in:∀ (l:List Tm) (p y:Tm),y∈p::ddp p l↔y∈p::l
 | [],p,y=>by simp [ddp]
 | a::r,p,y=>by
  have ih:=ddp_in r a y
  unfold ddp
  split
  ·rename_i h
   obtain rfl:=cmpT_zero h
   rw [ih];simp
  ·rw [List.mem_cons,ih,List.mem_cons (b:=p)]
theorem ddp_srt:∀ (l:List Tm) (p:Tm),((p::l).Pairwise fun x y=>cmpT x y≤0)→SrtT (p::ddp p l)
 | [],p,_=>by simp [ddp,SrtT]
 | a::r,p,h=>by
  have h2:=List.pairwise_cons.1 h
  have ih:=ddp_srt r a h2.2
  unfold ddp
  split
  ·rename_i hc
   obtain rfl:=cmpT_zero hc
   exact ih
  ·rename_i hc
   have hp:=h2.1 a (by simp)
   have ng:=cmpT_neg p a
   refine List.pairwise_cons.2 ⟨fun y hy=>?_,ih⟩
   rcases List.mem_cons.1 hy with rfl | hy
   ·omega
   ·exact cmpT_trans (show cmpT p a<0 by omega) ((List.pairwise_cons.1 ih).1 y hy)
theorem dd_in (l:List Tm) (y:Tm):y∈dd l↔y∈l:=by
 cases l with
 | nil=>simp [dd]
 | cons x r=>exact ddp_in r x y
theorem dd_srt {l:List Tm} (h:l.Pairwise fun x y=>cmpT x y≤0):SrtT (dd l):=by
 cases l with
 | nil=>simp [dd,SrtT]
 | cons x r=>exact ddp_srt r x h
theorem dd_facs (l:List (List Pw)):dd (sortT (allT l))=facs l:=
 srt_ext (dd_srt (sortT_srt _)) (facs_srt l) (fun y=>by rw [dd_in,facs_in];exact (sortT_perm _).mem_iff)
theorem CallEv.ln {C:Cfg} {f:FuncId} {args:List PV} {H:AHeap} {P Q:PV→AHeap→Prop} (a:FnEv C f args H P) (hl:∀ r h',P r h'→h'.length=H.length) (q:∀ r h',P r h'→Q r h') (hm:C.mode f=.opened:=by rfl):CallEv C 2 f args H Q:=by
 refine CallEv.opened hm (a.mono fun r k hr=>?_)
 split
 ·rw [List.take_of_length_le (by rw [hl r k hr];exact Nat.le_refl _)]
  exact q r k hr
 ·exact q r k hr
theorem allT_app (a b:List (List Pw)):allT (a++b)=allT a++allT b:=by simp [allT]
attribute [local irreducible] thenQ blockQ loopQ bodyQ Ev EvOps CallEv FnEv EvD
theorem compact_mt (H:AHeap) (id ep:Nat) (e1:H[id]?=some ⟨.m,ep,4,encs []⟩):FnEv C 86 [.mref id ep 0 0,.fn 87 []] H (fun r h'=>r=.mref id ep 0 0∧h'=H):=by
 refine FnEv.x T6 Tryz.func86 rfl ?_
 (repeat' (first | (refine Rn.go ?_;conv=>whnf) | refine .mk ?_ | refine .tt ?_ | refine .ff ?_ | refine .m2 ?_ | refine .m3 ?_ | refine .mk (fun hc=>?_) fun hc=>?_ | refine .lp fun v H lp=>?_ | fail))
 exact ⟨rfl,rfl⟩
theorem mref_pre {h:AHeap} {id ep sz n:Nat} {es es' tl:List PV} (e:h[id]?=some ⟨.m,ep,sz,es++tl⟩) (hl:es.length=n) (hv:isVals es=true) (hn:nrms es=es'):∃ r1,rb h (tupOf [.mref id ep 0 n])=some r1∧nrm r1=.snap false es':=by
 subst hl hn
 refine ⟨.snap false es,?_,rfl⟩
 have hg:getM h id ep=some ⟨.m,ep,sz,es++tl⟩:=getM_at e rfl (by simp)
 show rb h (.mref id ep 0 es.length)=_
 simp [rb,rbA,rb1,hg,hv]
namespace Nine
theorem cols_fun (l:List (List Pw)) (hs:SmT l):Fun C 50 [.snap false (encPPs l)] (.snap false (encs (facs l))):=by
 have hel:(encPPs l).length=l.length:=by simp
 have hl1:=hs.2
 have hat1:=allT_le (l:=l) fun x hx=>(hs.1 x hx).2
 have hab:∀ t∈allT l,bulk t<1000000000:=fun t ht=>by
  obtain ⟨x,hx,ht⟩:=List.mem_flatMap.1 ht
  obtain ⟨p,hp,rfl⟩:=List.mem_map.1 ht
  exact Nat.lt_trans ((hs.1 x hx).1 p hp) (by decide)
 refine Fun.x T6 Tryz.func50 rfl ?_
 (repeat' (first | (refine Rn.go ?_;conv=>whnf) | refine .mk ?_ | refine .tt ?_ | refine .ff ?_ | refine .m2 ?_ | refine .m3 ?_ | refine .mk (fun hc=>?_) fun hc=>?_ | refine .lp fun v H lp=>?_ | fail))
 refine LpX.zip T6 l (fun p q L H=>∃ v,L=[(3,v),(8,.snap false (encPPs l)),(9,.int .i64 l.length),(10,.int .i64 p.length)]∧HV H∧Out 4 H v (encs (allT p))) (.nx ⟨.snap true [],rfl,HV.nil,.inl ⟨rfl,rfl⟩⟩) ?_ ?_
 ·rintro p x q _ H ρ e ⟨v,rfl,hH,ho⟩
  have hat:=at_encPPs e
  have hl2:=congrArg List.length e
  simp only [List.length_append,List.length_cons] at hl2
  have hx:=hs.1 x (by rw [e];simp)
  have helx:=encPs_len x
  have hap:=allT_le (l:=p) fun y hy=>(hs.1 y (by rw [e];simp [hy])).2
  (repeat' (first | (refine Rn.go ?_;conv=>whnf) | refine .mk ?_ | refine .tt ?_ | refine .ff ?_ | refine .m2 ?_ | refine .m3 ?_ | refine .mk (fun hc=>?_) fun hc=>?_ | refine .lp fun v H lp=>?_ | fail))
  refine LpX.zip T6 x (fun p2 q2 L H=>∃ v,L=[(3,v),(8,.snap false (encPPs l)),(9,.int .i64 l.length),(10,.int .i64 p.length),(14,.snap false (encPs x)),(15,.int .i64 x.length),(16,.int .i64 p2.length)]∧HV H∧Out 4 H v (encs (allT p++p2.map (·.1)))) (.nx ⟨v,rfl,hH,by simpa using ho⟩) ?_ ?_
  ·rintro p2 ⟨u,n⟩ q2 _ H2 ρ e2 ⟨v2,rfl,hH2,ho2⟩
   have hat2:=at_encPs e2
   have hl3:=congrArg List.length e2
   simp only [List.length_append,List.length_cons] at hl3
   have hln:(encs (allT p++p2.map (·.1))).length+1<1000000000:=by rw [encs_len];simp;omega
   have ho3:=ho2.app [⟨.m,0,5,[.agg [.int .i64 u.k,.str u.s,.int .i64 u.o,.snap false (encs u.l),.int .i64 n]]⟩]
   have hH3:HV (H2++[⟨.m,0,5,[.agg [.int .i64 u.k,.str u.s,.int .i64 u.o,.snap false (encs u.l),.int .i64 n]]⟩]):=hH2.app (HV.one (by simp))
   (repeat' (first | (refine Rn.go ?_;conv=>whnf) | refine .mk ?_ | refine .tt ?_ | refine .ff ?_ | refine .m2 ?_ | refine .m3 ?_ | refine .mk (fun hc=>?_) fun hc=>?_ | refine .lp fun v H lp=>?_ | fail))
   refine .nx ⟨_,rfl,lp.hv,?_⟩
   have:=lp.out
   rw [fold_enc,encs_eq] at this
   rw [encs_eq,List.map_append,List.map_append,List.map_append]
   simpa using this
  ·rintro _ H2 ρ ⟨v2,rfl,hH2,ho2⟩
   (repeat' (first | (refine Rn.go ?_;conv=>whnf) | refine .mk ?_ | refine .tt ?_ | refine .ff ?_ | refine .m2 ?_ | refine .m3 ?_ | refine .mk (fun hc=>?_) fun hc=>?_ | refine .lp fun v H lp=>?_ | fail))
   exact .nx ⟨v2,rfl,hH2,by rw [allT_app];simpa [allT] using ho2⟩
 ·rintro _ H ρ ⟨v,rfl,hH,ho⟩
  rw [← dd_facs]
  rcases ho with ⟨rfl,e0⟩ | ⟨id,ep,rfl,e1⟩
  ·have e2:allT l=[]:=List.eq_nil_of_length_eq_zero (by rw [← encs_len,e0];rfl)
   rw [e2]
   (repeat' (first | (refine Rn.go ?_;conv=>whnf) | refine .mk ?_ | refine .tt ?_ | refine .ff ?_ | refine .m2 ?_ | refine .m3 ?_ | refine .mk (fun hc=>?_) fun hc=>?_ | refine .lp fun v H lp=>?_ | fail))
   refine CallEv.primL rfl rfl ?_
   (repeat' (first | (refine Rn.go ?_;conv=>whnf) | refine .mk ?_ | refine .tt ?_ | refine .ff ?_ | refine .m2 ?_ | refine .m3 ?_ | refine .mk (fun hc=>?_) fun hc=>?_ | refine .lp fun v H lp=>?_ | fail))
   refine .ln (compact_nil H).nine (fun r h' hr=>by rw [hr.2]) (fun r h' hr=>?_)
   obtain ⟨rfl,rfl⟩:=hr
   (repeat' (first | (refine Rn.go ?_;conv=>whnf) | refine .mk ?_ | refine .tt ?_ | refine .ff ?_ | refine .m2 ?_ | refine .m3 ?_ | refine .mk (fun hc=>?_) fun hc=>?_ | refine .lp fun v H lp=>?_ | fail))
   exact ⟨_,rfl,rfl⟩
  ·have hel2:=encs_len (allT l)
   (repeat' (first | (refine Rn.go ?_;conv=>whnf) | refine .mk ?_ | refine .tt ?_ | refine .ff ?_ | refine .m2 ?_ | refine .m3 ?_ | refine .mk (fun hc=>?_) fun hc=>?_ | refine .lp fun v H lp=>?_ | fail))
   refine CallEv.primL rfl (by rw [hel2];exact sortPrim_of e1 (by omega) hab) ?_
   have e2:(H.set id ⟨.m,ep,4,encs (sortT (allT l))⟩)[id]?=some ⟨.m,ep,4,encs (sortT (allT l))⟩:=List.getElem?_set_self (lt_of_some e1)
   have hH2:HV (H.set id ⟨.m,ep,4,encs (sortT (allT l))⟩):=hH.set id (by simp) (by simp)
   have hln:=(sortT_perm (allT l)).length_eq
   have hmem:∀ t∈sortT (allT l),bulk t<1000000000:=fun t ht=>hab t ((sortT_perm _).mem_iff.1 ht)
   rw [hel2,← hln]
   rw [← hln] at hel2 hat1
   generalize sortT (allT l)=S at *
   cases S with
   | nil=>
    (repeat' (first | (refine Rn.go ?_;conv=>whnf) | refine .mk ?_ | refine .tt ?_ | refine .ff ?_ | refine .m2 ?_ | refine .m3 ?_ | refine .mk (fun hc=>?_) fun hc=>?_ | refine .lp fun v H lp=>?_ | fail))
    refine .ln (compact_mt _ id ep e2).nine (fun r h' hr=>by rw [hr.2]) (fun r h' hr=>?_)
    obtain ⟨rfl,rfl⟩:=hr
    (repeat' (first | (refine Rn.go ?_;conv=>whnf) | refine .mk ?_ | refine .tt ?_ | refine .ff ?_ | refine .m2 ?_ | refine .m3 ?_ | refine .mk (fun hc=>?_) fun hc=>?_ | refine .lp fun v H lp=>?_ | fail))
    exact Ls.ret1 (.inl (.inr ⟨id,ep,rfl,e2⟩)) rfl (by simp [dd,encs])
   | cons x r=>
    have hc:=(compact_ev x r _ hH2 id ep e2 (by simp at hat1;omega) hmem).nine
    rw [encs_len] at hc
    (repeat' (first | (refine Rn.go ?_;conv=>whnf) | refine .mk ?_ | refine .tt ?_ | refine .ff ?_ | refine .m2 ?_ | refine .m3 ?_ | refine .mk (fun hc=>?_) fun hc=>?_ | refine .lp fun v H lp=>?_ | fail))
    refine .ln hc (fun r h' hr=>by obtain ⟨_,_,_,rfl⟩:=hr;simp) (fun r h' hr=>?_)
    obtain ⟨rfl,tl,hv,rfl⟩:=hr
    rw [List.set_set]
    have e3:(H.set id ⟨.m,ep,4,encs (dd (x::r))++tl⟩)[id]?=some ⟨.m,ep,4,encs (dd (x::r))++tl⟩:=List.getElem?_set_self (lt_of_some e1)
    (repeat' (first | (refine Rn.go ?_;conv=>whnf) | refine .mk ?_ | refine .tt ?_ | refine .ff ?_ | refine .m2 ?_ | refine .m3 ?_ | refine .mk (fun hc=>?_) fun hc=>?_ | refine .lp fun v H lp=>?_ | fail))
    exact mref_pre e3 (by rw [encs_len]) (by simp) (by simp)
end Nine
end Go.Pm
end
section
set_option maxRecDepth 4000
namespace Go.Pm
open Go.Proofs
def atR (r:List Int) (c:Nat):Int:=r.getD c 0
def subL (a b:List Int) (q:Int):List Int:=List.zipWith (fun x y=>x - q * y) a b
def smallI (x:Int):Bool:=decide (-1099511627776≤x∧x≤1099511627776)
def small (r:List Int):Bool:=r.all smallI
theorem subL_app {a a' b b':List Int} {q:Int} (h:a.length=b.length):subL (a++a') (b++b') q=subL a b q++subL a' b' q:=by
 unfold subL;rw [List.zipWith_append h]
theorem small_app (a b:List Int):small (a++b)=(small a && small b):=by simp [small]
theorem subL_len {a b:List Int} {q:Int} (h:a.length=b.length):(subL a b q).length=a.length:=by simp [subL,h]
theorem absI (n:Int):max n (-n)=(n.natAbs:Int):=by omega
theorem div_lt {n q:Int} (hn:n≠0):(4611686018427387904:Int).tdiv (max n (-n))<max q (-q)↔4611686018427387904<(q * n).natAbs:=by
 rw [absI,absI,Int.natAbs_mul]
 have h0:0<n.natAbs:=by omega
 generalize n.natAbs=N at *
 generalize q.natAbs=Q at *
 rw [show (4611686018427387904:Int)=((4611686018427387904:Nat):Int) from rfl,Int.tdiv_eq_ediv_of_nonneg (by omega),← Int.natCast_ediv]
 rw [Int.ofNat_lt,Nat.div_lt_iff_lt_mul h0]
theorem div_rng {n:Int} (hn:n≠0):0≤(4611686018427387904:Int).tdiv (max n (-n))∧(4611686018427387904:Int).tdiv (max n (-n))≤4611686018427387904:=by
 rw [absI]
 generalize n.natAbs=N
 rw [show (4611686018427387904:Int)=((4611686018427387904:Nat):Int) from rfl,Int.tdiv_eq_ediv_of_nonneg (by omega),← Int.natCast_ediv]
 have:=Nat.div_le_self 4611686018427387904 N
 generalize 4611686018427387904 / N=D at *
 omega
structure Pr2 where
 d:Nat
 s:Nat
 a:List Int
 b:List Int
def Pr2.v (x:Pr2):PV:=.agg [.mref x.d 0 0 x.a.length,.mref x.s 0 0 x.b.length]
attribute [local irreducible] thenQ blockQ loopQ bodyQ Ev EvOps CallEv FnEv EvD
theorem abs_fun (n:Int) (h : -9223372036854775807≤n∧n≤9223372036854775807):Fun C 101 [.int .i64 n] (.int .i64 (max n (-n))):=by
 refine Fun.x T6 Tryz.func101 rfl ?_
 (repeat' (first | (refine Rn.go ?_;conv=>whnf) | refine .mk ?_ | refine .tt ?_ | refine .ff ?_ | refine .m2 ?_ | refine .m3 ?_ | refine .mk (fun hc=>?_) fun hc=>?_ | refine .lp fun v H lp=>?_ | fail))
 exact ⟨_,rfl,by simp [tupOf]⟩
theorem subt_ev (H:AHeap) (hR:HR H) (x ar ap ac br bp bc:Nat) (ub ua:Bool) (A1 A2 B1 B2:List Int) (cv rv pv:PV) (q:Int)
  (ex:H[x]?=some ⟨.m,0,4,[.agg [cv,rv,pv,.bool false]]⟩)
  (ea:H[ar]?=some ⟨.m,0,3,[.agg [.mref ap 0 0 A1.length,.mref ac 0 0 A2.length,.bool ua]]⟩) (ea1:H[ap]?=some ⟨.m,0,1,encIs A1⟩) (ea2:H[ac]?=some ⟨.m,0,1,encIs A2⟩)
  (eb:H[br]?=some ⟨.m,0,3,[.agg [.mref bp 0 0 B1.length,.mref bc 0 0 B2.length,.bool ub]]⟩) (eb1:H[bp]?=some ⟨.m,0,1,encIs B1⟩) (eb2:H[bc]?=some ⟨.m,0,1,encIs B2⟩)
  (l1:A1.length=B1.length) (l2:A2.length=B2.length) (hl1:A1.length<1000000) (hl2:A2.length<1000000) (n1:[x,ap,ac,bp,bc].Nodup)
  (sa1:small A1=true) (sa2:small A2=true) (sb1:small B1=true) (sb2:small B2=true) (hq:smallI q=true) :
  FnEv C 117 [.ptr x 0 0 0,.ptr ar 0 0 0,.ptr br 0 0 0,.int .i64 q] H (fun r h'=>r=.tup []∧H.length≤h'.length∧HR h'∧(∀ j,j<H.length→j≠x→j≠ap→j≠ac→h'[j]?=H[j]?) ∧
   ∃ A1' A2' lg,lg = !(small (subL A1 B1 q) && small (subL A2 B2 q))∧A1'.length=A1.length∧A2'.length=A2.length∧(lg=false→A1'=subL A1 B1 q∧A2'=subL A2 B2 q) ∧
    h'[x]?=some ⟨.m,0,4,[.agg [cv,rv,pv,.bool lg]]⟩∧h'[ap]?=some ⟨.m,0,1,encIs A1'⟩∧h'[ac]?=some ⟨.m,0,1,encIs A2'⟩):=by
 refine FnEv.x T6 Tryz.func117 rfl ?_
 (repeat' (first | (refine Rn.go ?_;conv=>whnf) | refine .mk ?_ | refine .tt ?_ | refine .ff ?_ | refine .m2 ?_ | refine .m3 ?_ | refine .mk (fun hc=>?_) fun hc=>?_ | refine .lp fun v H lp=>?_ | fail))
 refine .arr2 (T:=T6) rfl rfl rfl rfl rfl ⟨rfl,rfl⟩ rfl rfl rfl rfl ?_
 (repeat' (first | (refine Rn.go ?_;conv=>whnf) | refine .mk ?_ | refine .tt ?_ | refine .ff ?_ | refine .m2 ?_ | refine .m3 ?_ | refine .mk (fun hc=>?_) fun hc=>?_ | refine .lp fun v H lp=>?_ | fail))
 refine .arr2 (T:=T6) rfl rfl rfl rfl rfl ⟨rfl,rfl⟩ rfl rfl rfl rfl ?_
 (repeat' (first | (refine Rn.go ?_;conv=>whnf) | refine .mk ?_ | refine .tt ?_ | refine .ff ?_ | refine .m2 ?_ | refine .m3 ?_ | refine .mk (fun hc=>?_) fun hc=>?_ | refine .lp fun v H lp=>?_ | fail))
 obtain ⟨prs,hprs⟩:∃ prs:List Pr2,prs=[⟨ap,bp,A1,B1⟩,⟨ac,bc,A2,B2⟩]:=⟨_,rfl⟩
 have kx:=lt_of_some ex
 have k1:=lt_of_some ea1
 have k2:=lt_of_some ea2
 have k3:=lt_of_some eb1
 have k4:=lt_of_some eb2
 simp only [List.nodup_cons,List.mem_cons,List.not_mem_nil,or_false,not_or,not_false_eq_true,and_true,List.nodup_nil] at n1
 obtain ⟨⟨m1,m2,m3,m4⟩,⟨m5,m6,m7⟩,⟨m8,m9⟩,m10⟩:=n1
 have c1:∀ r∈prs,r.a.length=r.b.length∧r.a.length<1000000∧small r.a=true∧small r.b=true∧r.d≠x∧r.s≠x∧r.d<H.length∧r.s<H.length∧(r.d=ap∨r.d=ac)∧H[r.d]?=some ⟨.m,0,1,encIs r.a⟩∧H[r.s]?=some ⟨.m,0,1,encIs r.b⟩:=by
  subst hprs;simp only [List.mem_cons,List.not_mem_nil,or_false]
  rintro r (rfl | rfl)
  ·exact ⟨l1,hl1,sa1,sb1,fun h=>m1 h.symm,fun h=>m3 h.symm,k1,k3,.inl rfl,ea1,eb1⟩
  ·exact ⟨l2,hl2,sa2,sb2,fun h=>m2 h.symm,fun h=>m4 h.symm,k2,k4,.inr rfl,ea2,eb2⟩
 have c2:(prs.map (·.d)).Nodup:=by subst hprs;simp [m5]
 have c3:∀ r∈prs,∀ r'∈prs,r.d≠r'.s:=by
  subst hprs;simp only [List.mem_cons,List.not_mem_nil,or_false]
  rintro r (rfl | rfl) r' (rfl | rfl)
  ·exact m6
  ·exact m7
  ·exact m8
  ·exact m9
 have hres:(!(small (subL A1 B1 q) && small (subL A2 B2 q)))=(!(prs.all fun r=>small (subL r.a r.b q))):=by subst hprs;simp
 have hgo:∀ h lg,H.length≤h.length→HR h→(∀ j,j<H.length→j≠x→j≠ap→j≠ac→h[j]?=H[j]?)→lg = !(prs.all fun r=>small (subL r.a r.b q)) →
   h[x]?=some ⟨.m,0,4,[.agg [cv,rv,pv,.bool lg]]⟩→(∀ r∈prs,∃ A',A'.length=r.a.length∧(lg=false→A'=subL r.a r.b q)∧h[r.d]?=some ⟨.m,0,1,encIs A'⟩) →
   (PV.tup []=.tup []∧H.length≤h.length∧HR h∧(∀ j,j<H.length→j≠x→j≠ap→j≠ac→h[j]?=H[j]?) ∧
   ∃ A1' A2' lg,lg = !(small (subL A1 B1 q) && small (subL A2 B2 q))∧A1'.length=A1.length∧A2'.length=A2.length∧(lg=false→A1'=subL A1 B1 q∧A2'=subL A2 B2 q) ∧
    h[x]?=some ⟨.m,0,4,[.agg [cv,rv,pv,.bool lg]]⟩∧h[ap]?=some ⟨.m,0,1,encIs A1'⟩∧h[ac]?=some ⟨.m,0,1,encIs A2'⟩):=by
  intro h lg g1 g2 g3 g4 g5 g6
  subst hprs
  obtain ⟨A1',a1,a2,a3⟩:=g6 ⟨ap,bp,A1,B1⟩ (by simp)
  obtain ⟨A2',b1,b2,b3⟩:=g6 ⟨ac,bc,A2,B2⟩ (by simp)
  exact ⟨rfl,g1,g2,g3,A1',A2',lg,by rw [hres];exact g4,a1,b1,fun hl=>⟨a2 hl,b2 hl⟩,g5,a3,b3⟩
 have hel:prs.length=2:=by subst hprs;rfl
 have hqq:=of_decide_eq_true hq
 have hG:HR (H++[(⟨.m,0,1+1,prs.map Pr2.v⟩:AObj)]):=hR.app1 (by simp) (by subst hprs;simp [visRs,visR,Pr2.v];omega)
 have hvv:[PV.agg [.mref ap 0 0 A1.length,.mref bp 0 0 B1.length],.agg [.mref ac 0 0 A2.length,.mref bc 0 0 B2.length]]=prs.map Pr2.v:=by subst hprs;rfl
 have hm2:(prs.map Pr2.v).length=2:=by rw [List.length_map,hel]
 rw [hvv,hm2]
 clear hvv
 refine LpX.zip T6 prs (fun p r2 L h=>∃ lg,L=[(0,.ptr x 0 0 0),(3,.int .i64 q),(30,.mref H.length 0 0 2),(31,.int .i64 2),(32,.int .i64 p.length)]∧HR h∧H.length<h.length∧h[H.length]?=some ⟨.m,0,1+1,prs.map Pr2.v⟩ ∧
  (∀ j,j<H.length→j≠x→j≠ap→j≠ac→h[j]?=H[j]?)∧h[x]?=some ⟨.m,0,4,[.agg [cv,rv,pv,.bool lg]]⟩∧(lg = !(p.all fun r=>small (subL r.a r.b q))) ∧
  (∀ r∈p,h[r.d]?=some ⟨.m,0,1,encIs (subL r.a r.b q)⟩)∧(∀ r∈r2,h[r.d]?=some ⟨.m,0,1,encIs r.a⟩)∧(∀ r∈prs,h[r.s]?=some ⟨.m,0,1,encIs r.b⟩))
  (.nx ⟨false,rfl,hG,by simp,by simp,fun j hj _ _ _=>List.getElem?_append_left hj,by rw [List.getElem?_append_left kx];exact ex,rfl,by simp,fun r hr=>by rw [List.getElem?_append_left (c1 r hr).2.2.2.2.2.2.1];exact (c1 r hr).2.2.2.2.2.2.2.2.2.1,fun r hr=>by rw [List.getElem?_append_left (c1 r hr).2.2.2.2.2.2.2.1];exact (c1 r hr).2.2.2.2.2.2.2.2.2.2⟩) ?_ ?_
 ·rintro p r r2 _ h ρ e ⟨lg,rfl,i1,i2,i3,i4,i5,i6,i7,i8,i9⟩
  have hrm:r∈prs:=by rw [e];simp
  obtain ⟨d1,d2,d3,d4,d5,d6,d7,d8,d9,_⟩:=c1 r hrm
  have hat:(prs.map Pr2.v)[0+p.length]?=some (.agg [.mref r.d 0 0 r.a.length,.mref r.s 0 0 r.b.length]):=by rw [e];simp [Pr2.v]
  have hl2:=congrArg List.length e
  simp only [List.length_append,List.length_cons] at hl2
  have hb:=i9 r hrm
  have ha:=i8 r (by simp)
  (repeat' (first | (refine Rn.go ?_;conv=>whnf) | refine .mk ?_ | refine .tt ?_ | refine .ff ?_ | refine .m2 ?_ | refine .m3 ?_ | refine .mk (fun hc=>?_) fun hc=>?_ | refine .lp fun v H lp=>?_ | fail))
  have hs:h[r.s]?=some ⟨.m,0,1,encIs r.b⟩:=hb
  have kd:=lt_of_some ha
  have ks:=lt_of_some hs
  have kxx:=lt_of_some i5
  have hds:r.d≠r.s:=c3 r hrm r hrm
  have nd:∀ r'∈p++r2,r'.d≠r.d:=by
   rw [e,List.map_append,List.map_cons,List.nodup_append] at c2
   obtain ⟨_,n2,n3⟩:=c2
   intro r' hr'
   rcases List.mem_append.1 hr' with hr' | hr'
   ·exact n3 r'.d (List.mem_map_of_mem hr') r.d (by simp)
   ·exact fun hh=>(List.nodup_cons.1 n2).1 (hh ▸ List.mem_map_of_mem hr')
  have mem3:∀ r'∈prs,r'=r∨r'∈p∨r'∈r2:=fun r' hr'=>by rw [e] at hr';simp at hr';rcases hr' with h | h | h;exact .inr (.inl h);exact .inl h;exact .inr (.inr h)
  have mp:∀ r'∈p,r'∈prs:=fun r' hr'=>by rw [e];simp [hr']
  have mq:∀ r'∈r2,r'∈prs:=fun r' hr'=>by rw [e];simp [hr']
  have hw1:(r.a.zip r.b).map (·.1)=r.a:=List.map_fst_zip (by omega)
  have hw2:(r.a.zip r.b).map (·.2)=r.b:=List.map_snd_zip (by omega)
  have hw3:(r.a.zip r.b).map (fun z=>z.1 - q * z.2)=subL r.a r.b q:=by rw [subL,List.zip,List.map_zipWith]
  have hwl:(r.a.zip r.b).length=r.a.length:=by rw [← List.length_map (f:=(·.1)),hw1]
  generalize hzw:r.a.zip r.b=w at *
  refine LpX.zip T6 w (fun p2 q2 L k=>∃ lg2,L=[(0,.ptr x 0 0 0),(3,.int .i64 q),(9,.ptr h.length 0 0 0),(30,.mref H.length 0 0 2),(31,.int .i64 2),(32,.int .i64 p.length),(38,.int .i64 r.a.length),(39,.int .i64 p2.length)]∧HR k∧h.length<k.length ∧
   k[h.length]?=some ⟨.m,0,2,[.agg [.mref r.d 0 0 r.a.length,.mref r.s 0 0 r.b.length]]⟩∧(∀ j,j<h.length→j≠x→j≠r.d→k[j]?=h[j]?)∧k[x]?=some ⟨.m,0,4,[.agg [cv,rv,pv,.bool lg2]]⟩∧(lg2=(lg || !(small (p2.map fun z=>z.1 - q * z.2)))) ∧
   k[r.d]?=some ⟨.m,0,1,encIs ((p2.map fun z=>z.1 - q * z.2)++q2.map (·.1))⟩)
   (.nx ⟨lg,rfl,i1.app1 (by simp) (by simp [visRs,visR];omega),by simp,by simp,fun j hj _ _=>List.getElem?_append_left hj,by rw [List.getElem?_append_left kxx];exact i5,by simp [small],by rw [List.getElem?_append_left kd,ha,← hw1];rfl⟩) ?_ ?_
  ·rintro p2 ⟨a,n⟩ q2 _ k ρ e2 ⟨lg2,rfl,j1,j2,j3,j4,j5,j6,j7⟩
   have hl3:=congrArg List.length e2
   simp only [List.length_append,List.length_cons] at hl3
   have hsk:k[r.s]?=some ⟨.m,0,1,encIs r.b⟩:=by rw [j4 r.s ks d6 (fun hh=>hds hh.symm)];exact hs
   have hab:(encIs r.b).length=r.b.length:=by simp
   have haa:(encIs ((p2.map fun z=>z.1 - q * z.2)++((a,n)::q2).map (·.1))).length=r.a.length:=by simp;omega
   have hat2:(encIs r.b)[0+p2.length]?=some (.int .i64 n):=by rw [← hw2,e2];simp [encIs]
   have hat3:(encIs ((p2.map fun z=>z.1 - q * z.2)++((a,n)::q2).map (·.1)))[0+p2.length]?=some (.int .i64 a):=by simp [encIs]
   have hna:smallI n=true:=List.all_eq_true.1 d4 n (by rw [← hw2,e2];simp)
   have haa2:smallI a=true:=List.all_eq_true.1 d3 a (by rw [← hw1,e2];simp)
   have hn':=of_decide_eq_true hna
   have ha':=of_decide_eq_true haa2
   have habq:=abs_fun q (by omega)
   have habn:=abs_fun n (by omega)
   obtain ⟨V,hV⟩:∃ V,V=(encIs ((p2.map fun z=>z.1 - q * z.2)++((a,n)::q2).map (·.1))).set (0+p2.length) (.int .i64 (a - q * n)):=⟨_,rfl⟩
   have hV2:V=encIs (((p2++[(a,n)]).map fun z=>z.1 - q * z.2)++q2.map (·.1)):=by
    rw [hV,Nat.zero_add,encIs,List.map_append,List.set_append_right _ _ (by simp)]
    simp [encIs]
   have hVl:V.length=r.a.length:=by rw [hV,List.length_set,haa]
   have hVn:V[0+p2.length]?=some (.int .i64 (a - q * n)):=by rw [hV,List.getElem?_set_self (by omega)]
   have y1:(k.set r.d ⟨.m,0,1,V⟩)[x]?=some ⟨.m,0,4,[.agg [cv,rv,pv,.bool lg2]]⟩:=by rw [List.getElem?_set_ne d5];exact j5
   have y2:(k.set r.d ⟨.m,0,1,V⟩)[h.length]?=some ⟨.m,0,2,[.agg [.mref r.d 0 0 r.a.length,.mref r.s 0 0 r.b.length]]⟩:=by rw [List.getElem?_set_ne (by omega)];exact j3
   have y3:(k.set r.d ⟨.m,0,1,V⟩)[r.d]?=some ⟨.m,0,1,V⟩:=List.getElem?_set_self (by omega)
   have kx2:=lt_of_some j5
   have hvx:visRs (fun i=>decide (i<k.length)) [cv,rv,pv]=true:=by
    have:=(j1 _ (List.mem_of_getElem? j5)).2
    simp only [visRs,visR,Bool.and_eq_true,and_true] at this ⊢
    exact this
   have fin:∀ b,b=(lg2 || !smallI (a - q * n))→∀ K:AHeap,K=(k.set r.d ⟨.m,0,1,V⟩).set x ⟨.m,0,4,[.agg [cv,rv,pv,.bool b]]⟩→HR K∧h.length<K.length ∧
     K[h.length]?=some ⟨.m,0,2,[.agg [.mref r.d 0 0 r.a.length,.mref r.s 0 0 r.b.length]]⟩∧(∀ j,j<h.length→j≠x→j≠r.d→K[j]?=h[j]?)∧K[x]?=some ⟨.m,0,4,[.agg [cv,rv,pv,.bool b]]⟩∧(b=(lg || !(small ((p2++[(a,n)]).map fun z=>z.1 - q * z.2)))) ∧
     K[r.d]?=some ⟨.m,0,1,encIs (((p2++[(a,n)]).map fun z=>z.1 - q * z.2)++q2.map (·.1))⟩:=by
    rintro b hb2 K rfl
    refine ⟨(j1.set r.d (by simp) (by rw [hV2];exact vis_vals _ _ (by simp))).set x (by simp) ?_,by simp;omega,?_,?_,List.getElem?_set_self (by simp;omega),?_,?_⟩
    ·rw [List.length_set]
     simp only [visRs,visR,Bool.and_eq_true,and_true] at hvx ⊢
     exact hvx
    ·rw [List.getElem?_set_ne (by omega)];exact y2
    ·intro j hj hjx hjd
     rw [List.getElem?_set_ne (fun hh=>hjx hh.symm),List.getElem?_set_ne (fun hh=>hjd hh.symm)]
     exact j4 j hj hjx hjd
    ·rw [hb2,j6];simp [small,Bool.or_assoc]
    ·rw [List.getElem?_set_ne (fun hh=>d5 hh.symm),← hV2];exact y3
   have hsm:smallI (a - q * n)=true↔¬ 1099511627776<max (a - q * n) (-(a - q * n)):=by unfold smallI;rw [decide_eq_true_eq];omega
   by_cases hbig:n≠0∧(4611686018427387904:Int).tdiv (max n (-n))<max q (-q)
   ·obtain ⟨hn0,hbig⟩:=hbig
    have hT:=div_rng hn0
    have hns:smallI (a - q * n)=false:=by
     have:=(div_lt hn0).1 hbig
     unfold smallI;rw [decide_eq_false_iff_not];omega
    (repeat' (first | (refine Rn.go ?_;conv=>whnf) | refine .mk ?_ | refine .tt ?_ | refine .ff ?_ | refine .m2 ?_ | refine .m3 ?_ | refine .mk (fun hc=>?_) fun hc=>?_ | refine .lp fun v H lp=>?_ | fail))
    refine .p habq ?_
    (repeat' (first | (refine Rn.go ?_;conv=>whnf) | refine .mk ?_ | refine .tt ?_ | refine .ff ?_ | refine .m2 ?_ | refine .m3 ?_ | refine .mk (fun hc=>?_) fun hc=>?_ | refine .lp fun v H lp=>?_ | fail))
    refine .p habn ?_
    (repeat' (first | (refine Rn.go ?_;conv=>whnf) | refine .mk ?_ | refine .tt ?_ | refine .ff ?_ | refine .m2 ?_ | refine .m3 ?_ | refine .mk (fun hc=>?_) fun hc=>?_ | refine .lp fun v H lp=>?_ | fail))
    have hkv:HR (k.set x ⟨.m,0,4,[.agg [cv,rv,pv,.bool true]]⟩):=j1.set x (by simp) (by simp only [visRs,visR,Bool.and_eq_true,and_true] at hvx ⊢;exact hvx)
    refine hgo _ true (by simp;omega) hkv (fun j hj hjx h1 h2=>?_) ?_ (List.getElem?_set_self (by omega)) (fun r' hr'=>?_)
    ·rw [List.getElem?_set_ne (fun hh=>hjx hh.symm),j4 j (by omega) hjx (by rcases d9 with h | h <;> rw [h] <;> assumption)]
     exact i4 j hj hjx h1 h2
    ·have:(prs.all fun r=>small (subL r.a r.b q))=false:=by
      rw [List.all_eq_false]
      refine ⟨r,hrm,?_⟩
      rw [← hw3,small,List.all_map,Bool.not_eq_true,List.all_eq_false]
      exact ⟨(a,n),by rw [e2];simp,by simpa using hns⟩
     rw [this];rfl
    ·obtain ⟨t1,_,_,_,t5,_,t7,_⟩:=c1 r' hr'
     rw [List.getElem?_set_ne (fun hh=>t5 hh.symm)]
     rcases mem3 r' hr' with rfl | hr2 | hr2
     ·exact ⟨_,by simp;omega,(fun hh=>by cases hh),j7⟩
     ·rw [j4 r'.d (by omega) t5 (nd r' (by simp [hr2])),i7 r' hr2]
      exact ⟨_,subL_len t1,(fun hh=>by cases hh),rfl⟩
     ·rw [j4 r'.d (by omega) t5 (nd r' (by simp [hr2])),i8 r' (by simp [hr2])]
      exact ⟨_,rfl,(fun hh=>by cases hh),rfl⟩
   ·have hqn : -4611686018427387904≤q * n∧q * n≤4611686018427387904:=by
     by_cases hn0:n=0
     ·subst hn0;simp
     ·have:¬ 4611686018427387904<(q * n).natAbs:=fun hh=>hbig ⟨hn0,(div_lt hn0).2 hh⟩
      omega
    have habv:=abs_fun (a - q * n) (by omega)
    by_cases hn0:n=0
    ·cases lg2
     ·(repeat' (first | (refine Rn.go ?_;conv=>whnf) | refine .mk ?_ | refine .tt ?_ | refine .ff ?_ | refine .m2 ?_ | refine .m3 ?_ | refine .mk (fun hc=>?_) fun hc=>?_ | refine .lp fun v H lp=>?_ | fail))
      rw [← hV]
      (repeat' (first | (refine Rn.go ?_;conv=>whnf) | refine .mk ?_ | refine .tt ?_ | refine .ff ?_ | refine .m2 ?_ | refine .m3 ?_ | refine .mk (fun hc=>?_) fun hc=>?_ | refine .lp fun v H lp=>?_ | fail))
      refine .p habv ?_
      (repeat' (first | (refine Rn.go ?_;conv=>whnf) | refine .mk ?_ | refine .tt ?_ | refine .ff ?_ | refine .m2 ?_ | refine .m3 ?_ | refine .mk (fun hc=>?_) fun hc=>?_ | refine .lp fun v H lp=>?_ | fail))
      ·obtain ⟨f1,f2,f3,f4,f5,f6,f7⟩:=fin true (by have:smallI (a - q * n)=false:=(by (rw [← Bool.not_eq_true,hsm];omega));simp [this]) _ rfl
       exact .nx ⟨true,rfl,f1,f2,f3,f4,f5,f6,f7⟩
      ·obtain ⟨f1,f2,f3,f4,f5,f6,f7⟩:=fin false (by rw [hsm.2 (by omega)];rfl) _ rfl
       exact .nx ⟨false,rfl,f1,f2,f3,f4,f5,f6,f7⟩
     ·(repeat' (first | (refine Rn.go ?_;conv=>whnf) | refine .mk ?_ | refine .tt ?_ | refine .ff ?_ | refine .m2 ?_ | refine .m3 ?_ | refine .mk (fun hc=>?_) fun hc=>?_ | refine .lp fun v H lp=>?_ | fail))
      rw [← hV]
      (repeat' (first | (refine Rn.go ?_;conv=>whnf) | refine .mk ?_ | refine .tt ?_ | refine .ff ?_ | refine .m2 ?_ | refine .m3 ?_ | refine .mk (fun hc=>?_) fun hc=>?_ | refine .lp fun v H lp=>?_ | fail))
      obtain ⟨f1,f2,f3,f4,f5,f6,f7⟩:=fin true rfl _ rfl
      exact .nx ⟨true,rfl,f1,f2,f3,f4,f5,f6,f7⟩
    ·have hT:=div_rng hn0
     have hbig':¬ (4611686018427387904:Int).tdiv (max n (-n))<max q (-q):=fun hh=>hbig ⟨hn0,hh⟩
     cases lg2
     ·(repeat' (first | (refine Rn.go ?_;conv=>whnf) | refine .mk ?_ | refine .tt ?_ | refine .ff ?_ | refine .m2 ?_ | refine .m3 ?_ | refine .mk (fun hc=>?_) fun hc=>?_ | refine .lp fun v H lp=>?_ | fail))
      refine .p habq ?_
      (repeat' (first | (refine Rn.go ?_;conv=>whnf) | refine .mk ?_ | refine .tt ?_ | refine .ff ?_ | refine .m2 ?_ | refine .m3 ?_ | refine .mk (fun hc=>?_) fun hc=>?_ | refine .lp fun v H lp=>?_ | fail))
      refine .p habn ?_
      (repeat' (first | (refine Rn.go ?_;conv=>whnf) | refine .mk ?_ | refine .tt ?_ | refine .ff ?_ | refine .m2 ?_ | refine .m3 ?_ | refine .mk (fun hc=>?_) fun hc=>?_ | refine .lp fun v H lp=>?_ | fail))
      rw [← hV]
      (repeat' (first | (refine Rn.go ?_;conv=>whnf) | refine .mk ?_ | refine .tt ?_ | refine .ff ?_ | refine .m2 ?_ | refine .m3 ?_ | refine .mk (fun hc=>?_) fun hc=>?_ | refine .lp fun v H lp=>?_ | fail))
      refine .p habv ?_
      (repeat' (first | (refine Rn.go ?_;conv=>whnf) | refine .mk ?_ | refine .tt ?_ | refine .ff ?_ | refine .m2 ?_ | refine .m3 ?_ | refine .mk (fun hc=>?_) fun hc=>?_ | refine .lp fun v H lp=>?_ | fail))
      ·obtain ⟨f1,f2,f3,f4,f5,f6,f7⟩:=fin true (by have:smallI (a - q * n)=false:=(by (rw [← Bool.not_eq_true,hsm];omega));simp [this]) _ rfl
       exact .nx ⟨true,rfl,f1,f2,f3,f4,f5,f6,f7⟩
      ·obtain ⟨f1,f2,f3,f4,f5,f6,f7⟩:=fin false (by rw [hsm.2 (by omega)];rfl) _ rfl
       exact .nx ⟨false,rfl,f1,f2,f3,f4,f5,f6,f7⟩
     ·(repeat' (first | (refine Rn.go ?_;conv=>whnf) | refine .mk ?_ | refine .tt ?_ | refine .ff ?_ | refine .m2 ?_ | refine .m3 ?_ | refine .mk (fun hc=>?_) fun hc=>?_ | refine .lp fun v H lp=>?_ | fail))
      refine .p habq ?_
      (repeat' (first | (refine Rn.go ?_;conv=>whnf) | refine .mk ?_ | refine .tt ?_ | refine .ff ?_ | refine .m2 ?_ | refine .m3 ?_ | refine .mk (fun hc=>?_) fun hc=>?_ | refine .lp fun v H lp=>?_ | fail))
      refine .p habn ?_
      (repeat' (first | (refine Rn.go ?_;conv=>whnf) | refine .mk ?_ | refine .tt ?_ | refine .ff ?_ | refine .m2 ?_ | refine .m3 ?_ | refine .mk (fun hc=>?_) fun hc=>?_ | refine .lp fun v H lp=>?_ | fail))
      rw [← hV]
      (repeat' (first | (refine Rn.go ?_;conv=>whnf) | refine .mk ?_ | refine .tt ?_ | refine .ff ?_ | refine .m2 ?_ | refine .m3 ?_ | refine .mk (fun hc=>?_) fun hc=>?_ | refine .lp fun v H lp=>?_ | fail))
      obtain ⟨f1,f2,f3,f4,f5,f6,f7⟩:=fin true rfl _ rfl
      exact .nx ⟨true,rfl,f1,f2,f3,f4,f5,f6,f7⟩
  ·rintro _ k ρ ⟨lg2,rfl,j1,j2,j3,j4,j5,j6,j7⟩
   rw [hw3] at j6 j7
   rw [List.map_nil,List.append_nil] at j7
   have far:∀ r'∈prs,k[r'.s]?=h[r'.s]?:=fun r' hr'=>by
    obtain ⟨t1,_,_,_,_,t6,_,t8,_⟩:=c1 r' hr'
    exact j4 r'.s (by omega) t6 (fun hh=>c3 r hrm r' hr' hh.symm)
   have oth:∀ r'∈p++r2,k[r'.d]?=h[r'.d]?:=fun r' hr'=>by
    obtain ⟨t1,_,_,_,t5,_,t7,_⟩:=c1 r' (by rcases List.mem_append.1 hr' with h | h;exact mp _ h;exact mq _ h)
    exact j4 r'.d (by omega) t5 (nd r' hr')
   (repeat' (first | (refine Rn.go ?_;conv=>whnf) | refine .mk ?_ | refine .tt ?_ | refine .ff ?_ | refine .m2 ?_ | refine .m3 ?_ | refine .mk (fun hc=>?_) fun hc=>?_ | refine .lp fun v H lp=>?_ | fail))
   refine .nx ⟨lg2,rfl,j1,by omega,?_,?_,j5,?_,?_,?_,fun r' hr'=>by rw [far r' hr'];exact i9 r' hr'⟩
   ·rw [j4 H.length (by omega) (by omega) (by omega)];exact i3
   ·intro j hj hjx h1 h2
    rw [j4 j (by omega) hjx (by rcases d9 with h | h <;> rw [h] <;> assumption)]
    exact i4 j hj hjx h1 h2
   ·rw [j6,i6];simp
   ·intro r' hr'
    rcases List.mem_append.1 hr' with hr' | hr'
    ·rw [oth r' (by simp [hr'])];exact i7 r' hr'
    ·obtain rfl:=List.mem_singleton.1 hr';exact j7
   ·intro r' hr'
    rw [oth r' (by simp [hr'])];exact i8 r' (by simp [hr'])
 ·rintro _ h ρ ⟨lg,rfl,i1,i2,i3,i4,i5,i6,i7,i8,i9⟩
  (repeat' (first | (refine Rn.go ?_;conv=>whnf) | refine .mk ?_ | refine .tt ?_ | refine .ff ?_ | refine .m2 ?_ | refine .m3 ?_ | refine .mk (fun hc=>?_) fun hc=>?_ | refine .lp fun v H lp=>?_ | fail))
  exact hgo _ lg (by omega) i1 i4 i6 i5 (fun r hr=>⟨_,subL_len (c1 r hr).1,fun _=>rfl,i7 r hr⟩)
end Go.Pm
end
section
namespace Go.Pm
abbrev Row:=List Int × Bool
def cand (c:Nat) (R:Row):Bool:=!R.2 && decide (atR R.1 c≠0)
def cnt (c:Nat) (S:List Row):Nat:=(S.filter (cand c)).length
structure Best (c:Nat) (S:List Row) (bi:Nat) (b:List Int):Prop where
 at_:S[bi]?=some (b,false)
 nz:atR b c≠0
 min:∀ (i:Nat) (R:Row),S[i]?=some R→cand c R=true→(atR b c).natAbs≤(atR R.1 c).natAbs
 fst:∀ (i:Nat) (R:Row),S[i]?=some R→cand c R=true→i<bi→(atR b c).natAbs<(atR R.1 c).natAbs
theorem Best.isc {c:Nat} {S:List Row} {bi:Nat} {b:List Int} (h:Best c S bi b):cand c (b,false)=true:=by simp [Pm.cand,h.nz]
theorem Best.uniq {c:Nat} {S:List Row} {i j:Nat} {a b:List Int} (h:Best c S i a) (k:Best c S j b):i=j∧a=b:=by
 have e:i=j:=by
  rcases Nat.lt_trichotomy i j with h1 | h1 | h1
  ·have:=k.fst i _ h.at_ h.isc h1
   have:=h.min j _ k.at_ k.isc
   dsimp only at *;omega
  ·exact h1
  ·have:=h.fst j _ k.at_ k.isc h1
   have:=k.min i _ h.at_ h.isc
   dsimp only at *;omega
 subst e
 have:=h.at_.symm.trans k.at_
 simp at this
 exact ⟨rfl,this⟩
def redR (c:Nat) (b:List Int) (R:Row):Row:=if cand c R=true then (subL R.1 b ((atR R.1 c).tdiv (atR b c)),R.2) else R
def stepS (c:Nat) (b:List Int) (bi:Nat) (S:List Row):List Row:=S.mapIdx fun i R=>if i=bi then R else redR c b R
def allS (S:List Row):Bool:=S.all fun R=>small R.1
inductive Col (c:Nat):Nat→List Row→Option (List Row × Int)→Prop
 | zero {S:List Row}:cnt c S=0→Col c 0 S (some (S,-1))
 | one {S:List Row} {bi:Nat} {b:List Int}:Best c S bi b→cnt c S=1→Col c 0 S (some (S.set bi (b,true),bi))
 | large {S:List Row} {bi:Nat} {b:List Int}:Best c S bi b→2≤cnt c S→allS (stepS c b bi S)=false→Col c 0 S none
 | step {S:List Row} {bi n:Nat} {b:List Int} {res:Option (List Row × Int)}:Best c S bi b→2≤cnt c S→allS (stepS c b bi S)=true→Col c n (stepS c b bi S) res→Col c (n+1) S res
theorem stepS_get {c:Nat} {b:List Int} {bi:Nat} {S:List Row} {i:Nat}:(stepS c b bi S)[i]?=(S[i]?).map fun R=>if i=bi then R else redR c b R:=by
 unfold stepS;rw [List.getElem?_mapIdx]
theorem stepS_len {c:Nat} {b:List Int} {bi:Nat} {S:List Row}:(stepS c b bi S).length=S.length:=by simp [stepS]
theorem Best.step {c:Nat} {S:List Row} {bi:Nat} {b:List Int} (h:Best c S bi b):(stepS c b bi S)[bi]?=some (b,false):=by rw [stepS_get,h.at_];simp
inductive El (n:Nat):Nat→List Row→List Int→Option (List Row × List Int)→Prop
 | done {S:List Row} {P:List Int}:El n n S P (some (S,P))
 | large {c k:Nat} {S:List Row} {P:List Int}:c<n→Col c k S none→El n c S P none
 | next {c k:Nat} {S S':List Row} {P:List Int} {i:Int} {res:Option (List Row × List Int)}:c<n→Col c k S (some (S',i))→El n (c+1) S' (P++[i]) res→El n c S P res
def rowAt (S:List Row) (i:Int):List Int:=match S[i.toNat]? with | some R=>R.1 | none=>[]
def redF (S:List Row):List Int→Nat→List Int→Option (List Int × Int)
 | [],c,t=>some (t,-1)
 | i::P,c,t=>if atR t c=0 then redF S P (c+1) t
  else if i<0 then some (t,c)
  else if (atR t c).tmod (atR (rowAt S i) c)≠0 then some (t,c)
  else if small (subL t (rowAt S i) ((atR t c).tdiv (atR (rowAt S i) c)))=true then redF S P (c+1) (subL t (rowAt S i) ((atR t c).tdiv (atR (rowAt S i) c)))
  else none
end Go.Pm
end
section
set_option maxRecDepth 4000
namespace Go.Pm
open Go.Proofs
theorem LpX.zipN {C:Cfg} (T:Tab C.P) {α:Type} {c:Code} {L:Al} {ρ:Nat→PV} {h:AHeap} {k:Kont C} (l:List α) (I:List α→List α→Al→AHeap→Prop) (h0:Nx (I [] l) L h)
  (step:∀ p a q L h ρ (k:Kont C),l=p++a::q→I p (a::q) L h→Rn (runX T 10000 (.c c) (.loop (I (p++[a]) q) k) L ρ h))
  (last:∀ L h ρ,I l [] L h→Rn (runX T 10000 (.c c) (.loop (fun _ _=>False) k) L ρ h)):LpX c L ρ h k:=
 LpX.zip T l I h0 (fun p a q L h ρ=>step p a q L h ρ k) last
structure Rw where
 r:Nat
 p:Nat
 c:Nat
 a:List Int
 b:List Int
 u:Bool
def Rw.m (R:Rw):Row:=(R.a++R.b,R.u)
def Rw.ids (R:Rw):List Nat:=[R.r,R.p,R.c]
def Rw.ptr (R:Rw):PV:=.ptr R.r 0 0 0
structure RwAt (h:AHeap) (R:Rw):Prop where
 er:h[R.r]?=some ⟨.m,0,3,[.agg [.mref R.p 0 0 R.a.length,.mref R.c 0 0 R.b.length,.bool R.u]]⟩
 ea:h[R.p]?=some ⟨.m,0,1,encIs R.a⟩
 eb:h[R.c]?=some ⟨.m,0,1,encIs R.b⟩
def vid:PV→List Nat
 | .mref i _ _ _=>[i]
 | _=>[]
structure Lay (h:AHeap) (x:Nat) (cv rv pv:PV) (n k:Nat) (Rs:List Rw) (P:List Int) (lg:Bool):Prop where
 hr:HR h
 ex:h[x]?=some ⟨.m,0,4,[.agg [cv,rv,pv,.bool lg]]⟩
 er:Out 1 h rv (Rs.map Rw.ptr)
 ep:Out 1 h pv (encIs P)
 at_:∀ R∈Rs,RwAt h R∧R.a.length=n∧R.b.length=k
 nd:(x::(vid rv++(vid pv++Rs.flatMap Rw.ids))).Nodup
theorem belowA_vis {n:Nat}:∀ {p:PV},belowA n p=true→visR (fun i=>decide (i<n)) p=true:=by
 have one:∀ {p:PV},below1 n p=true→visR (fun i=>decide (i<n)) p=true:=by
  intro p h
  unfold below1 at h
  split at h
  ·simpa [visR] using h
  ·simpa [visR] using h
  ·exact vis_val _ _ h
 intro p h
 unfold belowA at h
 split at h
 ·rename_i cs
  rw [visR,visRs_all,List.all_eq_true]
  exact fun c hc=>one (List.all_eq_true.1 h c hc)
 ·exact one h
theorem HR.take {h:AHeap} (H:HR h) {n:Nat} (hn:n≤h.length) (hb:((h.take n).all fun o=>o.es.all (belowA n))=true):HR (h.take n):=by
 intro o ho
 refine ⟨(H o (List.mem_of_mem_take ho)).1,?_⟩
 rw [List.length_take,Nat.min_eq_left hn,visRs_all,List.all_eq_true]
 exact fun p hp=>belowA_vis (List.all_eq_true.1 (List.all_eq_true.1 hb o ho) p hp)
theorem CallEv.sm {C:Cfg} {f:FuncId} {args:List PV} {H:AHeap} {P Q:PV→AHeap→Prop} (a:FnEv C f args H P) (hl:∀ r h',P r h'→HR h'∧H.length≤h'.length) (q1:∀ r h',P r h'→Q r h') (q2:∀ r h',P r h'→HR (h'.take H.length)→Q r (h'.take H.length)) (hm:C.mode f=.opened:=by rfl):CallEv C 2 f args H Q:=by
 refine CallEv.opened hm (a.mono fun r k hr=>?_)
 split
 ·rename_i hc
  rw [Bool.and_eq_true] at hc
  obtain ⟨h1,h2⟩:=hl r k hr
  exact q2 r k hr (h1.take h2 hc.2)
 ·exact q1 r k hr
theorem Out.of_eq {sz:Nat} {h h':AHeap} {v:PV} {es:List PV} (o:Out sz h v es) (he:∀ i∈vid v,h'[i]?=h[i]?):Out sz h' v es:=by
 rcases o with o | ⟨id,ep,rfl,e⟩
 ·exact .inl o
 ·exact .inr ⟨id,ep,rfl,by rw [he id (by simp [vid])];exact e⟩
theorem RwAt.of_eq {h h':AHeap} {R:Rw} (a:RwAt h R) (he:∀ i∈R.ids,h'[i]?=h[i]?):RwAt h' R:=
 ⟨by rw [he R.r (by simp [Rw.ids])];exact a.er,by rw [he R.p (by simp [Rw.ids])];exact a.ea,by rw [he R.c (by simp [Rw.ids])];exact a.eb⟩
def Lay.all (x:Nat) (rv pv:PV) (Rs:List Rw):List Nat:=x::(vid rv++(vid pv++Rs.flatMap Rw.ids))
theorem Out.vlt {sz:Nat} {h:AHeap} {v:PV} {es:List PV} (o:Out sz h v es):∀ i∈vid v,i<h.length:=by
 rcases o with ⟨rfl,_⟩ | ⟨id,ep,rfl,e⟩
 ·simp [vid]
 ·intro i hi;simp [vid] at hi;subst hi;exact lt_of_some e
theorem RwAt.lt {h:AHeap} {R:Rw} (a:RwAt h R):∀ i∈R.ids,i<h.length:=by
 intro i hi
 simp only [Rw.ids,List.mem_cons,List.not_mem_nil,or_false] at hi
 rcases hi with rfl | rfl | rfl
 ·exact lt_of_some a.er
 ·exact lt_of_some a.ea
 ·exact lt_of_some a.eb
theorem Lay.lt {h:AHeap} {x:Nat} {cv rv pv:PV} {n k:Nat} {Rs:List Rw} {P:List Int} {lg:Bool} (L:Lay h x cv rv pv n k Rs P lg):∀ i∈Lay.all x rv pv Rs,i<h.length:=by
 intro i hi
 simp only [Lay.all,List.mem_cons,List.mem_append,List.mem_flatMap] at hi
 rcases hi with rfl | hi | hi | ⟨R,hR,hi⟩
 ·exact lt_of_some L.ex
 ·exact L.er.vlt i hi
 ·exact L.ep.vlt i hi
 ·exact (L.at_ R hR).1.lt i hi
theorem Lay.of_eq {h h':AHeap} {x:Nat} {cv rv pv:PV} {n k:Nat} {Rs:List Rw} {P:List Int} {lg:Bool} (L:Lay h x cv rv pv n k Rs P lg) (hr:HR h') (he:∀ i∈Lay.all x rv pv Rs,h'[i]?=h[i]?):Lay h' x cv rv pv n k Rs P lg where
 hr:=hr
 ex:=by rw [he x (by simp [Lay.all])];exact L.ex
 er:=L.er.of_eq fun i hi=>he i (by simp [Lay.all,hi])
 ep:=L.ep.of_eq fun i hi=>he i (by simp [Lay.all,hi])
 at_ R hR:=⟨(L.at_ R hR).1.of_eq fun i hi=>he i (by simp only [Lay.all,List.mem_cons,List.mem_append,List.mem_flatMap];exact .inr (.inr (.inr ⟨R,hR,hi⟩))),(L.at_ R hR).2⟩
 nd:=L.nd
theorem Lay.take {h:AHeap} {x:Nat} {cv rv pv:PV} {n k m:Nat} {Rs:List Rw} {P:List Int} {lg:Bool} (L:Lay h x cv rv pv n k Rs P lg) (hm:∀ i∈Lay.all x rv pv Rs,i<m) (hr:HR (h.take m)):Lay (h.take m) x cv rv pv n k Rs P lg:=
 L.of_eq hr fun i hi=>by rw [List.getElem?_take,if_pos (hm i hi)]
theorem Lay.apart {h:AHeap} {x:Nat} {cv rv pv:PV} {n k:Nat} {A B:List Rw} {R:Rw} {P:List Int} {lg:Bool} (L:Lay h x cv rv pv n k (A++R::B) P lg) :
  R.ids.Nodup∧(∀ i∈R.ids,i≠x∧i∉vid rv∧i∉vid pv)∧∀ R'∈A++B,∀ i∈R'.ids,i∉R.ids:=by
 have nd:=L.nd
 rw [List.nodup_cons,List.nodup_append,List.nodup_append] at nd
 obtain ⟨n1,_,⟨_,n2,n3⟩,n4⟩:=nd
 rw [List.flatMap_append,List.flatMap_cons] at n1 n2 n3 n4
 refine ⟨?_,fun i hi=>⟨?_,?_,?_⟩,fun R' hR' i hi hj=>?_⟩
 ·rw [List.nodup_append,List.nodup_append] at n2
  exact n2.2.1.1
 ·rintro rfl;exact n1 (by simp [hi])
 ·exact fun hh=>n4 i hh i (by simp [hi]) rfl
 ·exact fun hh=>n3 i hh i (by simp [hi]) rfl
 ·rw [List.nodup_append,List.nodup_append] at n2
  obtain ⟨_,⟨_,_,n5⟩,n6⟩:=n2
  rcases List.mem_append.1 hR' with hA | hB
  ·exact n6 i (List.mem_flatMap.2 ⟨R',hA,hi⟩) i (by simp [hj]) rfl
  ·exact n5 i hj i (List.mem_flatMap.2 ⟨R',hB,hi⟩) rfl
theorem Lay.sub {h h':AHeap} {x:Nat} {cv rv pv:PV} {n k:Nat} {A B:List Rw} {R:Rw} {P:List Int} {lg lg':Bool} {A' B':List Int} (L:Lay h x cv rv pv n k (A++R::B) P lg) (hr:HR h') (hf:∀ j,j<h.length→j≠x→j≠R.p→j≠R.c→h'[j]?=h[j]?)
  (ha:A'.length=R.a.length) (hb:B'.length=R.b.length) (ex:h'[x]?=some ⟨.m,0,4,[.agg [cv,rv,pv,.bool lg']]⟩) (ea:h'[R.p]?=some ⟨.m,0,1,encIs A'⟩) (eb:h'[R.c]?=some ⟨.m,0,1,encIs B'⟩) :
  Lay h' x cv rv pv n k (A++{R with a:=A',b:=B' }::B) P lg':=by
 obtain ⟨a1,a2,a3⟩:=L.apart
 have lt:=L.lt
 have nx:∀ i,i∈vid rv∨i∈vid pv→i≠x∧i∉R.ids:=fun i hi=>by
  refine ⟨?_,fun hh=>?_⟩
  ·rintro rfl
   have:=(List.nodup_cons.1 L.nd).1
   exact this (by simp only [List.mem_append];rcases hi with h | h;exact .inl h;exact .inr (.inl h))
  ·rcases hi with h | h
   ·exact (a2 i hh).2.1 h
   ·exact (a2 i hh).2.2 h
 have mm:∀ i∈Lay.all x rv pv (A++R::B),i≠x→i∉[R.p,R.c]→h'[i]?=h[i]?:=fun i hi h1 h2=>by
  simp only [List.mem_cons,List.not_mem_nil,or_false,not_or] at h2
  exact hf i (lt i hi) h1 h2.1 h2.2
 have hRin:R∈A++R::B:=by simp
 have hids:∀ i∈R.ids,i∈Lay.all x rv pv (A++R::B):=fun i hi=>by simp only [Lay.all,List.mem_cons,List.mem_append,List.mem_flatMap];exact .inr (.inr (.inr ⟨R,by simp,hi⟩))
 have hRat:=L.at_ R hRin
 refine ⟨hr,ex,?_,?_,?_,?_⟩
 ·have e1:(A++{R with a:=A',b:=B' }::B).map Rw.ptr=(A++R::B).map Rw.ptr:=by simp [Rw.ptr]
  rw [e1]
  refine L.er.of_eq fun i hi=>?_
  have:=nx i (.inl hi)
  exact mm i (by simp [Lay.all,hi]) this.1 (fun hh=>this.2 (by simp [Rw.ids] at hh ⊢;exact .inr hh))
 ·refine L.ep.of_eq fun i hi=>?_
  have:=nx i (.inr hi)
  exact mm i (by simp [Lay.all,hi]) this.1 (fun hh=>this.2 (by simp [Rw.ids] at hh ⊢;exact .inr hh))
 ·intro R' hR'
  by_cases hq:R'∈A++B
  ·have hm:R'∈A++R::B:=by simp at hq ⊢;rcases hq with h | h;exact .inl h;exact .inr (.inr h)
   refine ⟨(L.at_ R' hm).1.of_eq fun i hi=>?_,(L.at_ R' hm).2⟩
   have hin:i∈Lay.all x rv pv (A++R::B):=by simp only [Lay.all,List.mem_cons,List.mem_append,List.mem_flatMap];exact .inr (.inr (.inr ⟨R',by simpa using hm,hi⟩))
   have hnx:i≠x:=by
    rintro rfl
    exact (List.nodup_cons.1 L.nd).1 (by simp only [List.mem_append,List.mem_flatMap];exact .inr (.inr ⟨R',by simpa using hm,hi⟩))
   exact mm i hin hnx (fun hh=>a3 R' hq i hi (by simp [Rw.ids] at hh ⊢;exact .inr hh))
  ·have:R'={R with a:=A',b:=B' }:=by
    simp at hR' hq
    rcases hR' with h | h | h
    ·exact (hq.1 h).elim
    ·exact h
    ·exact (hq.2 h).elim
   subst this
   refine ⟨⟨?_,ea,eb⟩,by rw [ha];exact hRat.2.1,by rw [hb];exact hRat.2.2⟩
   show h'[R.r]?=some ⟨.m,0,3,[.agg [.mref R.p 0 0 A'.length,.mref R.c 0 0 B'.length,.bool R.u]]⟩
   rw [ha,hb,mm R.r (hids R.r (by simp [Rw.ids])) (a2 R.r (by simp [Rw.ids])).1 ?_]
   ·exact hRat.1.er
   ·simp only [Rw.ids,List.nodup_cons,List.mem_cons,List.not_mem_nil,or_false,not_or] at a1
    simp only [List.mem_cons,List.not_mem_nil,or_false,not_or]
    exact a1.1
 ·have e1:(A++{R with a:=A',b:=B' }::B).flatMap Rw.ids=(A++R::B).flatMap Rw.ids:=by simp [Rw.ids]
  rw [e1];exact L.nd
theorem Lay.pset {h:AHeap} {x pi pe m:Nat} {cv rv:PV} {n k:Nat} {Rs:List Rw} {P P':List Int} {lg:Bool} (L:Lay h x cv rv (.mref pi pe 0 m) n k Rs P lg) (hm:m=P'.length) (hp:pi<h.length):Lay (h.set pi ⟨.m,pe,1,encIs P'⟩) x cv rv (.mref pi pe 0 m) n k Rs P' lg:=by
 have nd:=L.nd
 rw [List.nodup_cons,List.nodup_append,List.nodup_append] at nd
 obtain ⟨n1,_,⟨_,n2,n3⟩,n4⟩:=nd
 have hx:pi≠x:=by rintro rfl;exact n1 (by simp [vid])
 refine ⟨L.hr.set pi (by simp) (vis_vals _ _ (by simp)),by rw [List.getElem?_set_ne hx];exact L.ex,L.er.of_eq fun i hi=>?_,.inr ⟨pi,pe,by rw [hm];simp,List.getElem?_set_self hp⟩,fun R hR=>⟨(L.at_ R hR).1.of_eq fun i hi=>?_,(L.at_ R hR).2⟩,L.nd⟩
 ·rw [List.getElem?_set_ne]
  rintro rfl
  exact n4 _ hi _ (by simp [vid]) rfl
 ·rw [List.getElem?_set_ne]
  rintro rfl
  exact n3 _ (by simp [vid]) _ (List.mem_flatMap.2 ⟨R,hR,hi⟩) rfl
theorem Lay.use {h:AHeap} {x:Nat} {cv rv pv:PV} {n k:Nat} {A B:List Rw} {R:Rw} {P:List Int} {lg:Bool} {u:Bool} (L:Lay h x cv rv pv n k (A++R::B) P lg) :
  Lay (h.set R.r ⟨.m,0,3,[.agg [.mref R.p 0 0 R.a.length,.mref R.c 0 0 R.b.length,.bool u]]⟩) x cv rv pv n k (A++{R with u:=u }::B) P lg:=by
 obtain ⟨a1,a2,a3⟩:=L.apart
 have hRat:=L.at_ R (by simp)
 have hlt:=lt_of_some hRat.1.er
 have hl1:=lt_of_some hRat.1.ea
 have hl2:=lt_of_some hRat.1.eb
 simp only [Rw.ids,List.nodup_cons,List.mem_cons,List.not_mem_nil,or_false,not_or] at a1
 have hr2:R.r∈R.ids:=by simp [Rw.ids]
 refine ⟨L.hr.set R.r (by simp) (by simp [visRs,visR];omega),by rw [List.getElem?_set_ne (a2 _ hr2).1];exact L.ex,?_,?_,fun R' hR'=>?_,?_⟩
 ·have e1:(A++{R with u:=u }::B).map Rw.ptr=(A++R::B).map Rw.ptr:=by simp [Rw.ptr]
  rw [e1]
  refine L.er.of_eq fun i hi=>?_
  rw [List.getElem?_set_ne];rintro rfl;exact (a2 _ hr2).2.1 hi
 ·refine L.ep.of_eq fun i hi=>?_
  rw [List.getElem?_set_ne];rintro rfl;exact (a2 _ hr2).2.2 hi
 ·by_cases hq:R'∈A++B
  ·have hm:R'∈A++R::B:=by simp at hq ⊢;rcases hq with h | h;exact .inl h;exact .inr (.inr h)
   refine ⟨(L.at_ R' hm).1.of_eq fun i hi=>?_,(L.at_ R' hm).2⟩
   rw [List.getElem?_set_ne];rintro rfl;exact a3 R' hq _ hi hr2
  ·have:R'={R with u:=u }:=by
    simp at hR' hq
    rcases hR' with h | h | h
    ·exact (hq.1 h).elim
    ·exact h
    ·exact (hq.2 h).elim
   subst this
   refine ⟨⟨List.getElem?_set_self hlt,?_,?_⟩,hRat.2⟩
   ·rw [List.getElem?_set_ne a1.1.1];exact hRat.1.ea
   ·rw [List.getElem?_set_ne a1.1.2];exact hRat.1.eb
 ·have e1:(A++{R with u:=u }::B).flatMap Rw.ids=(A++R::B).flatMap Rw.ids:=by simp [Rw.ids]
  rw [e1];exact L.nd
end Go.Pm
end
section
set_option maxRecDepth 4000
namespace Go.Pm
open Go.Proofs
theorem atR_app {a b:List Int} {c:Nat} (h:c<a.length):atR (a++b) c=atR a c:=by simp [atR,List.getD,List.getElem?_append_left h]
theorem nthI {a:List Int} {c:Nat} (h:c<a.length):(encIs a)[0+c]?=some (.int .i64 (atR a c)):=by
 simp [encIs,atR,List.getD,List.getElem?_eq_getElem h]
theorem cnt_snoc (c:Nat) (p:List Row) (R:Row):cnt c (p++[R])=cnt c p+if cand c R=true then 1 else 0:=by
 unfold cnt
 rw [List.filter_append,List.length_append]
 congr 1
 by_cases h:cand c R=true <;> simp [h]
theorem cnt_zero {c:Nat} {S:List Row} (h:cnt c S=0):∀ R∈S,cand c R=false:=by
 unfold cnt at h
 intro R hR
 cases hc:cand c R with
 | false=>rfl
 | true=>
  have:R∈S.filter (cand c):=List.mem_filter.2 ⟨hR,hc⟩
  rw [List.eq_nil_of_length_eq_zero h] at this
  cases this
def BSt (c:Nat) (p:List Row) (best count:Int):Prop:=count=(cnt c p:Nat)∧((cnt c p=0∧best=-1)∨∃ (bi:Nat) (b:List Int),best=bi∧Best c p bi b)
theorem snoc_get {p:List Row} {R Q:Row} {i:Nat} (h:(p++[R])[i]?=some Q):p[i]?=some Q∨(i=p.length∧Q=R):=by
 rcases Nat.lt_trichotomy i p.length with h1 | h1 | h1
 ·rw [List.getElem?_append_left h1] at h;exact .inl h
 ·subst h1;simp at h;exact .inr ⟨rfl,h.symm⟩
 ·rw [List.getElem?_eq_none (by simp;omega)] at h;cases h
theorem Best.no {c:Nat} {p:List Row} {bi:Nat} {b:List Int} {R:Row} (h:Best c p bi b) (hR:cand c R=true→(atR b c).natAbs≤(atR R.1 c).natAbs):Best c (p++[R]) bi b where
 at_:=by rw [List.getElem?_append_left (lt_of_some h.at_)];exact h.at_
 nz:=h.nz
 min i Q hQ hc:=by
  rcases snoc_get hQ with h1 | ⟨rfl,rfl⟩
  ·exact h.min i Q h1 hc
  ·exact hR hc
 fst i Q hQ hc hi:=by
  have:=lt_of_some h.at_
  rcases snoc_get hQ with h1 | ⟨rfl,rfl⟩
  ·exact h.fst i Q h1 hc hi
  ·omega
theorem Best.new {c:Nat} {p:List Row} {b:List Int} (hc:cand c (b,false)=true) (h:∀ Q∈p,cand c Q=true→(atR b c).natAbs<(atR Q.1 c).natAbs):Best c (p++[(b,false)]) p.length b where
 at_:=by simp
 nz:=by simpa [cand] using hc
 min i Q hQ hcQ:=by
  rcases snoc_get hQ with h1 | ⟨rfl,rfl⟩
  ·exact Nat.le_of_lt (h Q (List.mem_of_getElem? h1) hcQ)
  ·exact Nat.le_refl _
 fst i Q hQ hcQ hi:=by
  rcases snoc_get hQ with h1 | ⟨rfl,rfl⟩
  ·exact h Q (List.mem_of_getElem? h1) hcQ
  ·omega
theorem BSt.skip {c:Nat} {p:List Row} {best count:Int} {R:Row} (h:BSt c p best count) (hR:cand c R=false):BSt c (p++[R]) best count:=by
 obtain ⟨h1,h2⟩:=h
 refine ⟨by rw [cnt_snoc,hR];simpa using h1,?_⟩
 rcases h2 with ⟨a,b⟩ | ⟨bi,b,e,hb⟩
 ·exact .inl ⟨by rw [cnt_snoc,hR];simpa using a,b⟩
 ·exact .inr ⟨bi,b,e,hb.no (fun hh=>by rw [hR] at hh;cases hh)⟩
theorem BSt.first {c:Nat} {p:List Row} {count:Int} {b:List Int} (h:BSt c p (-1) count) (hR:cand c (b,false)=true):BSt c (p++[(b,false)]) p.length (count+1):=by
 obtain ⟨h1,h2⟩:=h
 rcases h2 with ⟨a,_⟩ | ⟨bi,_,e,_⟩
 ·refine ⟨by rw [cnt_snoc,hR,if_pos rfl];omega,.inr ⟨_,b,rfl,Best.new hR fun Q hQ hc=>?_⟩⟩
  rw [cnt_zero a Q hQ] at hc;cases hc
 ·omega
theorem BSt.better {c:Nat} {p:List Row} {bi:Nat} {count:Int} {b b':List Int} (h:BSt c p bi count) (hb:Best c p bi b) (hR:cand c (b',false)=true) (hl:(atR b' c).natAbs<(atR b c).natAbs):BSt c (p++[(b',false)]) p.length (count+1):=by
 obtain ⟨h1,h2⟩:=h
 refine ⟨by rw [cnt_snoc,hR,if_pos rfl];omega,.inr ⟨_,b',rfl,Best.new hR fun Q hQ hc=>?_⟩⟩
 obtain ⟨i,hi⟩:=List.getElem?_of_mem hQ
 have h3:=hb.min i Q hi hc
 exact Nat.lt_of_lt_of_le hl h3
theorem BSt.worse {c:Nat} {p:List Row} {bi:Nat} {count:Int} {b b':List Int} (h:BSt c p bi count) (hb:Best c p bi b) (hR:cand c (b',false)=true) (hl:¬ (atR b' c).natAbs<(atR b c).natAbs):BSt c (p++[(b',false)]) bi (count+1):=by
 obtain ⟨h1,h2⟩:=h
 exact ⟨by rw [cnt_snoc,hR,if_pos rfl];omega,.inr ⟨_,b,rfl,hb.no fun _=>Nat.le_of_not_lt hl⟩⟩
theorem Lay.rows {h:AHeap} {x rr re m:Nat} {cv pv:PV} {n k:Nat} {Rs:List Rw} {P:List Int} {lg:Bool} (L:Lay h x cv (.mref rr re 0 m) pv n k Rs P lg):m=Rs.length∧h[rr]?=some ⟨.m,re,1,Rs.map Rw.ptr⟩:=by
 rcases L.er with ⟨h1,_⟩ | ⟨id,ep,h1,h2⟩
 ·cases h1
 ·cases h1;exact ⟨by simp,h2⟩
theorem Lay.pivs {h:AHeap} {x pi pe m:Nat} {cv rv:PV} {n k:Nat} {Rs:List Rw} {P:List Int} {lg:Bool} (L:Lay h x cv rv (.mref pi pe 0 m) n k Rs P lg):m=P.length∧h[pi]?=some ⟨.m,pe,1,encIs P⟩:=by
 rcases L.ep with ⟨h1,_⟩ | ⟨id,ep,h1,h2⟩
 ·cases h1
 ·cases h1;exact ⟨by simp,h2⟩
structure Frm (H h:AHeap) (I:List Nat):Prop where
 len:H.length≤h.length
 fr:∀ j,j<H.length→j∉I→h[j]?=H[j]?
theorem Frm.refl (H:AHeap) (I:List Nat):Frm H H I:=⟨Nat.le_refl _,fun _ _ _=>rfl⟩
theorem Frm.trans {a b c:AHeap} {I:List Nat} (x:Frm a b I) (y:Frm b c I):Frm a c I:=⟨Nat.le_trans x.len y.len,fun j h1 h2=>by rw [y.fr j (Nat.lt_of_lt_of_le h1 x.len) h2];exact x.fr j h1 h2⟩
theorem Frm.set {a b:AHeap} {I:List Nat} (x:Frm a b I) {i:Nat} (h:i∈I) (o:AObj):Frm a (b.set i o) I:=⟨by simpa using x.len,fun j h1 h2=>by rw [List.getElem?_set_ne (fun hh=>h2 (by rw [← hh];exact h))];exact x.fr j h1 h2⟩
theorem ids_of {Rs Q:List Rw} (h:Q.map Rw.ids=Rs.map Rw.ids) {x:Nat} {rv pv:PV} {R:Rw} (hR:R∈Q) {i:Nat} (hi:i∈R.ids):i∈Lay.all x rv pv Rs:=by
 have:i∈(Q.map Rw.ids).flatten:=List.mem_flatten.2 ⟨R.ids,List.mem_map_of_mem hR,hi⟩
 rw [h] at this
 simp only [Lay.all,List.mem_cons,List.mem_append]
 exact .inr (.inr (.inr (by rw [List.flatMap_def];exact this)))
attribute [local irreducible] thenQ blockQ loopQ bodyQ Ev EvOps CallEv FnEv EvD
theorem column_ev (c n k x rr re pi pe:Nat) (cv:PV) (H:AHeap) (res:Option (List Row × Int)) (steps:Nat) (Rs:List Rw) (P:List Int) (hL:Lay H x cv (.mref rr re 0 Rs.length) (.mref pi pe 0 P.length) n k Rs P false) (hcol:Col c steps (Rs.map Rw.m) res) (hc:c<n) (hP:P.length=n)
  (hn:n<1000) (hk:k<1000) (hRl:Rs.length<1000) (hsm:∀ R∈Rs,small R.a=true∧small R.b=true) :
  FnEv C 116 [.ptr x 0 0 0,.int .i64 c] H (fun r h'=>r=.tup []∧Frm H h' (Lay.all x (.mref rr re 0 Rs.length) (.mref pi pe 0 P.length) Rs)∧∃ Rs' P' lg',Lay h' x cv (.mref rr re 0 Rs.length) (.mref pi pe 0 P.length) n k Rs' P' lg'∧Rs'.map Rw.ids=Rs.map Rw.ids∧P'.length=P.length ∧
   match res with
   | none=>lg'=true
   | some (S',i)=>lg'=false∧Rs'.map Rw.m=S'∧(∀ R∈Rs',small R.a=true∧small R.b=true)∧P'=if i<0 then P else P.set c i):=by
 refine FnEv.x T6 Tryz.func116 rfl ?_
 (repeat' (first | (refine Rn.go ?_;conv=>whnf) | refine .mk ?_ | refine .tt ?_ | refine .ff ?_ | refine .m2 ?_ | refine .m3 ?_ | refine .mk (fun hc=>?_) fun hc=>?_ | refine .lp fun v H lp=>?_ | fail))
 refine LpX.nat T6 (fun m L h=>L=[(0,.ptr x 0 0 0),(1,.int .i64 c)]∧Frm H h (Lay.all x (.mref rr re 0 Rs.length) (.mref pi pe 0 P.length) Rs)∧∃ Q,Q.map Rw.ids=Rs.map Rw.ids∧((∃ st,m=st+1∧Col c st (Q.map Rw.m) res∧Lay h x cv (.mref rr re 0 Rs.length) (.mref pi pe 0 P.length) n k Q P false∧∀ R∈Q,small R.a=true∧small R.b=true) ∨
  (m=0∧res=none∧Lay h x cv (.mref rr re 0 Rs.length) (.mref pi pe 0 P.length) n k Q P true))) (steps+1) (.nx ⟨rfl,Frm.refl _ _,Rs,rfl,.inl ⟨steps,rfl,hcol,hL,hsm⟩⟩) ?_
 clear hsm
 rintro m _ h ρ ⟨rfl,hlen,Q,hids,hcase⟩
 rcases hcase with ⟨st,rfl,hcol,L,hsm⟩ | ⟨rfl,rfl,L⟩
 rotate_left
 ·have ex:=L.ex
  (repeat' (first | (refine Rn.go ?_;conv=>whnf) | refine .mk ?_ | refine .tt ?_ | refine .ff ?_ | refine .m2 ?_ | refine .m3 ?_ | refine .mk (fun hc=>?_) fun hc=>?_ | refine .lp fun v H lp=>?_ | fail))
  exact ⟨rfl,hlen,Q,P,true,L,hids,rfl,rfl⟩
 have ex:=L.ex
 have hR:=L.hr
 have hQl:Q.length=Rs.length:=by simpa using congrArg List.length hids
 have er:=L.rows.2
 have hpl:(Q.map Rw.ptr).length=Rs.length:=by simp [hQl]
 have kx:=lt_of_some ex
 (repeat' (first | (refine Rn.go ?_;conv=>whnf) | refine .mk ?_ | refine .tt ?_ | refine .ff ?_ | refine .m2 ?_ | refine .m3 ?_ | refine .mk (fun hc=>?_) fun hc=>?_ | refine .lp fun v H lp=>?_ | fail))
 refine LpX.zip T6 Q (fun p q L' h'=>h'=h∧∃ best count,BSt c (p.map Rw.m) best count∧L'=[(0,.ptr x 0 0 0),(1,.int .i64 c),(4,.int .i64 best),(5,.int .i64 count),(18,.mref rr re 0 Rs.length),(19,.int .i64 Rs.length),(20,.int .i64 p.length)]) (.nx ⟨rfl,-1,0,⟨rfl,.inl ⟨rfl,rfl⟩⟩,rfl⟩) ?_ ?_
 ·rintro p R q _ _ ρ e ⟨rfl,best,count,hb,rfl⟩
  have hl2:=congrArg List.length e
  simp only [List.length_append,List.length_cons] at hl2
  obtain ⟨⟨e1,e2,e3⟩,a1,a2⟩:=L.at_ R (by rw [e];simp)
  have hat:(Q.map Rw.ptr)[0+p.length]?=some (.ptr R.r 0 0 0):=by rw [e];simp [Rw.ptr]
  have hea:(encIs R.a).length=R.a.length:=by simp
  have hav:=nthI (a:=R.a) (c:=c) (by omega)
  have hav2:atR R.m.1 c=atR R.a c:=atR_app (by omega)
  have hsv:=List.all_eq_true.1 (hsm R (by rw [e];simp)).1
  have hva:smallI (atR R.a c)=true:=hsv _ (List.mem_of_getElem? (i:=c) (by simp [atR,List.getD,List.getElem?_eq_getElem (show c<R.a.length by omega)]))
  have hvb:=of_decide_eq_true hva
  have habs:=abs_fun (atR R.a c) (by omega)
  have hcnt:0≤count∧count≤p.length:=by
   have:=hb.1
   have h2:cnt c (p.map Rw.m)≤p.length:=by unfold cnt;exact Nat.le_trans (List.length_filter_le _ _) (by simp)
   omega
  have hm:(p++[R]).map Rw.m=p.map Rw.m++[R.m]:=by simp
  cases hu:R.u
  ·rw [hu] at e1
   have hRm:R.m=(R.m.1,false):=by rw [← hu];rfl
   by_cases hz:atR R.a c=0
   ·have hno:cand c R.m=false:=by simp [cand,hav2,hz]
    (repeat' (first | (refine Rn.go ?_;conv=>whnf) | refine .mk ?_ | refine .tt ?_ | refine .ff ?_ | refine .m2 ?_ | refine .m3 ?_ | refine .mk (fun hc=>?_) fun hc=>?_ | refine .lp fun v H lp=>?_ | fail))
    exact .nx ⟨rfl,best,count,by rw [hm];exact hb.skip hno,rfl⟩
   ·have hyes:cand c (R.m.1,false)=true:=by simp [cand,hav2,hz]
    rcases hb.2 with ⟨hb0,rfl⟩ | ⟨bi,b,rfl,hb2⟩
    ·have hbn:=hb.first hyes
     rw [List.length_map] at hbn
     (repeat' (first | (refine Rn.go ?_;conv=>whnf) | refine .mk ?_ | refine .tt ?_ | refine .ff ?_ | refine .m2 ?_ | refine .m3 ?_ | refine .mk (fun hc=>?_) fun hc=>?_ | refine .lp fun v H lp=>?_ | fail))
     exact .nx ⟨rfl,(p.length:Int),count+1,by rw [hm,hRm];exact hbn,rfl⟩
    ·have hbl:bi<p.length:=by have:=lt_of_some hb2.at_;simpa using this
     obtain ⟨B,hB,hBm⟩:∃ B,p[bi]?=some B∧B.m=(b,false):=by
      have:=hb2.at_
      rw [List.getElem?_map] at this
      cases hB:p[bi]? with
      | none=>rw [hB] at this;cases this
      | some B=>rw [hB] at this;exact ⟨B,rfl,by simpa using this⟩
     obtain ⟨⟨f1,f2,f3⟩,b1,b2⟩:=L.at_ B (by rw [e];exact List.mem_append.2 (.inl (List.mem_of_getElem? hB)))
     have hatB:(Q.map Rw.ptr)[0+bi]?=some (.ptr B.r 0 0 0):=by rw [e,Nat.zero_add,List.getElem?_map,List.getElem?_append_left hbl,hB];rfl
     have hBa:(encIs B.a).length=B.a.length:=by simp
     have hBv:=nthI (a:=B.a) (c:=c) (by omega)
     have hBv2:atR b c=atR B.a c:=by
      have:b=B.a++B.b:=congrArg Prod.fst hBm.symm
      rw [this];exact atR_app (by omega)
     have hBs:=List.all_eq_true.1 (hsm B (by rw [e];exact List.mem_append.2 (.inl (List.mem_of_getElem? hB)))).1
     have hBb:=of_decide_eq_true (hBs (atR B.a c) (List.mem_of_getElem? (i:=c) (by simp [atR,List.getD,List.getElem?_eq_getElem (show c<B.a.length by omega)])))
     have habsB:=abs_fun (atR B.a c) (by omega)
     (repeat' (first | (refine Rn.go ?_;conv=>whnf) | refine .mk ?_ | refine .tt ?_ | refine .ff ?_ | refine .m2 ?_ | refine .m3 ?_ | refine .mk (fun hc=>?_) fun hc=>?_ | refine .lp fun v H lp=>?_ | fail))
     refine .p habs ?_
     (repeat' (first | (refine Rn.go ?_;conv=>whnf) | refine .mk ?_ | refine .tt ?_ | refine .ff ?_ | refine .m2 ?_ | refine .m3 ?_ | refine .mk (fun hc=>?_) fun hc=>?_ | refine .lp fun v H lp=>?_ | fail))
     refine .p habsB ?_
     (repeat' (first | (refine Rn.go ?_;conv=>whnf) | refine .mk ?_ | refine .tt ?_ | refine .ff ?_ | refine .m2 ?_ | refine .m3 ?_ | refine .mk (fun hc=>?_) fun hc=>?_ | refine .lp fun v H lp=>?_ | fail))
     ·have hbn:=hb.better hb2 hyes (by rw [hav2,hBv2];omega)
      rw [List.length_map] at hbn
      exact .nx ⟨rfl,(p.length:Int),count+1,by rw [hm,hRm];exact hbn,rfl⟩
     ·exact .nx ⟨rfl,(bi:Int),count+1,by rw [hm,hRm];exact hb.worse hb2 hyes (by rw [hav2,hBv2];omega),rfl⟩
  ·rw [hu] at e1
   have hno:cand c R.m=false:=by simp [cand,Rw.m,hu]
   (repeat' (first | (refine Rn.go ?_;conv=>whnf) | refine .mk ?_ | refine .tt ?_ | refine .ff ?_ | refine .m2 ?_ | refine .m3 ?_ | refine .mk (fun hc=>?_) fun hc=>?_ | refine .lp fun v H lp=>?_ | fail))
   exact .nx ⟨rfl,best,count,by rw [hm];exact hb.skip hno,rfl⟩
 ·rintro _ h ρ ⟨rfl,best,count,hb,rfl⟩
  have hcl:cnt c (Q.map Rw.m)≤Q.length:=by unfold cnt;exact Nat.le_trans (List.length_filter_le _ _) (by simp)
  have hcq:=hb.1
  by_cases h0:cnt c (Q.map Rw.m)=0
  ·rw [h0] at hcq
   subst hcq
   (repeat' (first | (refine Rn.go ?_;conv=>whnf) | refine .mk ?_ | refine .tt ?_ | refine .ff ?_ | refine .m2 ?_ | refine .m3 ?_ | refine .mk (fun hc=>?_) fun hc=>?_ | refine .lp fun v H lp=>?_ | fail))
   cases hcol with
   | zero _=>exact ⟨rfl,hlen,Q,P,false,L,hids,rfl,rfl,rfl,hsm,rfl⟩
   | one _ h1=>omega
   | large _ h1 _=>omega
   | step _ h1 _ _=>omega
  ·rcases hb.2 with ⟨h1,_⟩ | ⟨bi,b,rfl,hbest⟩
   ·exact absurd h1 h0
   have hbl:bi<Q.length:=by have:=lt_of_some hbest.at_;simpa using this
   obtain ⟨B,hB,hBm⟩:∃ B,Q[bi]?=some B∧B.m=(b,false):=by
    have:=hbest.at_
    rw [List.getElem?_map] at this
    cases hB:Q[bi]? with
    | none=>rw [hB] at this;cases this
    | some B=>rw [hB] at this;exact ⟨B,rfl,by simpa using this⟩
   by_cases hc1:cnt c (Q.map Rw.m)=1
   ·rw [hc1] at hcq
    subst hcq
    obtain ⟨A1,A2,hQ,hA1⟩:∃ A1 A2,Q=A1++B::A2∧A1.length=bi:=⟨Q.take bi,Q.drop (bi+1),by
     obtain ⟨h1,rfl⟩:=List.getElem?_eq_some_iff.1 hB
     rw [List.getElem_cons_drop,List.take_append_drop],by simp;omega⟩
    have hBin:B∈Q:=List.mem_of_getElem? hB
    obtain ⟨⟨f1,f2,f3⟩,b1,b2⟩:=L.at_ B hBin
    have epv:=L.pivs.2
    have hPl:(encIs P).length=P.length:=by simp
    have hPat:(encIs P)[0+c]?=some (.int .i64 (atR P c)):=nthI (by omega)
    have hatB:(Q.map Rw.ptr)[0+bi]?=some (.ptr B.r 0 0 0):=by rw [Nat.zero_add,List.getElem?_map,hB];rfl
    have hset:(encIs P).set (0+c) (.int .i64 bi)=encIs (P.set c bi):=by rw [Nat.zero_add,encIs,encIs,List.map_set]
    have kpi:=lt_of_some epv
    have L2:=L.pset (P':=P.set c bi) (by simp) kpi
    have L2x:=L2.ex
    have L2r:=L2.rows.2
    obtain ⟨⟨g1,g2,g3⟩,_,_⟩:=L2.at_ B hBin
    have hu:B.u=false:=congrArg Prod.snd hBm
    rw [hu] at g1
    (repeat' (first | (refine Rn.go ?_;conv=>whnf) | refine .mk ?_ | refine .tt ?_ | refine .ff ?_ | refine .m2 ?_ | refine .m3 ?_ | refine .mk (fun hc=>?_) fun hc=>?_ | refine .lp fun v H lp=>?_ | fail))
    rw [hset]
    (repeat' (first | (refine Rn.go ?_;conv=>whnf) | refine .mk ?_ | refine .tt ?_ | refine .ff ?_ | refine .m2 ?_ | refine .m3 ?_ | refine .mk (fun hc=>?_) fun hc=>?_ | refine .lp fun v H lp=>?_ | fail))
    have L3:Lay ((h.set pi ⟨.m,pe,1,encIs (P.set c bi)⟩).set B.r ⟨.m,0,3,[.agg [.mref B.p 0 0 B.a.length,.mref B.c 0 0 B.b.length,.bool true]]⟩) x cv (.mref rr re 0 Rs.length) (.mref pi pe 0 P.length) n k (A1++{B with u:=true }::A2) (P.set c bi) false:=by
     rw [hQ] at L2
     exact L2.use
    have hfin:(A1++{B with u:=true }::A2).map Rw.m=(Q.map Rw.m).set bi (b,true):=by
     rw [hQ,← hA1,List.map_append,List.map_append,List.map_cons,List.map_cons,List.set_append_right _ _ (by simp)]
     have:b=B.a++B.b:=congrArg Prod.fst hBm.symm
     simp [Rw.m,this]
    have hidf:(A1++{B with u:=true }::A2).map Rw.ids=Rs.map Rw.ids:=by rw [← hids,hQ];simp [Rw.ids]
    have hsf:∀ R∈A1++{B with u:=true }::A2,small R.a=true∧small R.b=true:=by
     intro R hR
     have hB2:=hsm B hBin
     rw [hQ] at hsm
     simp only [List.mem_append,List.mem_cons] at hR hsm
     rcases hR with h | rfl | h
     ·exact hsm R (.inl h)
     ·exact hB2
     ·exact hsm R (.inr (.inr h))
    cases hcol with
    | zero h1=>omega
    | one hb1 _=>
     obtain ⟨rfl,rfl⟩:=hbest.uniq hb1
     exact ⟨rfl,(hlen.set (by simp [Lay.all,vid]) _).set (ids_of hids hBin (by simp [Rw.ids])) _,_,_,false,L3,hidf,by simp,rfl,hfin,hsf,by rw [if_neg (by omega)]⟩
    | large _ h1 _=>omega
    | step _ h1 _ _=>omega
   ·have hc2:2≤cnt c (Q.map Rw.m):=by omega
    (repeat' (first | (refine Rn.go ?_;conv=>whnf) | refine .mk ?_ | refine .tt ?_ | refine .ff ?_ | refine .m2 ?_ | refine .m3 ?_ | refine .mk (fun hc=>?_) fun hc=>?_ | refine .lp fun v H lp=>?_ | fail))
    refine LpX.zipN T6 Q (fun p q L' h'=>∃ Q' lg2,L'=[(0,.ptr x 0 0 0),(1,.int .i64 c),(4,.int .i64 bi),(93,.mref rr re 0 Rs.length),(94,.int .i64 Rs.length),(95,.int .i64 p.length)]∧Frm h h' (Lay.all x (.mref rr re 0 Rs.length) (.mref pi pe 0 P.length) Rs)∧Lay h' x cv (.mref rr re 0 Rs.length) (.mref pi pe 0 P.length) n k (Q'++q) P lg2∧Q'.map Rw.ids=p.map Rw.ids ∧
     (lg2=false→Q'.map Rw.m=(p.map Rw.m).mapIdx (fun i R=>if i=bi then R else redR c b R)∧∀ R∈Q',small R.a=true∧small R.b=true)∧(lg2=true→allS ((p.map Rw.m).mapIdx (fun i R=>if i=bi then R else redR c b R))=false)) (.nx ⟨[],false,rfl,Frm.refl _ _,L,rfl,fun _=>⟨rfl,fun R hR=>by cases hR⟩,fun hh=>by cases hh⟩) ?_ ?_
    ·rintro p R q _ h' ρ kk e ⟨Q',lg2,rfl,hlen2,L',hid',hf',ht'⟩
     have hl2:=congrArg List.length e
     simp only [List.length_append,List.length_cons] at hl2
     have hQ'l:Q'.length=p.length:=by simpa using congrArg List.length hid'
     obtain ⟨⟨e1,e2,e3⟩,a1,a2⟩:=L'.at_ R (by simp)
     have ex':=L'.ex
     have er':=L'.rows.2
     have hR':=L'.hr
     have hpl':((Q'++R::q).map Rw.ptr).length=Rs.length:=by simp;omega
     have hat:((Q'++R::q).map Rw.ptr)[0+p.length]?=some (.ptr R.r 0 0 0):=by rw [← hQ'l,Nat.zero_add];simp [Rw.ptr]
     have hea:(encIs R.a).length=R.a.length:=by simp
     have hav:=nthI (a:=R.a) (c:=c) (by omega)
     have hav2:atR R.m.1 c=atR R.a c:=atR_app (by omega)
     have hmi:((p++[R]).map Rw.m).mapIdx (fun i R=>if i=bi then R else redR c b R)=(p.map Rw.m).mapIdx (fun i R=>if i=bi then R else redR c b R)++[if p.length=bi then R.m else redR c b R.m]:=by
      rw [List.map_append,List.map_cons,List.map_nil,List.mapIdx_append];simp
     have hsR:=hsm R (by rw [e];simp)
     have skp:((if p.length=bi then R.m else redR c b R.m)=R.m∨lg2=true)→Frm h h' (Lay.all x (.mref rr re 0 Rs.length) (.mref pi pe 0 P.length) Rs)∧Lay h' x cv (.mref rr re 0 Rs.length) (.mref pi pe 0 P.length) n k ((Q'++[R])++q) P lg2∧(Q'++[R]).map Rw.ids=(p++[R]).map Rw.ids ∧
       (lg2=false→(Q'++[R]).map Rw.m=((p++[R]).map Rw.m).mapIdx (fun i R=>if i=bi then R else redR c b R)∧∀ R'∈Q'++[R],small R'.a=true∧small R'.b=true)∧(lg2=true→allS (((p++[R]).map Rw.m).mapIdx (fun i R=>if i=bi then R else redR c b R))=false):=by
      intro ho
      refine ⟨hlen2,by simpa using L',by simp [hid'],fun hl=>?_,fun hl=>?_⟩
      ·rcases ho with ho | ho
       ·obtain ⟨g1,g2⟩:=hf' hl
        refine ⟨by rw [hmi,ho,List.map_append,g1];rfl,fun R' hR'=>?_⟩
        rcases List.mem_append.1 hR' with hR' | hR'
        ·exact g2 R' hR'
        ·obtain rfl:=List.mem_singleton.1 hR';exact hsR
       ·rw [hl] at ho;cases ho
      ·rw [hmi]
       have:=ht' hl
       unfold allS at this ⊢
       rw [List.all_append,this];rfl
     by_cases hib:p.length=bi
     ·obtain ⟨s1,s2,s3,s4,s5⟩:=skp (.inl (if_pos hib))
      have hib2:(p.length:Int)=bi:=by rw [hib]
      (repeat' (first | (refine Rn.go ?_;conv=>whnf) | refine .mk ?_ | refine .tt ?_ | refine .ff ?_ | refine .m2 ?_ | refine .m3 ?_ | refine .mk (fun hc=>?_) fun hc=>?_ | refine .lp fun v H lp=>?_ | fail))
      exact .nx ⟨Q'++[R],lg2,rfl,s1,s2,s3,s4,s5⟩
     have hib2:¬ (p.length:Int)=bi:=by omega
     cases hu:R.u
     rotate_left
     ·rw [hu] at e1
      obtain ⟨s1,s2,s3,s4,s5⟩:=skp (.inl (by rw [if_neg hib,redR,if_neg (by simp [cand,Rw.m,hu])]))
      (repeat' (first | (refine Rn.go ?_;conv=>whnf) | refine .mk ?_ | refine .tt ?_ | refine .ff ?_ | refine .m2 ?_ | refine .m3 ?_ | refine .mk (fun hc=>?_) fun hc=>?_ | refine .lp fun v H lp=>?_ | fail))
      exact .nx ⟨Q'++[R],lg2,rfl,s1,s2,s3,s4,s5⟩
     rw [hu] at e1
     by_cases hz:atR R.a c=0
     ·obtain ⟨s1,s2,s3,s4,s5⟩:=skp (.inl (by rw [if_neg hib,redR,if_neg (by simp [cand,hav2,hz])]))
      (repeat' (first | (refine Rn.go ?_;conv=>whnf) | refine .mk ?_ | refine .tt ?_ | refine .ff ?_ | refine .m2 ?_ | refine .m3 ?_ | refine .mk (fun hc=>?_) fun hc=>?_ | refine .lp fun v H lp=>?_ | fail))
      exact .nx ⟨Q'++[R],lg2,rfl,s1,s2,s3,s4,s5⟩
     cases lg2
     rotate_left
     ·obtain ⟨s1,s2,s3,s4,s5⟩:=skp (.inr rfl)
      (repeat' (first | (refine Rn.go ?_;conv=>whnf) | refine .mk ?_ | refine .tt ?_ | refine .ff ?_ | refine .m2 ?_ | refine .m3 ?_ | refine .mk (fun hc=>?_) fun hc=>?_ | refine .lp fun v H lp=>?_ | fail))
      exact .nx ⟨Q'++[R],true,rfl,s1,s2,s3,s4,s5⟩
     obtain ⟨g1,g2⟩:=hf' rfl
     obtain ⟨B',hB',hB'm⟩:∃ B',(Q'++R::q)[bi]?=some B'∧B'.m=(b,false):=by
      have:((Q'++R::q).map Rw.m)[bi]?=some (b,false):=by
       rw [List.map_append,g1]
       by_cases hlt:bi<p.length
       ·rw [List.getElem?_append_left (by simpa using hlt),List.getElem?_mapIdx]
        have h1:=hbest.at_
        rw [e,List.map_append,List.getElem?_append_left (by simpa using hlt)] at h1
        rw [h1];simp
       ·have h1:=hbest.at_
        rw [e,List.map_append,List.getElem?_append_right (by simp;omega)] at h1
        rw [List.getElem?_append_right (by simp;omega)]
        simpa using h1
      rw [List.getElem?_map] at this
      cases hB2:(Q'++R::q)[bi]? with
      | none=>rw [hB2] at this;cases this
      | some B2=>rw [hB2] at this;exact ⟨B2,rfl,by simpa using this⟩
     have hbne:B'∈Q'++q:=by
      have hm:=List.mem_of_getElem? hB'
      simp only [List.mem_append,List.mem_cons] at hm ⊢
      rcases hm with h | rfl | h
      ·exact .inl h
      ·-- the row at bi is another one
       exfalso
       rcases Nat.lt_or_ge bi Q'.length with h1 | h1
       ·rw [List.getElem?_append_left h1] at hB'
        obtain ⟨_,_,a3⟩:=L'.apart
        exact a3 B' (by simp [List.mem_of_getElem? hB']) B'.r (by simp [Rw.ids]) (by simp [Rw.ids])
       ·have h2:bi≠Q'.length:=by omega
        rw [List.getElem?_append_right (by omega)] at hB'
        have h3:(B'::q)[bi - Q'.length]?=q[bi - Q'.length - 1]?:=by
         rw [show bi - Q'.length=(bi - Q'.length - 1)+1 by omega];simp
        rw [h3] at hB'
        obtain ⟨_,_,a3⟩:=L'.apart
        exact a3 B' (by simp [List.mem_of_getElem? hB']) B'.r (by simp [Rw.ids]) (by simp [Rw.ids])
      ·exact .inr h
     obtain ⟨⟨f1,f2,f3⟩,b1,b2⟩:=L'.at_ B' (List.mem_of_getElem? hB')
     have hsB:small B'.a=true∧small B'.b=true:=by
      rcases List.mem_append.1 hbne with h | h
      ·exact g2 B' h
      ·exact hsm B' (by rw [e];simp [h])
     have hbeq:b=B'.a++B'.b:=congrArg Prod.fst hB'm.symm
     have hBv2:atR b c=atR B'.a c:=by rw [hbeq];exact atR_app (by omega)
     have hBz:atR B'.a c≠0:=by rw [← hBv2];exact hbest.nz
     obtain ⟨ap1,ap2,ap3⟩:=L'.apart
     have apB:B'.ids.Nodup∧∀ i∈B'.ids,i≠x:=by
      obtain ⟨X1,X2,hX⟩:=List.append_of_mem (List.mem_of_getElem? hB')
      have L'':=L'
      rw [hX] at L''
      obtain ⟨y1,y2,_⟩:=L''.apart
      exact ⟨y1,fun i hi=>(y2 i hi).1⟩
     have hnd:[x,R.p,R.c,B'.p,B'.c].Nodup:=by
      have y1:=apB.1
      have z1:=(ap2 R.p (by simp [Rw.ids])).1
      have z2:=(ap2 R.c (by simp [Rw.ids])).1
      have z3:=apB.2 B'.p (by simp [Rw.ids])
      have z4:=apB.2 B'.c (by simp [Rw.ids])
      have z5:=ap3 B' hbne B'.p (by simp [Rw.ids])
      have z6:=ap3 B' hbne B'.c (by simp [Rw.ids])
      simp only [Rw.ids,List.nodup_cons,List.mem_cons,List.not_mem_nil,or_false,not_or,not_false_eq_true,and_true,List.nodup_nil] at y1 ap1 z5 z6 ⊢
      exact ⟨⟨fun h=>z1 h.symm,fun h=>z2 h.symm,fun h=>z3 h.symm,fun h=>z4 h.symm⟩,⟨ap1.2,fun h=>z5.2.1 h.symm,fun h=>z6.2.1 h.symm⟩,⟨fun h=>z5.2.2 h.symm,fun h=>z6.2.2 h.symm⟩,y1.2⟩
     have hvs:=of_decide_eq_true (List.all_eq_true.1 hsR.1 (atR R.a c) (List.mem_of_getElem? (i:=c) (by simp [atR,List.getD,List.getElem?_eq_getElem (show c<R.a.length by omega)])))
     have hqs:smallI ((atR R.a c).tdiv (atR B'.a c))=true:=by
      have:((atR R.a c).tdiv (atR B'.a c)).natAbs≤(atR R.a c).natAbs:=by rw [Int.natAbs_tdiv];exact Nat.div_le_self _ _
      unfold smallI;rw [decide_eq_true_eq];omega
     have hqb:=of_decide_eq_true hqs
     have hatB:((Q'++R::q).map Rw.ptr)[0+bi]?=some (.ptr B'.r 0 0 0):=by rw [Nat.zero_add,List.getElem?_map,hB'];rfl
     have hBa:(encIs B'.a).length=B'.a.length:=by simp
     have hBv:=nthI (a:=B'.a) (c:=c) (by omega)
     have hbl2:bi<Rs.length:=by omega
     have hsub:=subt_ev h' hR' x R.r R.p R.c B'.r B'.p B'.c B'.u false R.a R.b B'.a B'.b cv (.mref rr re 0 Rs.length) (.mref pi pe 0 P.length) ((atR R.a c).tdiv (atR B'.a c)) ex' e1 e2 e3 f1 f2 f3 (by omega) (by omega) (by omega) (by omega) hnd hsR.1 hsR.2 hsB.1 hsB.2 hqs
     have hred:redR c b R.m=(subL R.a B'.a ((atR R.a c).tdiv (atR B'.a c))++subL R.b B'.b ((atR R.a c).tdiv (atR B'.a c)),false):=by
      rw [redR,if_pos (by unfold cand;rw [hav2];simp [hz,show R.m.2=false from hu]),hav2,hBv2,hbeq]
      simp only [Rw.m,hu]
      rw [subL_app (by omega)]
     have fin2:∀ h3 K:AHeap,(HR h3∧(∀ j,j<h'.length→j≠x→j≠R.p→j≠R.c→h3[j]?=h'[j]?) ∧
       ∃ A1' A2' lg,lg = !(small (subL R.a B'.a ((atR R.a c).tdiv (atR B'.a c))) && small (subL R.b B'.b ((atR R.a c).tdiv (atR B'.a c))))∧A1'.length=R.a.length∧A2'.length=R.b.length∧(lg=false→A1'=subL R.a B'.a ((atR R.a c).tdiv (atR B'.a c))∧A2'=subL R.b B'.b ((atR R.a c).tdiv (atR B'.a c))) ∧
        h3[x]?=some ⟨.m,0,4,[.agg [cv,.mref rr re 0 Rs.length,.mref pi pe 0 P.length,.bool lg]]⟩∧h3[R.p]?=some ⟨.m,0,1,encIs A1'⟩∧h3[R.c]?=some ⟨.m,0,1,encIs A2'⟩)→HR K→h'.length≤K.length→(∀ j,j<h'.length→K[j]?=h3[j]?) →
       ∃ (R':Rw) (lg:Bool),Frm h K (Lay.all x (.mref rr re 0 Rs.length) (.mref pi pe 0 P.length) Rs)∧Lay K x cv (.mref rr re 0 Rs.length) (.mref pi pe 0 P.length) n k ((Q'++[R'])++q) P lg∧(Q'++[R']).map Rw.ids=(p++[R]).map Rw.ids ∧
       (lg=false→(Q'++[R']).map Rw.m=((p++[R]).map Rw.m).mapIdx (fun i R=>if i=bi then R else redR c b R)∧∀ R''∈Q'++[R'],small R''.a=true∧small R''.b=true)∧(lg=true→allS (((p++[R]).map Rw.m).mapIdx (fun i R=>if i=bi then R else redR c b R))=false):=by
      rintro h3 K ⟨_,t1,A1',A2',lg,t2,t3,t4,t5,t6,t7,t8⟩ hK hl agr
      have kx':=lt_of_some ex'
      have kp':=lt_of_some e2
      have kc':=lt_of_some e3
      have LL:=L'.sub (lg':=lg) (A':=A1') (B':=A2') hK (fun j hj h1 h2 h3=>by rw [agr j hj];exact t1 j hj h1 h2 h3) t3 t4 (by rw [agr x kx'];exact t6) (by rw [agr _ kp'];exact t7) (by rw [agr _ kc'];exact t8)
      refine ⟨{R with a:=A1',b:=A2' },lg,hlen2.trans ⟨hl,fun j h1 h2=>by
       have hRin:R∈Q:=by rw [e];simp
       rw [agr j h1]
       exact t1 j h1 (fun hh=>h2 (by simp [Lay.all,hh])) (fun hh=>h2 (ids_of hids hRin (by simp [Rw.ids,hh]))) (fun hh=>h2 (ids_of hids hRin (by simp [Rw.ids,hh])))⟩,by simpa using LL,by simp [hid',Rw.ids],fun hlg=>?_,fun hlg=>?_⟩
      ·subst hlg
       obtain ⟨u1,u2⟩:=t5 rfl
       subst u1 u2
       have t2':small (subL R.a B'.a ((atR R.a c).tdiv (atR B'.a c)))=true∧small (subL R.b B'.b ((atR R.a c).tdiv (atR B'.a c)))=true:=by simpa using t2
       refine ⟨by rw [hmi,if_neg hib,hred,List.map_append,g1];simp [Rw.m,hu],fun R'' hR''=>?_⟩
       rcases List.mem_append.1 hR'' with h | h
       ·exact g2 R'' h
       ·obtain rfl:=List.mem_singleton.1 h;exact t2'
      ·rw [hmi,if_neg hib,hred]
       rw [hlg] at t2
       have t2':(small (subL R.a B'.a ((atR R.a c).tdiv (atR B'.a c))) && small (subL R.b B'.b ((atR R.a c).tdiv (atR B'.a c))))=false:=by
        cases hx:(small (subL R.a B'.a ((atR R.a c).tdiv (atR B'.a c))) && small (subL R.b B'.b ((atR R.a c).tdiv (atR B'.a c))))
        ·rfl
        ·rw [hx] at t2;cases t2
       unfold allS
       rw [List.all_append]
       simp only [List.all_cons,List.all_nil,Bool.and_true,small_app,t2',Bool.and_false]
     (repeat' (first | (refine Rn.go ?_;conv=>whnf) | refine .mk ?_ | refine .tt ?_ | refine .ff ?_ | refine .m2 ?_ | refine .m3 ?_ | refine .mk (fun hc=>?_) fun hc=>?_ | refine .lp fun v H lp=>?_ | fail))
     refine .sm hsub (fun r h3 hr=>⟨hr.2.2.1,hr.2.1⟩) (fun r h3 hr=>?_) (fun r h3 hr hR3=>?_)
     ·obtain ⟨rfl,r1,r2,r3,r4⟩:=hr
      obtain ⟨R',lg,s1,s2,s3,s4,s5⟩:=fin2 h3 h3 ⟨r2,r3,r4⟩ r2 r1 (fun _ _=>rfl)
      (repeat' (first | (refine Rn.go ?_;conv=>whnf) | refine .mk ?_ | refine .tt ?_ | refine .ff ?_ | refine .m2 ?_ | refine .m3 ?_ | refine .mk (fun hc=>?_) fun hc=>?_ | refine .lp fun v H lp=>?_ | fail))
      exact .nx ⟨Q'++[R'],lg,rfl,s1,s2,s3,s4,s5⟩
     ·obtain ⟨rfl,r1,r2,r3,r4⟩:=hr
      obtain ⟨R',lg,s1,s2,s3,s4,s5⟩:=fin2 h3 (h3.take h'.length) ⟨r2,r3,r4⟩ hR3 (by simp;omega) (fun j hj=>by rw [List.getElem?_take,if_pos hj])
      (repeat' (first | (refine Rn.go ?_;conv=>whnf) | refine .mk ?_ | refine .tt ?_ | refine .ff ?_ | refine .m2 ?_ | refine .m3 ?_ | refine .mk (fun hc=>?_) fun hc=>?_ | refine .lp fun v H lp=>?_ | fail))
      exact .nx ⟨Q'++[R'],lg,rfl,s1,s2,s3,s4,s5⟩
    ·rintro _ h' ρ ⟨Q',lg2,rfl,hlen2,L',hid',hf',ht'⟩
     rw [List.append_nil] at L'
     have hres:stepS c b bi (Q.map Rw.m)=(Q.map Rw.m).mapIdx (fun i R=>if i=bi then R else redR c b R):=rfl
     cases lg2
     ·obtain ⟨g1,g2⟩:=hf' rfl
      have hall:allS (stepS c b bi (Q.map Rw.m))=true:=by
       rw [hres,← g1,allS,List.all_map,List.all_eq_true]
       intro R hR
       have:=g2 R hR
       simp only [Function.comp,Rw.m,small_app,this.1,this.2,Bool.and_self]
      (repeat' (first | (refine Rn.go ?_;conv=>whnf) | refine .mk ?_ | refine .tt ?_ | refine .ff ?_ | refine .m2 ?_ | refine .m3 ?_ | refine .mk (fun hc=>?_) fun hc=>?_ | refine .lp fun v H lp=>?_ | fail))
      cases hcol with
      | zero h1=>omega
      | one _ h1=>omega
      | large hb1 _ h2=>obtain ⟨rfl,rfl⟩:=hbest.uniq hb1;rw [hall] at h2;cases h2
      | step hb1 _ _ hn2=>
       obtain ⟨rfl,rfl⟩:=hbest.uniq hb1
       exact .nx ⟨_,Nat.lt_succ_self _,rfl,hlen.trans hlen2,Q',by rw [hid',hids],.inl ⟨_,rfl,by rw [g1];exact hn2,L',g2⟩⟩
     ·have hall:=ht' rfl
      rw [← hres] at hall
      (repeat' (first | (refine Rn.go ?_;conv=>whnf) | refine .mk ?_ | refine .tt ?_ | refine .ff ?_ | refine .m2 ?_ | refine .m3 ?_ | refine .mk (fun hc=>?_) fun hc=>?_ | refine .lp fun v H lp=>?_ | fail))
      cases hcol with
      | zero h1=>omega
      | one _ h1=>omega
      | large hb1 _ h2=>exact .nx ⟨0,Nat.succ_pos _,rfl,hlen.trans hlen2,Q',by rw [hid',hids],.inr ⟨rfl,rfl,L'⟩⟩
      | step hb1 _ h2 _=>obtain ⟨rfl,rfl⟩:=hbest.uniq hb1;rw [hall] at h2;cases h2
end Go.Pm
end
