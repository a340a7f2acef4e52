/-
  A part of the library Pm and its contracts (joined by program): PmSy PmSr PmDd PmCol PmDm2 PmEl0 PmElM PmEl1 PmEr1 PmEl2 PmEr2 PmEr3 PmCl PmVs. Conditions: none.
-/
import Derived.Test.YtimogkojklpdnaaGreatDoorPzAH
import Derived.Test.YtimogkojklpdnaaGreatDoorPzAJ
import Derived.Test.YtimogkojklpdnaaGreatDoorPzAD
import Derived.Test.YtimogkojklpdnaaGreatDoorPzAI
set_option linter.unusedVariables false
set_option linter.unusedSimpArgs false
section
set_option maxRecDepth 4000
namespace Go.Pm.Nine
open Go.Proofs
end Go.Pm.Nine
namespace Go.Pm
theorem resC_n {C:Cfg} {T:Tab C.P} {L:Al} {h:AHeap} {a b n:Nat} {t:TypeId} {cs vs:List PV} {sz:Nat} {rs:List ResultVar} (ha:lk L a=some (.ptr b 0 0 0)) (hb:h[b]?=some ⟨.m,0,n,[.agg cs]⟩) (hs:T.ts t=some (sz+1)) (ht:T.ta t=some true) (hl:cs.length=sz+1) (hr:resC T L h rs=some vs):resC T L h (.cell a t::rs)=some (.agg cs::vs):=by
 have hp:pcells h (.ptr b 0 0 0)=some cs:=(pcOf hb).trans rfl
 have hld:loadT T h t (.ptr b 0 0 0)=some (.agg cs):=by
  unfold loadT
  rw [hs,ht,hp]
  have:Nat.ble (sz+1) cs.length=true:=Nat.ble_eq_true_of_le (by omega)
  simp only [this,if_true]
  rw [List.take_of_length_le (by omega)]
 simp only [resC,ha,hld,hr]
end Go.Pm
namespace Go.Pm.Nine
open Go.Proofs
def encSys:List PV:=syL.map encSy
theorem symbols_fun:Fun C 156 [] (.snap false encSys):=Fun.of_run (n:=100) (by kernel_rfl)
theorem rsymbols_fun:Fun C 218 [] (.snap false encSys):=Fun.of_run (n:=100) (by kernel_rfl)
theorem at_encSys {p q:List Sy} {y:Sy} (e:syL=p++y::q):encSys[p.length]?=some (.agg [.str y.n,.int .i64 y.a,.int .i64 y.b,.int .i64 y.k]):=by rw [encSys,e];simp [encSy]
@[simp] theorem encSys_len:encSys.length=21:=rfl
theorem syL_len:syL.length=21:=rfl
@[simp] theorem encSys_vals:isVals encSys=true:=rfl
theorem symOf_find {p q:List Sy} {y:Sy} {s:ByteArray} (e:syL=p++y::q) (hp:∀ z∈p,z.n.toList≠s.toList) (h:y.n.toList=s.toList):symOf s=y:=by
 unfold symOf
 rw [e,List.find?_append,List.find?_eq_none.2 (fun z hz=>by simpa using hp z hz)]
 simp [h]
theorem symOf_eq {s t:ByteArray} (h:s.toList=t.toList):symOf s=symOf t:=by unfold symOf;rw [h]
theorem isN_f {s n:ByteArray} (h:¬ s.toList=n.toList):isN s n=false:=by unfold isN;simpa using h
theorem isN_t {s n:ByteArray} (h:s.toList=n.toList):isN s n=true:=by unfold isN;simpa using h
theorem symOf_new:(symOf nNew).a=1:=by kernel_rfl
theorem symOf_none {s:ByteArray} (hp:∀ z∈syL,z.n.toList≠s.toList):symOf s=sy0:=by
 unfold symOf
 rw [List.find?_eq_none.2 (fun z hz=>by simpa using hp z hz)]
 rfl
attribute [local irreducible] thenQ blockQ loopQ bodyQ Ev EvOps CallEv FnEv EvD encSys
theorem symbol9_fun (s:ByteArray):Fun C 111 [.str s] (encSy (symOf s)):=by
 have hs:=symbols_fun
 refine Fun.x T6 Tryz.func111 rfl ?_
 (repeat' (first | (refine Rn.go ?_;conv=>whnf) | refine .mk ?_ | refine .tt ?_ | refine .ff ?_ | refine .m2 ?_ | refine .m3 ?_ | refine .mk (fun hc=>?_) fun hc=>?_ | refine .lp fun v H lp=>?_ | fail))
 refine .p hs ?_
 (repeat' (first | (refine Rn.go ?_;conv=>whnf) | refine .mk ?_ | refine .tt ?_ | refine .ff ?_ | refine .m2 ?_ | refine .m3 ?_ | refine .mk (fun hc=>?_) fun hc=>?_ | refine .lp fun v H lp=>?_ | fail))
 refine LpX.zip T6 syL (fun p q L H=>L=[(0,.str s),(2,.ptr 0 0 0 0),(5,.snap false encSys),(6,.int .i64 21),(7,.int .i64 p.length)]∧HV H∧H[0]?=some ⟨.m,0,4,[.agg [.str ByteArray.empty,.int .i64 0,.int .i64 0,.int .i64 0]]⟩∧∀ z∈p,z.n.toList≠s.toList) (.nx ⟨rfl,HV.one rfl,rfl,fun z hz=>by cases hz⟩) ?_ ?_
 ·rintro p y q _ H ρ e ⟨rfl,hH,h0,hp⟩
  have hat:=at_encSys e
  have hl2:=congrArg List.length e
  rw [syL_len] at hl2
  simp only [List.length_append,List.length_cons] at hl2
  (repeat' (first | (refine Rn.go ?_;conv=>whnf) | refine .mk ?_ | refine .tt ?_ | refine .ff ?_ | refine .m2 ?_ | refine .m3 ?_ | refine .mk (fun hc=>?_) fun hc=>?_ | refine .lp fun v H lp=>?_ | fail))
  ·refine .mk ?_ (resC_n (T:=T6) rfl (List.getElem?_set_self (by simp)) rfl rfl rfl rfl)
   (repeat' (first | (refine Rn.go ?_;conv=>whnf) | refine .mk ?_ | refine .tt ?_ | refine .ff ?_ | refine .m2 ?_ | refine .m3 ?_ | refine .mk (fun hc=>?_) fun hc=>?_ | refine .lp fun v H lp=>?_ | fail))
   exact ⟨_,rfl,by rw [symOf_find e hp hc];simp [tupOf,nrm,nrms,encSy]⟩
  ·exact .nx ⟨rfl,hH.app (HV.one (by simp)),by rw [List.getElem?_append_left (lt_of_some h0)];exact h0,fun z hz=>by rcases List.mem_append.1 hz with h | h;exact hp z h;simp at h;rw [h];exact hc⟩
 ·rintro _ H ρ ⟨rfl,hH,h0,hp⟩
  rw [syL_len]
  (repeat' (first | (refine Rn.go ?_;conv=>whnf) | refine .mk ?_ | refine .tt ?_ | refine .ff ?_ | refine .m2 ?_ | refine .m3 ?_ | refine .mk (fun hc=>?_) fun hc=>?_ | refine .lp fun v H lp=>?_ | fail))
  refine .mk ?_ (resC_n (T:=T6) rfl (List.getElem?_set_self (lt_of_some h0)) rfl rfl rfl rfl)
  (repeat' (first | (refine Rn.go ?_;conv=>whnf) | refine .mk ?_ | refine .tt ?_ | refine .ff ?_ | refine .m2 ?_ | refine .m3 ?_ | refine .mk (fun hc=>?_) fun hc=>?_ | refine .lp fun v H lp=>?_ | fail))
  exact ⟨_,rfl,by rw [symOf_none hp];simp [tupOf,nrm,nrms,encSy,sy0]⟩
theorem encSy_x (y:Sy):encSy y=.agg [.str y.n,.int .i64 y.a,.int .i64 y.b,.int .i64 y.k]:=rfl
theorem chks_at {l p q:List Tm} {u:Tm} (e:l=p++u::q) (hp:∀ v∈p,chk v=0) (hu:chk u≠0):chks l=chk u:=by
 subst e
 induction p with
 | nil=>simp only [List.nil_append,chks];rw [if_pos hu]
 | cons v p ih=>
  simp only [List.cons_append,chks]
  rw [if_neg (by rw [hp v (by simp)];simp),ih (fun w hw=>hp w (by simp [hw]))]
theorem chks_zero:∀ {l:List Tm},(∀ v∈l,chk v=0)→chks l=0
 | [],_=>rfl
 | v::l,h=>by rw [chks,if_neg (by rw [h v (by simp)];simp),chks_zero fun w hw=>h w (by simp [hw])]
theorem HV.two' {o p:AObj} (h1:o.mu≠.x∧isVals o.es=true) (h2:p.mu≠.x∧isVals p.es=true):HV [o,p]:=fun x hx=>by
 simp only [List.mem_cons,List.not_mem_nil,or_false] at hx
 rcases hx with rfl | rfl
 ·exact h1
 ·exact h2
theorem check9_ev (k s o l) (hl:l.length<1000000000) (ih:∀ t∈l,Fun C 186 [enc t] (.int .i64 (chk t))):Fun C 186 [enc (.mk k s o l)] (.int .i64 (chk (.mk k s o l))):=by
 have hs:=symbol9_fun s
 have hel:=encs_len l
 rw [encSy_x] at hs
 rw [enc_mk]
 refine Fun.x T6 Tryz.func186 rfl ?_
 (repeat' (first | (refine Rn.go ?_;conv=>whnf) | refine .mk ?_ | refine .tt ?_ | refine .ff ?_ | refine .m2 ?_ | refine .m3 ?_ | refine .mk (fun hc=>?_) fun hc=>?_ | refine .lp fun v H lp=>?_ | fail))
 ·refine .p hs ?_
  (repeat' (first | (refine Rn.go ?_;conv=>whnf) | refine .mk ?_ | refine .tt ?_ | refine .ff ?_ | refine .m2 ?_ | refine .m3 ?_ | refine .mk (fun hc=>?_) fun hc=>?_ | refine .lp fun v H lp=>?_ | fail))
  ·exact ⟨_,rfl,by rw [chk,if_neg (by simp [*]),if_pos (by assumption)];rfl⟩
  ·exact ⟨_,rfl,by rw [chk,if_neg (by simp [*]),if_neg (by assumption),if_pos (by omega)];rfl⟩
  ·exact ⟨_,rfl,by rw [chk,if_neg (by simp [*]),if_neg (by assumption),if_pos (by omega)];rfl⟩
  ·have hpr:privOk s l=false→chk (.mk k s o l)=10:=fun h=>by rw [chk,if_neg (by simp [*]),if_neg (by assumption),if_neg (by omega),if_pos h]
   have hpo:privOk s l=true→chk (.mk k s o l)=chks l:=fun h=>by rw [chk,if_neg (by simp [*]),if_neg (by assumption),if_neg (by omega),if_neg (by rw [h];simp)]
   have hsk:(isN s nSk || isN s nShk)=true:=by simp [isN,nSk, *]
   refine LpX.zip T6 l (fun p q L H=>L=[(1,.ptr 0 0 0 0),(38,.snap false (encs l)),(39,.int .i64 l.length),(40,.int .i64 p.length)]∧HV H∧H[0]?=some ⟨.m,0,4,[.agg [.int .i64 k,.str s,.int .i64 o,.snap false (encs l)]]⟩∧∀ u∈p,agentT u=true) (.nx ⟨rfl,by first | assumption | exact HV.two' (by simp) (by simp),rfl,fun u hu=>by cases hu⟩) ?_ ?_
   ·rintro p u q _ H ρ e ⟨rfl,hH,h0,hp⟩
    have hat:=at_encs e
    have hl2:=congrArg List.length e
    simp only [List.length_append,List.length_cons] at hl2
    have hag:agentT u=false→privOk s l=false:=fun h=>by
     have:l.all agentT=false:=by rw [e];simp [h]
     simp [privOk,hsk,this]
    have nx:u.k≠3→u.o=1→∀ v∈p++[u],agentT v=true:=fun h1 h2 v hv=>by
     rcases List.mem_append.1 hv with h | h
     ·exact hp v h
     ·simp at h;rw [h];simp [agentT,h1,h2]
    (repeat' (first | (refine Rn.go ?_;conv=>whnf) | refine .mk ?_ | refine .tt ?_ | refine .ff ?_ | refine .m2 ?_ | refine .m3 ?_ | refine .mk (fun hc=>?_) fun hc=>?_ | refine .lp fun v H lp=>?_ | fail))
    ·exact ⟨_,rfl,by rw [hpr (hag (by simp [agentT, *]))];rfl⟩
    ·exact .nx ⟨rfl,hH.app (HV.one (by simp)),by rw [List.getElem?_append_left (lt_of_some h0)];exact h0,nx (by assumption) (by assumption)⟩
    ·exact ⟨_,rfl,by rw [hpr (hag (by simp [agentT, *]))];rfl⟩
   ·rintro _ H ρ ⟨rfl,hH,h0,hp⟩
    have hch:=hpo (by simp only [privOk,hsk,if_true];rw [List.all_eq_true];exact hp)
    (repeat' (first | (refine Rn.go ?_;conv=>whnf) | refine .mk ?_ | refine .tt ?_ | refine .ff ?_ | refine .m2 ?_ | refine .m3 ?_ | refine .mk (fun hc=>?_) fun hc=>?_ | refine .lp fun v H lp=>?_ | fail))
    refine LpX.zip T6 l (fun p q L H=>L=[(62,.snap false (encs l)),(63,.int .i64 l.length),(64,.int .i64 p.length)]∧HV H∧∀ u∈p,chk u=0) (.nx ⟨rfl,by first | assumption | exact HV.two' (by simp) (by simp),fun u hu=>by cases hu⟩) ?_ ?_
    ·rintro p u q _ H ρ e ⟨rfl,hH,hp⟩
     have hat:=at_encs e
     have hl2:=congrArg List.length e
     simp only [List.length_append,List.length_cons] at hl2
     have hi:=ih u (by rw [e];simp)
     rw [enc_x] at hi
     (repeat' (first | (refine Rn.go ?_;conv=>whnf) | refine .mk ?_ | refine .tt ?_ | refine .ff ?_ | refine .m2 ?_ | refine .m3 ?_ | refine .mk (fun hc=>?_) fun hc=>?_ | refine .lp fun v H lp=>?_ | fail))
     refine .p hi ?_
     (repeat' (first | (refine Rn.go ?_;conv=>whnf) | refine .mk ?_ | refine .tt ?_ | refine .ff ?_ | refine .m2 ?_ | refine .m3 ?_ | refine .mk (fun hc=>?_) fun hc=>?_ | refine .lp fun v H lp=>?_ | fail))
     ·exact .nx ⟨rfl,hH.app (HV.one (by simp)),fun v hv=>by rcases List.mem_append.1 hv with h | h;exact hp v h;simp at h;rw [h];assumption⟩
     ·exact ⟨_,rfl,by rw [hch,chks_at e hp (by assumption)];rfl⟩
    ·rintro _ H ρ ⟨rfl,hH,hp⟩
     (repeat' (first | (refine Rn.go ?_;conv=>whnf) | refine .mk ?_ | refine .tt ?_ | refine .ff ?_ | refine .m2 ?_ | refine .m3 ?_ | refine .mk (fun hc=>?_) fun hc=>?_ | refine .lp fun v H lp=>?_ | fail))
     exact ⟨_,rfl,by rw [hch,chks_zero hp];rfl⟩
  ·have hpr:privOk s l=false→chk (.mk k s o l)=10:=fun h=>by rw [chk,if_neg (by simp [*]),if_neg (by assumption),if_neg (by omega),if_pos h]
   have hpo:privOk s l=true→chk (.mk k s o l)=chks l:=fun h=>by rw [chk,if_neg (by simp [*]),if_neg (by assumption),if_neg (by omega),if_neg (by rw [h];simp)]
   have hsk:(isN s nSk || isN s nShk)=true:=by simp [isN,nShk, *]
   refine LpX.zip T6 l (fun p q L H=>L=[(1,.ptr 0 0 0 0),(38,.snap false (encs l)),(39,.int .i64 l.length),(40,.int .i64 p.length)]∧HV H∧H[0]?=some ⟨.m,0,4,[.agg [.int .i64 k,.str s,.int .i64 o,.snap false (encs l)]]⟩∧∀ u∈p,agentT u=true) (.nx ⟨rfl,by first | assumption | exact HV.two' (by simp) (by simp),rfl,fun u hu=>by cases hu⟩) ?_ ?_
   ·rintro p u q _ H ρ e ⟨rfl,hH,h0,hp⟩
    have hat:=at_encs e
    have hl2:=congrArg List.length e
    simp only [List.length_append,List.length_cons] at hl2
    have hag:agentT u=false→privOk s l=false:=fun h=>by
     have:l.all agentT=false:=by rw [e];simp [h]
     simp [privOk,hsk,this]
    have nx:u.k≠3→u.o=1→∀ v∈p++[u],agentT v=true:=fun h1 h2 v hv=>by
     rcases List.mem_append.1 hv with h | h
     ·exact hp v h
     ·simp at h;rw [h];simp [agentT,h1,h2]
    (repeat' (first | (refine Rn.go ?_;conv=>whnf) | refine .mk ?_ | refine .tt ?_ | refine .ff ?_ | refine .m2 ?_ | refine .m3 ?_ | refine .mk (fun hc=>?_) fun hc=>?_ | refine .lp fun v H lp=>?_ | fail))
    ·exact ⟨_,rfl,by rw [hpr (hag (by simp [agentT, *]))];rfl⟩
    ·exact .nx ⟨rfl,hH.app (HV.one (by simp)),by rw [List.getElem?_append_left (lt_of_some h0)];exact h0,nx (by assumption) (by assumption)⟩
    ·exact ⟨_,rfl,by rw [hpr (hag (by simp [agentT, *]))];rfl⟩
   ·rintro _ H ρ ⟨rfl,hH,h0,hp⟩
    have hch:=hpo (by simp only [privOk,hsk,if_true];rw [List.all_eq_true];exact hp)
    (repeat' (first | (refine Rn.go ?_;conv=>whnf) | refine .mk ?_ | refine .tt ?_ | refine .ff ?_ | refine .m2 ?_ | refine .m3 ?_ | refine .mk (fun hc=>?_) fun hc=>?_ | refine .lp fun v H lp=>?_ | fail))
    refine LpX.zip T6 l (fun p q L H=>L=[(62,.snap false (encs l)),(63,.int .i64 l.length),(64,.int .i64 p.length)]∧HV H∧∀ u∈p,chk u=0) (.nx ⟨rfl,by first | assumption | exact HV.two' (by simp) (by simp),fun u hu=>by cases hu⟩) ?_ ?_
    ·rintro p u q _ H ρ e ⟨rfl,hH,hp⟩
     have hat:=at_encs e
     have hl2:=congrArg List.length e
     simp only [List.length_append,List.length_cons] at hl2
     have hi:=ih u (by rw [e];simp)
     rw [enc_x] at hi
     (repeat' (first | (refine Rn.go ?_;conv=>whnf) | refine .mk ?_ | refine .tt ?_ | refine .ff ?_ | refine .m2 ?_ | refine .m3 ?_ | refine .mk (fun hc=>?_) fun hc=>?_ | refine .lp fun v H lp=>?_ | fail))
     refine .p hi ?_
     (repeat' (first | (refine Rn.go ?_;conv=>whnf) | refine .mk ?_ | refine .tt ?_ | refine .ff ?_ | refine .m2 ?_ | refine .m3 ?_ | refine .mk (fun hc=>?_) fun hc=>?_ | refine .lp fun v H lp=>?_ | fail))
     ·exact .nx ⟨rfl,hH.app (HV.one (by simp)),fun v hv=>by rcases List.mem_append.1 hv with h | h;exact hp v h;simp at h;rw [h];assumption⟩
     ·exact ⟨_,rfl,by rw [hch,chks_at e hp (by assumption)];rfl⟩
    ·rintro _ H ρ ⟨rfl,hH,hp⟩
     (repeat' (first | (refine Rn.go ?_;conv=>whnf) | refine .mk ?_ | refine .tt ?_ | refine .ff ?_ | refine .m2 ?_ | refine .m3 ?_ | refine .mk (fun hc=>?_) fun hc=>?_ | refine .lp fun v H lp=>?_ | fail))
     exact ⟨_,rfl,by rw [hch,chks_zero hp];rfl⟩
  ·have hpr:privOk s l=false→chk (.mk k s o l)=10:=fun h=>by rw [chk,if_neg (by simp [*]),if_neg (by assumption),if_neg (by omega),if_pos h]
   have hpo:privOk s l=true→chk (.mk k s o l)=chks l:=fun h=>by rw [chk,if_neg (by simp [*]),if_neg (by assumption),if_neg (by omega),if_neg (by rw [h];simp)]
   have hsk:(isN s nSk || isN s nShk)=false:=by rw [isN_f (n:=nSk) (by assumption),isN_f (n:=nShk) (by assumption)];rfl
   have hnw:isN s nNew=true:=isN_t (by assumption)
   have ha:(symOf s).a=1:=by rw [symOf_eq (by assumption:s.toList=nNew.toList)];exact symOf_new
   obtain ⟨u,r,rfl⟩:∃ u r,l=u::r:=by cases l with | nil=>simp at hel;simp at *;omega | cons u r=>exact ⟨u,r,rfl⟩
   have hat:(encs (u::r))[0]?=some (.agg [.int .i64 u.k,.str u.s,.int .i64 u.o,.snap false (encs u.l)]):=by rw [encs,← enc_x];rfl
   have hpk:privOk s (u::r)=decide (u.k=2):=by unfold privOk;rw [hsk,hnw];rfl
   refine .mk (n:=0) ?_ rfl hat rfl
   generalize u::r=l at *
   (repeat' (first | (refine Rn.go ?_;conv=>whnf) | refine .mk ?_ | refine .tt ?_ | refine .ff ?_ | refine .m2 ?_ | refine .m3 ?_ | refine .mk (fun hc=>?_) fun hc=>?_ | refine .lp fun v H lp=>?_ | fail))
   ·have hch:=hpo (by rw [hpk];simp [*])
    refine LpX.zip T6 l (fun p q L H=>L=[(62,.snap false (encs l)),(63,.int .i64 l.length),(64,.int .i64 p.length)]∧HV H∧∀ u∈p,chk u=0) (.nx ⟨rfl,by first | assumption | exact HV.two' (by simp) (by simp),fun u hu=>by cases hu⟩) ?_ ?_
    ·rintro p u q _ H ρ e ⟨rfl,hH,hp⟩
     have hat:=at_encs e
     have hl2:=congrArg List.length e
     simp only [List.length_append,List.length_cons] at hl2
     have hi:=ih u (by rw [e];simp)
     rw [enc_x] at hi
     (repeat' (first | (refine Rn.go ?_;conv=>whnf) | refine .mk ?_ | refine .tt ?_ | refine .ff ?_ | refine .m2 ?_ | refine .m3 ?_ | refine .mk (fun hc=>?_) fun hc=>?_ | refine .lp fun v H lp=>?_ | fail))
     refine .p hi ?_
     (repeat' (first | (refine Rn.go ?_;conv=>whnf) | refine .mk ?_ | refine .tt ?_ | refine .ff ?_ | refine .m2 ?_ | refine .m3 ?_ | refine .mk (fun hc=>?_) fun hc=>?_ | refine .lp fun v H lp=>?_ | fail))
     ·exact .nx ⟨rfl,hH.app (HV.one (by simp)),fun v hv=>by rcases List.mem_append.1 hv with h | h;exact hp v h;simp at h;rw [h];assumption⟩
     ·exact ⟨_,rfl,by rw [hch,chks_at e hp (by assumption)];rfl⟩
    ·rintro _ H ρ ⟨rfl,hH,hp⟩
     (repeat' (first | (refine Rn.go ?_;conv=>whnf) | refine .mk ?_ | refine .tt ?_ | refine .ff ?_ | refine .m2 ?_ | refine .m3 ?_ | refine .mk (fun hc=>?_) fun hc=>?_ | refine .lp fun v H lp=>?_ | fail))
     exact ⟨_,rfl,by rw [hch,chks_zero hp];rfl⟩
   ·exact ⟨_,rfl,by rw [hpr (by rw [hpk];simp [*])];rfl⟩
  ·have hpo:chk (.mk k s o l)=chks l:=by
    have h1:privOk s l=true:=by unfold privOk;rw [isN_f (n:=nSk) (by assumption),isN_f (n:=nShk) (by assumption),isN_f (n:=nNew) (by assumption)];rfl
    rw [chk,if_neg (by simp [*]),if_neg (by assumption),if_neg (by omega),if_neg (by rw [h1];simp)]
   have hch:=hpo
   refine LpX.zip T6 l (fun p q L H=>L=[(62,.snap false (encs l)),(63,.int .i64 l.length),(64,.int .i64 p.length)]∧HV H∧∀ u∈p,chk u=0) (.nx ⟨rfl,by first | assumption | exact HV.two' (by simp) (by simp),fun u hu=>by cases hu⟩) ?_ ?_
   ·rintro p u q _ H ρ e ⟨rfl,hH,hp⟩
    have hat:=at_encs e
    have hl2:=congrArg List.length e
    simp only [List.length_append,List.length_cons] at hl2
    have hi:=ih u (by rw [e];simp)
    rw [enc_x] at hi
    (repeat' (first | (refine Rn.go ?_;conv=>whnf) | refine .mk ?_ | refine .tt ?_ | refine .ff ?_ | refine .m2 ?_ | refine .m3 ?_ | refine .mk (fun hc=>?_) fun hc=>?_ | refine .lp fun v H lp=>?_ | fail))
    refine .p hi ?_
    (repeat' (first | (refine Rn.go ?_;conv=>whnf) | refine .mk ?_ | refine .tt ?_ | refine .ff ?_ | refine .m2 ?_ | refine .m3 ?_ | refine .mk (fun hc=>?_) fun hc=>?_ | refine .lp fun v H lp=>?_ | fail))
    ·exact .nx ⟨rfl,hH.app (HV.one (by simp)),fun v hv=>by rcases List.mem_append.1 hv with h | h;exact hp v h;simp at h;rw [h];assumption⟩
    ·exact ⟨_,rfl,by rw [hch,chks_at e hp (by assumption)];rfl⟩
   ·rintro _ H ρ ⟨rfl,hH,hp⟩
    (repeat' (first | (refine Rn.go ?_;conv=>whnf) | refine .mk ?_ | refine .tt ?_ | refine .ff ?_ | refine .m2 ?_ | refine .m3 ?_ | refine .mk (fun hc=>?_) fun hc=>?_ | refine .lp fun v H lp=>?_ | fail))
    exact ⟨_,rfl,by rw [hch,chks_zero hp];rfl⟩
 ·exact ⟨_,rfl,by rw [chk,if_pos (by assumption)];rfl⟩
theorem check9_fun (t:Tm) (hb:bulk t<1000000000):Fun C 186 [enc t] (.int .i64 (chk t)):=by
 induction t using Tm.ind with
 | h k s o l ih=>
  have:=len_bulks l
  simp only [bulk] at hb
  exact check9_ev k s o l (by omega) fun t ht=>ih t ht (by have:=bulk_mem ht;omega)
theorem thv_fun (t:Tm) (hb:bulk t<100000000):Fun C 139 [enc t] (.int .i64 (thv t)):=by
 have h1:=(valid_fun t hb).nine
 have h2:=check9_fun t (by omega)
 rw [enc_x] at h1 h2 ⊢
 refine Fun.x T6 Tryz.func139 rfl ?_
 (repeat' (first | (refine Rn.go ?_;conv=>whnf) | refine .mk ?_ | refine .tt ?_ | refine .ff ?_ | refine .m2 ?_ | refine .m3 ?_ | refine .mk (fun hc=>?_) fun hc=>?_ | refine .lp fun v H lp=>?_ | fail))
 refine .p h1 ?_
 (repeat' (first | (refine Rn.go ?_;conv=>whnf) | refine .mk ?_ | refine .tt ?_ | refine .ff ?_ | refine .m2 ?_ | refine .m3 ?_ | refine .mk (fun hc=>?_) fun hc=>?_ | refine .lp fun v H lp=>?_ | fail))
 ·refine .p h2 ?_
  (repeat' (first | (refine Rn.go ?_;conv=>whnf) | refine .mk ?_ | refine .tt ?_ | refine .ff ?_ | refine .m2 ?_ | refine .m3 ?_ | refine .mk (fun hc=>?_) fun hc=>?_ | refine .lp fun v H lp=>?_ | fail))
  exact ⟨_,rfl,by unfold thv;rw [if_neg (by omega)];rfl⟩
 ·exact ⟨_,rfl,by unfold thv;rw [if_pos (by assumption)];rfl⟩
theorem everys_at {p:ByteArray→Bool} {l a q:List Tm} {u:Tm} (e:l=a++u::q) (hu:every p u=false):everys p l=false:=by
 subst e
 induction a with
 | nil=>simp only [List.nil_append,everys,hu];rfl
 | cons v a ih=>simp only [List.cons_append,everys,ih];simp
theorem everys_true {p:ByteArray→Bool}:∀ {l:List Tm},(∀ v∈l,every p v=true)→everys p l=true
 | [],_=>rfl
 | v::l,h=>by rw [everys,h v (by simp),everys_true fun w hw=>h w (by simp [hw])];rfl
theorem every9_ev (g:FuncId) (p:ByteArray→Bool) (hm:C.mode g=.pure) (hg:∀ s,Fun C g [.str s] (.bool (p s))) (k s o l) (hl:l.length<1000000000) (ih:∀ t∈l,Fun C 109 [enc t,.fn g []] (.bool (every p t))) :
  Fun C 109 [enc (.mk k s o l),.fn g []] (.bool (every p (.mk k s o l))):=by
 have hel:=encs_len l
 have hgs:=hg s
 have hev:every p (.mk k s o l)=((decide (k≠3) || p s) && everys p l):=rfl
 rw [enc_mk]
 refine Fun.x T6 Tryz.func109 rfl ?_
 (repeat' (first | (refine Rn.go ?_;conv=>whnf) | refine .mk ?_ | refine .tt ?_ | refine .ff ?_ | refine .m2 ?_ | refine .m3 ?_ | refine .mk (fun hc=>?_) fun hc=>?_ | refine .lp fun v H lp=>?_ | fail))
 ·refine .p hgs ?_ hm
  cases hps:p s
  ·(repeat' (first | (refine Rn.go ?_;conv=>whnf) | refine .mk ?_ | refine .tt ?_ | refine .ff ?_ | refine .m2 ?_ | refine .m3 ?_ | refine .mk (fun hc=>?_) fun hc=>?_ | refine .lp fun v H lp=>?_ | fail))
   exact ⟨_,rfl,by rw [hev,hps];simp [tupOf, *]⟩
  ·have hev:every p (.mk k s o l)=everys p l:=by rw [hev,hps];simp
   (repeat' (first | (refine Rn.go ?_;conv=>whnf) | refine .mk ?_ | refine .tt ?_ | refine .ff ?_ | refine .m2 ?_ | refine .m3 ?_ | refine .mk (fun hc=>?_) fun hc=>?_ | refine .lp fun v H lp=>?_ | fail))
   refine LpX.zip T6 l (fun a q L H=>L=[(1,.fn g []),(18,.snap false (encs l)),(19,.int .i64 l.length),(20,.int .i64 a.length)]∧HV H∧∀ u∈a,every p u=true) (.nx ⟨rfl,by first | assumption | exact HV.one (by simp),fun u hu=>by cases hu⟩) ?_ ?_
   ·rintro a u q _ H ρ e ⟨rfl,hH,hp⟩
    have hat:=at_encs e
    have hl2:=congrArg List.length e
    simp only [List.length_append,List.length_cons] at hl2
    have hi:=ih u (by rw [e];simp)
    rw [enc_x] at hi
    (repeat' (first | (refine Rn.go ?_;conv=>whnf) | refine .mk ?_ | refine .tt ?_ | refine .ff ?_ | refine .m2 ?_ | refine .m3 ?_ | refine .mk (fun hc=>?_) fun hc=>?_ | refine .lp fun v H lp=>?_ | fail))
    refine .p hi ?_
    cases hu:every p u
    ·(repeat' (first | (refine Rn.go ?_;conv=>whnf) | refine .mk ?_ | refine .tt ?_ | refine .ff ?_ | refine .m2 ?_ | refine .m3 ?_ | refine .mk (fun hc=>?_) fun hc=>?_ | refine .lp fun v H lp=>?_ | fail))
     exact ⟨_,rfl,by rw [hev,everys_at e hu];rfl⟩
    ·(repeat' (first | (refine Rn.go ?_;conv=>whnf) | refine .mk ?_ | refine .tt ?_ | refine .ff ?_ | refine .m2 ?_ | refine .m3 ?_ | refine .mk (fun hc=>?_) fun hc=>?_ | refine .lp fun v H lp=>?_ | fail))
     exact .nx ⟨rfl,hH.app (HV.one (by simp)),fun v hv=>by rcases List.mem_append.1 hv with h | h;exact hp v h;simp at h;rw [h];exact hu⟩
   ·rintro _ H ρ ⟨rfl,hH,hp⟩
    (repeat' (first | (refine Rn.go ?_;conv=>whnf) | refine .mk ?_ | refine .tt ?_ | refine .ff ?_ | refine .m2 ?_ | refine .m3 ?_ | refine .mk (fun hc=>?_) fun hc=>?_ | refine .lp fun v H lp=>?_ | fail))
    exact ⟨_,rfl,by rw [hev,everys_true hp];rfl⟩
 ·have hev:every p (.mk k s o l)=everys p l:=by rw [hev];simp [*]
  refine LpX.zip T6 l (fun a q L H=>L=[(1,.fn g []),(18,.snap false (encs l)),(19,.int .i64 l.length),(20,.int .i64 a.length)]∧HV H∧∀ u∈a,every p u=true) (.nx ⟨rfl,by first | assumption | exact HV.one (by simp),fun u hu=>by cases hu⟩) ?_ ?_
  ·rintro a u q _ H ρ e ⟨rfl,hH,hp⟩
   have hat:=at_encs e
   have hl2:=congrArg List.length e
   simp only [List.length_append,List.length_cons] at hl2
   have hi:=ih u (by rw [e];simp)
   rw [enc_x] at hi
   (repeat' (first | (refine Rn.go ?_;conv=>whnf) | refine .mk ?_ | refine .tt ?_ | refine .ff ?_ | refine .m2 ?_ | refine .m3 ?_ | refine .mk (fun hc=>?_) fun hc=>?_ | refine .lp fun v H lp=>?_ | fail))
   refine .p hi ?_
   cases hu:every p u
   ·(repeat' (first | (refine Rn.go ?_;conv=>whnf) | refine .mk ?_ | refine .tt ?_ | refine .ff ?_ | refine .m2 ?_ | refine .m3 ?_ | refine .mk (fun hc=>?_) fun hc=>?_ | refine .lp fun v H lp=>?_ | fail))
    exact ⟨_,rfl,by rw [hev,everys_at e hu];rfl⟩
   ·(repeat' (first | (refine Rn.go ?_;conv=>whnf) | refine .mk ?_ | refine .tt ?_ | refine .ff ?_ | refine .m2 ?_ | refine .m3 ?_ | refine .mk (fun hc=>?_) fun hc=>?_ | refine .lp fun v H lp=>?_ | fail))
    exact .nx ⟨rfl,hH.app (HV.one (by simp)),fun v hv=>by rcases List.mem_append.1 hv with h | h;exact hp v h;simp at h;rw [h];exact hu⟩
  ·rintro _ H ρ ⟨rfl,hH,hp⟩
   (repeat' (first | (refine Rn.go ?_;conv=>whnf) | refine .mk ?_ | refine .tt ?_ | refine .ff ?_ | refine .m2 ?_ | refine .m3 ?_ | refine .mk (fun hc=>?_) fun hc=>?_ | refine .lp fun v H lp=>?_ | fail))
   exact ⟨_,rfl,by rw [hev,everys_true hp];rfl⟩
theorem every9_fun (g:FuncId) (p:ByteArray→Bool) (hm:C.mode g=.pure) (hg:∀ s,Fun C g [.str s] (.bool (p s))) (t:Tm) (hb:bulk t<1000000000):Fun C 109 [enc t,.fn g []] (.bool (every p t)):=by
 induction t using Tm.ind with
 | h k s o l ih=>
  have:=len_bulks l
  simp only [bulk] at hb
  exact every9_ev g p hm hg k s o l (by omega) fun t ht=>ih t ht (by have:=bulk_mem ht;omega)
theorem free1_fun (s:ByteArray):Fun C 187 [.str s] (.bool (frN s)):=by
 have hs:=symbol9_fun s
 rw [encSy_x] at hs
 have alg:algN s=true→frN s=false:=fun h=>by simp [frN,h]
 refine Fun.x T6 Tryz.func187 rfl ?_
 (repeat' (first | (refine Rn.go ?_;conv=>whnf) | refine .mk ?_ | refine .tt ?_ | refine .ff ?_ | refine .m2 ?_ | refine .m3 ?_ | refine .mk (fun hc=>?_) fun hc=>?_ | refine .lp fun v H lp=>?_ | fail))
 ·exact ⟨_,rfl,by rw [alg (by unfold algN;rw [isN_t (n:=nXor) (by assumption)];simp)];rfl⟩
 ·exact ⟨_,rfl,by rw [alg (by unfold algN;rw [isN_t (n:=nZero) (by assumption)];simp)];rfl⟩
 ·exact ⟨_,rfl,by rw [alg (by unfold algN;rw [isN_t (n:=nExp) (by assumption)];simp)];rfl⟩
 ·exact ⟨_,rfl,by rw [alg (by unfold algN;rw [isN_t (n:=nMul) (by assumption)];simp)];rfl⟩
 ·exact ⟨_,rfl,by rw [alg (by unfold algN;rw [isN_t (n:=nInv) (by assumption)];simp)];rfl⟩
 ·exact ⟨_,rfl,by rw [alg (by unfold algN;rw [isN_t (n:=nOne) (by assumption)];simp)];rfl⟩
 ·have hal:algN s=false:=by
   unfold algN
   rw [isN_f (n:=nXor) (by assumption),isN_f (n:=nZero) (by assumption),isN_f (n:=nExp) (by assumption),isN_f (n:=nMul) (by assumption),isN_f (n:=nInv) (by assumption),isN_f (n:=nOne) (by assumption)]
   rfl
  refine .p hs ?_
  (repeat' (first | (refine Rn.go ?_;conv=>whnf) | refine .mk ?_ | refine .tt ?_ | refine .ff ?_ | refine .m2 ?_ | refine .m3 ?_ | refine .mk (fun hc=>?_) fun hc=>?_ | refine .lp fun v H lp=>?_ | fail))
  all_goals exact ⟨_,rfl,by simp [tupOf,frN,hal, *]⟩
theorem free9_fun (t:Tm) (hb:bulk t<100000000):Fun C 140 [enc t] (.bool (freeT t)):=by
 have h1:=thv_fun t hb
 have h2:=every9_fun 187 frN rfl free1_fun t (by omega)
 rw [enc_x] at h1 h2 ⊢
 refine Fun.x T6 Tryz.func140 rfl ?_
 (repeat' (first | (refine Rn.go ?_;conv=>whnf) | refine .mk ?_ | refine .tt ?_ | refine .ff ?_ | refine .m2 ?_ | refine .m3 ?_ | refine .mk (fun hc=>?_) fun hc=>?_ | refine .lp fun v H lp=>?_ | fail))
 refine .p h1 ?_
 (repeat' (first | (refine Rn.go ?_;conv=>whnf) | refine .mk ?_ | refine .tt ?_ | refine .ff ?_ | refine .m2 ?_ | refine .m3 ?_ | refine .mk (fun hc=>?_) fun hc=>?_ | refine .lp fun v H lp=>?_ | fail))
 ·refine .p h2 ?_
  cases he:every frN t
  all_goals (
   (repeat' (first | (refine Rn.go ?_;conv=>whnf) | refine .mk ?_ | refine .tt ?_ | refine .ff ?_ | refine .m2 ?_ | refine .m3 ?_ | refine .mk (fun hc=>?_) fun hc=>?_ | refine .lp fun v H lp=>?_ | fail))
   exact ⟨_,rfl,by simp [tupOf,freeT, *]⟩)
 ·exact ⟨_,rfl,by simp [tupOf,freeT, *]⟩
end Go.Pm.Nine
end
section
set_option maxRecDepth 4000
namespace Go.Pm.Nine
open Go.Proofs
attribute [local irreducible] thenQ blockQ loopQ bodyQ Ev EvOps CallEv FnEv EvD encSys
theorem kind9_fun (s:ByteArray):Fun C 169 [.str s] (.int .i64 (symOf s).k):=by
 have hs:=rsymbols_fun
 have hes:encSys.length=21:=encSys_len
 refine Fun.x T6 Tryz.func169 rfl ?_
 (repeat' (first | (refine Rn.go ?_;conv=>whnf) | refine .mk ?_ | refine .tt ?_ | refine .ff ?_ | refine .m2 ?_ | refine .m3 ?_ | refine .mk (fun hc=>?_) fun hc=>?_ | refine .lp fun v H lp=>?_ | fail))
 refine .p hs ?_
 (repeat' (first | (refine Rn.go ?_;conv=>whnf) | refine .mk ?_ | refine .tt ?_ | refine .ff ?_ | refine .m2 ?_ | refine .m3 ?_ | refine .mk (fun hc=>?_) fun hc=>?_ | refine .lp fun v H lp=>?_ | fail))
 refine LpX.zip T6 syL (fun p q L H=>L=[(0,.str s),(3,.snap false encSys),(4,.int .i64 p.length)]∧HV H∧∀ z∈p,z.n.toList≠s.toList) (.nx ⟨rfl,HV.nil,fun z hz=>by cases hz⟩) ?_ ?_
 ·rintro p y q _ H ρ e ⟨rfl,hH,hp⟩
  have hat:=at_encSys e
  have hl2:=congrArg List.length e
  rw [syL_len] at hl2
  simp only [List.length_append,List.length_cons] at hl2
  (repeat' (first | (refine Rn.go ?_;conv=>whnf) | refine .mk ?_ | refine .tt ?_ | refine .ff ?_ | refine .m2 ?_ | refine .m3 ?_ | refine .mk (fun hc=>?_) fun hc=>?_ | refine .lp fun v H lp=>?_ | fail))
  ·exact ⟨_,rfl,by rw [symOf_find e hp (by assumption)];rfl⟩
  ·exact .nx ⟨rfl,hH,fun z hz=>by rcases List.mem_append.1 hz with h | h;exact hp z h;simp at h;rw [h];assumption⟩
 ·rintro _ H ρ ⟨rfl,hH,hp⟩
  rw [syL_len]
  (repeat' (first | (refine Rn.go ?_;conv=>whnf) | refine .mk ?_ | refine .tt ?_ | refine .ff ?_ | refine .m2 ?_ | refine .m3 ?_ | refine .mk (fun hc=>?_) fun hc=>?_ | refine .lp fun v H lp=>?_ | fail))
  exact ⟨_,rfl,by rw [symOf_none hp];rfl⟩
theorem fits9_fun (k s o l) (hl:l.length<1000000000) (hk:(symOf s).k≠0):Fun C 302 [enc (.mk k s o l)] (.bool (decide ((symOf s).a≤(l.length:Int)∧(l.length:Int)≤(symOf s).b))):=by
 have hs:=rsymbols_fun
 have hes:encSys.length=21:=encSys_len
 have hel:=encs_len l
 rw [enc_mk]
 refine Fun.x T6 Tryz.func302 rfl ?_
 (repeat' (first | (refine Rn.go ?_;conv=>whnf) | refine .mk ?_ | refine .tt ?_ | refine .ff ?_ | refine .m2 ?_ | refine .m3 ?_ | refine .mk (fun hc=>?_) fun hc=>?_ | refine .lp fun v H lp=>?_ | fail))
 refine .p hs ?_
 (repeat' (first | (refine Rn.go ?_;conv=>whnf) | refine .mk ?_ | refine .tt ?_ | refine .ff ?_ | refine .m2 ?_ | refine .m3 ?_ | refine .mk (fun hc=>?_) fun hc=>?_ | refine .lp fun v H lp=>?_ | fail))
 refine LpX.zip T6 syL (fun p q L H=>L=[(1,.ptr 0 0 0 0),(3,.snap false encSys),(4,.int .i64 p.length)]∧HV H∧H[0]?=some ⟨.m,0,4,[.agg [.int .i64 k,.str s,.int .i64 o,.snap false (encs l)]]⟩∧∀ z∈p,z.n.toList≠s.toList) (.nx ⟨rfl,HV.one (by simp),rfl,fun z hz=>by cases hz⟩) ?_ ?_
 ·rintro p y q _ H ρ e ⟨rfl,hH,h0,hp⟩
  have hat:=at_encSys e
  have hl2:=congrArg List.length e
  rw [syL_len] at hl2
  simp only [List.length_append,List.length_cons] at hl2
  (repeat' (first | (refine Rn.go ?_;conv=>whnf) | refine .mk ?_ | refine .tt ?_ | refine .ff ?_ | refine .m2 ?_ | refine .m3 ?_ | refine .mk (fun hc=>?_) fun hc=>?_ | refine .lp fun v H lp=>?_ | fail))
  ·exact ⟨_,rfl,by rw [symOf_find e hp (by assumption)];simp [tupOf];omega⟩
  ·exact ⟨_,rfl,by rw [symOf_find e hp (by assumption)];simp [tupOf];omega⟩
  ·exact ⟨_,rfl,by rw [symOf_find e hp (by assumption)];simp [tupOf];omega⟩
  ·exact .nx ⟨rfl,hH,h0,fun z hz=>by rcases List.mem_append.1 hz with h | h;exact hp z h;simp at h;rw [h];assumption⟩
 ·rintro _ H ρ ⟨rfl,hH,h0,hp⟩
  exact absurd (by rw [symOf_none hp];rfl) hk
def head2:List Tm→Bool
 | u::_=>decide (u.k=2)
 | []=>true
def agB (s:ByteArray) (l:List Tm):Bool:=if isN s nNew=true then head2 l else l.all agentT
theorem agents_fun (k s o l) (hl:l.length<1000000000) (hne:isN s nNew=true→l≠[]):Fun C 303 [enc (.mk k s o l)] (.bool (agB s l)):=by
 have hel:=encs_len l
 rw [enc_mk]
 refine Fun.x T6 Tryz.func303 rfl ?_
 (repeat' (first | (refine Rn.go ?_;conv=>whnf) | refine .mk ?_ | refine .tt ?_ | refine .ff ?_ | refine .m2 ?_ | refine .m3 ?_ | refine .mk (fun hc=>?_) fun hc=>?_ | refine .lp fun v H lp=>?_ | fail))
 ·have hn:isN s nNew=true:=isN_t (by assumption)
  obtain ⟨u,r,rfl⟩:∃ u r,l=u::r:=by cases l with | nil=>exact absurd rfl (hne hn) | cons u r=>exact ⟨u,r,rfl⟩
  have hat:(encs (u::r))[0]?=some (.agg [.int .i64 u.k,.str u.s,.int .i64 u.o,.snap false (encs u.l)]):=by rw [encs,← enc_x];rfl
  have hg:agB s (u::r)=decide (u.k=2):=by unfold agB;rw [if_pos hn];rfl
  refine .mk (n:=0) ?_ rfl hat rfl
  (repeat' (first | (refine Rn.go ?_;conv=>whnf) | refine .mk ?_ | refine .tt ?_ | refine .ff ?_ | refine .m2 ?_ | refine .m3 ?_ | refine .mk (fun hc=>?_) fun hc=>?_ | refine .lp fun v H lp=>?_ | fail))
  all_goals exact ⟨_,rfl,by rw [hg];simp [tupOf, *]⟩
 ·have hn:isN s nNew=false:=isN_f (by assumption)
  have hg:agB s l=l.all agentT:=by unfold agB;rw [if_neg (by rw [hn];simp)]
  refine LpX.zip T6 l (fun p q L H=>L=[(1,.ptr 0 0 0 0),(3,.int .i64 p.length)]∧HV H∧H[0]?=some ⟨.m,0,4,[.agg [.int .i64 k,.str s,.int .i64 o,.snap false (encs l)]]⟩∧∀ u∈p,agentT u=true) (.nx ⟨rfl,HV.one (by simp),rfl,fun z hz=>by cases hz⟩) ?_ ?_
  ·rintro p u q _ H ρ e ⟨rfl,hH,h0,hp⟩
   have hat:=at_encs e
   have hl2:=congrArg List.length e
   simp only [List.length_append,List.length_cons] at hl2
   have hag:agentT u=false→l.all agentT=false:=fun h=>by rw [e];simp [h]
   (repeat' (first | (refine Rn.go ?_;conv=>whnf) | refine .mk ?_ | refine .tt ?_ | refine .ff ?_ | refine .m2 ?_ | refine .m3 ?_ | refine .mk (fun hc=>?_) fun hc=>?_ | refine .lp fun v H lp=>?_ | fail))
   ·exact ⟨_,rfl,by rw [hg,hag (by simp [agentT, *])];rfl⟩
   ·exact .nx ⟨rfl,hH,h0,fun v hv=>by rcases List.mem_append.1 hv with h | h;exact hp v h;simp at h;rw [h];simp [agentT, *]⟩
   ·exact ⟨_,rfl,by rw [hg,hag (by simp [agentT, *])];rfl⟩
  ·rintro _ H ρ ⟨rfl,hH,h0,hp⟩
   have ha:l.all agentT=true:=by rw [List.all_eq_true];exact hp
   (repeat' (first | (refine Rn.go ?_;conv=>whnf) | refine .mk ?_ | refine .tt ?_ | refine .ff ?_ | refine .m2 ?_ | refine .m3 ?_ | refine .mk (fun hc=>?_) fun hc=>?_ | refine .lp fun v H lp=>?_ | fail))
   exact ⟨_,rfl,by rw [hg,ha];rfl⟩
theorem priv_names:syL.all (fun y=>decide (y.k≠2) || (y.n.toList == nSk.toList || y.n.toList == nShk.toList || y.n.toList == nNew.toList))=true:=by kernel_rfl
theorem priv_kinds:(symOf nSk).k=2∧(symOf nShk).k=2∧(symOf nNew).k=2:=⟨by kernel_rfl,by kernel_rfl,by kernel_rfl⟩
theorem symOf_mem {s:ByteArray} (h:(symOf s).k≠0):symOf s∈syL∧(symOf s).n.toList=s.toList:=by
 unfold symOf at h ⊢
 cases hf:syL.find? (fun y=>y.n.toList == s.toList) with
 | none=>rw [hf] at h;exact absurd rfl h
 | some y=>exact ⟨List.mem_of_find?_eq_some hf,by simpa using List.find?_some hf⟩
theorem priv_iff (s:ByteArray):(symOf s).k=2↔(isN s nSk=true∨isN s nShk=true∨isN s nNew=true):=by
 constructor
 ·intro h
  obtain ⟨h1,h2⟩:=symOf_mem (s:=s) (by omega)
  have:=List.all_eq_true.1 priv_names _ h1
  rw [h2,h] at this
  simpa [isN,or_assoc] using this
 ·rintro (h | h | h)
  ·rw [symOf_eq (t:=nSk) (by simpa [isN] using h)];exact priv_kinds.1
  ·rw [symOf_eq (t:=nShk) (by simpa [isN] using h)];exact priv_kinds.2.1
  ·rw [symOf_eq (t:=nNew) (by simpa [isN] using h)];exact priv_kinds.2.2
theorem distinct_names:isN nSk nNew=false∧isN nShk nNew=false:=⟨by kernel_rfl,by kernel_rfl⟩
theorem privOk_eq (s:ByteArray) (l:List Tm):privOk s l=if (symOf s).k=2 then agB s l else true:=by
 have hp:=priv_iff s
 unfold privOk agB
 by_cases h1:isN s nSk=true
 ·have:isN s nNew=false:=by
   have:=distinct_names.1
   unfold isN at this h1 ⊢
   rw [beq_iff_eq] at h1
   rw [h1];exact this
  rw [if_pos (hp.2 (.inl h1)),h1,this];rfl
 ·by_cases h2:isN s nShk=true
  ·have:isN s nNew=false:=by
    have:=distinct_names.2
    unfold isN at this h2 ⊢
    rw [beq_iff_eq] at h2
    rw [h2];exact this
   rw [if_pos (hp.2 (.inr (.inl h2))),h2,this];simp
  ·by_cases h3:isN s nNew=true
   ·rw [if_pos (hp.2 (.inr (.inr h3))),if_pos h3];simp [h1,h2,h3];rfl
   ·have hq:¬ (symOf s).k=2:=fun h=>by rcases hp.1 h with h | h | h <;> contradiction
    simp [h1,h2,h3,hq]
theorem nodes9_ev (k s o l) (hl:l.length<1000000000) (ih:∀ t∈l,Fun C 241 [enc t] (.int .i64 (chk t))):Fun C 241 [enc (.mk k s o l)] (.int .i64 (chk (.mk k s o l))):=by
 have hk:=kind9_fun s
 have hel:=encs_len l
 have hf:=fits9_fun k s o l hl
 have hag:=agents_fun k s o l hl
 rw [enc_mk] at hf hag ⊢
 refine Fun.x T6 Tryz.func241 rfl ?_
 (repeat' (first | (refine Rn.go ?_;conv=>whnf) | refine .mk ?_ | refine .tt ?_ | refine .ff ?_ | refine .m2 ?_ | refine .m3 ?_ | refine .mk (fun hc=>?_) fun hc=>?_ | refine .lp fun v H lp=>?_ | fail))
 ·refine .p hk ?_
  (repeat' (first | (refine Rn.go ?_;conv=>whnf) | refine .mk ?_ | refine .tt ?_ | refine .ff ?_ | refine .m2 ?_ | refine .m3 ?_ | refine .mk (fun hc=>?_) fun hc=>?_ | refine .lp fun v H lp=>?_ | fail))
  ·exact ⟨_,rfl,by rw [chk,if_neg (by simp [*]),if_pos (by assumption)];rfl⟩
  ·refine .p (hf (by assumption)) ?_
   by_cases har:(symOf s).a≤(l.length:Int)∧(l.length:Int)≤(symOf s).b
   ·rw [decide_eq_true har]
    have hch:privOk s l=true→chk (.mk k s o l)=chks l:=fun h=>by rw [chk,if_neg (by simp [*]),if_neg (by assumption),if_neg (by omega),if_neg (by rw [h];simp)]
    have hpe:=privOk_eq s l
    have ha0:isN s nNew=true→l≠[]:=fun h hn=>by
     rw [symOf_eq (t:=nNew) (by simpa [isN] using h),symOf_new,hn] at har
     simp at har
    (repeat' (first | (refine Rn.go ?_;conv=>whnf) | refine .mk ?_ | refine .tt ?_ | refine .ff ?_ | refine .m2 ?_ | refine .m3 ?_ | refine .mk (fun hc=>?_) fun hc=>?_ | refine .lp fun v H lp=>?_ | fail))
    ·refine .p (hag ha0) ?_
     rw [if_pos (by assumption)] at hpe
     cases hab:agB s l
     ·(repeat' (first | (refine Rn.go ?_;conv=>whnf) | refine .mk ?_ | refine .tt ?_ | refine .ff ?_ | refine .m2 ?_ | refine .m3 ?_ | refine .mk (fun hc=>?_) fun hc=>?_ | refine .lp fun v H lp=>?_ | fail))
      exact ⟨_,rfl,by rw [chk,if_neg (by simp [*]),if_neg (by assumption),if_neg (by omega),if_pos (by rw [hpe,hab])];rfl⟩
     ·have hch:=hch (by rw [hpe,hab])
      (repeat' (first | (refine Rn.go ?_;conv=>whnf) | refine .mk ?_ | refine .tt ?_ | refine .ff ?_ | refine .m2 ?_ | refine .m3 ?_ | refine .mk (fun hc=>?_) fun hc=>?_ | refine .lp fun v H lp=>?_ | fail))
      refine LpX.zip T6 l (fun p q L H=>L=[(1,.ptr 0 0 0 0),(4,.int .i64 p.length)]∧HV H∧H[0]?=some ⟨.m,0,4,[.agg [.int .i64 k,.str s,.int .i64 o,.snap false (encs l)]]⟩∧∀ u∈p,chk u=0) (.nx ⟨rfl,HV.one (by simp),rfl,fun u hu=>by cases hu⟩) ?_ ?_
      ·rintro p u q _ H ρ e ⟨rfl,hH,h0,hp⟩
       have hat:=at_encs e
       have hl2:=congrArg List.length e
       simp only [List.length_append,List.length_cons] at hl2
       have hi:=ih u (by rw [e];simp)
       rw [enc_x] at hi
       (repeat' (first | (refine Rn.go ?_;conv=>whnf) | refine .mk ?_ | refine .tt ?_ | refine .ff ?_ | refine .m2 ?_ | refine .m3 ?_ | refine .mk (fun hc=>?_) fun hc=>?_ | refine .lp fun v H lp=>?_ | fail))
       refine .p hi ?_
       (repeat' (first | (refine Rn.go ?_;conv=>whnf) | refine .mk ?_ | refine .tt ?_ | refine .ff ?_ | refine .m2 ?_ | refine .m3 ?_ | refine .mk (fun hc=>?_) fun hc=>?_ | refine .lp fun v H lp=>?_ | fail))
       ·exact .nx ⟨rfl,hH,h0,fun v hv=>by rcases List.mem_append.1 hv with h | h;exact hp v h;simp at h;rw [h];assumption⟩
       ·exact ⟨_,rfl,by rw [hch,chks_at e hp (by assumption)];rfl⟩
      ·rintro _ H ρ ⟨rfl,hH,h0,hp⟩
       (repeat' (first | (refine Rn.go ?_;conv=>whnf) | refine .mk ?_ | refine .tt ?_ | refine .ff ?_ | refine .m2 ?_ | refine .m3 ?_ | refine .mk (fun hc=>?_) fun hc=>?_ | refine .lp fun v H lp=>?_ | fail))
       exact ⟨_,rfl,by rw [hch,chks_zero hp];rfl⟩
    ·have hch:=hch (by rw [hpe,if_neg (by assumption)])
     refine LpX.zip T6 l (fun p q L H=>L=[(1,.ptr 0 0 0 0),(4,.int .i64 p.length)]∧HV H∧H[0]?=some ⟨.m,0,4,[.agg [.int .i64 k,.str s,.int .i64 o,.snap false (encs l)]]⟩∧∀ u∈p,chk u=0) (.nx ⟨rfl,HV.one (by simp),rfl,fun u hu=>by cases hu⟩) ?_ ?_
     ·rintro p u q _ H ρ e ⟨rfl,hH,h0,hp⟩
      have hat:=at_encs e
      have hl2:=congrArg List.length e
      simp only [List.length_append,List.length_cons] at hl2
      have hi:=ih u (by rw [e];simp)
      rw [enc_x] at hi
      (repeat' (first | (refine Rn.go ?_;conv=>whnf) | refine .mk ?_ | refine .tt ?_ | refine .ff ?_ | refine .m2 ?_ | refine .m3 ?_ | refine .mk (fun hc=>?_) fun hc=>?_ | refine .lp fun v H lp=>?_ | fail))
      refine .p hi ?_
      (repeat' (first | (refine Rn.go ?_;conv=>whnf) | refine .mk ?_ | refine .tt ?_ | refine .ff ?_ | refine .m2 ?_ | refine .m3 ?_ | refine .mk (fun hc=>?_) fun hc=>?_ | refine .lp fun v H lp=>?_ | fail))
      ·exact .nx ⟨rfl,hH,h0,fun v hv=>by rcases List.mem_append.1 hv with h | h;exact hp v h;simp at h;rw [h];assumption⟩
      ·exact ⟨_,rfl,by rw [hch,chks_at e hp (by assumption)];rfl⟩
     ·rintro _ H ρ ⟨rfl,hH,h0,hp⟩
      (repeat' (first | (refine Rn.go ?_;conv=>whnf) | refine .mk ?_ | refine .tt ?_ | refine .ff ?_ | refine .m2 ?_ | refine .m3 ?_ | refine .mk (fun hc=>?_) fun hc=>?_ | refine .lp fun v H lp=>?_ | fail))
      exact ⟨_,rfl,by rw [hch,chks_zero hp];rfl⟩
   ·rw [decide_eq_false har]
    (repeat' (first | (refine Rn.go ?_;conv=>whnf) | refine .mk ?_ | refine .tt ?_ | refine .ff ?_ | refine .m2 ?_ | refine .m3 ?_ | refine .mk (fun hc=>?_) fun hc=>?_ | refine .lp fun v H lp=>?_ | fail))
    exact ⟨_,rfl,by rw [chk,if_neg (by simp [*]),if_neg (by assumption),if_pos (by omega)];rfl⟩
 ·exact ⟨_,rfl,by rw [chk,if_pos (by assumption)];rfl⟩
theorem nodes9_fun (t:Tm) (hb:bulk t<1000000000):Fun C 241 [enc t] (.int .i64 (chk t)):=by
 induction t using Tm.ind with
 | h k s o l ih=>
  have:=len_bulks l
  simp only [bulk] at hb
  exact nodes9_ev k s o l (by omega) fun t ht=>ih t ht (by have:=bulk_mem ht;omega)
theorem rthv_fun (t:Tm) (hb:bulk t<100000000):Fun C 188 [enc t] (.int .i64 (thv t)):=by
 have h1:=(rvalid_fun t (by omega)).nine
 have h2:=nodes9_fun t (by omega)
 rw [enc_x] at h1 h2 ⊢
 refine Fun.x T6 Tryz.func188 rfl ?_
 (repeat' (first | (refine Rn.go ?_;conv=>whnf) | refine .mk ?_ | refine .tt ?_ | refine .ff ?_ | refine .m2 ?_ | refine .m3 ?_ | refine .mk (fun hc=>?_) fun hc=>?_ | refine .lp fun v H lp=>?_ | fail))
 refine .p h1 ?_
 (repeat' (first | (refine Rn.go ?_;conv=>whnf) | refine .mk ?_ | refine .tt ?_ | refine .ff ?_ | refine .m2 ?_ | refine .m3 ?_ | refine .mk (fun hc=>?_) fun hc=>?_ | refine .lp fun v H lp=>?_ | fail))
 ·refine .p h2 ?_
  (repeat' (first | (refine Rn.go ?_;conv=>whnf) | refine .mk ?_ | refine .tt ?_ | refine .ff ?_ | refine .m2 ?_ | refine .m3 ?_ | refine .mk (fun hc=>?_) fun hc=>?_ | refine .lp fun v H lp=>?_ | fail))
  exact ⟨_,rfl,by unfold thv;rw [if_neg (by omega)];rfl⟩
 ·exact ⟨_,rfl,by unfold thv;rw [if_pos (by assumption)];rfl⟩
theorem algebraic_fun (s:ByteArray):Fun C 242 [.str s] (.bool (algN s)):=by
 refine Fun.x T6 Tryz.func242 rfl ?_
 (repeat' (first | (refine Rn.go ?_;conv=>whnf) | refine .mk ?_ | refine .tt ?_ | refine .ff ?_ | refine .m2 ?_ | refine .m3 ?_ | refine .mk (fun hc=>?_) fun hc=>?_ | refine .lp fun v H lp=>?_ | fail))
 ·exact ⟨_,rfl,by unfold algN;rw [isN_t (n:=nXor) (by assumption)];rfl⟩
 ·exact ⟨_,rfl,by unfold algN;rw [isN_t (n:=nZero) (by assumption)];simp [tupOf]⟩
 ·exact ⟨_,rfl,by unfold algN;rw [isN_t (n:=nExp) (by assumption)];simp [tupOf]⟩
 ·exact ⟨_,rfl,by unfold algN;rw [isN_t (n:=nMul) (by assumption)];simp [tupOf]⟩
 ·exact ⟨_,rfl,by unfold algN;rw [isN_t (n:=nInv) (by assumption)];simp [tupOf]⟩
 ·exact ⟨_,rfl,by unfold algN;rw [isN_t (n:=nOne) (by assumption)];simp [tupOf]⟩
 ·exact ⟨_,rfl,by unfold algN;rw [isN_f (n:=nXor) (by assumption),isN_f (n:=nZero) (by assumption),isN_f (n:=nExp) (by assumption),isN_f (n:=nMul) (by assumption),isN_f (n:=nInv) (by assumption),isN_f (n:=nOne) (by assumption)];rfl⟩
theorem pres_app' (a b:List Tm):pres (a++b)=pres a++pres b:=by
 induction a with
 | nil=>rfl
 | cons t a ih=>simp [pres,ih]
theorem pres_len0:∀ {l:List Tm},(∀ t∈l,(pre t).length≤bulk t)→(pres l).length≤bulks l
 | [],_=>by simp [pres,bulks]
 | t::l,h=>by
  have h1:=h t (by simp)
  have h2:=pres_len0 (l:=l) fun u hu=>h u (by simp [hu])
  simp only [pres,bulks,List.length_append]
  omega
theorem pre_len0 (t:Tm):(pre t).length≤bulk t:=by
 induction t using Tm.ind with
 | h k n o l ih=>
  have:=pres_len0 ih
  simp only [pre,bulk,List.length_cons]
  omega
theorem pre_len' {k s o l} (hb:bulk (.mk k s o l)<100000000):(pres l).length<100000000:=by
 have:=pre_len0 (.mk k s o l)
 simp only [pre,List.length_cons] at this
 omega
@[simp] theorem esOk_encs (l:List Tm):esOk 4 (encs l):=by
 unfold esOk
 rw [List.all_eq_true]
 intro v hv
 rw [encs_eq] at hv
 obtain ⟨t,_,rfl⟩:=List.mem_map.1 hv
 rw [enc_x];rfl
theorem encs_app (a b:List Tm):encs (a++b)=encs a++encs b:=by rw [encs_eq,encs_eq,encs_eq,List.map_append]
theorem everys_all0 {p:ByteArray→Bool}:∀ {l:List Tm},(∀ t∈l,every p t=(pre t).all fun u=>decide (u.k≠3) || p u.s)→everys p l=(pres l).all fun u=>decide (u.k≠3) || p u.s
 | [],_=>rfl
 | t::l,h=>by
  rw [everys,pres,List.all_append,h t (by simp),everys_all0 fun u hu=>h u (by simp [hu])]
theorem every_all0 {p:ByteArray→Bool} (t:Tm):every p t=(pre t).all fun u=>decide (u.k≠3) || p u.s:=by
 induction t using Tm.ind with
 | h k n o l ih=>
  rw [every,pre,List.all_cons,everys_all0 ih]
  rfl
theorem all_ev (k s o l) (hb:bulk (.mk k s o l)<100000000) (ih:∀ t∈l,Fun C 168 [enc t] (.snap false (encs (pre t)))):Fun C 168 [enc (.mk k s o l)] (.snap false (encs (pre (.mk k s o l)))):=by
 have hel:=encs_len l
 rw [enc_mk]
 have hpl:=pre_len' hb
 have hbl:bulks l<100000000:=by simp only [bulk] at hb;omega
 have hll:=len_bulks l
 have one:∀ u:Tm,encs [u]=[.agg [.int .i64 u.k,.str u.s,.int .i64 u.o,.snap false (encs u.l)]]:=fun u=>by rw [encs,← enc_x];rfl
 refine Fun.x T6 Tryz.func168 rfl ?_
 (repeat' (first | (refine Rn.go ?_;conv=>whnf) | refine .mk ?_ | refine .tt ?_ | refine .ff ?_ | refine .m2 ?_ | refine .m3 ?_ | refine .mk (fun hc=>?_) fun hc=>?_ | refine .lp fun v H lp=>?_ | fail))
 refine LpX.zip T6 l (fun p q L H=>∃ v,L=[(1,.ptr 0 0 0 0),(3,v),(4,.int .i64 p.length)]∧HV H∧H[0]?=some ⟨.m,0,4,[.agg [.int .i64 k,.str s,.int .i64 o,.snap false (encs l)]]⟩∧((p=[]∧v=.snap true (encs [.mk k s o l])∧H=[⟨.m,0,4,[.agg [.int .i64 k,.str s,.int .i64 o,.snap false (encs l)]]⟩])∨(Out 4 H v (encs (.mk k s o l::pres p))∧∀ ep n,v≠.mref 0 ep 0 n))) (.nx ⟨_,rfl,HV.one (by simp),rfl,.inl ⟨rfl,by rw [one],rfl⟩⟩) ?_ ?_
 ·rintro p u q _ H ρ e ⟨v,rfl,hH,h0,ho⟩
  have hat:=at_encs e
  have hl2:=congrArg List.length e
  simp only [List.length_append,List.length_cons] at hl2
  have hi:=ih u (by rw [e];simp)
  rw [enc_x] at hi
  have hpu:pres l=pres p++(pre u++pres q):=by rw [e,pres_app'];simp [pres]
  have hpp:=congrArg List.length hpu
  simp only [List.length_append] at hpp
  have hne:(encs (pre u)).isEmpty=false:=by cases u;rfl
  have hes:esOk 4 (encs (pre u)):=esOk_encs _
  have hle:=encs_len (pre u)
  have hsn:pres (p++[u])=pres p++pre u:=by rw [pres_app'];simp [pres]
  (repeat' (first | (refine Rn.go ?_;conv=>whnf) | refine .mk ?_ | refine .tt ?_ | refine .ff ?_ | refine .m2 ?_ | refine .m3 ?_ | refine .mk (fun hc=>?_) fun hc=>?_ | refine .lp fun v H lp=>?_ | fail))
  refine .p hi ?_
  rcases ho with ⟨rfl,rfl,rfl⟩ | ⟨ho,hv0⟩
  ·(repeat' (first | (refine Rn.go ?_;conv=>whnf) | refine .mk ?_ | refine .tt ?_ | refine .ff ?_ | refine .m2 ?_ | refine .m3 ?_ | refine .mk (fun hc=>?_) fun hc=>?_ | refine .lp fun v H lp=>?_ | fail))
   refine .sn ?_ hne (by rw [encs_len];simp;omega) rfl hes (esOk_encs _)
   (repeat' (first | (refine Rn.go ?_;conv=>whnf) | refine .mk ?_ | refine .tt ?_ | refine .ff ?_ | refine .m2 ?_ | refine .m3 ?_ | refine .mk (fun hc=>?_) fun hc=>?_ | refine .lp fun v H lp=>?_ | fail))
   have hv:∀ (ep n:Nat) (m:Nat),(PV.mref 1 0 0 m:PV)≠.mref 0 ep 0 n:=fun ep n m h=>by cases h
   have e1:encs [Tm.mk k s o l]++encs (pre u)=encs (Tm.mk k s o l::pres ([]++[u])):=by rw [hsn,← encs_app];simp [pres]
   have e2:(encs [Tm.mk k s o l]).length+(encs (pre u)).length=(Tm.mk k s o l::pres ([]++[u])).length:=by rw [hsn,encs_len,encs_len];simp [pres];omega
   refine .nx ⟨_,rfl,HV.two' (by simp) (by simp),rfl,.inr ⟨.inr ⟨1,0,?_,?_⟩,?_⟩⟩
   ·rw [e2,← encs_len];rfl
   ·rw [← e1];rfl
   ·exact fun ep n=>hv ep n _
  ·have hlo:=encs_len (Tm.mk k s o l::pres p)
   simp only [List.length_cons] at hlo
   (repeat' (first | (refine Rn.go ?_;conv=>whnf) | refine .mk ?_ | refine .tt ?_ | refine .ff ?_ | refine .m2 ?_ | refine .m3 ?_ | refine .mk (fun hc=>?_) fun hc=>?_ | refine .lp fun v H lp=>?_ | fail))
   obtain ⟨k1,k2⟩:=lp.obj h0 hv0
   exact .nx ⟨_,rfl,lp.hv,k1,.inr ⟨by have:=lp.out;rw [← encs_app] at this;simpa [hsn] using this,k2⟩⟩
 ·rintro _ H ρ ⟨v,rfl,hH,h0,ho⟩
  (repeat' (first | (refine Rn.go ?_;conv=>whnf) | refine .mk ?_ | refine .tt ?_ | refine .ff ?_ | refine .m2 ?_ | refine .m3 ?_ | refine .mk (fun hc=>?_) fun hc=>?_ | refine .lp fun v H lp=>?_ | fail))
  rcases ho with ⟨rfl,rfl,rfl⟩ | ⟨ho,_⟩
  ·exact ⟨_,rfl,by simp [tupOf,nrm,pre,pres]⟩
  ·exact Ls.ret1 (.inl ho) (by simp) (by simp [pre])
theorem rall_fun (t:Tm) (hb:bulk t<100000000):Fun C 168 [enc t] (.snap false (encs (pre t))):=by
 induction t using Tm.ind with
 | h k s o l ih=>
  refine all_ev k s o l hb fun t ht=>ih t ht ?_
  have:=bulk_mem ht
  simp only [bulk] at hb
  omega
theorem pre_at {l p q:List Tm} {u:Tm} {f:Tm→Bool} (e:l=p++u::q) (hu:f u=false):l.all f=false:=by rw [e];simp [hu]
theorem freeT_eq (t:Tm):freeT t=(decide (thv t=0) && (pre t).all fun u=>decide (u.k≠3) || frN u.s):=by rw [freeT,every_all0]
theorem rfree9_fun (t:Tm) (hb:bulk t<100000000):Fun C 189 [enc t] (.bool (freeT t)):=by
 have h1:=rthv_fun t hb
 have h2:=rall_fun t hb
 have hf:=freeT_eq t
 have hel:=encs_len (pre t)
 have hpl:=pre_len0 t
 rw [enc_x] at h1 h2 ⊢
 refine Fun.x T6 Tryz.func189 rfl ?_
 (repeat' (first | (refine Rn.go ?_;conv=>whnf) | refine .mk ?_ | refine .tt ?_ | refine .ff ?_ | refine .m2 ?_ | refine .m3 ?_ | refine .mk (fun hc=>?_) fun hc=>?_ | refine .lp fun v H lp=>?_ | fail))
 refine .p h1 ?_
 (repeat' (first | (refine Rn.go ?_;conv=>whnf) | refine .mk ?_ | refine .tt ?_ | refine .ff ?_ | refine .m2 ?_ | refine .m3 ?_ | refine .mk (fun hc=>?_) fun hc=>?_ | refine .lp fun v H lp=>?_ | fail))
 ·have hf:freeT t=(pre t).all fun u=>decide (u.k≠3) || frN u.s:=by rw [hf];simp [*]
  refine .p h2 ?_
  (repeat' (first | (refine Rn.go ?_;conv=>whnf) | refine .mk ?_ | refine .tt ?_ | refine .ff ?_ | refine .m2 ?_ | refine .m3 ?_ | refine .mk (fun hc=>?_) fun hc=>?_ | refine .lp fun v H lp=>?_ | fail))
  refine LpX.zip T6 (pre t) (fun p q L H=>L=[(3,.snap false (encs (pre t))),(4,.int .i64 p.length)]∧HV H∧∀ u∈p,(decide (u.k≠3) || frN u.s)=true) (.nx ⟨rfl,HV.one (by simp),fun u hu=>by cases hu⟩) ?_ ?_
  ·rintro p u q _ H ρ e ⟨rfl,hH,hp⟩
   have hat:=at_encs e
   have hl2:=congrArg List.length e
   simp only [List.length_append,List.length_cons] at hl2
   have ha:=algebraic_fun u.s
   have hk:=kind9_fun u.s
   have hno:(decide (u.k≠3) || frN u.s)=false→freeT t=false:=fun h=>by rw [hf];exact pre_at e h
   have hnx:(decide (u.k≠3) || frN u.s)=true→∀ v∈p++[u],(decide (v.k≠3) || frN v.s)=true:=fun h v hv=>by
    rcases List.mem_append.1 hv with h1 | h1
    ·exact hp v h1
    ·simp at h1;rw [h1];exact h
   (repeat' (first | (refine Rn.go ?_;conv=>whnf) | refine .mk ?_ | refine .tt ?_ | refine .ff ?_ | refine .m2 ?_ | refine .m3 ?_ | refine .mk (fun hc=>?_) fun hc=>?_ | refine .lp fun v H lp=>?_ | fail))
   ·refine .p ha ?_
    cases hal:algN u.s
    ·(repeat' (first | (refine Rn.go ?_;conv=>whnf) | refine .mk ?_ | refine .tt ?_ | refine .ff ?_ | refine .m2 ?_ | refine .m3 ?_ | refine .mk (fun hc=>?_) fun hc=>?_ | refine .lp fun v H lp=>?_ | fail))
     refine .p hk ?_
     (repeat' (first | (refine Rn.go ?_;conv=>whnf) | refine .mk ?_ | refine .tt ?_ | refine .ff ?_ | refine .m2 ?_ | refine .m3 ?_ | refine .mk (fun hc=>?_) fun hc=>?_ | refine .lp fun v H lp=>?_ | fail))
     ·exact ⟨_,rfl,by rw [hno (by simp [frN, *])];rfl⟩
     ·exact .nx ⟨rfl,hH,hnx (by simp [frN, *])⟩
    ·(repeat' (first | (refine Rn.go ?_;conv=>whnf) | refine .mk ?_ | refine .tt ?_ | refine .ff ?_ | refine .m2 ?_ | refine .m3 ?_ | refine .mk (fun hc=>?_) fun hc=>?_ | refine .lp fun v H lp=>?_ | fail))
     exact ⟨_,rfl,by rw [hno (by simp [frN, *])];rfl⟩
   ·exact .nx ⟨rfl,hH,hnx (by simp [*])⟩
  ·rintro _ H ρ ⟨rfl,hH,hp⟩
   have ha:freeT t=true:=by rw [hf,List.all_eq_true];exact hp
   (repeat' (first | (refine Rn.go ?_;conv=>whnf) | refine .mk ?_ | refine .tt ?_ | refine .ff ?_ | refine .m2 ?_ | refine .m3 ?_ | refine .mk (fun hc=>?_) fun hc=>?_ | refine .lp fun v H lp=>?_ | fail))
   exact ⟨_,rfl,by rw [ha];rfl⟩
 ·exact ⟨_,rfl,by rw [hf];simp [tupOf, *]⟩
end Go.Pm.Nine
end
section
set_option maxRecDepth 4000
namespace Go.Pm
open Go.Proofs
def ddp (p:Tm):List Tm→List Tm
 | []=>[]
 | a::r=>if cmpT a p=0 then ddp a r else a::ddp a r
def dd:List Tm→List Tm
 | []=>[]
 | x::r=>x::ddp x r
theorem ddp_len (p:Tm):∀ l:List Tm,(ddp p l).length≤l.length
 | []=>by simp [ddp]
 | a::r=>by
  have:=ddp_len a r
  unfold ddp
  split <;> simp <;> omega
theorem dd_len:∀ l:List Tm,(dd l).length≤l.length
 | []=>by simp [dd]
 | a::r=>by have:=ddp_len a r;simp [dd];omega
theorem nth_enc {l:List Tm} {i:Nat} {t:Tm} (h:l[i]?=some t):(encs l)[i]?=some (.agg [.int .i64 t.k,.str t.s,.int .i64 t.o,.snap false (encs t.l)]):=by rw [encs_eq,List.getElem?_map,h,← enc_x];rfl
theorem set_encs {l:List Tm} {i:Nat} {t:Tm}:(encs l).set i (enc t)=encs (l.set i t):=by rw [encs_eq,encs_eq,List.map_set]
theorem nth_at {α:Type} {L A B:List α} {x:α} {i:Nat} (e:L=A++x::B) (hi:i=A.length):L[i]?=some x:=by subst e hi;simp
theorem list_set_self {α:Type} {l:List α} {i:Nat} {x:α} (h:l[i]?=some x):l.set i x=l:=by
 obtain ⟨h1,rfl⟩:=List.getElem?_eq_some_iff.1 h
 exact List.set_getElem_self h1
section
variable {C:Cfg} (T:Tab C.P) {h:AHeap}
theorem slice_lo {t el:TypeId} {sz id ep len n:Nat} {k:IntKind} {es:List PV} (hk:T.kd t=some (.sl el)) (hs:T.ts el=some sz) (e:h[id]?=some ⟨.m,ep,sz,es⟩) (hl:len≤es.length) (h0:0<n) (hn:n<len) :
  sliceP C.P h t (.mref id ep 0 len) (some (.int k n)) none none=some (.mref id ep (0+n) (len - n)):=by
 have hg:getM h id ep=some ⟨.m,ep,sz,es⟩:=getM_at e rfl (by simp)
 simp only [sliceP,kd_sl (T.hkd _ _ hk),T.hts _ _ hs,hg]
 rw [if_pos ⟨trivial,by show 0+len≤es.length;omega⟩]
 have hb:beyond none none len (es.length - 0)=none:=rfl
 simp only [beyond,boundP]
 rw [if_pos (by omega)]
 simp only [Int.toNat_natCast]
 rw [if_pos (by rfl),if_neg (by simp),if_neg (by omega),if_neg (by omega)]
theorem slice_hi {t el:TypeId} {sz id ep len n:Nat} {k:IntKind} {es:List PV} (hk:T.kd t=some (.sl el)) (hs:T.ts el=some sz) (e:h[id]?=some ⟨.m,ep,sz,es⟩) (hl:len≤es.length) (hn:n≤len) :
  sliceP C.P h t (.mref id ep 0 len) none (some (.int k n)) none=some (.mref id ep 0 n):=by
 have hg:getM h id ep=some ⟨.m,ep,sz,es⟩:=getM_at e rfl (by simp)
 simp only [sliceP,kd_sl (T.hkd _ _ hk),T.hts _ _ hs,hg]
 rw [if_pos ⟨trivial,by show 0+len≤es.length;omega⟩]
 simp only [beyond,boundP]
 rw [if_neg (by omega),if_pos (by omega)]
 simp
theorem clear_at {t el:TypeId} {sz id ep off len:Nat} {z:PV} {es:List PV} (hk:T.kd t=some (.sl el)) (hs:T.ts el=some sz) (hz:T.tz el=some z) (e:h[id]?=some ⟨.m,ep,sz,es⟩) (hl:off+len≤es.length) (hc:(cells z).length=sz) (ho:(cells z).all oneC=true) :
  clearP C.P 2 h t (.mref id ep off len)=some (.tup [],h.set id ⟨.m,ep,sz,es.take off++List.replicate len z++es.drop (off+len)⟩):=by
 have hg:getM h id ep=some ⟨.m,ep,sz,es⟩:=getM_at e rfl (by simp)
 simp only [clearP,kd_sl (T.hkd _ _ hk),T.hts _ _ hs,T.htz _ _ hz,hg]
 rw [if_pos ⟨by omega,trivial,trivial,hl,hc,ho⟩]
theorem OtherR.sl {L:Al} {t:TypeId} {x lo:Operand} {v u w:PV} {K:PV→Prop} (hx:evL L x=some v) (hl:evL L lo=some u) (hs:sliceP C.P h t v (some u) none none=some w) (kk:Rn (K w)):OtherR C (.slice t x (some lo) none none) L h K:=
 .mk (fun run lv ρ=>by simp only [opVal,stepOp,evL_ev hx,evL_ev hl,Option.map_some,Option.map_none,hs]) kk
theorem OtherR.sh {L:Al} {t:TypeId} {x hi:Operand} {v u w:PV} {K:PV→Prop} (hx:evL L x=some v) (hl:evL L hi=some u) (hs:sliceP C.P h t v none (some u) none=some w) (kk:Rn (K w)):OtherR C (.slice t x none (some hi) none) L h K:=
 .mk (fun run lv ρ=>by simp only [opVal,stepOp,evL_ev hx,evL_ev hl,Option.map_some,Option.map_none,hs]) kk
theorem OpqX.clr {L:Al} {t:TypeId} {x:Operand} {v:PV} {h':AHeap} {K:PV→AHeap→Prop} (hx:evL L x=some v) (hs:clearP C.P 2 h t v=some (.tup [],h')) (kk:Rn (K (.tup []) h')):OpqX C (.call ⟨.builtin .clear,#[x],#[t]⟩) L h K:=
 .mk (fun run ρ=>by simp only [opVal,builtinP,List.map_cons,List.map_nil,evL_ev hx,hs]) kk
end
attribute [local irreducible] thenQ blockQ loopQ bodyQ Ev EvOps CallEv FnEv EvD
end Go.Pm
end
section
set_option maxRecDepth 4000
namespace Go.Pm
open Go.Proofs
theorem ddp_in:∀ (l:List Tm) (p y:Tm),y∈p::ddp p l↔y∈p::l
 | [],p,y=>by simp [ddp]
 | a::r,p,y=>by
  have ih:=ddp_in r a y
  unfold ddp
  split
  ·rename_i h
   obtain rfl:=cmpT_zero h
   rw [ih];simp
  ·rw [List.mem_cons,ih,List.mem_cons (b:=p)]
theorem ddp_srt:∀ (l:List Tm) (p:Tm),((p::l).Pairwise fun x y=>cmpT x y≤0)→SrtT (p::ddp p l)
 | [],p,_=>by simp [ddp,SrtT]
 | a::r,p,h=>by
  have h2:=List.pairwise_cons.1 h
  have ih:=ddp_srt r a h2.2
  unfold ddp
  split
  ·rename_i hc
   obtain rfl:=cmpT_zero hc
   exact ih
  ·rename_i hc
   have hp:=h2.1 a (by simp)
   have ng:=cmpT_neg p a
   refine List.pairwise_cons.2 ⟨fun y hy=>?_,ih⟩
   rcases List.mem_cons.1 hy with rfl | hy
   ·omega
   ·exact cmpT_trans (show cmpT p a<0 by omega) ((List.pairwise_cons.1 ih).1 y hy)
theorem dd_in (l:List Tm) (y:Tm):y∈dd l↔y∈l:=by
 cases l with
 | nil=>simp [dd]
 | cons x r=>exact ddp_in r x y
theorem dd_srt {l:List Tm} (h:l.Pairwise fun x y=>cmpT x y≤0):SrtT (dd l):=by
 cases l with
 | nil=>simp [dd,SrtT]
 | cons x r=>exact ddp_srt r x h
theorem CallEv.ln {C:Cfg} {f:FuncId} {args:List PV} {H:AHeap} {P Q:PV→AHeap→Prop} (a:FnEv C f args H P) (hl:∀ r h',P r h'→h'.length=H.length) (q:∀ r h',P r h'→Q r h') (hm:C.mode f=.opened:=by rfl):CallEv C 2 f args H Q:=by
 refine CallEv.opened hm (a.mono fun r k hr=>?_)
 split
 ·rw [List.take_of_length_le (by rw [hl r k hr];exact Nat.le_refl _)]
  exact q r k hr
 ·exact q r k hr
attribute [local irreducible] thenQ blockQ loopQ bodyQ Ev EvOps CallEv FnEv EvD
theorem mref_pre {h:AHeap} {id ep sz n:Nat} {es es' tl:List PV} (e:h[id]?=some ⟨.m,ep,sz,es++tl⟩) (hl:es.length=n) (hv:isVals es=true) (hn:nrms es=es'):∃ r1,rb h (tupOf [.mref id ep 0 n])=some r1∧nrm r1=.snap false es':=by
 subst hl hn
 refine ⟨.snap false es,?_,rfl⟩
 have hg:getM h id ep=some ⟨.m,ep,sz,es++tl⟩:=getM_at e rfl (by simp)
 show rb h (.mref id ep 0 es.length)=_
 simp [rb,rbA,rb1,hg,hv]
namespace Nine
end Nine
end Go.Pm
end
section
namespace Go.Pm
theorem name_size {s:ByteArray} (h:isName s=true):s.size≤24:=by
 rw [← bsize]
 unfold isName isNameL at h
 cases e:s.toList with
 | nil=>simp
 | cons c l=>
  rw [e] at h
  simp only [Bool.and_eq_true,decide_eq_true_eq] at h
  simp;omega
theorem node_name {k n o l} (h:node (.mk k n o l)=0):isName n=true∧l.length≤8:=by
 simp only [node] at h
 split at h
 ·cases h
 ·split at h
  ·cases h
  ·rename_i hn
   split at h
   ·cases h
   ·exact ⟨by simpa using hn,by omega⟩
theorem nodes_mk {k n o l} (h:nodes (.mk k n o l)=0):node (.mk k n o l)=0∧nodess l=0:=by
 rw [nodes] at h
 split at h
 ·rename_i hn;exact absurd h hn
 ·exact ⟨by omega,h⟩
theorem bulks_leN {f:Nat}:∀ {l:List Tm},(∀ t∈l,(bulk t:Int)≤f * size t)→(bulks l:Int)≤f * sizes l
 | [],_=>by simp [bulks,sizes]
 | t::l,h=>by
  have h1:=h t (by simp)
  have h2:=bulks_leN (l:=l) fun u hu=>h u (by simp [hu])
  simp only [bulks,sizes,Int.mul_add]
  omega
theorem nodes_bulk (t:Tm):nodes t=0→(bulk t:Int)≤25 * size t:=by
 induction t using Tm.ind with
 | h k n o l ih=>
  intro h
  obtain ⟨h1,h2⟩:=nodes_mk h
  have h3:=name_size (node_name h1).1
  have h4:=bulks_leN (f:=25) fun t ht=>by simpa using ih t ht (nodess_mem h2 t ht)
  simp only [bulk,size,Int.mul_add]
  omega
theorem valid_bulk {t:Tm} (h:valid t=0):bulk t≤10000:=by
 obtain ⟨h1,h2,_⟩:=valid_zero.1 h
 have:=nodes_bulk t h1
 omega
theorem getB_le {B:Nat} {x:Tm}:∀ {s:List Bdg},(∀ b∈s,bulk b.t≤B)→bulk (getB s x)≤max B (bulk x)
 | [],_=>by simp [getB];omega
 | b::s,h=>by
  unfold getB
  split
  ·have:=h b (by simp);omega
  ·exact getB_le fun c hc=>h c (by simp [hc])
theorem setT_in (l:List Tm) (y:Tm):y∈setT l↔y∈l:=by rw [setT,accs_in];simp
theorem setT_srt (l:List Tm):SrtT (setT l):=accs_srt (by simp [SrtT])
theorem dd_set (l:List Tm):dd (sortT l)=setT l:=srt_ext (dd_srt (sortT_srt _)) (setT_srt l) (fun y=>by rw [dd_in,setT_in];exact (sortT_perm _).mem_iff)
theorem kindT_in (n:Int) (t y:Tm):y∈kindT n t↔y∈pre t∧y.k=n:=by rw [kindT,setT_in];simp
theorem varsT_in (t y:Tm):y∈varsT t↔y∈pre t∧y.k=1:=kindT_in 1 t y
theorem pres_in {l:List Tm} {y:Tm}:y∈pres l↔∃ t∈l,y∈pre t:=by
 induction l with
 | nil=>simp [pres]
 | cons t l ih=>simp [pres,ih]
theorem pre_bulk (t:Tm):∀ y∈pre t,bulk y≤bulk t:=by
 induction t using Tm.ind with
 | h k n o l ih=>
  intro y hy
  rw [pre,List.mem_cons] at hy
  rcases hy with rfl | hy
  ·exact Nat.le_refl _
  ·obtain ⟨t,ht,hy⟩:=pres_in.1 hy
   have h1:=ih t ht y hy
   have h2:=bulk_mem ht
   simp only [bulk]
   omega
theorem pres_len':∀ {l:List Tm},(∀ t∈l,(pre t).length≤bulk t)→(pres l).length≤bulks l
 | [],_=>by simp [pres,bulks]
 | t::l,h=>by
  have h1:=h t (by simp)
  have h2:=pres_len' (l:=l) fun u hu=>h u (by simp [hu])
  simp only [pres,bulks,List.length_append]
  omega
theorem pre_len (t:Tm):(pre t).length≤bulk t:=by
 induction t using Tm.ind with
 | h k n o l ih=>
  have:=pres_len' ih
  simp only [pre,bulk,List.length_cons]
  omega
theorem pres_len (l:List Tm):(pres l).length≤bulks l:=pres_len' fun t _=>pre_len t
theorem setT_len (l:List Tm):(setT l).length≤l.length:=by have:=accs_len l [];simpa [setT] using this
theorem kindT_len (n:Int) (t:Tm):(kindT n t).length≤bulk t:=by
 have h1:=setT_len ((pre t).filter fun u=>decide (u.k=n))
 have h2:=List.length_filter_le (fun u=>decide (u.k=n)) (pre t)
 have h3:=pre_len t
 unfold kindT
 omega
theorem varsT_len (t:Tm):(varsT t).length≤bulk t:=kindT_len 1 t
theorem varsT_bulk {t y:Tm} (h:y∈varsT t):bulk y≤bulk t:=pre_bulk t y ((varsT_in t y).1 h).1
theorem right_zero {t:Tm} (h:rightC t=0):valid t=0∧chk t=0∧freeT t=true∧(varsT t).any agT=false∧size t≤60:=by
 unfold rightC at h
 split at h
 ·rename_i hn;exact absurd h hn
 ·rename_i h1
  split at h
  ·cases h
  ·rename_i h2
   split at h
   ·cases h
   ·have h3:thv t=0:=by omega
    unfold thv at h3
    split at h3
    ·rename_i hn;exact absurd h3 hn
    ·refine ⟨by omega,h3,?_,?_,by omega⟩
     ·cases hf:freeT t with
      | true=>rfl
      | false=>exact absurd (.inl hf) h2
     ·cases hf:(varsT t).any agT with
      | false=>rfl
      | true=>exact absurd (.inr hf) h2
theorem rights_zero:∀ {l:List Tm},rightCs l=0→∀ t∈l,rightC t=0
 | [],_,t,h=>by cases h
 | u::l,e,t,h=>by
  rw [rightCs] at e
  split at e
  ·rename_i hn;exact absurd e hn
  ·rcases List.mem_cons.1 h with rfl | h
   ·omega
   ·exact rights_zero e t h
theorem sysGo_zero:∀ {l:List Dem} {p:Option (List Tm)} {b:List Tm},sysGo p b l=0→∀ d∈l,d.kn.length≤40∧rightCs (d.kn++[d.tm])=0
 | [],_,_,_,d,h=>by cases h
 | u::l,p,b,e,d,h=>by
  rw [sysGo] at e
  split at e
  ·cases e
  ·split at e
   ·rename_i hn;exact absurd e hn
   ·split at e
    ·cases e
    ·split at e
     ·cases e
     ·rcases List.mem_cons.1 h with rfl | h
      ·exact ⟨by omega,by omega⟩
      ·exact sysGo_zero e d h
theorem sysV_zero {l:List Dem} (h:sysV l=0):l.length≤40∧∀ d∈l,d.kn.length≤40∧∀ t∈d.kn++[d.tm],rightC t=0:=by
 unfold sysV at h
 split at h
 ·cases h
 ·exact ⟨by omega,fun d hd=>⟨(sysGo_zero h d hd).1,rights_zero (sysGo_zero h d hd).2⟩⟩
theorem bdE_zero {b:Bdg} (h:bdE b=0):valid b.v=0∧b.v.k=1∧valid b.t=0∧cmpT b.v b.t≠0∧fitsT b.v b.t=true:=by
 unfold bdE at h
 split at h
 ·rename_i hn;exact absurd h hn
 ·split at h
  ·cases h
  ·rename_i h2
   split at h
   ·rename_i hn;exact absurd h hn
   ·split at h
    ·cases h
    ·rename_i h4
     exact ⟨by omega,by omega,by omega,by omega,by simpa using h4⟩
theorem subGo_zero:∀ {s:List Bdg} {p:Option Tm},subGo p s=0→(∀ b∈s,bdE b=0)∧(s.Pairwise fun a b=>cmpT a.v b.v<0)∧(∀ q,p=some q→∀ b∈s,cmpT q b.v<0)
 | [],_,_=>⟨fun _ h=>(by cases h),.nil,fun _ _ _ h=>(by cases h)⟩
 | u::s,p,e=>by
  rw [subGo] at e
  split at e
  ·rename_i hn;exact absurd e hn
  ·rename_i h1
   split at e
   ·cases e
   ·rename_i h2
    obtain ⟨g1,g2,g3⟩:=subGo_zero e
    refine ⟨fun b hb=>?_,List.pairwise_cons.2 ⟨fun b hb=>g3 _ rfl b hb,g2⟩,?_⟩
    ·rcases List.mem_cons.1 hb with rfl | hb
     ·omega
     ·exact g1 b hb
    ·rintro q rfl b hb
     have h3:cmpT q u.v<0:=by simpa [behind] using h2
     rcases List.mem_cons.1 hb with rfl | hb
     ·exact h3
     ·exact cmpT_trans h3 (g3 _ rfl b hb)
theorem subV_zero {s:List Bdg} (h:subV s=0):s.length≤200∧(∀ b∈s,bdE b=0)∧s.Pairwise fun a b=>cmpT a.v b.v<0:=by
 unfold subV at h
 split at h
 ·cases h
 ·obtain ⟨g1,g2,_⟩:=subGo_zero h
  exact ⟨by omega,g1,g2⟩
end Go.Pm
end
section
set_option maxRecDepth 4000
namespace Go.Pm
open Go.Proofs
def atR (r:List Int) (c:Nat):Int:=r.getD c 0
structure Pr2 where
 d:Nat
 s:Nat
 a:List Int
 b:List Int
def Pr2.v (x:Pr2):PV:=.agg [.mref x.d 0 0 x.a.length,.mref x.s 0 0 x.b.length]
attribute [local irreducible] thenQ blockQ loopQ bodyQ Ev EvOps CallEv FnEv EvD
end Go.Pm
end
section
namespace Go.Pm
abbrev Row:=List Int × Bool
def cand (c:Nat) (R:Row):Bool:=!R.2 && decide (atR R.1 c≠0)
def cnt (c:Nat) (S:List Row):Nat:=(S.filter (cand c)).length
structure Best (c:Nat) (S:List Row) (bi:Nat) (b:List Int):Prop where
 at_:S[bi]?=some (b,false)
 nz:atR b c≠0
 min:∀ (i:Nat) (R:Row),S[i]?=some R→cand c R=true→(atR b c).natAbs≤(atR R.1 c).natAbs
 fst:∀ (i:Nat) (R:Row),S[i]?=some R→cand c R=true→i<bi→(atR b c).natAbs<(atR R.1 c).natAbs
end Go.Pm
end
section
set_option maxRecDepth 4000
namespace Go.Pm
open Go.Proofs
structure Rw where
 r:Nat
 p:Nat
 c:Nat
 a:List Int
 b:List Int
 u:Bool
def Rw.m (R:Rw):Row:=(R.a++R.b,R.u)
def Rw.ids (R:Rw):List Nat:=[R.r,R.p,R.c]
def Rw.ptr (R:Rw):PV:=.ptr R.r 0 0 0
structure RwAt (h:AHeap) (R:Rw):Prop where
 er:h[R.r]?=some ⟨.m,0,3,[.agg [.mref R.p 0 0 R.a.length,.mref R.c 0 0 R.b.length,.bool R.u]]⟩
 ea:h[R.p]?=some ⟨.m,0,1,encIs R.a⟩
 eb:h[R.c]?=some ⟨.m,0,1,encIs R.b⟩
def vid:PV→List Nat
 | .mref i _ _ _=>[i]
 | _=>[]
structure Lay (h:AHeap) (x:Nat) (cv rv pv:PV) (n k:Nat) (Rs:List Rw) (P:List Int) (lg:Bool):Prop where
 hr:HR h
 ex:h[x]?=some ⟨.m,0,4,[.agg [cv,rv,pv,.bool lg]]⟩
 er:Out 1 h rv (Rs.map Rw.ptr)
 ep:Out 1 h pv (encIs P)
 at_:∀ R∈Rs,RwAt h R∧R.a.length=n∧R.b.length=k
 nd:(x::(vid rv++(vid pv++Rs.flatMap Rw.ids))).Nodup
theorem belowA_vis {n:Nat}:∀ {p:PV},belowA n p=true→visR (fun i=>decide (i<n)) p=true:=by
 have one:∀ {p:PV},below1 n p=true→visR (fun i=>decide (i<n)) p=true:=by
  intro p h
  unfold below1 at h
  split at h
  ·simpa [visR] using h
  ·simpa [visR] using h
  ·exact vis_val _ _ h
 intro p h
 unfold belowA at h
 split at h
 ·rename_i cs
  rw [visR,visRs_all,List.all_eq_true]
  exact fun c hc=>one (List.all_eq_true.1 h c hc)
 ·exact one h
theorem HR.take {h:AHeap} (H:HR h) {n:Nat} (hn:n≤h.length) (hb:((h.take n).all fun o=>o.es.all (belowA n))=true):HR (h.take n):=by
 intro o ho
 refine ⟨(H o (List.mem_of_mem_take ho)).1,?_⟩
 rw [List.length_take,Nat.min_eq_left hn,visRs_all,List.all_eq_true]
 exact fun p hp=>belowA_vis (List.all_eq_true.1 (List.all_eq_true.1 hb o ho) p hp)
theorem CallEv.sm {C:Cfg} {f:FuncId} {args:List PV} {H:AHeap} {P Q:PV→AHeap→Prop} (a:FnEv C f args H P) (hl:∀ r h',P r h'→HR h'∧H.length≤h'.length) (q1:∀ r h',P r h'→Q r h') (q2:∀ r h',P r h'→HR (h'.take H.length)→Q r (h'.take H.length)) (hm:C.mode f=.opened:=by rfl):CallEv C 2 f args H Q:=by
 refine CallEv.opened hm (a.mono fun r k hr=>?_)
 split
 ·rename_i hc
  rw [Bool.and_eq_true] at hc
  obtain ⟨h1,h2⟩:=hl r k hr
  exact q2 r k hr (h1.take h2 hc.2)
 ·exact q1 r k hr
theorem Out.of_eq {sz:Nat} {h h':AHeap} {v:PV} {es:List PV} (o:Out sz h v es) (he:∀ i∈vid v,h'[i]?=h[i]?):Out sz h' v es:=by
 rcases o with o | ⟨id,ep,rfl,e⟩
 ·exact .inl o
 ·exact .inr ⟨id,ep,rfl,by rw [he id (by simp [vid])];exact e⟩
def Lay.all (x:Nat) (rv pv:PV) (Rs:List Rw):List Nat:=x::(vid rv++(vid pv++Rs.flatMap Rw.ids))
theorem Out.vlt {sz:Nat} {h:AHeap} {v:PV} {es:List PV} (o:Out sz h v es):∀ i∈vid v,i<h.length:=by
 rcases o with ⟨rfl,_⟩ | ⟨id,ep,rfl,e⟩
 ·simp [vid]
 ·intro i hi;simp [vid] at hi;subst hi;exact lt_of_some e
theorem RwAt.lt {h:AHeap} {R:Rw} (a:RwAt h R):∀ i∈R.ids,i<h.length:=by
 intro i hi
 simp only [Rw.ids,List.mem_cons,List.not_mem_nil,or_false] at hi
 rcases hi with rfl | rfl | rfl
 ·exact lt_of_some a.er
 ·exact lt_of_some a.ea
 ·exact lt_of_some a.eb
theorem Lay.lt {h:AHeap} {x:Nat} {cv rv pv:PV} {n k:Nat} {Rs:List Rw} {P:List Int} {lg:Bool} (L:Lay h x cv rv pv n k Rs P lg):∀ i∈Lay.all x rv pv Rs,i<h.length:=by
 intro i hi
 simp only [Lay.all,List.mem_cons,List.mem_append,List.mem_flatMap] at hi
 rcases hi with rfl | hi | hi | ⟨R,hR,hi⟩
 ·exact lt_of_some L.ex
 ·exact L.er.vlt i hi
 ·exact L.ep.vlt i hi
 ·exact (L.at_ R hR).1.lt i hi
end Go.Pm
end
section
set_option maxRecDepth 4000
namespace Go.Pm
open Go.Proofs
attribute [local irreducible] thenQ blockQ loopQ bodyQ Ev EvOps CallEv FnEv EvD
end Go.Pm
end
section
set_option maxRecDepth 4000
namespace Go.Pm
open Go.Proofs
theorem cnt_snoc (c:Nat) (p:List Row) (R:Row):cnt c (p++[R])=cnt c p+if cand c R=true then 1 else 0:=by
 unfold cnt
 rw [List.filter_append,List.length_append]
 congr 1
 by_cases h:cand c R=true <;> simp [h]
theorem cnt_zero {c:Nat} {S:List Row} (h:cnt c S=0):∀ R∈S,cand c R=false:=by
 unfold cnt at h
 intro R hR
 cases hc:cand c R with
 | false=>rfl
 | true=>
  have:R∈S.filter (cand c):=List.mem_filter.2 ⟨hR,hc⟩
  rw [List.eq_nil_of_length_eq_zero h] at this
  cases this
def BSt (c:Nat) (p:List Row) (best count:Int):Prop:=count=(cnt c p:Nat)∧((cnt c p=0∧best=-1)∨∃ (bi:Nat) (b:List Int),best=bi∧Best c p bi b)
theorem snoc_get {p:List Row} {R Q:Row} {i:Nat} (h:(p++[R])[i]?=some Q):p[i]?=some Q∨(i=p.length∧Q=R):=by
 rcases Nat.lt_trichotomy i p.length with h1 | h1 | h1
 ·rw [List.getElem?_append_left h1] at h;exact .inl h
 ·subst h1;simp at h;exact .inr ⟨rfl,h.symm⟩
 ·rw [List.getElem?_eq_none (by simp;omega)] at h;cases h
theorem Best.new {c:Nat} {p:List Row} {b:List Int} (hc:cand c (b,false)=true) (h:∀ Q∈p,cand c Q=true→(atR b c).natAbs<(atR Q.1 c).natAbs):Best c (p++[(b,false)]) p.length b where
 at_:=by simp
 nz:=by simpa [cand] using hc
 min i Q hQ hcQ:=by
  rcases snoc_get hQ with h1 | ⟨rfl,rfl⟩
  ·exact Nat.le_of_lt (h Q (List.mem_of_getElem? h1) hcQ)
  ·exact Nat.le_refl _
 fst i Q hQ hcQ hi:=by
  rcases snoc_get hQ with h1 | ⟨rfl,rfl⟩
  ·exact h Q (List.mem_of_getElem? h1) hcQ
  ·omega
theorem BSt.first {c:Nat} {p:List Row} {count:Int} {b:List Int} (h:BSt c p (-1) count) (hR:cand c (b,false)=true):BSt c (p++[(b,false)]) p.length (count+1):=by
 obtain ⟨h1,h2⟩:=h
 rcases h2 with ⟨a,_⟩ | ⟨bi,_,e,_⟩
 ·refine ⟨by rw [cnt_snoc,hR,if_pos rfl];omega,.inr ⟨_,b,rfl,Best.new hR fun Q hQ hc=>?_⟩⟩
  rw [cnt_zero a Q hQ] at hc;cases hc
 ·omega
attribute [local irreducible] thenQ blockQ loopQ bodyQ Ev EvOps CallEv FnEv EvD
end Go.Pm
end
section
set_option maxRecDepth 4000
namespace Go.Pm
open Go.Proofs
structure Rf where
 i:Nat
 e:Nat
 r:List Int
 u:Bool
def Rf.v (z:Rf):PV:=.mref z.i z.e 0 z.r.length
def Rf.m (z:Rf):Row:=(z.r,z.u)
def Rf.b (z:Rf):PV:=.bool z.u
def encNs (l:List Nat):List PV:=l.map fun (i:Nat)=>.int .i64 i
@[simp] theorem encNs_len (l:List Nat):(encNs l).length=l.length:=by simp [encNs]
@[simp] theorem encNs_vals (l:List Nat):isVals (encNs l)=true:=by induction l with | nil=>rfl | cons x l ih=>simpa [encNs] using ih
structure RL (h:AHeap) (rv:PV) (iu eu w:Nat) (Z:List Rf):Prop where
 hr:HR h
 er:Out 1 h rv (Z.map Rf.v)
 eu:h[iu]?=some ⟨.m,eu,1,Z.map Rf.b⟩
 at_:∀ z∈Z,h[z.i]?=some ⟨.m,z.e,1,encIs z.r⟩∧z.r.length=w
attribute [local irreducible] thenQ blockQ loopQ bodyQ Ev EvOps CallEv FnEv EvD
end Go.Pm
end
section
set_option maxRecDepth 4000
namespace Go.Pm
open Go.Proofs
section
variable {C:Cfg} (T:Tab C.P) {h:AHeap}
end
theorem Out.oneC {sz:Nat} {h:AHeap} {v:PV} {es:List PV} (o:Out sz h v es):Pm.oneC v=true∧Pm.cells v=[v]:=by
 rcases o with ⟨rfl,_⟩ | ⟨id,ep,rfl,_⟩ <;> exact ⟨rfl,rfl⟩
theorem Out.visR {sz:Nat} {h:AHeap} {v:PV} {es:List PV} (o:Out sz h v es):Pm.visR (fun i=>decide (i<h.length)) v=true:=by
 rcases o with ⟨rfl,_⟩ | ⟨id,ep,rfl,e⟩
 ·rfl
 ·have:=lt_of_some e;simpa [Pm.visR] using this
structure TB (H h:AHeap) (r6 iu w:Nat) (cols:List Tm) (rv pv:PV) (Z:List Rf) (P:List Int):Prop where
 rl:RL h rv iu 0 w Z
 fr:∀ j,j<H.length→h[j]?=H[j]?
 z0:h[H.length]?=some ⟨.m,0,3,[.agg [.snap true [],.snap true [],.snap true []]]⟩
 ex:h[r6]?=some ⟨.m,0,3,[.agg [.snap false (encs cols),rv,pv]]⟩
 ep:Out 1 h pv (encIs P)
 gt:∀ i∈iu::(vid rv++vid pv),r6<i
 nd:(iu::(vid rv++vid pv)).Nodup
 zi:∀ z∈Z,z.i∉iu::(vid rv++vid pv)∧r6<z.i
 h6:H.length<r6
theorem TB.lt {H h:AHeap} {r6 iu w:Nat} {cols:List Tm} {rv pv:PV} {Z:List Rf} {P:List Int} (t:TB H h r6 iu w cols rv pv Z P):∀ i∈iu::(vid rv++vid pv),i<h.length:=by
 intro i hi
 simp only [List.mem_cons,List.mem_append] at hi
 rcases hi with rfl | hi | hi
 ·exact lt_of_some t.rl.eu
 ·exact t.rl.er.vlt i hi
 ·exact t.ep.vlt i hi
theorem LR.vid {H h':AHeap} {v r:PV} {sz:Nat} {es:List PV} (l:LR H v sz es r h'):∀ i∈Pm.vid r,i∈Pm.vid v∨H.length≤i:=by
 rcases l.out with ⟨rfl,_⟩ | ⟨id,ep,rfl,_⟩
 ·intro i hi;simp [Pm.vid] at hi
 ·intro i hi
  simp only [Pm.vid,List.mem_singleton] at hi
  subst hi
  rcases l.ref i ep _ rfl with ⟨ep',n',h⟩ | h
  ·exact .inl (by rw [h];simp [Pm.vid])
  ·exact .inr h
attribute [local irreducible] thenQ blockQ loopQ bodyQ Ev EvOps CallEv FnEv EvD
end Go.Pm
end
section
set_option maxRecDepth 4000
namespace Go.Pm
theorem lockL_get (ids:List Nat) (h:AHeap) (i:Nat):(lockL ids h)[i]?=(h[i]?).map fun o=>if ids.contains i then lock1 o else o:=by
 simp [lockL,List.getElem?_map,List.getElem?_zipIdx,Option.map_map,Function.comp_def]
theorem openL_get (ids:List Nat) (h h':AHeap) (i:Nat):(openL ids h h')[i]?=(h'[i]?).map fun o=>if ids.contains i then (match h[i]? with | some o'=>o' | none=>o) else o:=by
 simp [openL,List.getElem?_map,List.getElem?_zipIdx,Option.map_map,Function.comp_def]
 rfl
theorem keepL_eq {k k':AHeap} (hl:k.length≤k'.length) (hk:∀ (j:Nat) (o:AObj),k[j]?=some o→o.mu≠.m→k'[j]?=some o):keepL k k'=k':=by
 apply List.ext_getElem?
 intro i
 unfold keepL
 have hz:(List.zipWith (fun o o'=>if o.mu=.m then o' else o) k k').length=k.length:=by simp;omega
 by_cases hi:i<k.length
 ·rw [List.getElem?_append_left (by omega),List.getElem?_zipWith]
  have e1:k[i]?=some k[i]:=List.getElem?_eq_getElem hi
  have e2:k'[i]?=some k'[i]:=List.getElem?_eq_getElem (by omega)
  have:=hk i _ e1
  rw [e1,e2]
  rw [e2] at this
  by_cases hm:k[i].mu=.m
  ·simp [hm]
  ·simp [hm,Option.some.inj (this hm)]
 ·rw [List.getElem?_append_right (by omega),hz,List.getElem?_drop]
  congr 1;omega
theorem noLock_of {ids:List Nat} {h k:AHeap} (hk:∀ (j:Nat) (o:AObj),k[j]?=some o→o.mu≠.l∨(ids.contains j=true∧j<h.length)∨h[j]?=some o):noLock ids h k=true:=by
 unfold noLock
 rw [List.all_eq_true]
 rintro ⟨o,j⟩ hm
 have hg:=List.mem_zipIdx_iff_getElem?.1 hm
 rcases hk j o hg with h1 | ⟨h1,h2⟩ | h1
 ·simp [h1]
 ·simp [List.contains_iff_mem.1 h1,h2]
 ·by_cases hl:o.mu=.l
  ·simp [h1,hl]
  ·simp [hl]
section
variable {C:Cfg} {run:Run} {ops:Array Oper} {b:List Nat} {h0:AHeap} {i:Nat} {L:Al} {ρ:Nat→PV} {h:AHeap}
theorem kRd {d:Nat} {op:Op} {v:PV} {y:TypeId} {s:String} {a:Array Edge} (hh:heapy op=true) (hr:isRdK op=true) (hg:rdGate ops b h0 i (al L ρ) op=true) (e:stepOp C.P 1 op (al L ρ) h=some (v,h)) :
  opStepK C run ops b h0 i ⟨some d,op,y,s,a,none⟩ ⟨al L ρ,h⟩=some ⟨al ((d,v)::L) ρ,h⟩:=by
 unfold opStepK
 simp only [wantedA,hh,hr,hg,e,if_true,Bool.true_eq_false,if_false,al_cons]
theorem kBs {d:Nat} {op:Op} {v:PV} {y:TypeId} {s:String} {a:Array Edge} (hh:heapy op=true) (hr:isRdK op=false) (hb:isBs op=true) (e:stepOp C.P 1 op (al L ρ) h=some (v,h)) :
  opStepK C run ops b h0 i ⟨some d,op,y,s,a,none⟩ ⟨al L ρ,h⟩=some ⟨al ((d,v)::L) ρ,h⟩:=by
 unfold opStepK
 simp only [wantedA,hh,hr,hb,e,if_true,Bool.true_eq_false,Bool.false_eq_true,if_false,al_cons]
theorem kWr {d:Nat} {op:Op} {v:PV} {h':AHeap} {y:TypeId} {s:String} {a:Array Edge} (hh:heapy op=true) (hr:isRdK op=false) (hb:isBs op=false) (hl:levelK ops b i false=true) (e:opVal C run 2 op (al L ρ) h=some (v,h')) (hle:h.length≤h'.length) (hk:∀ (j:Nat) (o:AObj),h[j]?=some o→o.mu≠.m→h'[j]?=some o) :
  opStepK C run ops b h0 i ⟨some d,op,y,s,a,none⟩ ⟨al L ρ,h⟩=some ⟨al ((d,v)::L) ρ,h'⟩:=by
 unfold opStepK
 simp only [wantedA,hh,hr,hb,hl,e,hle,if_true,Bool.true_eq_false,Bool.false_eq_true,if_false,al_cons,keepL_eq hle hk]
theorem kSt {op:Op} {v:PV} {h':AHeap} {y:TypeId} {s:String} {a:Array Edge} (hh:heapy op=true) (hr:isRdK op=false) (hb:isBs op=false) (hl:levelK ops b i false=true) (e:opVal C run 2 op (al L ρ) h=some (v,h')) (hle:h.length≤h'.length) (hk:∀ (j:Nat) (o:AObj),h[j]?=some o→o.mu≠.m→h'[j]?=some o) :
  opStepK C run ops b h0 i ⟨none,op,y,s,a,none⟩ ⟨al L ρ,h⟩=some ⟨al L ρ,h'⟩:=by
 unfold opStepK
 simp only [wantedA,hh,hr,hb,hl,e,hle,if_true,Bool.true_eq_false,Bool.false_eq_true,if_false,updO,keepL_eq hle hk]
end
theorem calm_apd {C:Cfg} (T:Tab C.P) {ops:Array Oper} {L:Al} {H:AHeap} {d0 d1 d2 d3 d4 d5 p q ip by':Nat} {tl el:TypeId} {c:Operand} {z v:PV} {us es:List PV}
  {y0 y1 y2 y3 y4 y5 y6 y7:TypeId} {s0 s1 s2 s3 s4 s5 s6 s7:String} {a0 a1 a2 a3 a4 a5 a6 a7:Array Edge}
  (h2:H[ip]?=some ⟨.m,0,1,[v]⟩) (ho:Out 4 H v es) (hv:∀ i∈vid v,i≠ip) (hn:es.length<100000000) (hul:us.length=4) (huo:us.all oneC=true)
  (hp:lk L p=some (.ptr ip 0 0 0)) (hq:lk L q=some (.ptr H.length 0 0 0)) (hd:[p,q,d0,d1,d2,d3,d4,d5].Nodup)
  (hlk:∀ ρ,lockIds ops (before ops) (al L ρ)=[H.length])
  (hops:ops.toList=[⟨some d0,.load tl (.tmp p),y0,s0,a0,none⟩,⟨some d1,.load el (.tmp q),y1,s1,a1,none⟩,⟨some d2,.call ⟨.builtin .len,#[.tmp d0],#[tl]⟩,y2,s2,a2,none⟩,
   ⟨some d3,.buildSlice tl 1 #[(0,c)],y3,s3,a3,none⟩,⟨some d4,.call ⟨.builtin .append,#[.tmp d0,.tmp d3],#[tl,tl]⟩,y4,s4,a4,none⟩,⟨some d5,.indexAddr tl (.tmp d4) (.tmp d2),y5,s5,a5,none⟩,
   ⟨none,.store el (.tmp d5) (.tmp d1),y6,s6,a6,none⟩,⟨none,.store tl (.tmp p) (.tmp d4),y7,s7,a7,none⟩])
  (hr0:levelR ops (before ops) 0=true) (hr5:levelR ops (before ops) 5=true) (hsk:sinks ops (before ops)=some (.tmp d5,.tmp p))
  (c06:cmpB (before ops) 0 (ops.size - 2)=true) (c07:cmpB (before ops) 0 (ops.size - 1)=true) (c56:cmpB (before ops) 5 (ops.size - 2)=true)
  (hl2:levelK ops (before ops) 2 false=true) (hl4:levelK ops (before ops) 4 false=true) (hl6:levelK ops (before ops) 6 false=true) (hl7:levelK ops (before ops) 7 false=true)
  (hk:T.kd tl=some (.sl el)) (hs:T.ts el=some 4) (ha:T.ta el=some true) (hs':T.ts tl=some 1) (ha':T.ta tl=some false) (hb:T.tb el=some by') (hby:by'≤1000) (hz:T.tz el=some z) (hzl:(cells z).length=4) (hzo:(cells z).all oneC=true)
  (hbs:∀ (ρ:Nat→PV) (h:AHeap),buildSliceP C.P 1 h tl 1 [(0,ev ρ c)]=some (.snap true [z],h)) :
  ∃ id ep,∃ h':AHeap,(∀ run ρ,calmD C run ops ⟨al L ρ,H++[⟨.m,0,4,[.agg us]⟩]⟩=some ⟨al ([(d5,.ptr id ep es.length 0),(d4,.mref id ep 0 (es.length+1)),(d3,.snap true [z]),(d2,.int .i64 es.length),(d1,.agg us),(d0,v)]++L) ρ,h'⟩) ∧
   H.length+1≤h'.length∧id≠ip∧id≠H.length∧(id∈vid v∨H.length<id)∧h'[id]?=some ⟨.m,ep,4,es++[.agg us]⟩∧h'[ip]?=some ⟨.m,0,1,[.mref id ep 0 (es.length+1)]⟩ ∧
   ∀ j,j≠id→j≠ip→h'[j]?=(H++[⟨.m,0,4,[.agg us]⟩])[j]?:=by
 have hip:=lt_of_some h2
 simp only [List.nodup_cons,List.mem_cons,List.not_mem_nil,or_false,not_or,not_false_eq_true,List.nodup_nil,and_true] at hd
 obtain ⟨⟨e1,e2,e3,e4,e5,e6,e7⟩,⟨f2,f3,f4,f5,f6,f7⟩,⟨g3,g4,g5,g6,g7⟩,⟨i4,i5,i6,i7⟩,⟨j5,j6,j7⟩,⟨m6,m7⟩,l7⟩:=hd
 have ap:∀ ρ,al L ρ p=.ptr ip 0 0 0:=lk_al hp
 have aq:∀ ρ,al L ρ q=.ptr H.length 0 0 0:=lk_al hq
 have hvc:=ho.oneC
 let lb:AObj:=⟨.l,0,4,[.agg us]⟩
 have hlock:lockL [H.length] (H++[⟨.m,0,4,[.agg us]⟩])=H++[lb]:=by
  apply List.ext_getElem?
  intro i
  rw [lockL_get]
  by_cases hi:i<H.length
  ·rw [List.getElem?_append_left hi,List.getElem?_append_left hi]
   have:([H.length].contains i)=false:=by simp;omega
   simp only [this,Bool.false_eq_true,if_false,Option.map_id']
  ·rw [List.getElem?_append_right (by omega),List.getElem?_append_right (by omega)]
   by_cases h0:i=H.length
   ·subst h0;simp [lock1,lb]
   ·have:i - H.length≠0:=by omega
    obtain ⟨m,hm⟩:∃ m,i - H.length=m+1:=⟨i - H.length - 1,by omega⟩
    rw [hm];simp
 obtain ⟨id,ep,k4,hap,hk4,hle4,hidp,hidn,hidv,hfr4,hmid⟩:∃ id ep,∃ k4:AHeap,appendP C.P 2 (H++[lb]) tl tl v (.snap true [z])=some (.mref id ep 0 (es.length+1),k4)∧k4[id]?=some ⟨.m,ep,4,es++[z]⟩∧(H++[lb]).length≤k4.length∧id≠ip∧id≠H.length∧(id∈vid v∨H.length<id)∧(∀ j,j≠id→k4[j]?=(H++[lb])[j]?)∧∀ o,(H++[lb])[id]?=some o→o.mu=.m:=by
  have hes:esOk (3+1) [z]:=by simp [esOk,hzl,List.all_eq_true.1 hzo] ;exact fun x hx=>List.all_eq_true.1 hzo x hx
  rcases ho with ⟨rfl,rfl⟩ | ⟨id,ep,rfl,hid⟩
  ·refine ⟨_,_,_,appendP_new T (lv:=2) (by omega) hk hk hs hb hz hby hzl hzo hes rfl (by simp),?_,?_,?_,?_,?_,?_,?_⟩
   ·simp
   ·simp
   ·simp;omega
   ·simp
   ·right;simp
   ·intro j hj
    by_cases hj2:j<(H++[lb]).length
    ·rw [List.getElem?_append_left hj2]
    ·rw [List.getElem?_eq_none (by simp at hj hj2 ⊢;omega),List.getElem?_eq_none (by omega)]
   ·intro o h;rw [List.getElem?_eq_none (by omega)] at h;cases h
  ·have hlt:=lt_of_some hid
   have hid2:(H++[lb])[id]?=some ⟨.m,ep,4,es⟩:=by rw [List.getElem?_append_left hlt];exact hid
   have:=appendP_m T (h:=H++[lb]) (full:=true) (len:=es.length) (ys:=[z]) hk hk hs hb hz hby hzl hzo hes rfl (by simp;omega) (getM_at hid2 rfl (by simp)) rfl rfl (Nat.le_refl _)
   refine ⟨id,ep+1,_,this,?_,?_,?_,?_,?_,?_,?_⟩
   ·rw [List.getElem?_set_self (by simp;omega)];simp
   ·simp
   ·exact hv id (by simp [vid])
   ·omega
   ·left;simp [vid]
   ·intro j hj;rw [List.getElem?_set_ne (by omega)]
   ·intro o h;rw [hid2] at h;cases h;rfl
 have hid4:=lt_of_some hk4
 have hip4:k4[ip]?=some ⟨.m,0,1,[v]⟩:=by rw [hfr4 ip (by omega),List.getElem?_append_left hip];exact h2
 let k6:AHeap:=k4.set id ⟨.m,ep,4,es++[.agg us]⟩
 let k7:AHeap:=k6.set ip ⟨.m,0,1,[.mref id ep 0 (es.length+1)]⟩
 have hk5:∀ j,j≠id→j≠ip→k7[j]?=(H++[lb])[j]?:=fun j h1 h2=>by
  show ((k4.set id _).set ip _)[j]?=_
  rw [List.getElem?_set_ne (by omega),List.getElem?_set_ne (by omega),hfr4 j h1]
 have h6ip:k6[ip]?=some ⟨.m,0,1,[v]⟩:=by rw [List.getElem?_set_ne (by omega)];exact hip4
 have h7ip:k7[ip]?=some ⟨.m,0,1,[.mref id ep 0 (es.length+1)]⟩:=List.getElem?_set_self (by show ip<(k4.set id _).length;rw [List.length_set];exact lt_of_some hip4)
 have h7id:k7[id]?=some ⟨.m,ep,4,es++[.agg us]⟩:=by rw [List.getElem?_set_ne (by omega)];exact List.getElem?_set_self hid4
 have h7len:k7.length=k4.length:=by simp [k7,k6]
 have hl1:(H++[lb]).length=H.length+1:=by simp
 have hlb:(H++[lb])[H.length]?=some lb:=by simp
 have kk4:∀ (j:Nat) (o:AObj),(H++[lb])[j]?=some o→o.mu≠.m→k4[j]?=some o:=fun j o h hm=>by
  by_cases hj:j=id
  ·subst hj;exact absurd (hmid o h) hm
  ·rw [hfr4 j hj];exact h
 have kk6:∀ (j:Nat) (o:AObj),k4[j]?=some o→o.mu≠.m→k6[j]?=some o:=fun j o h hm=>by
  by_cases hj:j=id
  ·subst hj;rw [hk4] at h;cases h;exact absurd rfl hm
  ·rw [List.getElem?_set_ne (by omega)];exact h
 have kk7:∀ (j:Nat) (o:AObj),k6[j]?=some o→o.mu≠.m→k7[j]?=some o:=fun j o h hm=>by
  by_cases hj:j=ip
  ·subst hj;rw [h6ip] at h;cases h;exact absurd rfl hm
  ·rw [List.getElem?_set_ne (by omega)];exact h
 have hno:noLock [H.length] (H++[⟨.m,0,4,[.agg us]⟩]) k7=true:=noLock_of fun j o h=>by
  by_cases hj:j=id
  ·subst hj;rw [h7id] at h;cases h;exact .inl (by simp)
  by_cases hj2:j=ip
  ·subst hj2;rw [h7ip] at h;cases h;exact .inl (by simp)
  by_cases hj3:j=H.length
  ·exact .inr (.inl ⟨by simp [hj3],by simp;omega⟩)
  rw [hk5 j hj hj2] at h
  have hlt:=lt_of_some h
  rw [hl1] at hlt
  rw [List.getElem?_append_left (by omega)] at h
  exact .inr (.inr (by rw [List.getElem?_append_left (by omega)];exact h))
 have hop:∀ j,(openL [H.length] (H++[⟨.m,0,4,[.agg us]⟩]) k7)[j]?=if j=H.length then some ⟨.m,0,4,[.agg us]⟩ else k7[j]?:=fun j=>by
  rw [openL_get]
  by_cases hj:j=H.length
  ·subst hj
   rw [hk5 _ (by omega) (by omega),hlb,if_pos rfl]
   simp
  ·rw [if_neg hj]
   have:([H.length].contains j)=false:=by simp;omega
   simp only [this,Bool.false_eq_true,if_false,Option.map_id']
 refine ⟨id,ep,openL [H.length] (H++[⟨.m,0,4,[.agg us]⟩]) k7,fun run ρ=>?_,?_,hidp,hidn,hidv,?_,?_,?_⟩
 rotate_left
 ·have:(openL [H.length] (H++[⟨.m,0,4,[.agg us]⟩]) k7).length=k7.length:=by simp [openL]
  omega
 ·rw [hop,if_neg hidn];exact h7id
 ·rw [hop,if_neg (by omega)];exact h7ip
 ·intro j h1 h2
  rw [hop]
  by_cases hj:j=H.length
  ·subst hj;rw [if_pos rfl];simp
  ·rw [if_neg hj,hk5 j h1 h2]
   by_cases hj2:j<H.length
   ·rw [List.getElem?_append_left hj2,List.getElem?_append_left hj2]
   ·rw [List.getElem?_eq_none (by simp;omega),List.getElem?_eq_none (by simp;omega)]
 unfold calmD
 rw [hlk,hlock,hops]
 dsimp only
 have pc:∀ {h:AHeap} {i:Nat} {mm:Mu} {e' n:Nat} {xs:List PV} {x:PV},h[i]?=some ⟨mm,e',n,xs⟩→mm≠.x→xs[0]?=some x→pcells h (.ptr i e' 0 0)=some (cells x):=fun {h i mm e' n xs x} q1 q2 q3=>by
  simp [pcells,getM,q1,q2,q3]
 have L0:loadP C.P (H++[lb]) tl (.ptr ip 0 0 0)=some v:=by
  refine loadT_of T ?_
  have:pcells (H++[lb]) (.ptr ip 0 0 0)=some (cells v):=pc (mm:=.m) (by rw [List.getElem?_append_left hip];exact h2) (by simp) rfl
  rw [hvc.2] at this
  simp only [loadT,hs',ha',this]
 have L1:loadP C.P (H++[lb]) el (.ptr H.length 0 0 0)=some (.agg us):=by
  refine loadT_of T ?_
  have:pcells (H++[lb]) (.ptr H.length 0 0 0)=some us:=pc (mm:=.l) (x:=.agg us) hlb (by simp) rfl
  simp only [loadT,hs,ha,this]
  rw [if_pos (by rw [hul];rfl),List.take_of_length_le (by omega)]
 have L2:lenP C.P (H++[lb]) tl v=some (.int .i64 es.length):=by
  rcases ho with ⟨rfl,rfl⟩ | ⟨id,ep,rfl,hid⟩
  ·simp only [lenP,kd_sl (T.hkd _ _ hk)]
  ·have hid2:(H++[lb])[id]?=some ⟨.m,ep,4,es⟩:=by rw [List.getElem?_append_left (lt_of_some hid)];exact hid
   simp only [lenP,kd_sl (T.hkd _ _ hk),getM_at hid2 rfl (by simp)]
   rw [if_pos (by show 0+es.length≤es.length;omega)]
 have L5:indexAddrP C.P k4 tl (.mref id ep 0 (es.length+1)) (.int .i64 es.length)=some (.ptr id ep es.length 0):=by
  simp only [indexAddrP,kd_sl (T.hkd _ _ hk),T.hts _ _ hs,getM_at hk4 rfl (by simp)]
  rw [if_pos ⟨by omega,by omega,trivial,by simp⟩]
  simp
 have L6:storeP C.P k4 el (.ptr id ep es.length 0) (.agg us)=some k6:=by
  have hg:getM k4 id ep=some ⟨.m,ep,4,es++[z]⟩:=getM_at hk4 rfl (by simp)
  have hat:(es++[z])[es.length]?=some z:=by simp
  simp only [storeP,T.hts _ _ hs,hg,hat]
  rw [if_pos ⟨trivial,hul,huo,by rw [hzl];omega⟩]
  have hr:recell 0 4 z (.agg us)=.agg us:=by unfold recell;rw [if_pos ⟨rfl,hzl.symm⟩]
  rw [hr]
  simp [k6]
 have L7:storeP C.P k6 tl (.ptr ip 0 0 0) (.mref id ep 0 (es.length+1))=some k7:=by
  have hg:getM k6 ip 0=some ⟨.m,0,1,[v]⟩:=getM_at h6ip rfl (by simp)
  have hat:([v]:List PV)[0]?=some v:=rfl
  simp only [storeP,T.hts _ _ hs',hg,hat]
  rw [if_pos ⟨trivial,rfl,rfl,by rw [hvc.2];simp⟩]
  have hr:recell 0 1 v (.mref id ep 0 (es.length+1))=.mref id ep 0 (es.length+1):=by unfold recell;rw [if_pos ⟨rfl,by rw [hvc.2];rfl⟩]
  rw [hr]
  simp [k7]
 have G0:rdGate ops (before ops) (H++[lb]) 0 (al L ρ) (.load tl (.tmp p))=true:=by
  simp only [rdGate,rdId,ev,ap,hr0,rdOk,hsk,c06,c07,Bool.true_or,Bool.and_self,Bool.or_true]
 have G1:rdGate ops (before ops) (H++[lb]) 1 (al ((d0,v)::L) ρ) (.load el (.tmp q))=true:=by
  simp [rdGate,rdId,ev,al,f2,aq,stillI,lb]
 have hdst:(ops.toList.any fun o=>o.dst == some p)=false:=by
  rw [hops]
  simp [Ne.symm e2,Ne.symm e3,Ne.symm e4,Ne.symm e5,Ne.symm e6,Ne.symm e7]
 have G5:rdGate ops (before ops) (H++[lb]) 5 (al ((d4,.mref id ep 0 (es.length+1))::(d3,.snap true [z])::(d2,.int .i64 es.length)::(d1,.agg us)::(d0,v)::L) ρ) (.indexAddr tl (.tmp d4) (.tmp d2))=true:=by
  have:offT ops (al ((d4,.mref id ep 0 (es.length+1))::(d3,.snap true [z])::(d2,.int .i64 es.length)::(d1,.agg us)::(d0,v)::L) ρ) (.tmp p) id=true:=by
   simp [offT,hdst,ev,al,e2,e3,e4,e5,e6,ap,Ne.symm hidp]
  have h4:ev (al ((d4,.mref id ep 0 (es.length+1))::(d3,.snap true [z])::(d2,.int .i64 es.length)::(d1,.agg us)::(d0,v)::L) ρ) (.tmp d4)=.mref id ep 0 (es.length+1):=by simp [ev,al]
  simp only [rdGate,rdId,h4,hr5,rdOk,hsk,c56,Bool.true_or,Bool.true_and,this,Bool.or_true]
 have hev:evalOpsK C run ops (before ops) (H++[lb]) 0 [⟨some d0,.load tl (.tmp p),y0,s0,a0,none⟩,⟨some d1,.load el (.tmp q),y1,s1,a1,none⟩,⟨some d2,.call ⟨.builtin .len,#[.tmp d0],#[tl]⟩,y2,s2,a2,none⟩,
   ⟨some d3,.buildSlice tl 1 #[(0,c)],y3,s3,a3,none⟩,⟨some d4,.call ⟨.builtin .append,#[.tmp d0,.tmp d3],#[tl,tl]⟩,y4,s4,a4,none⟩,⟨some d5,.indexAddr tl (.tmp d4) (.tmp d2),y5,s5,a5,none⟩,
   ⟨none,.store el (.tmp d5) (.tmp d1),y6,s6,a6,none⟩,⟨none,.store tl (.tmp p) (.tmp d4),y7,s7,a7,none⟩] ⟨al L ρ,H++[lb]⟩=some ⟨al ([(d5,.ptr id ep es.length 0),(d4,.mref id ep 0 (es.length+1)),(d3,.snap true [z]),(d2,.int .i64 es.length),(d1,.agg us),(d0,v)]++L) ρ,k7⟩:=by
  rw [evalOpsK,kRd rfl rfl G0 (v:=v) (by simp only [stepOp,ev,ap,L0,Option.map_some])]
  dsimp only
  rw [evalOpsK,kRd rfl rfl G1 (v:=.agg us) (by simp only [stepOp,ev,al,f2,if_false,aq,L1,Option.map_some])]
  dsimp only
  rw [evalOpsK,kWr rfl rfl rfl hl2 (v:=.int .i64 es.length) (h':=H++[lb]) (by simp [opVal,builtinP,ev,al,g3,L2]) (Nat.le_refl _) (fun _ _ h _=>h)]
  dsimp only
  rw [evalOpsK,kBs rfl rfl rfl (v:=.snap true [z]) (by simp only [stepOp,List.map_cons,List.map_nil,hbs])]
  dsimp only
  rw [evalOpsK,kWr rfl rfl rfl hl4 (v:=.mref id ep 0 (es.length+1)) (h':=k4) (by simp [opVal,builtinP,ev,al,g3,g4,g5,hap]) hle4 kk4]
  dsimp only
  rw [evalOpsK,kRd rfl rfl G5 (v:=.ptr id ep es.length 0) (by simp [stepOp,ev,al,j5,j6,L5])]
  dsimp only
  rw [evalOpsK,kSt rfl rfl rfl hl6 (v:=.undef) (h':=k6) (by simp [opVal,stepOp,ev,al,i4,i5,i6,i7,L6]) (by simp [k6]) kk6]
  dsimp only
  rw [evalOpsK,kSt rfl rfl rfl hl7 (v:=.undef) (h':=k7) (by simp [opVal,stepOp,ev,al,e2,e3,e4,e5,e6,e7,l7,ap,L7]) (by simp [k7]) kk7]
  rfl
 rw [hev]
 dsimp only
 have hso:sinkOk ops (before ops) (al ([(d5,.ptr id ep es.length 0),(d4,.mref id ep 0 (es.length+1)),(d3,.snap true [z]),(d2,.int .i64 es.length),(d1,.agg us),(d0,v)]++L) ρ)=true:=by
  simp [sinkOk,hsk,ev,al,e2,e3,e4,e5,e6,e7,ap,hidp]
 rw [if_pos ⟨hno,hso⟩]
theorem bs_of {C:Cfg} (T:Tab C.P) {tl:TypeId} {c:Operand} {z:PV} (x:litX T tl 1 [(0,c)] [] (fun _ es=>es=[z])) (hv:isVals [z]=true) (ρ:Nat→PV) (h:AHeap):buildSliceP C.P 1 h tl 1 [(0,ev ρ c)]=some (.snap true [z],h):=by
 obtain ⟨sz,es,rfl,e⟩:=litX_out T x
 have:=e ρ h 1
 rw [if_pos hv] at this
 exact this
structure Apd (H:AHeap) (ip:Nat) (v:PV) (es us:List PV) (id ep:Nat) (h':AHeap):Prop where
 len:H.length+1≤h'.length
 idp:id≠ip
 idn:id≠H.length
 idv:id∈vid v∨H.length<id
 at':h'[id]?=some ⟨.m,ep,4,es++[.agg us]⟩
 var:h'[ip]?=some ⟨.m,0,1,[.mref id ep 0 (es.length+1)]⟩
 fr:∀ j,j≠id→j≠ip→h'[j]?=(H++[⟨.m,0,4,[.agg us]⟩])[j]?
theorem DrX.apd {C:Cfg} {T:Tab C.P} {ops:Array Oper} {L:Al} {H:AHeap} {Q:Al→AHeap→Prop} {d0 d1 d2 d3 d4 d5 p q ip by':Nat} {tl el:TypeId} {c:Operand} {z v:PV} {us es:List PV}
  {y0 y1 y2 y3 y4 y5 y6 y7:TypeId} {s0 s1 s2 s3 s4 s5 s6 s7:String} {a0 a1 a2 a3 a4 a5 a6 a7:Array Edge}
  (h2:H[ip]?=some ⟨.m,0,1,[v]⟩) (ho:Out 4 H v es) (hv:∀ i∈vid v,i≠ip) (hn:es.length<100000000)
  (kk:∀ id ep h',Apd H ip v es us id ep h'→Rn (Q ([(d5,.ptr id ep es.length 0),(d4,.mref id ep 0 (es.length+1)),(d3,.snap true [z]),(d2,.int .i64 es.length),(d1,.agg us),(d0,v)]++L) h'))
  (hops:ops.toList=[⟨some d0,.load tl (.tmp p),y0,s0,a0,none⟩,⟨some d1,.load el (.tmp q),y1,s1,a1,none⟩,⟨some d2,.call ⟨.builtin .len,#[.tmp d0],#[tl]⟩,y2,s2,a2,none⟩,
   ⟨some d3,.buildSlice tl 1 #[(0,c)],y3,s3,a3,none⟩,⟨some d4,.call ⟨.builtin .append,#[.tmp d0,.tmp d3],#[tl,tl]⟩,y4,s4,a4,none⟩,⟨some d5,.indexAddr tl (.tmp d4) (.tmp d2),y5,s5,a5,none⟩,
   ⟨none,.store el (.tmp d5) (.tmp d1),y6,s6,a6,none⟩,⟨none,.store tl (.tmp p) (.tmp d4),y7,s7,a7,none⟩]:=by rfl)
  (hul:us.length=4:=by rfl) (huo:us.all oneC=true:=by rfl)
  (hp:lk L p=some (.ptr ip 0 0 0):=by rfl) (hq:lk L q=some (.ptr H.length 0 0 0):=by rfl) (hd:[p,q,d0,d1,d2,d3,d4,d5].Nodup:=by decide)
  (hlk:∀ ρ,lockIds ops (before ops) (al L ρ)=[H.length]:=by intro _;rfl)
  (hr0:levelR ops (before ops) 0=true:=by rfl) (hr5:levelR ops (before ops) 5=true:=by rfl) (hsk:sinks ops (before ops)=some (.tmp d5,.tmp p):=by rfl)
  (c06:cmpB (before ops) 0 (ops.size - 2)=true:=by rfl) (c07:cmpB (before ops) 0 (ops.size - 1)=true:=by rfl) (c56:cmpB (before ops) 5 (ops.size - 2)=true:=by rfl)
  (hl2:levelK ops (before ops) 2 false=true:=by rfl) (hl4:levelK ops (before ops) 4 false=true:=by rfl) (hl6:levelK ops (before ops) 6 false=true:=by rfl) (hl7:levelK ops (before ops) 7 false=true:=by rfl)
  (hk:T.kd tl=some (.sl el):=by rfl) (hs:T.ts el=some 4:=by rfl) (ha:T.ta el=some true:=by rfl) (hs':T.ts tl=some 1:=by rfl) (ha':T.ta tl=some false:=by rfl) (hb:T.tb el=some by':=by rfl) (hby:by'≤1000:=by decide) (hz:T.tz el=some z:=by rfl) (hzl:(cells z).length=4:=by rfl) (hzo:(cells z).all oneC=true:=by rfl)
  (hx:litX T tl 1 [(0,c)] [] (fun _ es=>es=[z]):=by exact rfl) (hxv:isVals [z]=true:=by rfl) (hcal:calmS ops=true:=by rfl):DrX T ops L (H++[⟨.m,0,4,[.agg us]⟩]) Q:=by
 obtain ⟨id,ep,h',e,q1,q2,q3,q4,q5,q6,q7⟩:=calm_apd T h2 ho hv hn hul huo hp hq hd hlk hops hr0 hr5 hsk c06 c07 c56 hl2 hl4 hl6 hl7 hk hs ha hs' ha' hb hby hz hzl hzo (bs_of T hx hxv)
 exact .calm _ h' e (kk id ep h' ⟨q1,q2,q3,q4,q5,q6,q7⟩) hcal
end Go.Pm
end
section
set_option maxRecDepth 4000
namespace Go.Pm.Nine
open Go.Proofs
attribute [local irreducible] thenQ blockQ loopQ bodyQ Ev EvOps CallEv FnEv EvD encSys
theorem retT {h:AHeap} {v:PV} {k o:Int} {s:ByteArray} {es:List PV} (ho:Out 4 h v es) (hv:isVals es=true) (hn:nrms es=es):∃ r1,rb h (tupOf [.agg [.int .i64 k,.str s,.int .i64 o,v]])=some r1∧nrm r1=.agg [.int .i64 k,.str s,.int .i64 o,.snap false es]:=by
 obtain ⟨r,h1,h2⟩:∃ r,rb1 h v=some r∧nrm r=.snap false es:=by
  rcases ho with ⟨rfl,rfl⟩ | ⟨id,ep,rfl,e2⟩
  ·exact ⟨_,rfl,rfl⟩
  ·exact ⟨.snap false es,by simp [rb1,getM,e2,hv],by simp [nrm,hn]⟩
 refine ⟨.agg [.int .i64 k,.str s,.int .i64 o,r],?_,by simp [nrm,nrms,h2]⟩
 simp only [tupOf,rb,rbA,rb1s,h1]
 rfl
theorem clone_ev (k s o l) (hl:l.length<100000000) (ih:∀ t∈l,Fun C 179 [enc t] (enc t)):Fun C 179 [enc (.mk k s o l)] (enc (.mk k s o l)):=by
 have hel:=encs_len l
 rw [enc_mk]
 refine Fun.x T6 Tryz.func179 rfl ?_
 (repeat' (first | (refine Rn.go ?_;conv=>whnf) | refine .mk ?_ | refine .tt ?_ | refine .ff ?_ | refine .m2 ?_ | refine .m3 ?_ | refine .mk (fun hc=>?_) fun hc=>?_ | refine .lp fun v H lp=>?_ | fail))
 have hr0:HR [⟨.m,0,4,[.agg [.int .i64 k,.str s,.int .i64 o,.snap true []]]⟩,⟨.m,0,4,[.agg [.int .i64 0,.str ByteArray.empty,.int .i64 0,.snap true []]]⟩]:=by
  intro x hx
  simp at hx
  rcases hx with rfl | rfl <;> simp [visRs,visR]
 refine LpX.zip T6 l (fun p q L H=>∃ v,L=[(1,.ptr 0 0 0 0),(2,.ptr 1 0 0 0),(9,.snap false (encs l)),(10,.int .i64 (encs l).length),(11,.int .i64 p.length)]∧HR H∧H[0]?=some ⟨.m,0,4,[.agg [.int .i64 k,.str s,.int .i64 o,v]]⟩∧H[1]?=some ⟨.m,0,4,[.agg [.int .i64 0,.str ByteArray.empty,.int .i64 0,.snap true []]]⟩∧Out 4 H v (encs p)∧∀ i∈vid v,2≤i) (.nx ⟨_,rfl,hr0,rfl,rfl,.inl ⟨rfl,rfl⟩,by simp [vid]⟩) ?_ ?_
 ·rintro p u q _ H ρ e ⟨v,rfl,hH,h0,h1,ho,hv⟩
  have hat:=at_encs e
  have hl2:=congrArg List.length e
  simp only [List.length_append,List.length_cons] at hl2
  have hi:=ih u (by rw [e];simp)
  have hle:=encs_len p
  have hH2:HR (H++[⟨.m,0,4,[.agg [.int .i64 u.k,.str u.s,.int .i64 u.o,.snap false (encs u.l)]]⟩]):=hH.appV (HV.one (by simp))
  have ho2:=ho.app [⟨.m,0,4,[.agg [.int .i64 u.k,.str u.s,.int .i64 u.o,.snap false (encs u.l)]]⟩]
  have hl3:=lt_of_some h1
  have hsn:encs p++[.agg [.int .i64 u.k,.str u.s,.int .i64 u.o,.snap false (encs u.l)]]=encs (p++[u]):=by rw [encs_app,← enc_x];rfl
  rw [enc_x] at hi
  (repeat' (first | (refine Rn.go ?_;conv=>whnf) | refine .mk ?_ | refine .tt ?_ | refine .ff ?_ | refine .m2 ?_ | refine .m3 ?_ | refine .mk (fun hc=>?_) fun hc=>?_ | refine .lp fun v H lp=>?_ | fail))
  refine .p hi ?_
  (repeat' (first | (refine Rn.go ?_;conv=>whnf) | refine .mk ?_ | refine .tt ?_ | refine .ff ?_ | refine .m2 ?_ | refine .m3 ?_ | refine .mk (fun hc=>?_) fun hc=>?_ | refine .lp fun v H lp=>?_ | fail))
  refine .lr (fun v' h' lr=>?_) ho2
  have hnv:∀ j,j<2→∀ ep n,v≠.mref j ep 0 n:=fun j hj ep n hh=>by have:=hv j (by rw [hh];simp [vid]);omega
  have g0:=(lr.fr 0 (by simp) (hnv 0 (by omega))).trans ((List.getElem?_append_left (by omega)).trans h0)
  have g1:=(lr.fr 1 (by simp;omega) (hnv 1 (by omega))).trans ((List.getElem?_append_left (by omega)).trans h1)
  have hr3:=lr.hr
  have hv3:∀ i∈vid v',2≤i:=fun i hi=>by
   rcases lr.vid i hi with h | h
   ·exact hv i h
   ·simp at h;omega
  have lo:=lr.out
  rw [hsn] at lo
  have hwr:=lo.visR
  rcases lo with ⟨_,hx⟩ | ⟨id,ep,rfl,hid⟩
  ·have:=congrArg List.length hx
   rw [encs_len] at this
   simp at this
  have k0:=lt_of_some g0
  (repeat' (first | (refine Rn.go ?_;conv=>whnf) | refine .mk ?_ | refine .tt ?_ | refine .ff ?_ | refine .m2 ?_ | refine .m3 ?_ | refine .mk (fun hc=>?_) fun hc=>?_ | refine .lp fun v H lp=>?_ | fail))
  have hi2:=hv3 id (by simp [vid])
  exact .nx ⟨_,rfl,hr3.set _ (by simp) (by simpa [visRs,visR] using hwr),List.getElem?_set_self k0,(List.getElem?_set_ne (by omega)).trans g1,.inr ⟨id,ep,rfl,(List.getElem?_set_ne (by omega)).trans hid⟩,hv3⟩
 ·rintro _ H ρ ⟨v,rfl,hH,h0,h1,ho,hv⟩
  have k1:=lt_of_some h1
  have e2:=List.getElem?_set_self (a:=(⟨.m,0,4,[.agg [.int .i64 k,.str s,.int .i64 o,v]]⟩:AObj)) k1
  have ho3:Out 4 (H.set 1 ⟨.m,0,4,[.agg [.int .i64 k,.str s,.int .i64 o,v]]⟩) v (encs l):=ho.of_eq fun i hi=>List.getElem?_set_ne (by have:=hv i hi;omega)
  rcases ho with ⟨rfl,he⟩ | ⟨id,ep,rfl,hid⟩
  ·(repeat' (first | (refine Rn.go ?_;conv=>whnf) | refine .mk ?_ | refine .tt ?_ | refine .ff ?_ | refine .m2 ?_ | refine .m3 ?_ | refine .mk (fun hc=>?_) fun hc=>?_ | refine .lp fun v H lp=>?_ | fail))
   refine .mk ?_ (resC_n (T:=T6) rfl e2 rfl rfl rfl rfl)
   exact ⟨retT ho3 (by simp) (by simp)⟩
  ·(repeat' (first | (refine Rn.go ?_;conv=>whnf) | refine .mk ?_ | refine .tt ?_ | refine .ff ?_ | refine .m2 ?_ | refine .m3 ?_ | refine .mk (fun hc=>?_) fun hc=>?_ | refine .lp fun v H lp=>?_ | fail))
   refine .mk ?_ (resC_n (T:=T6) rfl e2 rfl rfl rfl rfl)
   exact ⟨retT ho3 (by simp) (by simp)⟩
theorem clone_fun (t:Tm) (hb:bulk t<100000000):Fun C 179 [enc t] (enc t):=by
 induction t using Tm.ind with
 | h k s o l ih=>
  have:=len_bulks l
  simp only [bulk] at hb
  exact clone_ev k s o l (by omega) fun t ht=>ih t ht (by have:=bulk_mem ht;omega)
structure KS (H:AHeap) (v:PV) (a:List Tm) (h':AHeap):Prop where
 hr:HR h'
 len:H.length≤h'.length
 var:∃ v',h'[2]?=some ⟨.m,0,1,[v']⟩∧Out 4 h' v' (encs a)∧∀ i∈vid v',i∈vid v∨H.length≤i
 fr:∀ j,j<H.length→j≠2→j∉vid v→h'[j]?=H[j]?
theorem KS.take {H h':AHeap} {v:PV} {a:List Tm} (s:KS H v a h') (h3:3≤H.length) (hr:HR (h'.take H.length)):KS H v a (h'.take H.length):=by
 have hl:=s.len
 have hlt:(h'.take H.length).length=H.length:=by simp;omega
 obtain ⟨v',e1,e2,e3⟩:=s.var
 have g1:(h'.take H.length)[2]?=some ⟨.m,0,1,[v']⟩:=by rw [List.getElem?_take_of_lt (by omega)];exact e1
 have hvis:=(hr _ (List.mem_of_getElem? g1)).2
 refine ⟨hr,by omega,⟨v',g1,e2.of_eq fun i hi=>?_,e3⟩,fun j h1 h2 h3=>by rw [List.getElem?_take_of_lt (by omega)];exact s.fr j h1 h2 h3⟩
 rw [List.getElem?_take_of_lt]
 rcases e2 with ⟨rfl,_⟩ | ⟨id,ep,rfl,_⟩
 ·simp [vid] at hi
 ·simp [vid] at hi
  subst hi
  simp [visRs,visR] at hvis
  omega
theorem KS.trans {H h1 h2:AHeap} {v v1:PV} {a b:List Tm} (s:KS H v a h1) (e:h1[2]?=some ⟨.m,0,1,[v1]⟩) (t:KS h1 v1 b h2):KS H v b h2:=by
 obtain ⟨v',q1,q2,q3⟩:=s.var
 rw [q1] at e
 cases e
 obtain ⟨v2,r1,r2,r3⟩:=t.var
 have:=s.len
 refine ⟨t.hr,Nat.le_trans s.len t.len,⟨v2,r1,r2,fun i hi=>?_⟩,fun j h1 h2 h3=>?_⟩
 ·rcases r3 i hi with h | h
  ·exact q3 i h
  ·omega
 ·rw [t.fr j (by omega) h2 (fun hh=>by rcases q3 j hh with h | h;exact h3 h;omega)]
  exact s.fr j h1 h2 h3
theorem CallEv.ks {f:FuncId} {args:List PV} {H:AHeap} {v:PV} {b:List Tm} {Q:PV→AHeap→Prop} (a:FnEv C f args H (fun r h'=>r=.tup []∧KS H v b h')) (h3:3≤H.length) (q:∀ h',KS H v b h'→Q (.tup []) h') (hm:C.mode f=.opened:=by rfl):CallEv C 2 f args H Q:=
 CallEv.sm a (fun r h' p=>⟨p.2.hr,p.2.len⟩) (fun r h' p=>by rw [p.1];exact q h' p.2) (fun r h' p hr=>by rw [p.1];exact q _ (p.2.take h3 hr)) hm
theorem pick_ev (u:Tm) (n:Int) (H:AHeap) (v:PV) (a:List Tm) (hH:HR H) (h1:H[1]?=some ⟨.m,0,1,[.int .i64 n]⟩) (h2:H[2]?=some ⟨.m,0,1,[v]⟩) (ho:Out 4 H v (encs a)) (hv:∀ i∈vid v,3≤i) (hn:a.length<100000000) :
  FnEv C 154 [enc u,.ptr 1 0 0 0,.ptr 2 0 0 0] H (fun r h'=>r=.tup []∧KS H v (a++if u.k=n then [u] else []) h'):=by
 have hle:=encs_len a
 have hlt:=lt_of_some h2
 have hu:encs a++[.agg [.int .i64 u.k,.str u.s,.int .i64 u.o,.snap false (encs u.l)]]=encs (a++[u]):=by rw [encs_app,← enc_x];rfl
 rw [enc_x]
 refine FnEv.x T6 Tryz.func154 rfl ?_
 (repeat' (first | (refine Rn.go ?_;conv=>whnf) | refine .mk ?_ | refine .tt ?_ | refine .ff ?_ | refine .m2 ?_ | refine .m3 ?_ | refine .mk (fun hc=>?_) fun hc=>?_ | refine .lp fun v H lp=>?_ | fail))
 ·refine DrX.apd h2 ho (fun i hi=>by have:=hv i hi;omega) (by omega) (fun id ep h' ap=>?_)
  (repeat' (first | (refine Rn.go ?_;conv=>whnf) | refine .mk ?_ | refine .tt ?_ | refine .ff ?_ | refine .m2 ?_ | refine .m3 ?_ | refine .mk (fun hc=>?_) fun hc=>?_ | refine .lp fun v H lp=>?_ | fail))
  refine ⟨rfl,?_⟩
  rw [if_pos hc]
  have hl:=ap.len
  have hid:=lt_of_some ap.at'
  have hg:∀ j,j<H.length→j≠id→j≠2→h'[j]?=H[j]?:=fun j g1 g2 g3=>by rw [ap.fr j g2 g3,List.getElem?_append_left g1]
  refine ⟨fun o ho=>?_,by omega,⟨_,ap.var,.inr ⟨id,ep,by rw [encs_len];simp,by rw [← hu];exact ap.at'⟩,fun i hi=>?_⟩,fun j g1 g2 g3=>hg j g1 (fun hh=>?_) g2⟩
  ·obtain ⟨j,hj⟩:=List.getElem?_of_mem ho
   by_cases j1:j=id
   ·subst j1;rw [ap.at'] at hj;cases hj;exact ⟨by simp,vis_vals _ _ (by rw [hu];simp)⟩
   by_cases j2:j=2
   ·subst j2;rw [ap.var] at hj;cases hj;exact ⟨by simp,by simp [visRs,visR];omega⟩
   rw [ap.fr j j1 j2] at hj
   have:=(hH.appV (HV.one (ep:=0) (n:=4) (es:=[.agg [.int .i64 u.k,.str u.s,.int .i64 u.o,.snap false (encs u.l)]]) (by simp))) o (List.mem_of_getElem? hj)
   exact ⟨this.1,visRs_imp (fun i hi=>by have:=of_decide_eq_true hi;simp at this;exact decide_eq_true (by omega)) _ this.2⟩
  ·simp [vid] at hi
   subst hi
   rcases ap.idv with h | h
   ·exact .inl h
   ·exact .inr (by omega)
  ·subst hh
   rcases ap.idv with h | h
   ·exact g3 h
   ·omega
 ·refine ⟨rfl,?_⟩
  rw [if_neg hc,List.append_nil]
  refine ⟨hH.appV (HV.one (by simp)),by simp,⟨v,?_,ho.app _,fun i hi=>.inl hi⟩,fun j g1 g2 g3=>List.getElem?_append_left g1⟩
  rw [List.getElem?_append_left hlt];exact h2
def ofK (n:Int) (l:List Tm):List Tm:=l.filter fun u=>decide (u.k=n)
theorem ofK_len (n:Int) (l:List Tm):(ofK n l).length≤l.length:=List.length_filter_le _ _
theorem ofK_cons (n:Int) (u:Tm) (l:List Tm):ofK n (u::l)=(if u.k=n then [u] else [])++ofK n l:=by
 unfold ofK
 by_cases h:u.k=n <;> simp [List.filter_cons,h]
theorem ofK_app (n:Int) (a b:List Tm):ofK n (a++b)=ofK n a++ofK n b:=by simp [ofK]
theorem KS.weak {H J h':AHeap} {v:PV} {a:List Tm} (s:KS (H++J) v a h'):KS H v a h':=by
 have hl:=s.len
 rw [List.length_append] at hl
 obtain ⟨v',e1,e2,e3⟩:=s.var
 refine ⟨s.hr,by omega,⟨v',e1,e2,fun i hi=>?_⟩,fun j h1 h2 h3=>by rw [s.fr j (by simp;omega) h2 h3,List.getElem?_append_left h1]⟩
 rcases e3 i hi with h | h
 ·exact .inl h
 ·exact .inr (by simp at h;omega)
theorem bulks_app (a b:List Tm):bulks (a++b)=bulks a+bulks b:=by
 induction a with
 | nil=>simp [bulks]
 | cons t a ih=>simp only [List.cons_append,bulks,ih];omega
theorem walk_ev (n:Int) (k s o l) (ih:∀ t∈l,∀ (H:AHeap) (v:PV) (a:List Tm),HR H→H[1]?=some ⟨.m,0,1,[.int .i64 n]⟩→H[2]?=some ⟨.m,0,1,[v]⟩→Out 4 H v (encs a)→(∀ i∈vid v,3≤i)→a.length+bulk t<100000000 →
   FnEv C 128 [enc t,.fn 154 [.ptr 1 0 0 0,.ptr 2 0 0 0]] H (fun r h'=>r=.tup []∧KS H v (a++ofK n (pre t)) h'))
  (H:AHeap) (v:PV) (a:List Tm) (hH:HR H) (h1:H[1]?=some ⟨.m,0,1,[.int .i64 n]⟩) (h2:H[2]?=some ⟨.m,0,1,[v]⟩) (ho:Out 4 H v (encs a)) (hv:∀ i∈vid v,3≤i) (hn:a.length+bulk (.mk k s o l)<100000000) :
  FnEv C 128 [enc (.mk k s o l),.fn 154 [.ptr 1 0 0 0,.ptr 2 0 0 0]] H (fun r h'=>r=.tup []∧KS H v (a++ofK n (pre (.mk k s o l))) h'):=by
 have hel:=encs_len l
 have hll:=len_bulks l
 simp only [bulk] at hn
 have hlt:=lt_of_some h2
 have hbx:HR (H++[⟨.m,0,4,[enc (.mk k s o l)]⟩]):=hH.appV (HV.one (by simp))
 have b1:(H++[⟨.m,0,4,[enc (.mk k s o l)]⟩])[1]?=some ⟨.m,0,1,[.int .i64 n]⟩:=by rw [List.getElem?_append_left (by omega)];exact h1
 have b2:(H++[⟨.m,0,4,[enc (.mk k s o l)]⟩])[2]?=some ⟨.m,0,1,[v]⟩:=by rw [List.getElem?_append_left hlt];exact h2
 have pk:=pick_ev (.mk k s o l) n (H++[⟨.m,0,4,[enc (.mk k s o l)]⟩]) v a hbx b1 b2 (ho.app _) hv (by omega)
 rw [enc_mk] at pk ⊢
 refine FnEv.x T6 Tryz.func128 rfl ?_
 (repeat' (first | (refine Rn.go ?_;conv=>whnf) | refine .mk ?_ | refine .tt ?_ | refine .ff ?_ | refine .m2 ?_ | refine .m3 ?_ | refine .mk (fun hc=>?_) fun hc=>?_ | refine .lp fun v H lp=>?_ | fail))
 refine CallEv.ks pk (by simp;omega) (fun h' ks=>?_)
 (repeat' (first | (refine Rn.go ?_;conv=>whnf) | refine .mk ?_ | refine .tt ?_ | refine .ff ?_ | refine .m2 ?_ | refine .m3 ?_ | refine .mk (fun hc=>?_) fun hc=>?_ | refine .lp fun v H lp=>?_ | fail))
 have kw:=ks.weak
 have hbox:h'[H.length]?=some ⟨.m,0,4,[.agg [.int .i64 k,.str s,.int .i64 o,.snap false (encs l)]]⟩:=by
  rw [ks.fr H.length (by simp) (by omega) (fun hh=>by have:=ho.vlt _ hh;omega)]
  simp
 (repeat' (first | (refine Rn.go ?_;conv=>whnf) | refine .mk ?_ | refine .tt ?_ | refine .ff ?_ | refine .m2 ?_ | refine .m3 ?_ | refine .mk (fun hc=>?_) fun hc=>?_ | refine .lp fun v H lp=>?_ | fail))
 have hstart:a++(if (Tm.mk k s o l).k=n then [Tm.mk k s o l] else [])=a++ofK n (.mk k s o l::pres []):=by rw [ofK_cons];simp [pres,ofK]
 rw [hstart] at kw
 refine LpX.zip T6 l (fun p q L K=>L=[(1,.fn 154 [.ptr 1 0 0 0,.ptr 2 0 0 0]),(10,.snap false (encs l)),(11,.int .i64 (encs l).length),(12,.int .i64 p.length)]∧KS H v (a++ofK n (.mk k s o l::pres p)) K) (.nx ⟨rfl,kw⟩) ?_ ?_
 ·rintro p u q _ K ρ e ⟨rfl,kp⟩
  have hat:=at_encs e
  have hl2:=congrArg List.length e
  simp only [List.length_append,List.length_cons] at hl2
  obtain ⟨v1,q1,q2,q3⟩:=kp.var
  have hKl:=kp.len
  have hKr:=kp.hr
  have hv1:∀ i∈vid v1,3≤i:=fun i hi=>by
   rcases q3 i hi with h | h
   ·exact hv i h
   ·omega
  have c1:K[1]?=some ⟨.m,0,1,[.int .i64 n]⟩:=by rw [kp.fr 1 (by omega) (by omega) (fun hh=>by have:=hv 1 hh;omega)];exact h1
  have hbu:bulks l=bulks p+(bulk u+bulks q):=by rw [e,bulks_app];simp [bulks]
  have hpl:(pres p).length≤bulks p:=pres_len p
  have hol:=ofK_len n (Tm.mk k s o l::pres p)
  simp only [List.length_cons] at hol
  have ih1:=ih u (by rw [e];simp) (K++[⟨.m,0,4,[enc u]⟩]) v1 (a++ofK n (Tm.mk k s o l::pres p)) (hKr.appV (HV.one (by simp))) (by rw [List.getElem?_append_left (by omega)];exact c1) (by rw [List.getElem?_append_left (lt_of_some q1)];exact q1) (q2.app _) hv1 (by simp only [List.length_append];omega)
  rw [enc_x] at ih1
  (repeat' (first | (refine Rn.go ?_;conv=>whnf) | refine .mk ?_ | refine .tt ?_ | refine .ff ?_ | refine .m2 ?_ | refine .m3 ?_ | refine .mk (fun hc=>?_) fun hc=>?_ | refine .lp fun v H lp=>?_ | fail))
  refine CallEv.ks ih1 (by simp;omega) (fun h' ks=>?_)
  (repeat' (first | (refine Rn.go ?_;conv=>whnf) | refine .mk ?_ | refine .tt ?_ | refine .ff ?_ | refine .m2 ?_ | refine .m3 ?_ | refine .mk (fun hc=>?_) fun hc=>?_ | refine .lp fun v H lp=>?_ | fail))
  refine .nx ⟨rfl,?_⟩
  have:=kp.trans q1 ks.weak
  rwa [List.append_assoc,← ofK_app,show Tm.mk k s o l::pres p++pre u=Tm.mk k s o l::pres (p++[u]) by rw [pres_app'];simp [pres]] at this
 ·rintro _ K ρ ⟨rfl,kp⟩
  (repeat' (first | (refine Rn.go ?_;conv=>whnf) | refine .mk ?_ | refine .tt ?_ | refine .ff ?_ | refine .m2 ?_ | refine .m3 ?_ | refine .mk (fun hc=>?_) fun hc=>?_ | refine .lp fun v H lp=>?_ | fail))
  exact ⟨rfl,by rw [pre];exact kp⟩
theorem walk_fn (n:Int) (t:Tm):∀ (H:AHeap) (v:PV) (a:List Tm),HR H→H[1]?=some ⟨.m,0,1,[.int .i64 n]⟩→H[2]?=some ⟨.m,0,1,[v]⟩→Out 4 H v (encs a)→(∀ i∈vid v,3≤i)→a.length+bulk t<100000000 →
   FnEv C 128 [enc t,.fn 154 [.ptr 1 0 0 0,.ptr 2 0 0 0]] H (fun r h'=>r=.tup []∧KS H v (a++ofK n (pre t)) h'):=by
 induction t using Tm.ind with
 | h k s o l ih=>exact walk_ev n k s o l ih
end Go.Pm.Nine
end
