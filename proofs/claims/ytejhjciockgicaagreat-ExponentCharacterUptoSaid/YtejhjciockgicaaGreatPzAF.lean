/-
  A part of the library Pm and its contracts (joined by program): PmPVal PmCat PmTm PmTm2 PmSame PmFew PmAwake PmLaw PmRead. Conditions: none.
-/
import Derived.Test.YtejhjciockgicaaGreatPzAE
import Derived.Test.YtejhjciockgicaaGreatPzAA
import Derived.Test.YtejhjciockgicaaGreatPzAC
import Derived.Test.YtejhjciockgicaaGreatRows
import Derived.WalkKit
import Derived.ProofKit
import Derived.Deep.Slices
import Derived.ChangeArms
/-
  CHAPTER 6, PART 19: the program's valid and app. Conditions: none.
-/
section
set_option linter.unusedVariables false
set_option linter.unusedSimpArgs false
set_option linter.unusedVariables false
set_option linter.unusedSimpArgs false
set_option maxRecDepth 4000
set_option maxHeartbeats 4000000
namespace Go.Pm
open Go.Proofs
attribute [local irreducible] thenQ blockQ loopQ bodyQ Ev EvOps CallEv FnEv EvD

def validGo : Option Tm → List Pw → Int
  | _, [] => 0
  | pr, p :: l => if valid p.1 ≠ 0 then valid p.1 else if special p.1 = true then 1 else if p.2 = 0 ∨ p.2 < -1000 ∨ 1000 < p.2 then 7 else
    if (match pr with | some q => decide (0 ≤ cmpT q p.1) | none => false) = true then 5 else validGo (some p.1) l
theorem validGo_cons (pr : Option Tm) (p : Pw) (l : List Pw) : validGo pr (p :: l) = if valid p.1 ≠ 0 then valid p.1 else if special p.1 = true then 1 else if p.2 = 0 ∨ p.2 < -1000 ∨ 1000 < p.2 then 7 else
    if (match pr with | some q => decide (0 ≤ cmpT q p.1) | none => false) = true then 5 else validGo (some p.1) l := by
  cases pr <;> rfl
theorem validGo_nil (pr : Option Tm) : validGo pr [] = 0 := by cases pr <;> rfl
def validP (l : List Pw) : Int := if 200 < l.length then 3 else validGo none l
def prv (l : List Pw) (i : Nat) : Option Tm := match i with | 0 => none | i + 1 => (l[i]?).map (·.1)

set_option maxHeartbeats 8000000 in
theorem pvalid_fun (l : List Pw) (hb : ∀ p ∈ l, bulk p.1 < 100000000) (hl : l.length < 100000000) : Fun C 34 [.snap false (encPs l)] (.int .i64 (validP l)) := by
  have hel := encPs_len l
  have r1 : 200 < l.length → validP l = 3 := fun h => by rw [validP, if_pos h]
  have r2 : ¬ 200 < l.length → validP l = validGo none l := fun h => by rw [validP, if_neg h]
  refine Fun.of (FnEv.bodyL Tryz.func34 rfl ?_)
  generalize validP l = R0 at r1 r2 ⊢
  (repeat' (first | refine EvOps.nil ?_ | (apply R.move; exact rfl) | (apply R.assign; exact rfl) | (apply R.cmp; exact rfl; exact rfl; exact rfl; all_goals intro hc) | (apply R.lenS T6; exact rfl; exact rfl) | refine Ev.seq ?_ | refine Ev.region ?_ | (apply Ev.condB; exact rfl) | refine Ev.ret ?_ | refine Ev.skip ?_ | refine Ev.block ?_ | refine thenQ.normal ?_ | refine thenQ.ret ?_ | (apply bodyQ.ret; exact rfl) | fail))
  · exact ⟨_, rfl, by rw [r1 (by omega)]; rfl⟩
  · have r2 := r2 (by omega)
    clear r1
    refine Ev.loop (I := fun k' st => ∃ (i : Nat) (J : AHeap) (ρ' : Nat → PV), st = ⟨al [(0, .snap false (encPs l)), (9, .snap false (encPs l)), (10, .int .i64 (encPs l).length), (11, .int .i64 i)] ρ', J⟩ ∧ k' + i = l.length ∧ HV J ∧ R0 = validGo (prv l i) (l.drop i)) l.length ?_ ?_
    · exact ⟨0, [], _, St.keep ⟨rfl, rfl, rfl, rfl, trivial⟩, rfl, HV.nil, r2⟩
    · clear r2
      rintro k' _ ⟨i, J, ρ', rfl, hk, hJ, hb'⟩
      (repeat' (first | refine EvOps.nil ?_ | (apply R.move; exact rfl) | (apply R.assign; exact rfl) | (apply R.cmp; exact rfl; exact rfl; exact rfl; all_goals intro hc) | refine Ev.seq ?_ | refine Ev.region ?_ | (apply Ev.condB; exact rfl) | refine Ev.ret ?_ | refine Ev.skip ?_ | refine Ev.exit ?_ | refine Ev.block ?_ | refine thenQ.normal ?_ | refine thenQ.exit ?_ | refine blockQ.hit ?_ | refine loopQ.exit ?_ | (apply bodyQ.ret; exact rfl) | fail))
      · obtain ⟨k1, s1, o1, l1, n1, hmem, hat, hd, hil, hget⟩ := encPs_at hc
        have hva := valid_fun _ (hb _ hmem)
        have hsy := symbol_fun k1 s1 o1 l1
        rw [hd, validGo_cons] at hb'
        simp only at hva hb'
        rw [enc_mk] at hva hsy
        have hJ2 := hJ.app (HV.one (ep := 0) (n := 5) (es := [.agg [.int .i64 k1, .str s1, .int .i64 o1, .snap false (encs l1), .int .i64 n1]]) rfl)
        have hcl := hJ2.closed
        clear hc
        refine R.indexS T6 rfl rfl rfl rfl hat rfl rfl ?_
        (repeat' (first | refine EvOps.nil ?_ | (apply R.assign; exact rfl) | (apply R.loadA T6; exact rfl; exact rfl; exact rfl; exact rfl; exact (by repeat constructor)) | (apply R.fieldAddr T6; exact rfl; exact rfl; exact rfl; exact rfl) | (apply R.allocN T6; exact rfl; exact rfl; exact rfl) | (apply R.storeN T6; exact rfl; exact rfl; exact rfl; exact rfl; exact rfl; exact rfl) | (apply R.loadAN T6; exact rfl; exact rfl; exact rfl; exact (by repeat constructor)) | refine Ev.seq ?_ | refine Ev.region ?_ | refine thenQ.normal ?_ | fail))
        refine R.call rfl rfl (CallEv.pure rfl (by simp [isVals, isVal]) (by simpa [nrms, nrm, nrms_encs] using hva) ?_)
        (repeat' (first | refine EvOps.nil ?_ | (apply R.move; exact rfl) | (apply R.assign; exact rfl) | (apply R.fieldAddr T6; exact rfl; exact rfl; exact rfl; exact rfl) | (apply R.cmp; exact rfl; exact rfl; exact rfl; all_goals intro hc) | (apply R.loadAN T6; exact rfl; exact rfl; exact rfl; exact (by repeat constructor)) | refine Ev.seq ?_ | refine Ev.region ?_ | (apply Ev.condB; exact rfl) | refine Ev.ret ?_ | refine Ev.skip ?_ | refine Ev.block ?_ | refine thenQ.normal ?_ | refine thenQ.ret ?_ | refine blockQ.ret ?_ | refine loopQ.ret ?_ | (apply bodyQ.ret; exact rfl) | fail))
        · rw [if_pos (by assumption)] at hb'
          exact ⟨_, rfl, by rw [hb']; rfl⟩
        · rw [if_neg (by assumption)] at hb'
          refine R.call rfl rfl (CallEv.pure rfl (by simp [isVals, isVal]) (by simpa [nrms, nrm, nrms_encs] using hsy) ?_)
          cases hsp : special (.mk k1 s1 o1 l1)
          · rw [if_neg (by rw [hsp]; simp)] at hb'
            (repeat' (first | refine EvOps.nil ?_ | (apply R.gOn; exact rfl; exact rfl; exact rfl) | (apply R.gOff; exact rfl; exact rfl; exact rfl) | (apply R.move; exact rfl) | (apply R.assign; exact rfl) | (apply R.pickT; exact rfl; exact rfl) | (apply R.pickF; exact rfl; exact rfl) | (apply R.fieldAddr T6; exact rfl; exact rfl; exact rfl; exact rfl) | (apply R.cmp; exact rfl; exact rfl; exact rfl; all_goals intro hc; all_goals (try (exfalso; omega))) | (apply R.arith; exact rfl; exact rfl; exact rfl; exact (wrapI (by omega) (by omega))) | (apply R.load1No T6; exact rfl; exact rfl; exact rfl; exact rfl) | refine Ev.seq ?_ | refine Ev.region ?_ | refine Ev.regionD ?_ | refine EvD.nil ?_ | (apply D.move; exact rfl) | (apply D.assign; exact rfl) | (apply D.gOn; exact rfl; exact rfl; exact rfl; exact rfl) | (apply D.gOff; exact rfl; exact rfl; exact rfl) | (apply D.pickF; exact rfl; exact rfl) | (apply D.cmp; exact rfl; exact rfl; exact rfl; all_goals intro hc; all_goals (try (exfalso; omega))) | (apply D.arith; exact rfl; exact rfl; exact rfl; exact (wrapI (by omega) (by omega))) | (apply Ev.condB; exact rfl) | refine Ev.ret ?_ | refine Ev.skip ?_ | refine thenQ.normal ?_ | refine thenQ.ret ?_ | refine blockQ.normal ?_ | refine blockQ.ret ?_ | refine loopQ.normal ?_ | refine loopQ.ret ?_ | (apply bodyQ.ret; exact rfl) | fail))
            all_goals try (rw [if_pos (by omega)] at hb'; exact ⟨_, rfl, by rw [hb']; rfl⟩)
            · -- a factor before it
              rw [if_neg (by omega)] at hb'
              obtain ⟨i', rfl⟩ : ∃ i', i = i' + 1 := ⟨i - 1, by omega⟩
              obtain ⟨k2, s2, o2, l2, n2, hmem2, hat2, hd2, hil2, hget2⟩ := encPs_at (l := l) (i := i') (by omega)
              have hcm := tcmp_fun _ _ (by have := hb _ hmem2; simp only at this; omega : bulk (.mk k2 s2 o2 l2) < 1000000000) (by have := hb _ hmem; simp only at this; omega : bulk (.mk k1 s1 o1 l1) < 1000000000)
              rw [enc_mk, enc_mk] at hcm
              have hpr : prv l (i' + 1) = some (.mk k2 s2 o2 l2) := by simp only [prv, hget2]; rfl
              rw [hpr] at hb'
              simp only at hb'
              refine D.indexS T6 (by assumption) rfl (congrArg (fun z => some (PV.int .i64 z)) (show ((i' + 1 : Nat) : Int) - 1 = (i' : Int) by omega)) rfl rfl hat2 rfl rfl ?_
              (repeat' (first | (apply D.gOn; exact rfl; exact rfl; exact rfl; exact rfl) | (apply D.fieldAddrS T6; exact rfl; exact rfl; exact rfl; exact rfl; exact rfl) | (apply D.fieldAddr T6; exact rfl; exact rfl; exact rfl; exact rfl) | (apply D.loadA T6; exact (by first | exact rfl | assumption); exact rfl; exact rfl; exact rfl; exact rfl; exact rfl; exact (by repeat constructor)) | (apply D.loadAN T6; exact (by first | exact rfl | assumption); exact rfl; exact rfl; exact rfl; exact (by repeat constructor)) | fail))
              refine D.callP (by assumption) rfl rfl rfl rfl rfl rfl (by simpa [nrms, nrm, nrms_encs] using hcm) ?_
              (repeat' (first | refine EvOps.nil ?_ | (apply R.move; exact rfl) | (apply R.assign; exact rfl) | (apply R.arith; exact rfl; exact rfl; exact rfl; exact (wrapI (by omega) (by omega))) | refine Ev.seq ?_ | refine Ev.region ?_ | refine EvD.nil ?_ | (apply D.assign; exact rfl) | (apply D.gOn; exact rfl; exact rfl; exact rfl; exact rfl) | (apply D.pickT; exact rfl; exact rfl) | (apply D.cmp; exact rfl; exact rfl; exact rfl; all_goals intro hc) | (apply Ev.condB; exact rfl) | refine Ev.ret ?_ | refine Ev.skip ?_ | refine thenQ.normal ?_ | refine thenQ.ret ?_ | refine blockQ.normal ?_ | refine blockQ.ret ?_ | refine loopQ.normal ?_ | refine loopQ.ret ?_ | (apply bodyQ.ret; exact rfl) | fail))
              · rw [if_pos (decide_eq_true (by assumption))] at hb'
                exact ⟨_, rfl, by rw [hb']; rfl⟩
              · rw [if_neg (by rw [decide_eq_false (by assumption)]; simp)] at hb'
                refine ⟨k' - 1, by omega, i' + 1 + 1, _, _, St.keep ⟨rfl, rfl, rfl, rfl, trivial⟩, by omega, hJ2, ?_⟩
                have : prv l (i' + 1 + 1) = some (.mk k1 s1 o1 l1) := by simp only [prv, hget]; rfl
                rw [this]; exact hb'
            · rw [if_neg (by omega)] at hb'
              obtain rfl : i = 0 := by omega
              simp only [prv, Bool.false_eq_true, if_false] at hb'
              refine ⟨k' - 1, by omega, 0 + 1, _, _, St.keep ⟨rfl, rfl, rfl, rfl, trivial⟩, by omega, hJ2, ?_⟩
              have : prv l (0 + 1) = some (.mk k1 s1 o1 l1) := by simp only [prv, hget]; rfl
              rw [this]; exact hb'
          · rw [if_pos hsp] at hb'
            (repeat' (first | refine EvOps.nil ?_ | (apply R.assign; exact rfl) | refine Ev.seq ?_ | refine Ev.region ?_ | (apply Ev.condB; exact rfl) | refine Ev.ret ?_ | refine thenQ.normal ?_ | refine thenQ.ret ?_ | refine blockQ.ret ?_ | refine loopQ.ret ?_ | (apply bodyQ.ret; exact rfl) | fail))
            exact ⟨_, rfl, by rw [hb']; rfl⟩
      · rw [encPs_end hc, validGo_nil] at hb'
        exact ⟨_, rfl, by rw [hb']; rfl⟩

theorem app_fun (s : ByteArray) (l : List Tm) : Fun C 72 [.str s, .snap false (encs l)] (enc (.mk 3 s 0 l)) := by
  refine Fun.of (FnEv.bodyL Tryz.func72 rfl ?_)
  rw [enc_mk]
  (repeat' (first | refine EvOps.nil ?_ | (apply R.move; exact rfl) | (apply R.build T6; exact rfl; exact rfl; exact rfl; exact rfl; exact rfl; exact rfl) | (apply R.alloc T6; exact rfl; exact rfl; exact rfl; exact .nil) | refine Ev.seq ?_ | refine Ev.region ?_ | refine thenQ.normal ?_ | fail))
  refine R.storeH T6 (n := 0) (o := ⟨.m, 0, 4, [.agg [.int .i64 0, .str ByteArray.empty, .int .i64 0, .snap true []]]⟩) (i := 0) (e := .agg [.int .i64 0, .str ByteArray.empty, .int .i64 0, .snap true []]) rfl rfl rfl rfl rfl rfl rfl rfl (Nat.le_refl 4) ?_
  (repeat' (first | refine EvOps.nil ?_ | refine Ev.ret ?_ | refine thenQ.normal ?_ | (apply bodyQ.retC T6; exact rfl) | fail))
  refine ⟨.agg [.int .i64 3, .str s, .int .i64 0, .snap false (encs l)], ?_, by simp [nrm, nrms, nrms_encs]⟩
  rfl

end Go.Pm
end

/-
  CHAPTER 6, PART 20: slices.Grow and slices.Concat. Conditions: none.
-/
section
set_option linter.unusedVariables false
set_option linter.unusedSimpArgs false
set_option linter.unusedVariables false
set_option linter.unusedSimpArgs false
set_option maxRecDepth 4000
set_option maxHeartbeats 4000000
namespace Go.Pm
open Go.Proofs

section
variable {C : Cfg} (T : Tab C.P)
variable {ops : Array Oper} {d : Nat} {ty : TypeId} {pos : String} {af : Array Edge} {r : List Oper} {ρ : Nat → PV} {L : List (Nat × PV)} {h : AHeap} {Q : St → Prop}

theorem Ev.unroll {c : Code} {s : St} {Q : Ex → St → Prop} (k : Ev C c s (loopQ (fun s' => Ev C (.loop c) s' Q) Q)) : Ev C (.loop c) s Q := by
  obtain ⟨ex, s', q, n0, hn⟩ := k
  cases ex with
  | normal =>
    obtain ⟨ex2, s2, q2, n1, hn1⟩ := q
    refine ⟨ex2, s2, q2, max n0 n1 + 1, fun n m h1 h2 => ?_⟩
    obtain ⟨m, rfl⟩ : ∃ i', m = i' + 1 := ⟨m - 1, by omega⟩
    have e1 := hn n (m + 1) (by omega) (by omega)
    have e2 := hn1 n m (by omega) (by omega)
    simp only [evalC] at e2 ⊢
    simp only [iter, e1]
    exact iter_mono (fun s x hh => evalC_mono (fun _ _ _ _ hh => hh) (Nat.le_succ m) c hh) (Nat.le_refl m) e2
  | exit id =>
    refine ⟨_, _, q, n0 + 1, fun n m h1 h2 => ?_⟩
    obtain ⟨m, rfl⟩ : ∃ i', m = i' + 1 := ⟨m - 1, by omega⟩
    simp only [evalC, iter, hn n (m + 1) (by omega) (by omega)]
  | ret =>
    refine ⟨_, _, q, n0 + 1, fun n m h1 h2 => ?_⟩
    obtain ⟨m, rfl⟩ : ∃ i', m = i' + 1 := ⟨m - 1, by omega⟩
    simp only [evalC, iter, hn n (m + 1) (by omega) (by omega)]

theorem R.capNil {t el : TypeId} {x : Operand} (hx : evL L x = some (.snap true [])) (hk : T.kd t = some (.sl el)) (k : EvOps C ops r ⟨al ((d, .int .i64 0) :: L) ρ, h⟩ Q) :
    EvOps C ops (⟨some d, .call ⟨.builtin .cap, #[x], #[t]⟩, ty, pos, af, none⟩ :: r) ⟨al L ρ, h⟩ Q :=
  EvOps.valL (fun run => by simp [opVal, evL_ev hx, builtinP, capP, kd_sl (T.hkd _ _ hk)]) k
theorem R.sliceNil {t el : TypeId} {x y : Operand} {k : IntKind} {sz : Nat} (hx : evL L x = some (.snap true [])) (hy : evL L y = some (.int k 0)) (hk : T.kd t = some (.sl el)) (hs : T.ts el = some sz) (kk : EvOps C ops r ⟨al ((d, .snap true []) :: L) ρ, h⟩ Q) :
    EvOps C ops (⟨some d, .slice t x none (some y) none, ty, pos, af, none⟩ :: r) ⟨al L ρ, h⟩ Q :=
  EvOps.valL (fun run => by simp [opVal, stepOp, evL_ev hx, evL_ev hy, sliceP, kd_sl (T.hkd _ _ hk), T.hts _ _ hs, boundP]) kk
theorem R.sliceM0 {t el : TypeId} {x y : Operand} {k : IntKind} {id ep len : Nat} {o : AObj} (hx : evL L x = some (.mref id ep 0 len)) (hy : evL L y = some (.int k 0)) (hk : T.kd t = some (.sl el)) (hg : getM h id ep = some o) (hs : T.ts el = some o.esz) (hle : len ≤ o.es.length) (kk : EvOps C ops r ⟨al ((d, .mref id ep 0 0) :: L) ρ, h⟩ Q) :
    EvOps C ops (⟨some d, .slice t x none (some y) none, ty, pos, af, none⟩ :: r) ⟨al L ρ, h⟩ Q :=
  EvOps.valL (fun run => by
    have h1 : ¬ ((len : Int) < 0) := by omega
    simp [opVal, stepOp, evL_ev hx, evL_ev hy, sliceP, kd_sl (T.hkd _ _ hk), T.hts _ _ hs, beyond, h1, boundP, hg, hle]) kk
theorem R.appendZ {st xt el : TypeId} {sz by' n : Nat} {z : PV} {ki : IntKind} {x y : Operand} (hx : evL L x = some (.snap true [])) (hy : evL L y = some (.int ki (n : Int))) (hk : T.kd st = some (.sl el)) (hk' : T.kd xt = some (.int ki)) (hs : T.ts el = some (sz + 1)) (hb : T.tb el = some by') (hz : T.tz el = some z) (hby : by' ≤ 1000) (hl : (cells z).length = sz + 1) (ho : (cells z).all oneC = true)
    (hn0 : 0 < n) (hn : n < 1000000000) (kk : EvOps C ops r ⟨al ((d, .mref h.length 0 0 n) :: L) ρ, h ++ [⟨.m, 0, sz + 1, List.replicate n z⟩]⟩ Q) :
    EvOps C ops (⟨some d, .call ⟨.builtin .append, #[x, y], #[st, xt]⟩, ty, pos, af, none⟩ :: r) ⟨al L ρ, h⟩ Q := by
  refine EvOps.valL (fun run => ?_) kk
  have hne : (List.replicate n z).isEmpty = false := by cases n with | zero => omega | succ n => rfl
  have hall : (List.replicate n z).all (fun v => decide ((cells v).length = sz + 1) && (cells v).all oneC) = true := by
    rw [List.all_eq_true]; intro v hv; rw [(List.mem_replicate.1 hv).2, hl, ho]; simp
  have hap : appendP C.P 2 h st xt (.snap true []) (.int ki (n : Int)) = some (.mref h.length 0 0 n, h ++ [⟨.m, 0, sz + 1, List.replicate n z⟩]) := by
    unfold appendP
    rw [kd_sl (T.hkd _ _ hk)]
    simp only [T.hts _ _ hs, T.htb _ _ hb, T.htz _ _ hz, appendee, kd_int (T.hkd _ _ hk')]
    rw [if_pos ⟨by omega, by omega⟩]
    simp only [Int.toNat_natCast]
    rw [if_pos ⟨by omega, by omega, ⟨hl, ho⟩, hall⟩]
    simp only [hne, Bool.false_eq_true, if_false, List.length_nil, Nat.zero_add, List.all_nil, List.nil_append, newObj, List.length_replicate]
    rw [if_pos ⟨trivial, by omega, roomy_of hn hby, trivial⟩]
  simp only [opVal, builtinP, List.map_cons, List.map_nil, evL_ev hx, evL_ev hy, hap]

/-- a list with room behind it, in the newest object -/
def Gr (H : AHeap) (sz : Nat) (h : AHeap) (v : PV) (es : List PV) : Prop := (v = .snap true [] ∧ es = [] ∧ h = H) ∨ ∃ ep o, v = .mref H.length ep 0 es.length ∧ h = H ++ [⟨.m, ep, sz, o⟩] ∧ o.take es.length = es ∧ es.length ≤ o.length
theorem Out.elems {sz : Nat} {h : AHeap} {v : PV} {es : List PV} (o : Out sz h v es) : elems h v = some es := by
  rcases o with ⟨rfl, rfl⟩ | ⟨id, ep, rfl, e2⟩
  · rfl
  · simp [Pm.elems, getM, e2]
/-- what is given is appended -/
theorem R.appendG {H : AHeap} {st xt el el' : TypeId} {sz by' : Nat} {z : PV} {es ys : List PV} {x y : Operand} {v u : PV} {ep : Nat} {o : List PV} (hx : evL L x = some (.mref H.length ep 0 es.length)) (hy : evL L y = some u) (hk : T.kd st = some (.sl el)) (hk' : T.kd xt = some (.sl el')) (hs : T.ts el = some (sz + 1)) (hb : T.tb el = some by') (hz : T.tz el = some z)
    (hby : by' ≤ 1000) (hl : (cells z).length = sz + 1) (ho : (cells z).all oneC = true) (hyo : esOk (sz + 1) ys) (hu : Out (sz + 1) H u ys) (hn : es.length + ys.length < 1000000000) (g1 : o.take es.length = es) (g2 : es.length ≤ o.length)
    (kk : ∀ ep' o', o'.take (es ++ ys).length = es ++ ys → (es ++ ys).length ≤ o'.length → (ys ≠ [] → o' = es ++ ys) → (ys = [] → o' = o) → EvOps C ops r ⟨al ((d, .mref H.length ep' 0 (es ++ ys).length) :: L) ρ, H ++ [⟨.m, ep', sz + 1, o'⟩]⟩ Q) :
    EvOps C ops (⟨some d, .call ⟨.builtin .append, #[x, y], #[st, xt]⟩, ty, pos, af, none⟩ :: r) ⟨al L ρ, H ++ [⟨.m, ep, sz + 1, o⟩]⟩ Q := by
  have hel := (hu.app [⟨.m, ep, sz + 1, o⟩]).elems
  have hg : getM (H ++ [(⟨.m, ep, sz + 1, o⟩ : AObj)]) H.length ep = some ⟨.m, ep, sz + 1, o⟩ := by simp [getM]
  unfold esOk at hyo
  cases hys : ys with
  | nil =>
    subst hys
    refine EvOps.valL (fun run => ?_) (kk ep o (by simpa using g1) (by simpa using g2) (fun h => absurd rfl h) (fun _ => rfl))
    have hap : appendP C.P 2 (H ++ [⟨.m, ep, sz + 1, o⟩]) st xt (.mref H.length ep 0 es.length) u = some (.mref H.length ep 0 (es ++ []).length, H ++ [⟨.m, ep, sz + 1, o⟩]) := by
      unfold appendP
      rw [kd_sl (T.hkd _ _ hk)]
      simp only [T.hts _ _ hs, T.htb _ _ hb, T.htz _ _ hz, appendee, kd_sl (T.hkd _ _ hk'), hel]
      rw [if_pos ⟨by omega, by omega, ⟨hl, ho⟩, hyo⟩]
      simp only [hg]
      rw [if_pos ⟨by omega, trivial⟩]
      simp
    simp only [opVal, builtinP, List.map_cons, List.map_nil, evL_ev hx, evL_ev hy, hap]
  | cons y0 ys0 =>
    have hne : ys.isEmpty = false := by rw [hys]; rfl
    refine EvOps.valL (fun run => ?_) (kk (ep + 1) (es ++ ys) List.take_length (Nat.le_refl _) (fun _ => rfl) (fun h => by rw [h] at hne; cases hne))
    have hap : appendP C.P 2 (H ++ [⟨.m, ep, sz + 1, o⟩]) st xt (.mref H.length ep 0 es.length) u = some (.mref H.length (ep + 1) 0 (es ++ ys).length, H ++ [⟨.m, ep + 1, sz + 1, es ++ ys⟩]) := by
      unfold appendP
      rw [kd_sl (T.hkd _ _ hk)]
      simp only [T.hts _ _ hs, T.htb _ _ hb, T.htz _ _ hz, appendee, kd_sl (T.hkd _ _ hk'), hel]
      rw [if_pos ⟨by omega, by omega, ⟨hl, ho⟩, hyo⟩]
      simp only [hg]
      rw [if_pos ⟨by omega, trivial⟩]
      simp only [hne, Bool.false_eq_true, if_false]
      have hso : sameObj H.length u = false := by
        rcases hu with ⟨rfl, _⟩ | ⟨id, ep', rfl, e2⟩
        · rfl
        · have := lt_of_some e2
          simp [sameObj]; omega
      rw [if_neg (by rw [hso]; simp), if_pos ⟨trivial, by omega, trivial, roomy_of hn hby⟩, g1]
      have : (H ++ [(⟨.m, ep, sz + 1, o⟩ : AObj)]).set H.length ⟨.m, ep + 1, sz + 1, es ++ ys⟩ = H ++ [⟨.m, ep + 1, sz + 1, es ++ ys⟩] := by
        refine (List.set_append_right H.length _ (Nat.le_refl _)).trans ?_
        simp
      rw [this, List.length_append]
    simp only [opVal, builtinP, List.map_cons, List.map_nil, evL_ev hx, evL_ev hy, hap]
/-- nothing is appended to nothing -/
theorem R.appendN {st xt el el' : TypeId} {sz by' : Nat} {z : PV} {x y : Operand} {u : PV} (hx : evL L x = some (.snap true [])) (hy : evL L y = some u) (hk : T.kd st = some (.sl el)) (hk' : T.kd xt = some (.sl el')) (hs : T.ts el = some (sz + 1)) (hb : T.tb el = some by') (hz : T.tz el = some z)
    (hby : by' ≤ 1000) (hl : (cells z).length = sz + 1) (ho : (cells z).all oneC = true) (hu : Out (sz + 1) h u []) (kk : EvOps C ops r ⟨al ((d, .snap true []) :: L) ρ, h⟩ Q) :
    EvOps C ops (⟨some d, .call ⟨.builtin .append, #[x, y], #[st, xt]⟩, ty, pos, af, none⟩ :: r) ⟨al L ρ, h⟩ Q := by
  refine EvOps.valL (fun run => ?_) kk
  have hel := hu.elems
  have hap : appendP C.P 2 h st xt (.snap true []) u = some (.snap true [], h) := by
    unfold appendP
    rw [kd_sl (T.hkd _ _ hk)]
    simp only [T.hts _ _ hs, T.htb _ _ hb, T.htz _ _ hz, appendee, kd_sl (T.hkd _ _ hk'), hel]
    rw [if_pos ⟨by omega, by omega, ⟨hl, ho⟩, rfl⟩]
    rfl
  simp only [opVal, builtinP, List.map_cons, List.map_nil, evL_ev hx, evL_ev hy, hap]
end

section
variable {C : Cfg} (T : Tab C.P)
/-- two slices, handed on as a slice of slices -/
def X2 (H : AHeap) (x v1 v2 : PV) : Prop := x = .snap true [v1, v2] ∨ ∃ id, x = .mref id 0 0 2 ∧ H[id]? = some ⟨.m, 0, 1, [v1, v2]⟩
theorem X2.app {H : AHeap} {x v1 v2 : PV} (a : X2 H x v1 v2) (J : AHeap) : X2 (H ++ J) x v1 v2 := by
  rcases a with a | ⟨id, e1, e2⟩
  · exact .inl a
  · exact .inr ⟨id, e1, by rw [List.getElem?_append_left (lt_of_some e2)]; exact e2⟩
theorem Out.cells {sz : Nat} {h : AHeap} {v : PV} {es : List PV} (o : Out sz h v es) : cells v = [v] := by
  rcases o with ⟨rfl, rfl⟩ | ⟨id, ep, rfl, e2⟩ <;> rfl
theorem R.lenX {ops : Array Oper} {d : Nat} {ty : TypeId} {pos : String} {af : Array Edge} {r : List Oper} {ρ : Nat → PV} {L : List (Nat × PV)} {h : AHeap} {Q : St → Prop} {t el : TypeId} {x : Operand} {u v1 v2 : PV}
    (hx : evL L x = some u) (hk : T.kd t = some (.sl el)) (a : X2 h u v1 v2) (k : EvOps C ops r ⟨al ((d, (.int .i64 2)) :: L) ρ, h⟩ Q) :
    EvOps C ops (⟨some d, .call ⟨.builtin .len, #[x], #[t]⟩, ty, pos, af, none⟩ :: r) ⟨al L ρ, h⟩ Q := by
  rcases a with rfl | ⟨id, rfl, e2⟩
  · exact R.lenS T (xs := []) (ts := []) hx hk k
  · exact R.lenM T (xs := []) (ts := []) (o := ⟨.m, 0, 1, [v1, v2]⟩) hx hk (getM_at e2 rfl (by simp)) (by show 0 + 2 ≤ 2; omega) k
theorem R.idxX {ops : Array Oper} {d d2 : Nat} {ty ty2 : TypeId} {pos pos2 : String} {af af2 : Array Edge} {r : List Oper} {ρ : Nat → PV} {L : List (Nat × PV)} {h : AHeap} {Q : St → Prop} {t t2 el : TypeId} {x ix : Operand} {u v1 v2 v : PV} {i : Nat} {k : IntKind}
    (hx : evL L x = some u) (hi : evL L ix = some (.int k (i : Int))) (hk : T.kd t = some (.sl el)) (hs : T.ts el = some 1) (hs2 : T.ts t2 = some 1) (ht2 : T.ta t2 = some false) (a : X2 h u v1 v2) (hv : [v1, v2][i]? = some v) (hc : cells v = [v])
    (kk : ∀ p, EvOps C ops r ⟨al ((d2, v) :: (d, p) :: L) ρ, h⟩ Q) :
    EvOps C ops (⟨some d, .indexAddr t x ix, ty, pos, af, none⟩ :: ⟨some d2, .load t2 (.tmp d), ty2, pos2, af2, none⟩ :: r) ⟨al L ρ, h⟩ Q := by
  have hlk : ∀ p, evL ((d, p) :: L) (.tmp d) = some p := fun p => by simp [evL, lk]
  rcases a with rfl | ⟨id, rfl, e2⟩
  · refine R.indexS T hx hi hk (sz := 0) hs hv hc rfl ?_
    exact R.load1 T (hlk _) hs2 ht2 (cs := []) rfl (kk _)
  · have hlt : i < 2 := by have := lt_of_some hv; simpa using this
    refine R.indexM T (o := ⟨.m, 0, 1, [v1, v2]⟩) hx hi hk (getM_at e2 rfl (by simp)) hs hlt (by show 0 + 2 ≤ 2; omega) ?_
    refine R.load1 T (hlk _) hs2 ht2 (c := v) (cs := []) ?_ (kk _)
    simp only [pcells, getM_at e2 rfl (show Mu.m ≠ .x by simp), Nat.zero_add, hv, hc, List.drop_zero]
end

attribute [local irreducible] thenQ blockQ loopQ bodyQ Ev EvOps CallEv FnEv EvD
theorem grow_ev (n : Nat) (hn : n < 1000000000) (H : AHeap) : FnEv C 104 [.snap true [], .int .i64 n] H (fun r h' => Gr H 4 h' r [] ∧ (n = 0 → r = .snap true []) ∧ (r = .snap true [] → n = 0)) := by
  refine FnEv.bodyL Tryz.func104 rfl ?_
  (repeat' (first | refine EvOps.nil ?_ | (apply R.move; exact rfl) | (apply R.assign; exact rfl) | (apply R.cmp; exact rfl; exact rfl; exact rfl; all_goals intro hc; all_goals (try (exfalso; omega))) | refine Ev.seq ?_ | refine Ev.region ?_ | (apply Ev.condB; exact rfl) | refine Ev.skip ?_ | refine thenQ.normal ?_ | fail))
  apply R.capNil T6; exact rfl; exact rfl
  (repeat' (first | (apply R.move; exact rfl) | (apply R.lenS T6; exact rfl; exact rfl) | fail))
  refine R.arith (c' := 0) rfl rfl rfl (by decide) ?_
  (repeat' (first | refine EvOps.nil ?_ | (apply R.move; exact rfl) | (apply R.assign; exact rfl) | (apply R.cmp; exact rfl; exact rfl; exact rfl; all_goals intro hc; all_goals (try (exfalso; omega))) | (apply R.arith; exact rfl; exact rfl; exact rfl; exact (wrapI (by omega) (by omega))) | refine Ev.seq ?_ | refine Ev.region ?_ | (apply Ev.condB; exact rfl) | refine Ev.ret ?_ | refine Ev.skip ?_ | refine thenQ.normal ?_ | (apply bodyQ.ret; exact rfl) | fail))
  · apply R.capNil T6; exact rfl; exact rfl
    skip
    apply R.sliceNil T6; exact rfl; exact rfl; exact rfl; exact rfl
    (repeat' (first | (apply R.move; exact rfl) | fail))
    apply R.appendZ T6 (n := n)
    · exact rfl
    · exact (congrArg (fun z => some (PV.int .i64 z)) (by simp))
    all_goals first | exact rfl | exact (by decide : (_ : Nat) ≤ 1000) | omega | skip
    (repeat' (first | (apply R.move; exact rfl) | (apply R.lenS T6; exact rfl; exact rfl) | fail))
    apply R.sliceM0 T6 (o := ⟨.m, 0, 4, List.replicate n (.agg [.int .i64 0, .str ByteArray.empty, .int .i64 0, .snap true []])⟩)
    · exact rfl
    · exact rfl
    · exact rfl
    · exact getM_new
    · exact rfl
    · simp
    (repeat' (first | refine EvOps.nil ?_ | (apply R.move; exact rfl) | (apply R.assign; exact rfl) | refine Ev.seq ?_ | refine Ev.region ?_ | refine Ev.ret ?_ | refine thenQ.normal ?_ | (apply bodyQ.ret; exact rfl) | fail))
    exact ⟨.inr ⟨0, List.replicate n (.agg [.int .i64 0, .str ByteArray.empty, .int .i64 0, .snap true []]), rfl, rfl, rfl, by simp⟩, fun h => by omega, fun h => by cases h⟩
  · exact ⟨.inl ⟨rfl, rfl, rfl⟩, fun _ => rfl, fun _ => by omega⟩

theorem encs_app (a b : List Tm) : encs (a ++ b) = encs a ++ encs b := by rw [encs_eq, encs_eq, encs_eq, List.map_append]
def CatP (H : AHeap) (l : List Tm) (r : PV) (h' : AHeap) : Prop := (l = [] ∧ r = .snap true [] ∧ h' = H) ∨ ∃ ep, r = .mref H.length ep 0 (encs l).length ∧ h' = H ++ [⟨.m, ep, 4, encs l⟩]
set_option maxHeartbeats 8000000 in
theorem concat_ev (a b : List Tm) (H : AHeap) (x v1 v2 : PV) (hx : X2 H x v1 v2) (h1 : Out 4 H v1 (encs a)) (h2 : Out 4 H v2 (encs b)) (hl : a.length + b.length < 100000000) :
    FnEv C 73 [x] H (CatP H (a ++ b)) := by
  refine FnEv.bodyL Tryz.func73 rfl ?_
  have e1 := encs_len a
  have e2 := encs_len b
  (repeat' (first | refine EvOps.nil ?_ | (apply R.move; exact rfl) | (apply R.assign; exact rfl) | refine Ev.seq ?_ | refine Ev.region ?_ | refine thenQ.normal ?_ | fail))
  apply R.lenX T6; exact rfl; exact rfl; exact hx
  (repeat' (first | refine EvOps.nil ?_ | (apply R.move; exact rfl) | refine Ev.block ?_ | refine thenQ.normal ?_ | fail))
  apply Ev.unroll
  (repeat' (first | refine EvOps.nil ?_ | (apply R.cmp; exact rfl; exact rfl; exact rfl; all_goals intro hc; all_goals (try (exfalso; omega))) | refine Ev.seq ?_ | refine Ev.region ?_ | (apply Ev.condB; exact rfl) | refine Ev.skip ?_ | refine Ev.block ?_ | refine thenQ.normal ?_ | fail))
  apply R.idxX T6 (i := 0); exact rfl; exact rfl; exact rfl; exact rfl; exact rfl; exact rfl; exact hx; exact rfl; exact h1.cells
  intro p1
  (repeat' (first | refine EvOps.nil ?_ | (apply R.move; exact rfl) | (apply R.assign; exact rfl) | refine Ev.seq ?_ | refine Ev.region ?_ | refine thenQ.normal ?_ | fail))
  apply R.lenOut T6; exact rfl; exact rfl; exact h1
  (repeat' (first | refine EvOps.nil ?_ | (apply R.move; exact rfl) | (apply R.assign; exact rfl) | (apply R.cmp; exact rfl; exact rfl; exact rfl; all_goals intro hc; all_goals (try (exfalso; omega))) | (apply R.arith; exact rfl; exact rfl; exact rfl; exact (wrapI (by omega) (by omega))) | refine Ev.seq ?_ | refine Ev.region ?_ | (apply Ev.condB; exact rfl) | refine Ev.skip ?_ | refine thenQ.normal ?_ | refine blockQ.normal ?_ | refine loopQ.normal ?_ | fail))
  apply Ev.unroll
  (repeat' (first | refine EvOps.nil ?_ | (apply R.cmp; exact rfl; exact rfl; exact rfl; all_goals intro hc; all_goals (try (exfalso; omega))) | refine Ev.seq ?_ | refine Ev.region ?_ | (apply Ev.condB; exact rfl) | refine Ev.skip ?_ | refine Ev.block ?_ | refine thenQ.normal ?_ | fail))
  apply R.idxX T6 (i := 1); exact rfl; exact rfl; exact rfl; exact rfl; exact rfl; exact rfl; exact hx; exact rfl; exact h2.cells
  intro p2
  (repeat' (first | refine EvOps.nil ?_ | (apply R.move; exact rfl) | (apply R.assign; exact rfl) | refine Ev.seq ?_ | refine Ev.region ?_ | refine thenQ.normal ?_ | fail))
  apply R.lenOut T6; exact rfl; exact rfl; exact h2
  (repeat' (first | refine EvOps.nil ?_ | (apply R.move; exact rfl) | (apply R.assign; exact rfl) | (apply R.cmp; exact rfl; exact rfl; exact rfl; all_goals intro hc; all_goals (try (exfalso; omega))) | (apply R.arith; exact rfl; exact rfl; exact rfl; exact (wrapI (by omega) (by omega))) | refine Ev.seq ?_ | refine Ev.region ?_ | (apply Ev.condB; exact rfl) | refine Ev.skip ?_ | refine thenQ.normal ?_ | refine blockQ.normal ?_ | refine loopQ.normal ?_ | fail))
  apply Ev.unroll
  (repeat' (first | refine EvOps.nil ?_ | (apply R.move; exact rfl) | (apply R.cmp; exact rfl; exact rfl; exact rfl; all_goals intro hc; all_goals (try (exfalso; omega))) | refine Ev.seq ?_ | refine Ev.region ?_ | (apply Ev.condB; exact rfl) | refine Ev.exit ?_ | refine thenQ.normal ?_ | refine thenQ.exit ?_ | refine blockQ.hit ?_ | refine loopQ.exit ?_ | fail))
  refine R.call rfl rfl (CallEv.opened rfl ?_)
  refine FnEv.heap (args' := [.snap true [], .int .i64 ((a.length + b.length : Nat) : Int)]) rfl (by simp [e1, e2]) ((grow_ev (a.length + b.length) (by omega) H).mono ?_)
  rintro r h' ⟨hg, hz, hz'⟩
  have key : (if (belowR H.length r && (h'.take H.length).all fun o => o.es.all (belowA H.length)) = true then h'.take H.length else h') = h' := by
    rcases hg with ⟨_, _, rfl⟩ | ⟨ep, o, rfl, rfl, _, _⟩
    · simp
    · rw [if_neg (by simp [belowR, belowA, below1])]
  rw [key]
  have hx' : X2 h' x v1 v2 := by
    rcases hg with ⟨_, _, rfl⟩ | ⟨ep, o, rfl, rfl, _, _⟩
    · exact hx
    · exact hx.app _
  by_cases hab : a.length + b.length = 0
  · have hr := hz hab
    subst hr
    have ha : a = [] := List.eq_nil_of_length_eq_zero (by omega)
    have hb : b = [] := List.eq_nil_of_length_eq_zero (by omega)
    subst ha; subst hb
    rcases hg with ⟨_, _, rfl⟩ | ⟨ep, o, hh, _⟩
    · (repeat' (first | refine EvOps.nil ?_ | (apply R.move; exact rfl) | (apply R.assign; exact rfl) | refine Ev.seq ?_ | refine Ev.region ?_ | refine thenQ.normal ?_ | fail))
      apply R.lenX T6; exact rfl; exact rfl; exact hx'
      (repeat' (first | refine EvOps.nil ?_ | (apply R.move; exact rfl) | refine Ev.block ?_ | refine thenQ.normal ?_ | fail))
      apply Ev.unroll
      (repeat' (first | refine EvOps.nil ?_ | (apply R.cmp; exact rfl; exact rfl; exact rfl; all_goals intro hc; all_goals (try (exfalso; omega))) | refine Ev.seq ?_ | refine Ev.region ?_ | (apply Ev.condB; exact rfl) | refine Ev.skip ?_ | refine Ev.block ?_ | refine thenQ.normal ?_ | fail))
      apply R.idxX T6 (i := 0); exact rfl; exact rfl; exact rfl; exact rfl; exact rfl; exact rfl; exact hx'; exact rfl; exact h1.cells
      intro p3
      (repeat' (first | refine EvOps.nil ?_ | (apply R.move; exact rfl) | (apply R.assign; exact rfl) | refine Ev.region ?_ | refine thenQ.normal ?_ | fail))
      refine R.appendN T6 rfl rfl rfl rfl rfl rfl rfl (by decide) rfl rfl h1 ?_
      (repeat' (first | refine EvOps.nil ?_ | (apply R.move; exact rfl) | (apply R.assign; exact rfl) | (apply R.arith; exact rfl; exact rfl; exact rfl; exact (wrapI (by omega) (by omega))) | refine Ev.region ?_ | refine thenQ.normal ?_ | refine blockQ.normal ?_ | refine loopQ.normal ?_ | fail))
      apply Ev.unroll
      (repeat' (first | refine EvOps.nil ?_ | (apply R.cmp; exact rfl; exact rfl; exact rfl; all_goals intro hc; all_goals (try (exfalso; omega))) | refine Ev.seq ?_ | refine Ev.region ?_ | (apply Ev.condB; exact rfl) | refine Ev.skip ?_ | refine Ev.block ?_ | refine thenQ.normal ?_ | fail))
      apply R.idxX T6 (i := 1); exact rfl; exact rfl; exact rfl; exact rfl; exact rfl; exact rfl; exact hx'; exact rfl; exact h2.cells
      intro p4
      (repeat' (first | refine EvOps.nil ?_ | (apply R.move; exact rfl) | (apply R.assign; exact rfl) | refine Ev.region ?_ | refine thenQ.normal ?_ | fail))
      refine R.appendN T6 rfl rfl rfl rfl rfl rfl rfl (by decide) rfl rfl h2 ?_
      (repeat' (first | refine EvOps.nil ?_ | (apply R.move; exact rfl) | (apply R.assign; exact rfl) | (apply R.arith; exact rfl; exact rfl; exact rfl; exact (wrapI (by omega) (by omega))) | refine Ev.region ?_ | refine thenQ.normal ?_ | refine blockQ.normal ?_ | refine loopQ.normal ?_ | fail))
      apply Ev.unroll
      (repeat' (first | refine EvOps.nil ?_ | (apply R.move; exact rfl) | (apply R.assign; exact rfl) | (apply R.cmp; exact rfl; exact rfl; exact rfl; all_goals intro hc; all_goals (try (exfalso; omega))) | refine Ev.seq ?_ | refine Ev.region ?_ | (apply Ev.condB; exact rfl) | refine Ev.ret ?_ | refine Ev.exit ?_ | refine thenQ.normal ?_ | refine thenQ.exit ?_ | refine blockQ.hit ?_ | refine loopQ.exit ?_ | (apply bodyQ.ret; exact rfl) | fail))
      exact .inl ⟨rfl, rfl, rfl⟩
    · cases hh
  · rcases hg with ⟨hr, _, _⟩ | ⟨ep, o, rfl, rfl, g1, g2⟩
    · exact absurd (hz' hr) hab
    · (repeat' (first | refine EvOps.nil ?_ | (apply R.move; exact rfl) | (apply R.assign; exact rfl) | refine Ev.seq ?_ | refine Ev.region ?_ | refine thenQ.normal ?_ | fail))
      apply R.lenX T6; exact rfl; exact rfl; exact hx'
      (repeat' (first | refine EvOps.nil ?_ | (apply R.move; exact rfl) | refine Ev.block ?_ | refine thenQ.normal ?_ | fail))
      apply Ev.unroll
      (repeat' (first | refine EvOps.nil ?_ | (apply R.cmp; exact rfl; exact rfl; exact rfl; all_goals intro hc; all_goals (try (exfalso; omega))) | refine Ev.seq ?_ | refine Ev.region ?_ | (apply Ev.condB; exact rfl) | refine Ev.skip ?_ | refine Ev.block ?_ | refine thenQ.normal ?_ | fail))
      apply R.idxX T6 (i := 0); exact rfl; exact rfl; exact rfl; exact rfl; exact rfl; exact rfl; exact hx'; exact rfl; exact h1.cells
      intro p3
      (repeat' (first | refine EvOps.nil ?_ | (apply R.move; exact rfl) | (apply R.assign; exact rfl) | refine Ev.region ?_ | refine thenQ.normal ?_ | fail))
      refine R.appendG T6 (es := []) (ys := encs a) (v := .nilp) rfl rfl rfl rfl rfl rfl rfl (by decide) rfl rfl (encs_ok a) h1 (by simp; omega) g1 g2 ?_
      intro ep1 o1 t1 t2 t3 t4
      (repeat' (first | refine EvOps.nil ?_ | (apply R.move; exact rfl) | (apply R.assign; exact rfl) | (apply R.arith; exact rfl; exact rfl; exact rfl; exact (wrapI (by omega) (by omega))) | refine Ev.region ?_ | refine thenQ.normal ?_ | refine blockQ.normal ?_ | refine loopQ.normal ?_ | fail))
      apply Ev.unroll
      (repeat' (first | refine EvOps.nil ?_ | (apply R.cmp; exact rfl; exact rfl; exact rfl; all_goals intro hc; all_goals (try (exfalso; omega))) | refine Ev.seq ?_ | refine Ev.region ?_ | (apply Ev.condB; exact rfl) | refine Ev.skip ?_ | refine Ev.block ?_ | refine thenQ.normal ?_ | fail))
      apply R.idxX T6 (i := 1); exact rfl; exact rfl; exact rfl; exact rfl; exact rfl; exact rfl; exact (hx.app _); exact rfl; exact h2.cells
      intro p4
      (repeat' (first | refine EvOps.nil ?_ | (apply R.move; exact rfl) | (apply R.assign; exact rfl) | refine Ev.region ?_ | refine thenQ.normal ?_ | fail))
      refine R.appendG T6 (es := encs a) (ys := encs b) (v := .nilp) rfl rfl rfl rfl rfl rfl rfl (by decide) rfl rfl (encs_ok b) h2 (by omega) t1 t2 ?_
      intro ep2 o2 u1 u2 u3 u4
      (repeat' (first | refine EvOps.nil ?_ | (apply R.move; exact rfl) | (apply R.assign; exact rfl) | (apply R.arith; exact rfl; exact rfl; exact rfl; exact (wrapI (by omega) (by omega))) | refine Ev.region ?_ | refine thenQ.normal ?_ | refine blockQ.normal ?_ | refine loopQ.normal ?_ | fail))
      apply Ev.unroll
      (repeat' (first | refine EvOps.nil ?_ | (apply R.move; exact rfl) | (apply R.assign; exact rfl) | (apply R.cmp; exact rfl; exact rfl; exact rfl; all_goals intro hc; all_goals (try (exfalso; omega))) | refine Ev.seq ?_ | refine Ev.region ?_ | (apply Ev.condB; exact rfl) | refine Ev.ret ?_ | refine Ev.exit ?_ | refine thenQ.normal ?_ | refine thenQ.exit ?_ | refine blockQ.hit ?_ | refine loopQ.exit ?_ | (apply bodyQ.ret; exact rfl) | fail))
      have ho : o2 = encs (a ++ b) := by
        rw [encs_app]
        by_cases hb : encs b = []
        · rw [u4 hb, hb, List.append_nil]
          refine t3 (fun ha => ?_)
          rw [ha] at e1; rw [hb] at e2
          simp at e1 e2
          omega
        · exact u3 hb
      refine .inr ⟨ep2, ?_, by rw [ho]⟩
      rw [encs_app]; rfl

end Go.Pm
end

/-
  CHAPTER 6, PART 21: the program's Term: rules. Conditions: none.
-/
section
set_option linter.unusedVariables false
set_option linter.unusedSimpArgs false
set_option linter.unusedVariables false
set_option linter.unusedSimpArgs false
set_option maxRecDepth 4000
set_option maxHeartbeats 4000000
namespace Go.Pm
open Go.Proofs
section
variable {C : Cfg} (T : Tab C.P)
variable {ops : Array Oper} {d : Nat} {ty : TypeId} {pos : String} {af : Array Edge} {r : List Oper} {ρ : Nat → PV} {L : List (Nat × PV)} {h : AHeap} {Q : St → Prop}

/-- append to a list, whatever else there is -/
theorem R.appendLP {st xt el el' : TypeId} {sz by' : Nat} {z : PV} {full : Bool} {es ys : List PV} {x y : Operand} {v : PV} (hx : evL L x = some v) (hy : evL L y = some (.snap full ys)) (hk : T.kd st = some (.sl el)) (hk' : T.kd xt = some (.sl el')) (hs : T.ts el = some (sz + 1)) (hb : T.tb el = some by') (hz : T.tz el = some z)
    (hby : by' ≤ 1000) (hl : (cells z).length = sz + 1) (ho : (cells z).all oneC = true) (hyo : esOk (sz + 1) ys) (hne : ys.isEmpty = false) (o : Out (sz + 1) h v es) (hn : es.length + ys.length < 1000000000)
    (hvs : isVals (es ++ ys) = true) (hH : HV h) (kk : ∀ v' h', LP h v (sz + 1) (es ++ ys) v' h' → EvOps C ops r ⟨al ((d, v') :: L) ρ, h'⟩ Q) :
    EvOps C ops (⟨some d, .call ⟨.builtin .append, #[x, y], #[st, xt]⟩, ty, pos, af, none⟩ :: r) ⟨al L ρ, h⟩ Q := by
  rcases o with ⟨rfl, rfl⟩ | ⟨id, ep, rfl, e2⟩
  · refine EvOps.valL (fun run => ?_) (kk (.mref h.length 0 0 ys.length) (h ++ [⟨.m, 0, sz + 1, ys⟩]) ⟨.inr ⟨h.length, 0, by simp, by simp⟩, hH.app (HV.one (by simpa using hvs)), by simp, fun j hj _ => List.getElem?_append_left hj, fun j ep n hh => ?_⟩)
    · have := appendP_new T (h := h) (lv := 2) (full := full) (by omega) hk hk' hs hb hz hby hl ho hyo hne (by simpa using hn)
      simp only [opVal, builtinP, List.map_cons, List.map_nil, evL_ev hx, evL_ev hy, this]
    · cases hh; exact .inr (Nat.le_refl _)
  · have hlt := lt_of_some e2
    refine EvOps.valL (fun run => ?_) (kk (.mref id (ep + 1) 0 (es.length + ys.length)) (h.set id ⟨.m, ep + 1, sz + 1, es ++ ys⟩) ⟨.inr ⟨id, ep + 1, by simp, List.getElem?_set_self hlt⟩, hH.set id (by simp) hvs, by simp, fun j hj hne => List.getElem?_set_ne (fun hh => hne ep es.length (by rw [hh])), fun j ep' n hh => ?_⟩)
    · have := appendP_m T (h := h) (full := full) (len := es.length) hk hk' hs hb hz hby hl ho hyo hne hn (getM_at e2 rfl (by simp)) rfl rfl (Nat.le_refl _)
      simp only [opVal, builtinP, List.map_cons, List.map_nil, evL_ev hx, evL_ev hy, this, List.take_length]
    · cases hh; exact .inl ⟨ep, es.length, rfl⟩
/-- two slices as a slice -/
theorem R.buildPair {t el : TypeId} {z : PV} {x y : Operand} {u v : PV} {a b : List PV} {sz : Nat} (hx : evL L x = some u) (hy : evL L y = some v) (hk : T.kd t = some (.sl el)) (hs : T.ts el = some 1) (hz : T.tz el = some z) (hl : (cells z).length = 1) (h1 : (cells z).all oneC = true)
    (ou : Out sz h u a) (ov : Out sz h v b) (kk : ∀ w h', X2 h' w u v → (h' = h ∨ h' = h ++ [⟨.m, 0, 1, [u, v]⟩]) → EvOps C ops r ⟨al ((d, w) :: L) ρ, h'⟩ Q) :
    EvOps C ops (⟨some d, .buildSlice t 2 #[(0, x), (1, y)], ty, pos, af, none⟩ :: r) ⟨al L ρ, h⟩ Q := by
  have cu := ou.cells
  have cv := ov.cells
  have ou1 : oneC u = true := by rcases ou with ⟨rfl, _⟩ | ⟨id, ep, rfl, _⟩ <;> rfl
  have ov1 : oneC v = true := by rcases ov with ⟨rfl, _⟩ | ⟨id, ep, rfl, _⟩ <;> rfl
  have hlit : litP z 2 [(0, u), (1, v)] = [u, v] := rfl
  by_cases hv : isVals [u, v] = true
  · refine EvOps.valL (v := .snap true [u, v]) (h' := h) (fun run => ?_) (kk _ h (.inl rfl) (.inl rfl))
    simp only [opVal, stepOp, List.map_cons, List.map_nil, evL_ev hx, evL_ev hy, buildSliceP, kd_sl (T.hkd _ _ hk), T.hts _ _ hs, T.htz _ _ hz, hlit, hv, if_true]
    rw [if_pos ⟨by omega, by omega, hl, h1, by simp [cu, cv, ou1, ov1]⟩]
  · refine EvOps.valL (v := .mref h.length 0 0 2) (h' := newObj h 1 [u, v]) (fun run => ?_) (kk _ _ (.inr ⟨h.length, rfl, by simp [newObj]⟩) (.inr rfl))
    simp only [opVal, stepOp, List.map_cons, List.map_nil, evL_ev hx, evL_ev hy, buildSliceP, kd_sl (T.hkd _ _ hk), T.hts _ _ hs, T.htz _ _ hz, hlit]
    rw [if_pos ⟨by omega, by omega, hl, h1, by simp [cu, cv, ou1, ov1]⟩, if_neg hv, if_pos (Nat.le_refl _)]

/-- a list that may be frozen -/
def OutF (sz : Nat) (h : AHeap) (v : PV) (es : List PV) : Prop := (v = .snap true [] ∧ es = []) ∨ ∃ id ep mu, v = .mref id ep 0 es.length ∧ h[id]? = some ⟨mu, ep, sz, es⟩ ∧ (mu = .m ∨ mu = .f)
theorem OutF.app {sz : Nat} {h : AHeap} {v : PV} {es : List PV} (o : OutF sz h v es) (J : AHeap) : OutF sz (h ++ J) v es := by
  rcases o with o | ⟨id, ep, mu, e1, e2, e3⟩
  · exact .inl o
  · exact .inr ⟨id, ep, mu, e1, by rw [List.getElem?_append_left (lt_of_some e2)]; exact e2, e3⟩
theorem R.lenOutF {t el : TypeId} {x : Operand} {v : PV} {es : List PV} {sz : Nat} (hx : evL L x = some v) (hk : T.kd t = some (.sl el)) (o : OutF sz h v es) (k : EvOps C ops r ⟨al ((d, (.int .i64 es.length)) :: L) ρ, h⟩ Q) :
    EvOps C ops (⟨some d, .call ⟨.builtin .len, #[x], #[t]⟩, ty, pos, af, none⟩ :: r) ⟨al L ρ, h⟩ Q := by
  rcases o with ⟨rfl, rfl⟩ | ⟨id, ep, mu, rfl, e2, e3⟩
  · exact R.lenS T (xs := []) (ts := []) hx hk k
  · exact R.lenM T (xs := []) (ts := []) (o := ⟨mu, ep, sz, es⟩) hx hk (getM_at e2 rfl (by rcases e3 with rfl | rfl <;> simp)) (by show 0 + es.length ≤ es.length; omega) k
/-- a pure call that is given a string and a list, and returns something with a slice in it: the list is frozen -/
theorem CallEv.outF {f : FuncId} {sz : Nat} {s : ByteArray} {v : PV} {es : List PV} {rv : PV} {Q : PV → AHeap → Prop} (hm : C.mode f = .pure) (o : Out sz h v es) (hv : isVals es = true) (a : Fun C f [.str s, .snap false (nrms es)] rv) (hs : scal rv = false)
    (q : ∀ h', OutF sz h' v es → h'.length = h.length → (∀ j, (∀ ep n, v ≠ .mref j ep 0 n) → h'[j]? = h[j]?) → Q rv h') : CallEv C 2 f [.str s, v] h Q := by
  rcases o with ⟨rfl, rfl⟩ | ⟨id, ep, rfl, e2⟩
  · exact CallEv.pure hm rfl (by simpa [nrms, nrm] using a) (q h (.inl ⟨rfl, rfl⟩) rfl (fun _ _ => rfl))
  · obtain ⟨n0, hn⟩ := a
    have hlt := lt_of_some e2
    refine ⟨rv, h.set id ⟨.f, ep, sz, es⟩, q _ (.inr ⟨id, ep, .f, rfl, List.getElem?_set_self hlt, .inr rfl⟩) (by simp) (fun j hj => List.getElem?_set_ne (fun hh => hj ep es.length (by rw [hh]))), n0, fun n h1 => ?_⟩
    obtain ⟨r0, hc, r1, e1, e3, e4⟩ := hn n h1
    have hsc : scal r1 = false := by
      have := scal_nrm' r1
      rw [e4] at this
      rw [← this]; exact hs
    have hb : rbAs h [.str s, .mref id ep 0 es.length] = some [.str s, .snap false es] := by
      simp [rbAs, rbA, rb1, isVal, getM, e2, hv]
    have hnr : nrms [PV.str s, .snap false es] = [.str s, .snap false (nrms es)] := rfl
    have hids : idsOf [PV.str s, .mref id ep 0 es.length] = [id] := rfl
    have hfz : frozenAll h [id] = false := by simp [frozenAll, e2]
    have hfr : freezes h [id] = some (h.set id ⟨.f, ep, sz, es⟩) := by simp [freezes, freeze1, e2, hv]
    unfold callF
    rw [hm]
    have hvv : isVals [PV.str s, .mref id ep 0 es.length] = false := rfl
    simp only [callPure, hvv, Bool.false_eq_true, if_false, hb, hnr, e1, e3, hids, hsc, hfz, Bool.or_self, Nat.le_refl, if_true, hfr, Option.map_some, e4]
theorem resC_cell {a b c n : Nat} {t : TypeId} {cs : List PV} {v : PV} {sz : Nat} (ha : lk L a = some (.ptr b 0 0 0)) (hb : h[b]? = some ⟨.m, 0, n, [.agg cs]⟩) (hs : T.ts t = some (sz + 1)) (ht : T.ta t = some true) (hl : cs.length = sz + 1) (hc : lk L c = some v) : resC T L h [.cell a t, .tmp c] = some [.agg cs, v] := by
  have hp : pcells h (.ptr b 0 0 0) = some cs := (pcOf hb).trans rfl
  have hld : loadT T h t (.ptr b 0 0 0) = some (.agg cs) := by
    unfold loadT
    rw [hs, ht, hp]
    have : Nat.ble (sz + 1) cs.length = true := Nat.ble_eq_true_of_le (by omega)
    simp only [this, if_true]
    rw [List.take_of_length_le (by omega)]
  simp only [resC, ha, hld, hc]
end

theorem posT_snoc (l : List Pw) (p : Pw) : posT (l ++ [p]) = posT l ++ List.replicate p.2.toNat p.1 := by simp [posT]
theorem negT_snoc (l : List Pw) (p : Pw) : negT (l ++ [p]) = negT l ++ List.replicate (-p.2).toNat (invT p.1) := by simp [negT]
theorem take_snoc {l : List Pw} {i : Nat} {p : Pw} (h : l[i]? = some p) : l.take (i + 1) = l.take i ++ [p] := by rw [List.take_add_one, h]; rfl
def zeroT : Tm := .mk 0 ByteArray.empty 0 []
def wide (l : List Pw) : Bool := l.any fun p => decide (8 < p.2 ∨ p.2 < -8)
/-- the term of a product, or its error -/
def termT (l : List Pw) : Tm × Int := if validP l ≠ 0 then (zeroT, validP l) else if wide l = true then (zeroT, 3) else if 8 < (opsT l).length then (zeroT, 3) else if valid (joinT (opsT l)) ≠ 0 then (zeroT, valid (joinT (opsT l))) else (joinT (opsT l), 0)
/-- lists apart from each other -/
def Apart (v u : PV) : Prop := ∀ j ep n ep' n', v = .mref j ep 0 n → u = .mref j ep' 0 n' → False
theorem Out.lt {sz : Nat} {h : AHeap} {v : PV} {es : List PV} (o : Out sz h v es) {j ep n : Nat} (hv : v = .mref j ep 0 n) : j < h.length := by
  rcases o with ⟨rfl, _⟩ | ⟨id, ep', rfl, e2⟩
  · cases hv
  · cases hv; exact lt_of_some e2
/-- what lies apart stays -/
theorem LP.keep {H : AHeap} {v : PV} {sz : Nat} {es : List PV} {r : PV} {h' : AHeap} (a : LP H v sz es r h') {sz2 : Nat} {u : PV} {es2 : List PV} (o : Out sz2 H u es2) (ap : Apart v u) : Out sz2 h' u es2 ∧ Apart r u := by
  refine ⟨?_, ?_⟩
  · rcases o with o | ⟨id, ep, rfl, e2⟩
    · exact .inl o
    · exact .inr ⟨id, ep, rfl, by rw [a.fr id (lt_of_some e2) (fun ep' n hh => ap id ep' n ep es2.length hh rfl)]; exact e2⟩
  · intro j ep n ep' n' h1 h2
    rcases a.ref j ep n h1 with ⟨ep2, n2, h3⟩ | h3
    · exact ap j ep2 n2 ep' n' h3 h2
    · have := o.lt h2; omega
theorem LP.obj {H : AHeap} {v : PV} {sz : Nat} {es : List PV} {r : PV} {h' : AHeap} (a : LP H v sz es r h') {b : Nat} {o : AObj} (e : H[b]? = some o) (hb : ∀ ep n, v ≠ .mref b ep 0 n) : h'[b]? = some o ∧ ∀ ep n, r ≠ .mref b ep 0 n := by
  refine ⟨by rw [a.fr b (lt_of_some e) hb]; exact e, fun ep n hh => ?_⟩
  rcases a.ref b ep n hh with ⟨ep', n', h3⟩ | h3
  · exact hb ep' n' h3
  · have := lt_of_some e; omega

end Go.Pm
end

/-
  CHAPTER 6, PART 22: the program's Term. Conditions: none.
-/
section
set_option linter.unusedVariables false
set_option linter.unusedSimpArgs false
set_option linter.unusedVariables false
set_option linter.unusedSimpArgs false
set_option maxRecDepth 4000
set_option maxHeartbeats 4000000
namespace Go.Pm
open Go.Proofs
attribute [local irreducible] thenQ blockQ loopQ bodyQ Ev EvOps CallEv FnEv EvD

structure TI (H : AHeap) (vp vn : PV) (A B : List Tm) : Prop where
  hv : HV H
  z0 : H[0]? = some ⟨.m, 0, 4, [.agg [.int .i64 0, .str ByteArray.empty, .int .i64 0, .snap true []]]⟩
  op : Out 4 H vp (encs A)
  on : Out 4 H vn (encs B)
  ap : Apart vp vn
  p0 : ∀ ep n, vp ≠ .mref 0 ep 0 n
  n0 : ∀ ep n, vn ≠ .mref 0 ep 0 n
theorem TI.app {H : AHeap} {vp vn : PV} {A B : List Tm} (a : TI H vp vn A B) {K : AHeap} (hK : HV K) : TI (H ++ K) vp vn A B :=
  ⟨a.hv.app hK, by rw [List.getElem?_append_left (lt_of_some a.z0)]; exact a.z0, a.op.app K, a.on.app K, a.ap, a.p0, a.n0⟩
theorem TI.pos {H : AHeap} {vp vn : PV} {A B : List Tm} (a : TI H vp vn A B) {A' : List Tm} {v' : PV} {H' : AHeap} (lp : LP H vp 4 (encs A') v' H') : TI H' v' vn A' B :=
  have k := lp.keep a.on a.ap
  have z := lp.obj a.z0 a.p0
  ⟨lp.hv, z.1, lp.out, k.1, k.2, z.2, a.n0⟩
theorem TI.neg {H : AHeap} {vp vn : PV} {A B : List Tm} (a : TI H vp vn A B) {B' : List Tm} {v' : PV} {H' : AHeap} (lp : LP H vn 4 (encs B') v' H') : TI H' vp v' A B' :=
  have k := lp.keep a.op (fun j ep n ep' n' h1 h2 => a.ap j ep' n' ep n h2 h1)
  have z := lp.obj a.z0 a.n0
  ⟨lp.hv, z.1, k.1, lp.out, fun j ep n ep' n' h1 h2 => k.2 j ep' n' ep n h2 h1, a.p0, z.2⟩
theorem Out.notNew {sz : Nat} {h : AHeap} {v : PV} {es : List PV} (o : Out sz h v es) : ∀ ep n, v ≠ .mref h.length ep 0 n := fun ep n hh => by have := o.lt hh; omega
theorem wide_false {l : List Pw} {i : Nat} (h : wide (l.take i) = false) {p : Pw} (hp : l[i]? = some p) (h1 : ¬ 8 < p.2) (h2 : ¬ p.2 < -8) : wide (l.take (i + 1)) = false := by
  rw [take_snoc hp]
  unfold wide at h ⊢
  rw [List.any_append, h]
  simp; omega
theorem wide_true {l : List Pw} {p : Pw} (hp : p ∈ l) (h : 8 < p.2 ∨ p.2 < -8) : wide l = true := by
  unfold wide
  rw [List.any_eq_true]
  exact ⟨p, hp, decide_eq_true h⟩

theorem posT_len : ∀ {l : List Pw}, wide l = false → (posT l).length ≤ 8 * l.length
  | [], _ => by simp [posT]
  | p :: l, h => by
    have e : posT (p :: l) = List.replicate p.2.toNat p.1 ++ posT l := by simp [posT]
    unfold wide at h
    rw [List.any_cons, Bool.or_eq_false_iff] at h
    have h1 := of_decide_eq_false h.1
    have := posT_len h.2
    rw [e]; simp; omega
theorem negT_len : ∀ {l : List Pw}, wide l = false → (negT l).length ≤ 8 * l.length
  | [], _ => by simp [negT]
  | p :: l, h => by
    have e : negT (p :: l) = List.replicate (-p.2).toNat (invT p.1) ++ negT l := by simp [negT]
    unfold wide at h
    rw [List.any_cons, Bool.or_eq_false_iff] at h
    have h1 := of_decide_eq_false h.1
    have := negT_len h.2
    rw [e]; simp; omega
theorem encs_snoc (l : List Tm) (t : Tm) : encs l ++ [enc t] = encs (l ++ [t]) := by rw [encs_eq, encs_eq]; simp

theorem joinT_many : ∀ {l : List Tm}, 2 ≤ l.length → joinT l = .mk 3 sMul 0 l
  | [], h => by simp at h
  | [_], h => by simp at h
  | _ :: _ :: _, _ => rfl
theorem bulks_le {B : Nat} : ∀ {l : List Tm}, (∀ t ∈ l, bulk t ≤ B) → bulks l ≤ l.length * B
  | [], _ => by simp [bulks]
  | t :: l, h => by
    have h1 := h t (by simp)
    have h2 := bulks_le (l := l) (fun u hu => h u (by simp [hu]))
    simp only [bulks, List.length_cons, Nat.succ_mul]; omega
theorem sMul_sz : sMul.size = 3 := rfl
theorem sInv_sz : sInv.size = 3 := rfl
theorem sOne_sz : sOne.size = 3 := rfl
theorem bulk_join {l : List Pw} (hb : ∀ p ∈ l, bulk p.1 < 10000000) (h8 : ¬ 8 < (opsT l).length) : bulk (joinT (opsT l)) < 100000000 := by
  have h1 : ∀ t ∈ opsT l, bulk t ≤ 10000010 := by
    intro t ht
    unfold opsT posT negT at ht
    rcases List.mem_append.1 ht with ht | ht
    · obtain ⟨p, hp, ht⟩ := List.mem_flatMap.1 ht
      rw [(List.mem_replicate.1 ht).2]; have := hb p hp; omega
    · obtain ⟨p, hp, ht⟩ := List.mem_flatMap.1 ht
      rw [(List.mem_replicate.1 ht).2]
      have := hb p hp
      simp only [invT, bulk, bulks, sInv_sz]; omega
  generalize opsT l = al at h1 h8
  match al, h1, h8 with
  | [], _, _ => simp [joinT, bulk, bulks, sOne_sz]
  | [t], h1, _ => have := h1 t (by simp); simp only [joinT]; omega
  | t :: u :: r, h1, h8 =>
    have := bulks_le h1
    simp only [joinT, bulk, sMul_sz]
    simp only [List.length_cons] at this h8
    have : (r.length + 1 + 1) * 10000010 ≤ 8 * 10000010 := Nat.mul_le_mul_right _ (by omega)
    omega

set_option maxHeartbeats 16000000 in
theorem term_fun (l : List Pw) (hb : ∀ p ∈ l, bulk p.1 < 10000000) (hl : l.length < 1000000) : Fun C 29 [.snap false (encPs l)] (.tup [enc (termT l).1, .int .i64 (termT l).2]) := by
  have hva := pvalid_fun l (fun p hp => by have := hb p hp; omega) (by omega)
  have hel := encPs_len l
  have r1 : validP l ≠ 0 → termT l = (zeroT, validP l) := fun h => by rw [termT, if_pos h]
  have r2 : validP l = 0 → wide l = true → termT l = (zeroT, 3) := fun h h' => by rw [termT, if_neg (by omega), if_pos h']
  have r3 : validP l = 0 → wide l = false → 8 < (opsT l).length → termT l = (zeroT, 3) := fun h h' h2 => by rw [termT, if_neg (by omega), if_neg (by rw [h']; simp), if_pos h2]
  have r4 : validP l = 0 → wide l = false → ¬ 8 < (opsT l).length → valid (joinT (opsT l)) ≠ 0 → termT l = (zeroT, valid (joinT (opsT l))) := fun h h' h2 h3 => by rw [termT, if_neg (by omega), if_neg (by rw [h']; simp), if_neg h2, if_pos h3]
  have r5 : validP l = 0 → wide l = false → ¬ 8 < (opsT l).length → valid (joinT (opsT l)) = 0 → termT l = (joinT (opsT l), 0) := fun h h' h2 h3 => by rw [termT, if_neg (by omega), if_neg (by rw [h']; simp), if_neg h2, if_neg (by omega)]
  refine Fun.of (FnEv.bodyL Tryz.func29 rfl ?_)
  generalize termT l = R0 at r1 r2 r3 r4 r5 ⊢
  have fin : ∀ (t : Tm) (e : Int), R0 = (t, e) → ∀ (K : AHeap) (cs : List PV), nrm (.agg cs) = enc t → isVals cs = true → ∃ r1, rb K (tupOf [.agg cs, .int .i64 e]) = some r1 ∧ nrm r1 = PV.tup [enc R0.1, .int .i64 R0.2] := by
    intro t e hR K cs h1 h2
    have key : ∀ cs : List PV, isVals cs = true → rb1s K cs = some cs := by
      intro cs
      induction cs with
      | nil => intro _; rfl
      | cons c cs ih =>
        intro hh
        simp only [isVals, Bool.and_eq_true] at hh
        have : rb1 K c = some c := by
          unfold rb1
          split
          · simp [isVal] at hh
          · rw [if_pos hh.1]
        simp only [rb1s, this, ih hh.2]
    refine ⟨.tup [.agg cs, .int .i64 e], ?_, by rw [hR]; simp only [nrm, nrms] at h1 ⊢; rw [h1]⟩
    simp only [tupOf, rb, rbAs, rbA, key cs h2, Option.map_some]
    rfl
  have zz : nrm (.agg [.int .i64 0, .str ByteArray.empty, .int .i64 0, .snap true []]) = enc zeroT := by rw [zeroT, enc_mk]; rfl
  (repeat' (first | refine EvOps.nil ?_ | (apply R.move; exact rfl) | (apply R.assign; exact rfl) | (apply R.alloc T6; exact rfl; exact rfl; exact rfl; exact .nil) | refine Ev.seq ?_ | refine Ev.region ?_ | refine thenQ.normal ?_ | fail))
  refine R.call rfl rfl (CallEv.pure rfl (by simp [isVals, isVal]) (by simpa [nrms, nrm, nrms_encPs] using hva) ?_)
  (repeat' (first | refine EvOps.nil ?_ | (apply R.move; exact rfl) | (apply R.assign; exact rfl) | (apply R.cmp; exact rfl; exact rfl; exact rfl; all_goals intro hc) | (apply R.build T6; exact rfl; exact rfl; exact rfl; exact rfl; exact rfl; exact rfl) | (apply R.lenS T6; exact rfl; exact rfl) | refine Ev.seq ?_ | refine Ev.region ?_ | (apply Ev.condB; exact rfl) | refine Ev.skip ?_ | refine Ev.block ?_ | refine thenQ.normal ?_ | fail))
  · refine R.storeH T6 (n := 0) (o := ⟨.m, 0, 4, [.agg [.int .i64 0, .str ByteArray.empty, .int .i64 0, .snap true []]]⟩) (i := 0) (e := .agg [.int .i64 0, .str ByteArray.empty, .int .i64 0, .snap true []]) rfl rfl rfl rfl rfl rfl rfl rfl (Nat.le_refl 4) ?_
    (repeat' (first | refine EvOps.nil ?_ | (apply R.assign; exact rfl) | refine Ev.ret ?_ | refine thenQ.normal ?_ | refine thenQ.ret ?_ | (apply bodyQ.retC T6; exact rfl) | fail))
    exact fin _ _ (r1 (by assumption)) _ _ zz rfl
  have v0 := Decidable.not_not.1 hc
  clear hc r1
  have r2 := r2 v0
  have r3 := r3 v0
  have r4 := r4 v0
  have r5 := r5 v0
  refine Ev.loop (I := fun k' st => ∃ (i : Nat) (H : AHeap) (vp vn : PV) (ρ' : Nat → PV), st = ⟨al [(2, .ptr 0 0 0 0), (5, vp), (6, vn), (18, .snap false (encPs l)), (19, .int .i64 (encPs l).length), (20, .int .i64 i)] ρ', H⟩ ∧ k' + i = l.length ∧ TI H vp vn (posT (l.take i)) (negT (l.take i)) ∧ wide (l.take i) = false) l.length ?_ ?_
  · exact ⟨0, [⟨.m, 0, 4, [.agg [.int .i64 0, .str ByteArray.empty, .int .i64 0, .snap true []]]⟩], .snap true [], .snap true [], _, St.keep ⟨rfl, rfl, rfl, rfl, rfl, rfl, trivial⟩, rfl, ⟨HV.one rfl, rfl, Out.nil _ _, Out.nil _ _, (fun j ep n ep' n' h1 h2 => by cases h1), (fun ep n hh => by cases hh), (fun ep n hh => by cases hh)⟩, rfl⟩
  · rintro k' _ ⟨i, H, vp, vn, ρ', rfl, hk, ti, hw⟩
    (repeat' (first | refine EvOps.nil ?_ | (apply R.move; exact rfl) | (apply R.cmp; exact rfl; exact rfl; exact rfl; all_goals intro hc) | refine Ev.seq ?_ | refine Ev.region ?_ | (apply Ev.condB; exact rfl) | refine Ev.skip ?_ | refine Ev.exit ?_ | refine Ev.block ?_ | refine thenQ.normal ?_ | refine thenQ.exit ?_ | refine blockQ.hit ?_ | refine loopQ.exit ?_ | fail))
    · obtain ⟨k1, s1, o1, l1, n1, hmem, hat, hd, hil, hget⟩ := encPs_at hc
      have hcl := clone_fun (.mk k1 s1 o1 l1) (by have := hb _ hmem; simp only at this; omega)
      rw [enc_mk] at hcl
      refine R.indexS T6 rfl rfl rfl rfl hat rfl rfl ?_
      clear hc
      have t1 := ti.app (K := [⟨.m, 0, 5, [.agg [.int .i64 k1, .str s1, .int .i64 o1, .snap false (encs l1), .int .i64 n1]]⟩]) (HV.one rfl)
      have b1 : (H ++ [(⟨.m, 0, 5, [.agg [.int .i64 k1, .str s1, .int .i64 o1, .snap false (encs l1), .int .i64 n1]]⟩ : AObj)])[H.length]? = some ⟨.m, 0, 5, [.agg [.int .i64 k1, .str s1, .int .i64 o1, .snap false (encs l1), .int .i64 n1]]⟩ := by simp
      have q1 := ti.op.notNew
      have q2 := ti.on.notNew
      (repeat' (first | refine EvOps.nil ?_ | (apply R.gOn; exact rfl; exact rfl; exact rfl) | (apply R.gOff; exact rfl; exact rfl; exact rfl) | (apply R.move; exact rfl) | (apply R.pickT; exact rfl; exact rfl) | (apply R.pickF; exact rfl; exact rfl) | (apply R.loadA T6; exact rfl; exact rfl; exact rfl; exact rfl; exact (by repeat constructor)) | (apply R.fieldAddr T6; exact rfl; exact rfl; exact rfl; exact rfl) | (apply R.cmp; exact rfl; exact rfl; exact rfl; all_goals intro hc) | (apply R.build T6; exact rfl; exact rfl; exact rfl; exact rfl; exact rfl; exact rfl) | (apply R.allocN T6; exact rfl; exact rfl; exact rfl) | (apply R.storeN T6; exact rfl; exact rfl; exact rfl; exact rfl; exact rfl; exact rfl) | (apply R.load1H T6; exact rfl; exact rfl; exact rfl; exact (by assumption); exact rfl) | refine Ev.seq ?_ | refine Ev.region ?_ | (apply Ev.condB; exact rfl) | refine Ev.skip ?_ | refine Ev.block ?_ | refine thenQ.normal ?_ | fail))
      · refine R.storeH T6 (n := 0) (o := ⟨.m, 0, 4, [.agg [.int .i64 0, .str ByteArray.empty, .int .i64 0, .snap true []]]⟩) (i := 0) (e := .agg [.int .i64 0, .str ByteArray.empty, .int .i64 0, .snap true []]) rfl rfl rfl (getM_at t1.z0 rfl (by simp)) rfl rfl rfl rfl (Nat.le_refl 4) ?_
        (repeat' (first | refine EvOps.nil ?_ | (apply R.assign; exact rfl) | refine Ev.ret ?_ | refine thenQ.normal ?_ | refine thenQ.ret ?_ | refine blockQ.ret ?_ | refine loopQ.ret ?_ | fail))
        refine bodyQ.retC T6 (resC_cell T6 rfl (List.getElem?_set_self (lt_of_some t1.z0)) rfl rfl rfl rfl) ?_
        exact fin _ _ (r2 (wide_true hmem (by simp only; omega))) _ _ zz rfl
      · refine R.storeH T6 (n := 0) (o := ⟨.m, 0, 4, [.agg [.int .i64 0, .str ByteArray.empty, .int .i64 0, .snap true []]]⟩) (i := 0) (e := .agg [.int .i64 0, .str ByteArray.empty, .int .i64 0, .snap true []]) rfl rfl rfl (getM_at t1.z0 rfl (by simp)) rfl rfl rfl rfl (Nat.le_refl 4) ?_
        (repeat' (first | refine EvOps.nil ?_ | (apply R.assign; exact rfl) | refine Ev.ret ?_ | refine thenQ.normal ?_ | refine thenQ.ret ?_ | refine blockQ.ret ?_ | refine loopQ.ret ?_ | fail))
        refine bodyQ.retC T6 (resC_cell T6 rfl (List.getElem?_set_self (lt_of_some t1.z0)) rfl rfl rfl rfl) ?_
        exact fin _ _ (r2 (wide_true hmem (by simp only; omega))) _ _ zz rfl
      · have hn1 : -8 ≤ n1 ∧ n1 ≤ 8 := by omega
        have lenp := posT_len hw
        have lenn := negT_len hw
        rw [List.length_take_of_le (by omega)] at lenp lenn
        have hw' := wide_false hw hget (by simp only; omega) (by simp only; omega)
        clear hc
        refine Ev.loop (I := fun k2 st => ∃ (j : Nat) (H' : AHeap) (vp' : PV) (ρ' : Nat → PV), st = ⟨al [(2, .ptr 0 0 0 0), (5, vp'), (6, vn), (8, .ptr H.length 0 0 0), (18, .snap false (encPs l)), (19, .int .i64 (encPs l).length), (20, .int .i64 i), (34, .int .i64 n1), (35, .int .i64 j)] ρ', H'⟩ ∧ k2 + j = n1.toNat ∧
          TI H' vp' vn (posT (l.take i) ++ List.replicate j (.mk k1 s1 o1 l1)) (negT (l.take i)) ∧ H'[H.length]? = some ⟨.m, 0, 5, [.agg [.int .i64 k1, .str s1, .int .i64 o1, .snap false (encs l1), .int .i64 n1]]⟩ ∧ (∀ ep n, vp' ≠ .mref H.length ep 0 n)) n1.toNat ?_ ?_
        · exact ⟨0, _, vp, _, St.keep ⟨rfl, rfl, rfl, rfl, rfl, rfl, rfl, rfl, rfl, trivial⟩, by omega, by simpa using t1, b1, q1⟩
        · clear t1 b1 q1 ti
          rintro k2 _ ⟨j, H2, vp2, ρ2, rfl, hk2, t2, b2, q3⟩
          (repeat' (first | refine EvOps.nil ?_ | (apply R.move; exact rfl) | (apply R.fieldAddr T6; exact rfl; exact rfl; exact rfl; exact rfl) | (apply R.cmp; exact rfl; exact rfl; exact rfl; all_goals intro hc) | (apply R.neg; exact rfl; exact (wrapI (by omega) (by omega))) | (apply R.load1H T6; exact rfl; exact rfl; exact rfl; exact (by assumption); exact rfl) | (apply R.loadAH T6; exact rfl; exact rfl; exact rfl; exact (by assumption); exact (by repeat constructor)) | refine Ev.seq ?_ | refine Ev.region ?_ | (apply Ev.condB; exact rfl) | refine Ev.skip ?_ | refine Ev.exit ?_ | refine Ev.block ?_ | refine thenQ.normal ?_ | refine thenQ.exit ?_ | refine blockQ.hit ?_ | refine loopQ.exit ?_ | fail))
          · have hjn := hc
            refine R.call rfl rfl (CallEv.pure rfl (by simp [isVals, isVal]) (by simpa [nrms, nrm, nrms_encs] using hcl) ?_)
            (repeat' (first | (apply R.buildSlice T6; exact rfl; exact rfl; exact rfl; exact rfl; exact (by decide); exact rfl; exact rfl; exact rfl; exact rfl; exact rfl) | fail))
            refine R.appendLP T6 rfl rfl rfl rfl rfl rfl rfl (by decide) rfl rfl rfl rfl t2.op (show (encs _).length + 1 < _ by rw [encs_len, List.length_append, List.length_replicate]; omega) (by rw [isVals_eq, List.all_append, ← isVals_eq, isVals_encs]; rfl) t2.hv ?_
            intro v3 H3 lp
            have es : encs (posT (l.take i) ++ List.replicate j (.mk k1 s1 o1 l1)) ++ [.agg [.int .i64 k1, .str s1, .int .i64 o1, .snap false (encs l1)]] = encs (posT (l.take i) ++ List.replicate (j + 1) (.mk k1 s1 o1 l1)) := by
              rw [← enc_mk, encs_snoc, List.append_assoc, ← List.replicate_succ']
            have lp : LP H2 vp2 4 (encs (posT (l.take i) ++ List.replicate (j + 1) (.mk k1 s1 o1 l1))) v3 H3 := by rw [← es]; exact lp
            have ob := lp.obj b2 q3
            (repeat' (first | refine EvOps.nil ?_ | (apply R.move; exact rfl) | (apply R.assign; exact rfl) | (apply R.arith; exact rfl; exact rfl; exact rfl; exact (wrapI (by omega) (by omega))) | refine Ev.region ?_ | refine thenQ.normal ?_ | refine blockQ.normal ?_ | refine loopQ.normal ?_ | fail))
            exact ⟨k2 - 1, by omega, j + 1, H3, v3, _, St.keep ⟨rfl, rfl, rfl, rfl, rfl, rfl, rfl, rfl, rfl, trivial⟩, by omega, t2.pos lp, ob.1, ob.2⟩
          · obtain rfl : j = n1.toNat := by omega
            clear hc
            refine Ev.loop (I := fun k3 st => ∃ (j : Nat) (H' : AHeap) (vn' : PV) (ρ' : Nat → PV), st = ⟨al [(2, .ptr 0 0 0 0), (5, vp2), (6, vn'), (8, .ptr H.length 0 0 0), (18, .snap false (encPs l)), (19, .int .i64 (encPs l).length), (20, .int .i64 i), (46, .int .i64 (0 - n1)), (47, .int .i64 j)] ρ', H'⟩ ∧ k3 + j = (-n1).toNat ∧
              TI H' vp2 vn' (posT (l.take i) ++ List.replicate n1.toNat (.mk k1 s1 o1 l1)) (negT (l.take i) ++ List.replicate j (invT (.mk k1 s1 o1 l1))) ∧ H'[H.length]? = some ⟨.m, 0, 5, [.agg [.int .i64 k1, .str s1, .int .i64 o1, .snap false (encs l1), .int .i64 n1]]⟩ ∧ (∀ ep n, vn' ≠ .mref H.length ep 0 n)) (-n1).toNat ?_ ?_
            · exact ⟨0, _, vn, _, St.keep ⟨rfl, rfl, rfl, rfl, rfl, rfl, rfl, rfl, rfl, trivial⟩, by omega, by simpa using t2, b2, q2⟩
            · clear t2 b2
              rintro k3 _ ⟨j, H3, vn3, ρ3, rfl, hk3, t3, b3, q4⟩
              (repeat' (first | refine EvOps.nil ?_ | (apply R.move; exact rfl) | (apply R.fieldAddr T6; exact rfl; exact rfl; exact rfl; exact rfl) | (apply R.cmp; exact rfl; exact rfl; exact rfl; all_goals intro hc) | (apply R.arith; exact rfl; exact rfl; exact rfl; exact (wrapI (by omega) (by omega))) | (apply R.loadAH T6; exact rfl; exact rfl; exact rfl; exact (by assumption); exact (by repeat constructor)) | refine Ev.seq ?_ | refine Ev.region ?_ | (apply Ev.condB; exact rfl) | refine Ev.skip ?_ | refine Ev.exit ?_ | refine Ev.block ?_ | refine thenQ.normal ?_ | refine thenQ.exit ?_ | refine blockQ.normal ?_ | refine blockQ.hit ?_ | refine loopQ.normal ?_ | refine loopQ.exit ?_ | fail))
              · have hjn := hc
                refine R.call rfl rfl (CallEv.pure rfl (by simp [isVals, isVal]) (by simpa [nrms, nrm, nrms_encs] using hcl) ?_)
                (repeat' (first | (apply R.buildSlice T6; exact rfl; exact rfl; exact rfl; exact rfl; exact (by decide); exact rfl; exact rfl; exact rfl; exact rfl; exact rfl) | fail))
                have hap := app_fun sInv [.mk k1 s1 o1 l1]
                simp only [encs, enc_mk] at hap
                refine R.call rfl rfl (CallEv.pure rfl rfl (by show Fun C _ (nrms [.str sInv, .snap true [.agg [.int .i64 k1, .str s1, .int .i64 o1, .snap false (encs l1)]]]) _; simpa [nrms, nrm, nrms_encs] using hap) ?_)
                (repeat' (first | (apply R.buildSlice T6; exact rfl; exact rfl; exact rfl; exact rfl; exact (by decide); exact rfl; exact rfl; exact rfl; exact rfl; exact rfl) | fail))
                refine R.appendLP T6 rfl rfl rfl rfl rfl rfl rfl (by decide) rfl rfl rfl rfl t3.on (show (encs _).length + 1 < _ by rw [encs_len, List.length_append, List.length_replicate]; omega) (by rw [isVals_eq, List.all_append, ← isVals_eq, isVals_encs]; rfl) t3.hv ?_
                intro v4 H4 lp
                have es : encs (negT (l.take i) ++ List.replicate j (invT (.mk k1 s1 o1 l1))) ++ [.agg [.int .i64 3, .str sInv, .int .i64 0, .snap false [.agg [.int .i64 k1, .str s1, .int .i64 o1, .snap false (encs l1)]]]] = encs (negT (l.take i) ++ List.replicate (j + 1) (invT (.mk k1 s1 o1 l1))) := by
                  have : enc (invT (.mk k1 s1 o1 l1)) = .agg [.int .i64 3, .str sInv, .int .i64 0, .snap false [.agg [.int .i64 k1, .str s1, .int .i64 o1, .snap false (encs l1)]]] := by
                    unfold invT; rw [enc_mk]; simp only [encs, enc_mk]
                  rw [← this, encs_snoc, List.append_assoc, ← List.replicate_succ']
                have lp : LP H3 vn3 4 (encs (negT (l.take i) ++ List.replicate (j + 1) (invT (.mk k1 s1 o1 l1)))) v4 H4 := by rw [← es]; exact lp
                have ob := lp.obj b3 q4
                (repeat' (first | refine EvOps.nil ?_ | (apply R.move; exact rfl) | (apply R.assign; exact rfl) | (apply R.arith; exact rfl; exact rfl; exact rfl; exact (wrapI (by omega) (by omega))) | refine Ev.region ?_ | refine thenQ.normal ?_ | refine blockQ.normal ?_ | refine loopQ.normal ?_ | fail))
                exact ⟨k3 - 1, by omega, j + 1, H4, v4, _, St.keep ⟨rfl, rfl, rfl, rfl, rfl, rfl, rfl, rfl, rfl, trivial⟩, by omega, t3.neg lp, ob.1, ob.2⟩
              · obtain rfl : j = (-n1).toNat := by omega
                refine ⟨k' - 1, by omega, i + 1, H3, vp2, vn3, _, St.keep ⟨rfl, rfl, rfl, rfl, rfl, rfl, trivial⟩, by omega, ?_, hw'⟩
                rw [take_snoc hget, posT_snoc, negT_snoc]
                exact t3
    · have tk : l.take i = l := List.take_of_length_le (by omega)
      rw [tk] at ti hw
      have r2 := hw
      have r3 := r3 hw
      have r4 := r4 hw
      have r5 := r5 hw
      have lenp := posT_len hw
      have lenn := negT_len hw
      have hbj := bulk_join hb
      have hops : opsT l = posT l ++ negT l := rfl
      clear hc hw tk
      apply R.buildPair T6; exact rfl; exact rfl; exact rfl; exact rfl; exact rfl; exact rfl; exact rfl; exact ti.op; exact ti.on
      intro w H1 hx2 hH1
      have op1 : Out 4 H1 vp (encs (posT l)) := by rcases hH1 with rfl | rfl; exact ti.op; exact ti.op.app _
      have on1 : Out 4 H1 vn (encs (negT l)) := by rcases hH1 with rfl | rfl; exact ti.on; exact ti.on.app _
      have z1 : H1[0]? = some ⟨.m, 0, 4, [.agg [.int .i64 0, .str ByteArray.empty, .int .i64 0, .snap true []]]⟩ := by rcases hH1 with rfl | rfl; exact ti.z0; rw [List.getElem?_append_left (lt_of_some ti.z0)]; exact ti.z0
      clear hH1 ti
      skip
      refine R.call rfl rfl (CallEv.opened rfl ((concat_ev (posT l) (negT l) H1 w vp vn hx2 op1 on1 (by omega)).mono ?_))
      rintro r h' hcat
      have key : (if (belowR H1.length r && (h'.take H1.length).all fun o => o.es.all (belowA H1.length)) = true then h'.take H1.length else h') = h' := by
        rcases hcat with ⟨_, rfl, rfl⟩ | ⟨ep, rfl, rfl⟩
        · simp
        · rw [if_neg (by simp [belowR, belowA, below1])]
      rw [key]
      have ho : Out 4 h' r (encs (opsT l)) := by
        rw [hops]
        rcases hcat with ⟨h1, rfl, rfl⟩ | ⟨ep, rfl, rfl⟩
        · rw [h1]; exact .inl ⟨rfl, rfl⟩
        · exact .inr ⟨H1.length, ep, rfl, by simp⟩
      have z2 : h'[0]? = some ⟨.m, 0, 4, [.agg [.int .i64 0, .str ByteArray.empty, .int .i64 0, .snap true []]]⟩ := by
        rcases hcat with ⟨h1, rfl, rfl⟩ | ⟨ep, rfl, rfl⟩
        · exact z1
        · rw [List.getElem?_append_left (lt_of_some z1)]; exact z1
      have q2 : ∀ ep n, r ≠ .mref 0 ep 0 n := by
        intro ep n hh
        rcases hcat with ⟨h1, rfl, rfl⟩ | ⟨ep, rfl, rfl⟩
        · cases hh
        · have h0 := lt_of_some z1
          have := (PV.mref.inj hh).1
          omega
      have hal := encs_len (opsT l)
      clear key hcat z1 op1 on1 hx2
      (repeat' (first | refine EvOps.nil ?_ | (apply R.move; exact rfl) | (apply R.assign; exact rfl) | refine Ev.seq ?_ | refine Ev.region ?_ | refine thenQ.normal ?_ | fail))
      apply R.lenOut T6; exact rfl; exact rfl; exact ho
      (repeat' (first | refine EvOps.nil ?_ | (apply R.move; exact rfl) | (apply R.cmp; exact rfl; exact rfl; exact rfl; all_goals intro hc) | (apply R.build T6; exact rfl; exact rfl; exact rfl; exact rfl; exact rfl; exact rfl) | refine Ev.seq ?_ | refine Ev.region ?_ | (apply Ev.condB; exact rfl) | refine Ev.skip ?_ | refine thenQ.normal ?_ | fail))
      · refine R.storeH T6 (n := 0) (o := ⟨.m, 0, 4, [.agg [.int .i64 0, .str ByteArray.empty, .int .i64 0, .snap true []]]⟩) (i := 0) (e := .agg [.int .i64 0, .str ByteArray.empty, .int .i64 0, .snap true []]) rfl rfl rfl (getM_at z2 rfl (by simp)) rfl rfl rfl rfl (Nat.le_refl 4) ?_
        (repeat' (first | refine EvOps.nil ?_ | (apply R.assign; exact rfl) | refine Ev.ret ?_ | refine thenQ.normal ?_ | refine thenQ.ret ?_ | fail))
        refine bodyQ.retC T6 (resC_cell T6 rfl (List.getElem?_set_self (lt_of_some z2)) rfl rfl rfl rfl) ?_
        exact fin _ _ (r3 (by omega)) _ _ zz rfl
      · have h8 : ¬ 8 < (opsT l).length := by omega
        have hva := valid_fun _ (hbj h8)
        have r4 := r4 h8
        have r5 := r5 h8
        clear hc
        have hap := app_fun sMul (opsT l)
        rw [enc_mk] at hap
        refine R.call rfl rfl (CallEv.outF rfl ho (isVals_encs _) (by rw [nrms_encs]; exact hap) rfl ?_)
        intro H3 of3 len3 fr3
        have z3 : H3[0]? = some ⟨.m, 0, 4, [.agg [.int .i64 0, .str ByteArray.empty, .int .i64 0, .snap true []]]⟩ := by rw [fr3 0 q2]; exact z2
        (repeat' (first | refine EvOps.nil ?_ | (apply R.move; exact rfl) | (apply R.allocN T6; exact rfl; exact rfl; exact rfl) | (apply R.storeN T6; exact rfl; exact rfl; exact rfl; exact rfl; exact rfl; exact rfl) | refine Ev.seq ?_ | refine Ev.region ?_ | refine thenQ.normal ?_ | fail))
        apply R.lenOutF T6; exact rfl; exact rfl; exact of3.app _
        obtain ⟨H4, hH4⟩ : ∃ x, x = H3 ++ [⟨.m, 0, 4, [.agg [.int .i64 3, .str sMul, .int .i64 0, .snap false (encs (opsT l))]]⟩] := ⟨_, rfl⟩
        have z4 : H4[0]? = some ⟨.m, 0, 4, [.agg [.int .i64 0, .str ByteArray.empty, .int .i64 0, .snap true []]]⟩ := by rw [hH4, List.getElem?_append_left (lt_of_some z3)]; exact z3
        have b4 : H4[H3.length]? = some ⟨.m, 0, 4, [.agg [.int .i64 3, .str sMul, .int .i64 0, .snap false (encs (opsT l))]]⟩ := by rw [hH4]; simp
        have of4 : OutF 4 H4 r (encs (opsT l)) := by rw [hH4]; exact of3.app _
        refine EvOps.heap hH4.symm ?_
        have ne0 : H3.length ≠ 0 := by have := lt_of_some z3; omega
        clear hH4 of3 fr3
        (repeat' (first | refine EvOps.nil ?_ | (apply R.move; exact rfl) | (apply R.assign; exact rfl) | (apply R.cmp; exact rfl; exact rfl; exact rfl; all_goals intro hc) | (apply R.loadAH T6; exact rfl; exact rfl; exact rfl; exact (by assumption); exact (by repeat constructor)) | refine Ev.seq ?_ | refine Ev.region ?_ | (apply Ev.condB; exact rfl) | refine Ev.skip ?_ | refine Ev.block ?_ | refine thenQ.normal ?_ | refine blockQ.normal ?_ | fail))
        · -- no operand
          have hnil : opsT l = [] := List.eq_nil_of_length_eq_zero (by omega)
          have hj : joinT (opsT l) = .mk 3 sOne 0 [] := by rw [hnil]; rfl
          have ha1 := app_fun sOne []
          simp only [encs, enc_mk] at ha1
          refine R.call rfl rfl (CallEv.pure rfl rfl (by show Fun C _ (nrms [.str sOne, .snap true []]) _; simpa [nrms, nrm] using ha1) ?_)
          refine R.storeH T6 (n := 0) (o := ⟨.m, 0, 4, [.agg [.int .i64 3, .str sMul, .int .i64 0, .snap false (encs (opsT l))]]⟩) (i := 0) (e := .agg [.int .i64 3, .str sMul, .int .i64 0, .snap false (encs (opsT l))]) rfl rfl rfl (getM_at b4 rfl (by simp)) rfl rfl rfl rfl (Nat.le_refl 4) ?_
          obtain ⟨H5, hH5⟩ : ∃ x, x = H4.set H3.length ⟨.m, 0, 4, [.agg [.int .i64 3, .str sOne, .int .i64 0, .snap false []]]⟩ := ⟨_, rfl⟩
          have z5 : H5[0]? = some ⟨.m, 0, 4, [.agg [.int .i64 0, .str ByteArray.empty, .int .i64 0, .snap true []]]⟩ := by rw [hH5, List.getElem?_set_ne ne0]; exact z4
          have b5 : H5[H3.length]? = some ⟨.m, 0, 4, [.agg [.int .i64 3, .str sOne, .int .i64 0, .snap false []]]⟩ := by rw [hH5]; exact List.getElem?_set_self (lt_of_some b4)
          refine EvOps.heap hH5.symm ?_
          clear b4 hH5
          rw [hj, enc_mk] at hva
          (repeat' (first | refine EvOps.nil ?_ | (apply R.loadAH T6; exact rfl; exact rfl; exact rfl; exact (by assumption); exact (by repeat constructor)) | refine Ev.seq ?_ | refine Ev.region ?_ | refine thenQ.normal ?_ | refine blockQ.normal ?_ | fail))
          refine R.call rfl rfl (CallEv.pure rfl (by simp [isVals, isVal]) (by simpa [nrms, nrm, nrms_encs, encs] using hva) ?_)
          (repeat' (first | refine EvOps.nil ?_ | (apply R.move; exact rfl) | (apply R.assign; exact rfl) | (apply R.cmp; exact rfl; exact rfl; exact rfl; all_goals intro hc) | (apply R.build T6; exact rfl; exact rfl; exact rfl; exact rfl; exact rfl; exact rfl) | (apply R.loadAH T6; exact rfl; exact rfl; exact rfl; exact (by assumption); exact (by repeat constructor)) | refine Ev.seq ?_ | refine Ev.region ?_ | (apply Ev.condB; exact rfl) | refine Ev.skip ?_ | refine thenQ.normal ?_ | fail))
          · have hne := hc
            refine R.storeH T6 (n := 0) (o := ⟨.m, 0, 4, [.agg [.int .i64 0, .str ByteArray.empty, .int .i64 0, .snap true []]]⟩) (i := 0) (e := .agg [.int .i64 0, .str ByteArray.empty, .int .i64 0, .snap true []]) rfl rfl rfl (getM_at z5 rfl (by simp)) rfl rfl rfl rfl (Nat.le_refl 4) ?_
            (repeat' (first | refine EvOps.nil ?_ | (apply R.assign; exact rfl) | refine Ev.ret ?_ | refine thenQ.normal ?_ | refine thenQ.ret ?_ | fail))
            refine bodyQ.retC T6 (resC_cell T6 rfl (List.getElem?_set_self (lt_of_some z5)) rfl rfl rfl rfl) ?_
            exact fin _ _ ((r4 (by rw [hj]; exact hne)).trans (by rw [hj])) _ _ zz rfl
          · have h0 := Decidable.not_not.1 hc
            refine R.storeH T6 (n := 0) (o := ⟨.m, 0, 4, [.agg [.int .i64 0, .str ByteArray.empty, .int .i64 0, .snap true []]]⟩) (i := 0) (e := .agg [.int .i64 0, .str ByteArray.empty, .int .i64 0, .snap true []]) rfl rfl rfl (getM_at z5 rfl (by simp)) rfl rfl rfl rfl (Nat.le_refl 4) ?_
            (repeat' (first | refine EvOps.nil ?_ | (apply R.assign; exact rfl) | refine Ev.ret ?_ | refine thenQ.normal ?_ | fail))
            refine bodyQ.retC T6 (resC_cell T6 rfl (List.getElem?_set_self (lt_of_some z5)) rfl rfl rfl rfl) ?_
            refine fin _ _ (r5 (by rw [hj]; exact h0)) _ [.int .i64 3, .str sOne, .int .i64 0, .snap false []] ?_ rfl
            rw [hj, enc_mk]; simp [nrm, nrms, encs]
        · -- one operand
          have h1 : (opsT l).length = 1 := by omega
          obtain ⟨t, ht⟩ := List.length_eq_one_iff.1 h1
          have hj : joinT (opsT l) = t := by rw [ht]; rfl
          obtain ⟨k1, s1, o1, l1⟩ := t
          have hel : encs (opsT l) = [.agg [.int .i64 k1, .str s1, .int .i64 o1, .snap false (encs l1)]] := by rw [ht]; simp only [encs, enc_mk]
          rcases of4 with ⟨rfl, e0⟩ | ⟨id, ep, mu, rfl, e4, hmu⟩
          · rw [e0] at hel; cases hel
          have hmx : mu ≠ .x := by rcases hmu with rfl | rfl <;> simp
          rw [hel] at e4
          refine R.indexM T6 (i := 0) (o := ⟨mu, ep, 4, [.agg [.int .i64 k1, .str s1, .int .i64 o1, .snap false (encs l1)]]⟩) rfl rfl rfl (getM_at e4 rfl hmx) rfl (by omega) (by rw [hel]; exact Nat.le_refl 1) ?_
          refine R.loadA T6 (cs := [.int .i64 k1, .str s1, .int .i64 o1, .snap false (encs l1)]) rfl rfl rfl ?_ (by repeat constructor) ?_
          · simp only [pcells, getM_at e4 rfl hmx]; rfl
          refine R.storeH T6 (n := 0) (o := ⟨.m, 0, 4, [.agg [.int .i64 3, .str sMul, .int .i64 0, .snap false (encs (opsT l))]]⟩) (i := 0) (e := .agg [.int .i64 3, .str sMul, .int .i64 0, .snap false (encs (opsT l))]) rfl rfl rfl (getM_at b4 rfl (by simp)) rfl rfl rfl rfl (Nat.le_refl 4) ?_
          obtain ⟨H5, hH5⟩ : ∃ x, x = H4.set H3.length ⟨.m, 0, 4, [.agg [.int .i64 k1, .str s1, .int .i64 o1, .snap false (encs l1)]]⟩ := ⟨_, rfl⟩
          have z5 : H5[0]? = some ⟨.m, 0, 4, [.agg [.int .i64 0, .str ByteArray.empty, .int .i64 0, .snap true []]]⟩ := by rw [hH5, List.getElem?_set_ne ne0]; exact z4
          have b5 : H5[H3.length]? = some ⟨.m, 0, 4, [.agg [.int .i64 k1, .str s1, .int .i64 o1, .snap false (encs l1)]]⟩ := by rw [hH5]; exact List.getElem?_set_self (lt_of_some b4)
          refine EvOps.heap hH5.symm ?_
          clear b4 hH5
          rw [hj, enc_mk] at hva
          (repeat' (first | refine EvOps.nil ?_ | (apply R.loadAH T6; exact rfl; exact rfl; exact rfl; exact (by assumption); exact (by repeat constructor)) | refine Ev.seq ?_ | refine Ev.region ?_ | refine thenQ.normal ?_ | refine blockQ.normal ?_ | fail))
          refine R.call rfl rfl (CallEv.pure rfl (by simp [isVals, isVal]) (by simpa [nrms, nrm, nrms_encs, encs] using hva) ?_)
          (repeat' (first | refine EvOps.nil ?_ | (apply R.move; exact rfl) | (apply R.assign; exact rfl) | (apply R.cmp; exact rfl; exact rfl; exact rfl; all_goals intro hc) | (apply R.build T6; exact rfl; exact rfl; exact rfl; exact rfl; exact rfl; exact rfl) | (apply R.loadAH T6; exact rfl; exact rfl; exact rfl; exact (by assumption); exact (by repeat constructor)) | refine Ev.seq ?_ | refine Ev.region ?_ | (apply Ev.condB; exact rfl) | refine Ev.skip ?_ | refine thenQ.normal ?_ | fail))
          · have hne := hc
            refine R.storeH T6 (n := 0) (o := ⟨.m, 0, 4, [.agg [.int .i64 0, .str ByteArray.empty, .int .i64 0, .snap true []]]⟩) (i := 0) (e := .agg [.int .i64 0, .str ByteArray.empty, .int .i64 0, .snap true []]) rfl rfl rfl (getM_at z5 rfl (by simp)) rfl rfl rfl rfl (Nat.le_refl 4) ?_
            (repeat' (first | refine EvOps.nil ?_ | (apply R.assign; exact rfl) | refine Ev.ret ?_ | refine thenQ.normal ?_ | refine thenQ.ret ?_ | fail))
            refine bodyQ.retC T6 (resC_cell T6 rfl (List.getElem?_set_self (lt_of_some z5)) rfl rfl rfl rfl) ?_
            exact fin _ _ ((r4 (by rw [hj]; exact hne)).trans (by rw [hj])) _ _ zz rfl
          · have h0 := Decidable.not_not.1 hc
            refine R.storeH T6 (n := 0) (o := ⟨.m, 0, 4, [.agg [.int .i64 0, .str ByteArray.empty, .int .i64 0, .snap true []]]⟩) (i := 0) (e := .agg [.int .i64 0, .str ByteArray.empty, .int .i64 0, .snap true []]) rfl rfl rfl (getM_at z5 rfl (by simp)) rfl rfl rfl rfl (Nat.le_refl 4) ?_
            (repeat' (first | refine EvOps.nil ?_ | (apply R.assign; exact rfl) | refine Ev.ret ?_ | refine thenQ.normal ?_ | fail))
            refine bodyQ.retC T6 (resC_cell T6 rfl (List.getElem?_set_self (lt_of_some z5)) rfl rfl rfl rfl) ?_
            refine fin _ _ (r5 (by rw [hj]; exact h0)) _ [.int .i64 k1, .str s1, .int .i64 o1, .snap false (encs l1)] ?_ rfl
            rw [hj, enc_mk]; simp [nrm, nrms, nrms_encs]
        · -- two or more
          have hj : joinT (opsT l) = .mk 3 sMul 0 (opsT l) := joinT_many (by omega)
          clear of4
          rw [hj, enc_mk] at hva
          refine R.call rfl rfl (CallEv.pure rfl (by simp [isVals, isVal]) (by simpa [nrms, nrm, nrms_encs, encs] using hva) ?_)
          (repeat' (first | refine EvOps.nil ?_ | (apply R.move; exact rfl) | (apply R.assign; exact rfl) | (apply R.cmp; exact rfl; exact rfl; exact rfl; all_goals intro hc) | (apply R.build T6; exact rfl; exact rfl; exact rfl; exact rfl; exact rfl; exact rfl) | (apply R.loadAH T6; exact rfl; exact rfl; exact rfl; exact (by assumption); exact (by repeat constructor)) | refine Ev.seq ?_ | refine Ev.region ?_ | (apply Ev.condB; exact rfl) | refine Ev.skip ?_ | refine thenQ.normal ?_ | fail))
          · have hne := hc
            refine R.storeH T6 (n := 0) (o := ⟨.m, 0, 4, [.agg [.int .i64 0, .str ByteArray.empty, .int .i64 0, .snap true []]]⟩) (i := 0) (e := .agg [.int .i64 0, .str ByteArray.empty, .int .i64 0, .snap true []]) rfl rfl rfl (getM_at z4 rfl (by simp)) rfl rfl rfl rfl (Nat.le_refl 4) ?_
            (repeat' (first | refine EvOps.nil ?_ | (apply R.assign; exact rfl) | refine Ev.ret ?_ | refine thenQ.normal ?_ | refine thenQ.ret ?_ | fail))
            refine bodyQ.retC T6 (resC_cell T6 rfl (List.getElem?_set_self (lt_of_some z4)) rfl rfl rfl rfl) ?_
            exact fin _ _ ((r4 (by rw [hj]; exact hne)).trans (by rw [hj])) _ _ zz rfl
          · have h0 := Decidable.not_not.1 hc
            refine R.storeH T6 (n := 0) (o := ⟨.m, 0, 4, [.agg [.int .i64 0, .str ByteArray.empty, .int .i64 0, .snap true []]]⟩) (i := 0) (e := .agg [.int .i64 0, .str ByteArray.empty, .int .i64 0, .snap true []]) rfl rfl rfl (getM_at z4 rfl (by simp)) rfl rfl rfl rfl (Nat.le_refl 4) ?_
            (repeat' (first | refine EvOps.nil ?_ | (apply R.assign; exact rfl) | refine Ev.ret ?_ | refine thenQ.normal ?_ | fail))
            refine bodyQ.retC T6 (resC_cell T6 rfl (List.getElem?_set_self (lt_of_some z4)) rfl rfl rfl rfl) ?_
            refine fin _ _ (r5 (by rw [hj]; exact h0)) _ [.int .i64 3, .str sMul, .int .i64 0, .snap false (encs (opsT l))] ?_ rfl
            rw [hj, enc_mk]; simp [nrm, nrms, nrms_encs]

end Go.Pm
end

/-
  CHAPTER 6, PART 11: the reference's Same of products. Conditions: none.
-/
section
set_option linter.unusedVariables false
set_option linter.unusedSimpArgs false
set_option linter.unusedVariables false
set_option linter.unusedSimpArgs false
set_option maxRecDepth 4000
set_option maxHeartbeats 4000000
namespace Go.Pm
open Go.Proofs
attribute [local irreducible] thenQ blockQ loopQ bodyQ Ev EvOps CallEv FnEv EvD

def sameP : List Pw → List Pw → Bool
  | [], [] => true
  | p :: a, q :: b => if p.2 ≠ q.2 then false else if cmpT p.1 q.1 = 0 then sameP a b else false
  | _, _ => false
theorem sameP_len : ∀ {a b : List Pw}, a.length ≠ b.length → sameP a b = false
  | [], [], h => absurd rfl h
  | [], _ :: _, _ => rfl
  | _ :: _, [], _ => rfl
  | p :: a, q :: b, h => by
    rw [sameP, sameP_len (a := a) (b := b) (by simpa using h)]
    simp
theorem sameP_self : ∀ a : List Pw, sameP a a = true
  | [] => rfl
  | p :: a => by rw [sameP, if_neg (by simp), if_pos (cmpT_self _), sameP_self a]
theorem sameP_eq : ∀ {a b : List Pw}, sameP a b = true → a = b
  | [], [], _ => rfl
  | [], _ :: _, h => by cases h
  | _ :: _, [], h => by cases h
  | p :: a, q :: b, h => by
    rw [sameP] at h
    split at h
    · cases h
    · rename_i h1
      split at h
      · rename_i h2
        rw [sameP_eq h, Prod.ext (cmpT_zero h2) (Decidable.not_not.1 h1)]
      · cases h

theorem same6_fun (a b : List Pw) (ha : Sm a) (hb : Sm b) : Fun C 19 [.snap false (encPs a), .snap false (encPs b)] (.bool (sameP a b)) := by
  obtain ⟨ha1, ha2⟩ := ha
  obtain ⟨hb1, hb2⟩ := hb
  refine Fun.of (FnEv.bodyL Tryz.func19 rfl ?_)
  have e1 := encPs_len a
  have e2 := encPs_len b
  (repeat' (first | refine EvOps.nil ?_ | (apply R.move; exact rfl) | (apply R.assign; exact rfl) | (apply R.cmp; exact rfl; exact rfl; exact rfl; all_goals intro hc) | (apply R.lenS T6; exact rfl; exact rfl) | refine Ev.seq ?_ | refine Ev.region ?_ | (apply Ev.condB; exact rfl) | refine Ev.ret ?_ | refine Ev.skip ?_ | refine Ev.block ?_ | refine thenQ.normal ?_ | refine thenQ.ret ?_ | (apply bodyQ.ret; exact rfl) | fail))
  · exact ⟨_, rfl, congrArg PV.bool (sameP_len (by omega)).symm⟩
  · have hll : a.length = b.length := by omega
    refine Ev.loop (I := fun k' st => ∃ (i : Nat) (ρ' : Nat → PV), st = ⟨al [(0, .snap false (encPs a)), (1, .snap false (encPs b)), (5, .int .i64 i)] ρ', []⟩ ∧ k' + i = a.length ∧ sameP a b = sameP (a.drop i) (b.drop i)) a.length ?_ ?_
    · exact ⟨0, _, St.keep ⟨rfl, rfl, rfl, trivial⟩, rfl, rfl⟩
    · rintro k' _ ⟨i, ρ', rfl, hk, hb'⟩
      (repeat' (first | refine EvOps.nil ?_ | (apply R.move; exact rfl) | (apply R.assign; exact rfl) | (apply R.cmp; exact rfl; exact rfl; exact rfl; all_goals intro hc) | (apply R.lenS T6; exact rfl; exact rfl) | refine Ev.seq ?_ | refine Ev.region ?_ | refine Ev.regionD ?_ | (apply D.move; exact rfl) | (apply Ev.condB; exact rfl) | refine Ev.ret ?_ | refine Ev.skip ?_ | refine Ev.exit ?_ | refine Ev.block ?_ | refine thenQ.normal ?_ | refine thenQ.exit ?_ | refine blockQ.hit ?_ | refine loopQ.exit ?_ | (apply bodyQ.ret; exact rfl) | fail))
      · obtain ⟨k1, s1, o1, l1, n1, hmem, hat, hd, hil, _⟩ := encPs_at hc
        obtain ⟨k2, s2, o2, l2, n2, hmem2, hat2, hd2, hil2, _⟩ := encPs_at (l := b) (i := i) (by omega)
        have hsm := rsame_fun _ _ (ha1 _ hmem) (hb1 _ hmem2)
        rw [hd, hd2, sameP] at hb'
        simp only at hb' hsm
        rw [enc_mk, enc_mk] at hsm
        refine D.indexS T6 rfl rfl rfl rfl rfl hat rfl rfl ?_
        (repeat' (first | (apply D.move; exact rfl) | (apply D.fieldAddrS T6; exact rfl; exact rfl; exact rfl; exact rfl; exact rfl) | (apply D.load1 T6; exact (by first | exact rfl | assumption); exact rfl; exact rfl; exact rfl; exact rfl; exact rfl) | fail))
        refine D.indexS T6 rfl rfl rfl rfl rfl hat2 rfl rfl ?_
        (repeat' (first | refine EvOps.nil ?_ | (apply R.assign; exact rfl) | refine Ev.seq ?_ | refine Ev.region ?_ | refine EvD.nil ?_ | (apply D.move; exact rfl) | (apply D.gOn; exact rfl; exact rfl; exact rfl; exact rfl) | (apply D.gOff; exact rfl; exact rfl; exact rfl) | (apply D.pickT; exact rfl; exact rfl) | (apply D.cmp; exact rfl; exact rfl; exact rfl; all_goals intro hc) | (apply D.fieldAddrS T6; exact rfl; exact rfl; exact rfl; exact rfl; exact rfl) | (apply D.load1 T6; exact (by first | exact rfl | assumption); exact rfl; exact rfl; exact rfl; exact rfl; exact rfl) | (apply Ev.condB; exact rfl) | refine Ev.ret ?_ | refine thenQ.normal ?_ | refine thenQ.ret ?_ | refine blockQ.ret ?_ | refine loopQ.ret ?_ | (apply bodyQ.ret; exact rfl) | fail))
        · refine ⟨_, rfl, ?_⟩
          rw [hb', if_pos (by assumption)]; rfl
        · have hne := hc
          clear hc
          rw [if_neg hne] at hb'
          refine D.indexS T6 rfl rfl rfl rfl rfl hat rfl rfl ?_
          (repeat' (first | (apply D.move; exact rfl) | (apply D.gOn; exact rfl; exact rfl; exact rfl; exact rfl) | (apply D.fieldAddrS T6; exact rfl; exact rfl; exact rfl; exact rfl; exact rfl) | (apply D.loadA T6; exact (by first | exact rfl | assumption); exact rfl; exact rfl; exact rfl; exact rfl; exact rfl; exact (by repeat constructor)) | fail))
          refine D.indexS T6 rfl rfl rfl rfl rfl hat2 rfl rfl ?_
          (repeat' (first | (apply D.gOn; exact rfl; exact rfl; exact rfl; exact rfl) | (apply D.fieldAddrS T6; exact rfl; exact rfl; exact rfl; exact rfl; exact rfl) | (apply D.loadA T6; exact (by first | exact rfl | assumption); exact rfl; exact rfl; exact rfl; exact rfl; exact rfl; exact (by repeat constructor)) | fail))
          refine D.callP rfl rfl rfl rfl (by simp [isVals, isVal]) rfl rfl (by simpa [nrms, nrm, nrms_encs] using hsm) ?_
          by_cases h0 : cmpT (.mk k1 s1 o1 l1) (.mk k2 s2 o2 l2) = 0
          · rw [decide_eq_true h0]
            rw [if_pos h0] at hb'
            (repeat' (first | refine EvOps.nil ?_ | (apply R.move; exact rfl) | (apply R.assign; exact rfl) | (apply R.arith; exact rfl; exact rfl; exact rfl; exact (wrapI (by omega) (by omega))) | refine Ev.region ?_ | refine EvD.nil ?_ | (apply D.gOn; exact rfl; exact rfl; exact rfl; exact rfl) | (apply D.pickF; exact rfl; exact rfl) | (apply D.not; exact rfl; exact rfl) | (apply Ev.condB; exact rfl) | refine Ev.skip ?_ | refine thenQ.normal ?_ | refine blockQ.normal ?_ | refine loopQ.normal ?_ | fail))
            exact ⟨k' - 1, by omega, i + 1, _, St.keep ⟨rfl, rfl, rfl, trivial⟩, by omega, hb'⟩
          · rw [decide_eq_false h0]
            rw [if_neg h0] at hb'
            (repeat' (first | refine EvOps.nil ?_ | (apply R.assign; exact rfl) | refine Ev.seq ?_ | refine Ev.region ?_ | refine EvD.nil ?_ | (apply D.gOn; exact rfl; exact rfl; exact rfl; exact rfl) | (apply D.pickF; exact rfl; exact rfl) | (apply D.not; exact rfl; exact rfl) | (apply Ev.condB; exact rfl) | refine Ev.ret ?_ | refine thenQ.normal ?_ | refine thenQ.ret ?_ | refine blockQ.ret ?_ | refine loopQ.ret ?_ | (apply bodyQ.ret; exact rfl) | fail))
            refine ⟨_, rfl, ?_⟩
            rw [hb']; rfl
      · refine ⟨_, rfl, ?_⟩
        rw [hb', encPs_end hc, List.drop_eq_nil_of_le (by omega)]; rfl

end Go.Pm
end

/-
  CHAPTER 6, PART 2: sealringref01.budget. Conditions: none.
-/
section
set_option linter.unusedVariables false
set_option linter.unusedSimpArgs false
set_option linter.unusedVariables false
set_option maxRecDepth 4000
set_option maxHeartbeats 4000000
namespace Go.Pm
open Go.Proofs
attribute [local irreducible] thenQ blockQ loopQ bodyQ Ev EvOps CallEv FnEv

mutual
def budget : Tm → Int → Int
  | .mk k s o l, m => if m ≤ 0 ∨ 40 < (s.size : Int) then -1 else budgets l (m - 1)
def budgets : List Tm → Int → Int
  | [], m => m
  | t :: l, m => if budget t m < 0 then -1 else budgets l (budget t m)
end
mutual
theorem budget_le : ∀ t m, budget t m ≤ m ∨ budget t m = -1
  | .mk k s o l, m => by
    simp only [budget]
    split
    · exact .inr rfl
    · rcases budgets_le l (m - 1) with h | h
      · left; omega
      · exact .inr h
theorem budgets_le : ∀ l m, budgets l m ≤ m ∨ budgets l m = -1
  | [], m => .inl (by simp [budgets])
  | t :: l, m => by
    simp only [budgets]
    split
    · exact .inr rfl
    · rcases budgets_le l (budget t m) with h | h
      · rcases budget_le t m with h' | h'
        · left; omega
        · omega
      · exact .inr h
end
theorem budget_ev (k s o l) (hbk : bulks l < 1000000000) (ih : ∀ t ∈ l, ∀ m : Int, m < 1000000000 → Fun C 75 [enc t, .int .i64 m] (.int .i64 (budget t m))) (m : Int) (hm : m < 1000000000) : Fun C 75 [enc (.mk k s o l), .int .i64 m] (.int .i64 (budget (.mk k s o l) m)) := by
  refine Fun.of (FnEv.bodyL Tryz.func75 rfl ?_)
  rw [enc]
  (repeat' (first | refine EvOps.nil ?_ | (apply R.gOn; exact rfl; exact rfl; exact rfl) | (apply R.gOff; exact rfl; exact rfl; exact rfl) | (apply R.move; exact rfl) | (apply R.assign; exact rfl) | (apply R.pickT; exact rfl; exact rfl) | (apply R.pickF; exact rfl; exact rfl) | (apply R.load1 T6; exact rfl; exact rfl; exact rfl; exact rfl) | (apply R.fieldAddr T6; exact rfl; exact rfl; exact rfl; exact rfl) | (apply R.cmp; exact rfl; exact rfl; exact rfl; all_goals intro hc) | (apply R.arith; exact rfl; exact rfl; exact rfl; exact (wrapI (by omega) (by omega))) | (apply R.lenStr T6; exact rfl; exact rfl) | (apply R.box; exact rfl; exact rfl; exact rfl; exact .nil) | refine Ev.seq ?_ | refine Ev.region ?_ | (apply Ev.condB; exact rfl) | refine Ev.ret ?_ | refine Ev.skip ?_ | refine Ev.block ?_ | refine thenQ.normal ?_ | refine thenQ.ret ?_ | (apply bodyQ.ret; exact rfl) | fail))
  · refine ⟨_, rfl, ?_⟩
    simp only [nrm, tupOf, budget, hc, true_or, if_true]
  · refine ⟨_, rfl, ?_⟩
    rename_i h1
    simp only [nrm, tupOf, budget, h1, hc, or_true, if_true]
  · rename_i h1
    refine Ev.loop (I := fun k' st => ∃ (i : Nat) (mm : Int) (ρ' : Nat → PV), st = ⟨al [(2, .ptr 0 0 0 0), (1, .int .i64 mm), (5, .int .i64 i)] ρ', [⟨.m, 0, 4, [.agg [.int .i64 k, .str s, .int .i64 o, .snap false (encs l)]]⟩]⟩ ∧ k' + i = l.length ∧ mm < 1000000000 ∧ budgets l (m - 1) = budgets (l.drop i) mm) l.length ?_ ?_
    · exact ⟨0, m - 1, _, St.keep ⟨rfl, rfl, rfl, trivial⟩, rfl, by omega, rfl⟩
    · rintro k' _ ⟨i, mm, ρ', rfl, hk, hmm, hb⟩
      have hlen := len_bulks l
      (repeat' (first | refine EvOps.nil ?_ | (apply R.move; exact rfl) | (apply R.assign; exact rfl) | (apply R.load1 T6; exact rfl; exact rfl; exact rfl; exact rfl) | (apply R.fieldAddr T6; exact rfl; exact rfl; exact rfl; exact rfl) | (apply R.cmp; exact rfl; exact rfl; exact rfl; all_goals intro hc) | (apply R.lenS T6; exact rfl; exact rfl) | refine Ev.seq ?_ | refine Ev.region ?_ | (apply Ev.condB; exact rfl) | refine Ev.ret ?_ | refine Ev.skip ?_ | refine Ev.exit ?_ | refine Ev.block ?_ | refine thenQ.normal ?_ | refine thenQ.exit ?_ | refine blockQ.hit ?_ | refine loopQ.exit ?_ | (apply bodyQ.ret; exact rfl) | fail))
      · have hil : i < l.length := by have := encs_len l; omega
        obtain ⟨t, ht⟩ : ∃ t, l[i]? = some t := ⟨l[i], List.getElem?_eq_getElem hil⟩
        obtain ⟨a1, a2, a3, a4, ha⟩ := enc_agg t
        refine R.indexS T6 rfl rfl rfl rfl (v := .agg [a1, a2, a3, a4]) (by rw [encs_eq, List.getElem?_map, ht, ← ha]; rfl) rfl rfl ?_
        (repeat' (first | (apply R.move; exact rfl) | (apply R.loadA T6; exact rfl; exact rfl; exact rfl; exact rfl; exact (by repeat constructor)) | fail))
        refine R.call rfl rfl ?_
        show CallEv C 2 _ [.agg [a1, a2, a3, a4], .int .i64 mm] _ _
        rw [← ha]
        refine CallEv.pure (r := .int .i64 (budget t mm)) rfl (by simp [isVals, isVal, isVal_enc]) (by simpa [nrms, nrm, nrm_enc] using ih t (List.mem_of_getElem? ht) mm hmm) ?_
        (repeat' (first | refine EvOps.nil ?_ | (apply R.move; exact rfl) | (apply R.assign; exact rfl) | (apply R.cmp; exact rfl; exact rfl; exact rfl; all_goals intro hc) | (apply R.arith; exact rfl; exact rfl; exact rfl; exact (wrapI (by omega) (by omega))) | refine Ev.seq ?_ | refine Ev.region ?_ | (apply Ev.condB; exact rfl) | refine Ev.ret ?_ | refine Ev.skip ?_ | refine thenQ.normal ?_ | refine thenQ.ret ?_ | refine blockQ.normal ?_ | refine blockQ.ret ?_ | refine loopQ.normal ?_ | refine loopQ.ret ?_ | (apply bodyQ.ret; exact rfl) | fail))
        · rename_i h2
          refine ⟨_, rfl, ?_⟩
          have hd : l.drop i = t :: l.drop (i + 1) := by rw [List.drop_eq_getElem_cons hil]; congr 1; rw [List.getElem?_eq_getElem hil] at ht; exact Option.some.inj ht
          simp only [nrm, tupOf, budget, h1, false_or]
          rw [if_neg (by assumption), hb, hd, budgets, if_pos (by assumption)]
        · have hd : l.drop i = t :: l.drop (i + 1) := by rw [List.drop_eq_getElem_cons hil]; congr 1; rw [List.getElem?_eq_getElem hil] at ht; exact Option.some.inj ht
          refine ⟨k' - 1, by omega, i + 1, budget t mm, _, St.keep ⟨rfl, rfl, rfl, trivial⟩, by omega, ?_, ?_⟩
          · have := budget_le t mm; omega
          · rw [hb, hd, budgets, if_neg (by assumption)]
      · refine ⟨_, rfl, ?_⟩
        have hi : l.drop i = [] := List.drop_eq_nil_of_le (by have := encs_len l; omega)
        simp only [nrm, tupOf, budget, h1, false_or]
        rw [if_neg (by assumption), hb, hi, budgets]

theorem budget_fun (t : Tm) (hb : bulk t < 1000000000) (m : Int) (hm : m < 1000000000) : Fun C 75 [enc t, .int .i64 m] (.int .i64 (budget t m)) := by
  induction t using Tm.ind generalizing m with
  | h k s o l ih =>
    simp only [bulk] at hb
    exact budget_ev k s o l (by omega) (fun t ht m hm => ih t ht (by have := bulk_mem ht; omega) m hm) m hm

def fewL : List Tm → Int → Bool
  | [], _ => true
  | t :: l, m => if budget t m < 0 then false else fewL l (budget t m)
def few (l : List Tm) (n m : Int) : Bool := if n < (l.length : Int) then false else fewL l m

theorem few_fun (l : List Tm) (hb : bulks l < 1000000000) (n m : Int) (hm : m < 1000000000) : Fun C 33 [.snap false (encs l), .int .i64 n, .int .i64 m] (.bool (few l n m)) := by
  refine Fun.of (FnEv.bodyL Tryz.func33 rfl ?_)
  have hlen := len_bulks l
  have hel := encs_len l
  (repeat' (first | refine EvOps.nil ?_ | (apply R.move; exact rfl) | (apply R.assign; exact rfl) | (apply R.cmp; exact rfl; exact rfl; exact rfl; all_goals intro hc) | (apply R.lenS T6; exact rfl; exact rfl) | refine Ev.seq ?_ | refine Ev.region ?_ | (apply Ev.condB; exact rfl) | refine Ev.ret ?_ | refine Ev.skip ?_ | refine Ev.block ?_ | refine thenQ.normal ?_ | refine thenQ.ret ?_ | (apply bodyQ.ret; exact rfl) | fail))
  · refine ⟨_, rfl, ?_⟩
    simp only [nrm, tupOf, few]
    rw [if_pos (by omega)]
  · refine Ev.loop (I := fun k' st => ∃ (i : Nat) (mm : Int) (ρ' : Nat → PV), st = ⟨al [(0, .snap false (encs l)), (2, .int .i64 mm), (7, .int .i64 i)] ρ', []⟩ ∧ k' + i = l.length ∧ mm < 1000000000 ∧ fewL l m = fewL (l.drop i) mm) l.length ?_ ?_
    · exact ⟨0, m, _, St.keep ⟨rfl, rfl, rfl, trivial⟩, rfl, hm, rfl⟩
    · rintro k' _ ⟨i, mm, ρ', rfl, hk, hmm, hb'⟩
      (repeat' (first | refine EvOps.nil ?_ | (apply R.move; exact rfl) | (apply R.assign; exact rfl) | (apply R.cmp; exact rfl; exact rfl; exact rfl; all_goals intro hc) | (apply R.lenS T6; exact rfl; exact rfl) | refine Ev.seq ?_ | refine Ev.region ?_ | (apply Ev.condB; exact rfl) | refine Ev.ret ?_ | refine Ev.skip ?_ | refine Ev.exit ?_ | refine Ev.block ?_ | refine thenQ.normal ?_ | refine thenQ.exit ?_ | refine blockQ.hit ?_ | refine loopQ.exit ?_ | (apply bodyQ.ret; exact rfl) | fail))
      · obtain ⟨t, a1, a2, a3, a4, hmem, ha, hat, hd, hil, _⟩ := encs_at hc
        refine R.indexS T6 rfl rfl rfl rfl (v := .agg [a1, a2, a3, a4]) hat rfl rfl ?_
        (repeat' (first | (apply R.move; exact rfl) | (apply R.loadA T6; exact rfl; exact rfl; exact rfl; exact rfl; exact (by repeat constructor)) | fail))
        refine R.call rfl rfl ?_
        show CallEv C 2 _ [.agg [a1, a2, a3, a4], .int .i64 mm] _ _
        rw [← ha]
        refine CallEv.pure (r := .int .i64 (budget t mm)) rfl (by simp [isVals, isVal, isVal_enc]) (by simpa [nrms, nrm, nrm_enc] using budget_fun t (by have := bulk_mem hmem; omega) mm hmm) ?_
        (repeat' (first | refine EvOps.nil ?_ | (apply R.move; exact rfl) | (apply R.assign; exact rfl) | (apply R.cmp; exact rfl; exact rfl; exact rfl; all_goals intro hc) | (apply R.arith; exact rfl; exact rfl; exact rfl; exact (wrapI (by omega) (by omega))) | refine Ev.seq ?_ | refine Ev.region ?_ | (apply Ev.condB; exact rfl) | refine Ev.ret ?_ | refine Ev.skip ?_ | refine thenQ.normal ?_ | refine thenQ.ret ?_ | refine blockQ.normal ?_ | refine blockQ.ret ?_ | refine loopQ.normal ?_ | refine loopQ.ret ?_ | (apply bodyQ.ret; exact rfl) | fail))
        · refine ⟨_, rfl, ?_⟩
          simp only [nrm, tupOf, few]
          rw [if_neg (by omega), hb', hd, fewL, if_pos (by assumption)]
        · refine ⟨k' - 1, by omega, i + 1, budget t mm, _, St.keep ⟨rfl, rfl, rfl, trivial⟩, by omega, ?_, ?_⟩
          · have := budget_le t mm; omega
          · rw [hb', hd, fewL, if_neg (by assumption)]
      · refine ⟨_, rfl, ?_⟩
        simp only [nrm, tupOf, few]
        rw [if_neg (by omega), hb', encs_end hc, fewL]

end Go.Pm
end

/-
  CHAPTER 6: awake: the examples, run by the kernel. Conditions: none.
-/
section
set_option linter.unusedVariables false
set_option linter.unusedSimpArgs false
set_option maxRecDepth 100000
namespace Go.Pm
open Go.Proofs
theorem awake06 : pureF C 1000 7 [] = some (.bool true) := by kernel_rfl
end Go.Pm
end

/-
  CHAPTER 6, PART 23: ExponentOf, as a pure function. Conditions: none.
-/
section
set_option linter.unusedVariables false
set_option linter.unusedSimpArgs false
set_option linter.unusedVariables false
set_option linter.unusedSimpArgs false
set_option maxRecDepth 4000
set_option maxHeartbeats 4000000
namespace Go.Pm
open Go.Proofs

/-! ### the plain law -/
theorem validGo_zero : ∀ (l : List Pw) (pr : Option Tm), Srt l → Nz l → Bd 1000 l → (∀ p ∈ l, VQ 400 40 p.1 ∧ special p.1 = false) → (∀ q, pr = some q → ∀ p ∈ l, cmpT q p.1 < 0) → validGo pr l = 0
  | [], pr, _, _, _, _, _ => validGo_nil pr
  | p :: l, pr, s, z, b, v, h => by
    obtain ⟨s1, s2⟩ := List.pairwise_cons.1 s
    obtain ⟨v1, v2⟩ := v p (by simp)
    have hb := b p (by simp)
    have hz := z p (by simp)
    rw [validGo_cons, if_neg (by rw [valid_zero.2 v1]; simp), if_neg (by rw [v2]; simp), if_neg (by omega)]
    rw [if_neg]
    · exact validGo_zero l (some p.1) s2 (fun q hq => z q (by simp [hq])) (fun q hq => b q (by simp [hq])) (fun q hq => v q (by simp [hq])) (fun q hq r hr => by cases hq; exact s1 r hr)
    · cases pr with
      | none => simp
      | some q =>
        have := h q rfl p (by simp)
        simp; omega
theorem of_prod {t : Tm} (hv : valid t = 0) (h200 : ¬ 200 < (coll [] t 1).length) : validP (coll [] t 1) = 0 := by
  have vq := valid_zero.1 hv
  obtain ⟨g1, g2, _⟩ := coll_ok t [] 1 (by simp [Srt]) (fun p hp => by cases hp) (by decide)
  have hb := coll_bd t [] 1 0 (by decide) (by decide) (by decide) (fun p hp => by cases hp)
  rw [validP, if_neg h200]
  refine validGo_zero _ none g1 g2 (fun p hp => ?_) (coll_VQ vq) (fun q hq => by cases hq)
  have := hb p hp
  have := vq.2.1
  omega
theorem term_err {l : List Pw} (hv : validP l = 0) (hn : ∀ p ∈ l, nodes p.1 = 0) : (termT l).2 = 0 ∨ (termT l).2 = 3 := by
  rw [termT, if_neg (by omega)]
  split
  · exact .inr rfl
  · split
    · exact .inr rfl
    · rename_i h8
      have := join_nodes (opsT_nodes hn) (by omega : (opsT l).length ≤ 8)
      split
      · right
        show valid (joinT (opsT l)) = 3
        rename_i hne
        unfold valid at hne ⊢
        rw [if_neg (by omega)] at hne ⊢
        split
        · rfl
        · rename_i h; rw [if_neg h] at hne; exact absurd rfl hne
      · exact .inl rfl
theorem term_back {t : Tm} (hv : valid t = 0) (h200 : ¬ 200 < (coll [] t 1).length) (h0 : (termT (coll [] t 1)).2 = 0) : ofT (termT (coll [] t 1)).1 = (coll [] t 1, 0) ∧ ¬ 8 < (opsT (coll [] t 1)).length ∧ (termT (coll [] t 1)).1 = joinT (opsT (coll [] t 1)) := by
  have vq := valid_zero.1 hv
  obtain ⟨g1, g2, _⟩ := coll_ok t [] 1 (by simp [Srt]) (fun p hp => by cases hp) (by decide)
  have hvp := of_prod hv h200
  have hq := coll_VQ vq
  have hns : NS (coll [] t 1) := fun p hp => (hq p hp).2
  generalize coll [] t 1 = l at *
  rw [termT, if_neg (by omega)] at h0 ⊢
  split at h0
  · cases h0
  · rename_i hw
    rw [if_neg hw]
    split at h0
    · cases h0
    · rename_i h8
      rw [if_neg h8]
      split at h0
      · rename_i hne
        exact absurd h0 hne
      · rename_i hne
        rw [if_neg hne]
        refine ⟨?_, h8, rfl⟩
        show ofT (joinT (opsT l)) = (l, 0)
        rw [ofT, if_neg hne, if_neg (by rw [join_arity (opsT_arity hns)]; simp), coll_back g1 g2 hns, if_neg h200]
theorem coll_bulk {t : Tm} {B : Nat} (hb : bulk t < B) : ∀ p ∈ coll [] t 1, bulk p.1 < B := by
  refine coll_all (Q := fun t => bulk t < B) (P := fun t => bulk t < B) (fun _ _ _ _ h _ => h) ?_ t [] 1 hb (fun p hp => by cases hp)
  intro k s o l h u hu
  have := bulk_mem hu
  simp only [bulk] at h; omega

attribute [local irreducible] thenQ blockQ loopQ bodyQ Ev EvOps CallEv FnEv EvD
theorem awake_fun : Fun C 7 [] (.bool true) := Fun.of_run awake06

theorem of_cases (t : Tm) : ((ofT t).1 = [] ∧ (ofT t).2 ≠ 0) ∨ (valid t = 0 ∧ ¬ 200 < (coll [] t 1).length ∧ ofT t = (coll [] t 1, 0)) := by
  unfold ofT
  split
  · exact .inl ⟨rfl, by assumption⟩
  · split
    · exact .inl ⟨rfl, by simp⟩
    · split
      · exact .inl ⟨rfl, by simp⟩
      · exact .inr ⟨by omega, by assumption, rfl⟩

/-- what the law asks of the product and its error -/
theorem law_facts (t : Tm) (hb : bulk t < 10000000) : ∃ P E, ofT t = (P, E) ∧ Sm P ∧ (E = 0 → (∀ p ∈ P, bulk p.1 < 10000000) ∧ P.length < 1000000 ∧ ((termT P).2 = 0 ∨ (termT P).2 = 3) ∧ ((termT P).2 = 0 → ofT (termT P).1 = (P, 0) ∧ bulk (termT P).1 < 100000000)) := by
  rcases of_cases t with ⟨h1, h2⟩ | ⟨h1, h2, h3⟩
  · exact ⟨[], (ofT t).2, by rw [← h1], ⟨(fun p hp => by cases hp), by simp⟩, fun h => absurd h h2⟩
  · have hbk := coll_bulk (t := t) (B := 10000000) hb
    have hlen : (coll [] t 1).length ≤ 400 := by
      have := coll_len t [] 1
      have := (valid_zero.1 h1).2.1
      simp at *; omega
    refine ⟨coll [] t 1, 0, h3, ⟨fun p hp => by have := hbk p hp; omega, by omega⟩, fun _ => ⟨hbk, by omega, ?_, fun h0 => ?_⟩⟩
    · exact term_err (of_prod h1 h2) (fun p hp => (coll_VQ (valid_zero.1 h1) p hp).1.1)
    · obtain ⟨b1, b2, b3⟩ := term_back h1 h2 h0
      exact ⟨b1, by rw [b3]; exact bulk_join hbk b2⟩

end Go.Pm
end

/-
  CHAPTER 6, PART 24: what the reading of a term says of its value. Conditions: none.
-/
section
set_option linter.unusedVariables false
set_option linter.unusedSimpArgs false
set_option linter.unusedVariables false
set_option linter.unusedSimpArgs false
set_option maxRecDepth 100000
set_option maxHeartbeats 2000000
namespace Go.Pm
open Go.Proofs

theorem co3 : C.P.cellsOf 3 = 1 := by kernel_rfl
theorem co9 : C.P.cellsOf 9 = 1 := by kernel_rfl
theorem co22 : C.P.cellsOf 51 = 1 := by kernel_rfl
theorem co24 : C.P.cellsOf 53 = 4 := by kernel_rfl
theorem un24f : ∃ fs, C.P.underlying 53 = some (.struct fs) ∧ fs.toList.map (fun f => (f.offset, f.type)) = [(0, 3), (1, 9), (2, 3), (3, 51)] := kd_st (T6.hkd 53 _ rfl)

instance : Inhabited Tm := ⟨zeroT⟩
/-- no block is forbidden -/
def NoB : Nat → Prop := fun _ => False

theorem plain_addr {w : World} {a : Addr} {v : Value} (h : w.cell? a = some v) : ∃ b off, a = ⟨b, off, none⟩ := by
  obtain ⟨b, off, sp⟩ := a
  cases sp with
  | none => exact ⟨b, off, rfl⟩
  | some s =>
    exfalso
    unfold World.cell? at h
    split at h
    · simp at h
    · cases h
theorem add0 (a : Addr) : a.add 0 = a := by obtain ⟨b, off, sp⟩ := a; simp [Addr.add]

theorem SRel.cells4 {w : World} {A : Nat → Prop} {cs : List Value} {t : Tm} (h : SRel w A (.agg cs.toArray) (enc t)) : cs.length = 4 ∧ (Pm.cells (enc t)).length = 4 ∧ ∀ j, j < 4 → SRel w A (cs.getD j undef) ((Pm.cells (enc t)).getD j .any) := by
  obtain ⟨k, s, o, l⟩ := t
  rw [enc_mk] at h ⊢
  generalize hv : (Value.agg cs.toArray) = v at h
  cases h with
  | agg vs _ hl hh =>
    have : vs = cs := by simpa using (Value.agg.inj hv).symm
    subst this
    exact ⟨hl, rfl, hh⟩

theorem bulks_fn (T : Nat → Tm) (D : Nat → Nat) (hD : ∀ i, bulk (T i) ≤ D i) : ∀ l : List Nat, bulks (l.map T) ≤ (l.map D).sum
  | [] => by simp [bulks]
  | i :: l => by have h1 := hD i; have h2 := bulks_fn T D hD l; simp only [List.map_cons, bulks, List.sum_cons]; omega

open Go.Proofs.YtejhjciockgicaaGreat in
theorem bulks_upto {H : Type} : ∀ (l : List Tm) (ds : List (DataW H)), l.length = ds.length → (∀ (i : Nat) (t : Tm) (d : DataW H), l[i]? = some t → ds[i]? = some d → bulk t ≤ Rows.uptoBulk d) → bulks l ≤ Rows.uptoBulkAll ds
  | [], _, _, _ => by simp [bulks]
  | t :: l, [], h, _ => by simp at h
  | t :: l, d :: ds, h, hb => by
    have h1 := hb 0 t d rfl rfl
    have h2 := bulks_upto l ds (by simpa using h) (fun i t' d' e1 e2 => hb (i + 1) t' d' (by simpa using e1) (by simpa using e2))
    simp only [bulks, Rows.uptoBulkAll]; omega

open Go.Proofs.YtejhjciockgicaaGreat in
theorem read_tm {H : Type} {ec : TypeId × Value → H} {w : World} {sp : Nat → Bool} {held : Bool} : ∀ (n : Nat) (cs : List Value) (x : DataW H × List MemPlace), DataW.trod ec C.P w 0 sp held n 53 cs = some x →
    ∃ t : Tm, SRel w NoB (.agg cs.toArray) (enc t) ∧ bulk t ≤ Rows.uptoBulk x.1 := by
  intro n
  induction n using Nat.strongRecOn with
  | ind n ih =>
    intro cs x h
    obtain ⟨fs, hu, hfs⟩ := un24f
    obtain ⟨xs, m, rfl, rfl, hlen, hxl, hf⟩ := DataW.trod_struct hu h
    rw [co24] at hlen
    have hsz : fs.size = 4 := by have := congrArg List.length hfs; simpa using this
    rw [hsz] at hxl
    have fld : ∀ i : Nat, ∀ a b, [(0, 3), (1, 9), (2, 3), (3, 51)][i]? = some (a, b) → ∃ f, fs[i]? = some f ∧ f.offset = a ∧ f.type = b := by
      intro i a b hi
      rw [← hfs, List.getElem?_map] at hi
      have : fs[i]? = fs.toList[i]? := by simp
      rw [this]
      cases hh : fs.toList[i]? with
      | none => rw [hh] at hi; cases hi
      | some f =>
        rw [hh] at hi
        simp only [Option.map_some, Option.some.injEq, Prod.mk.injEq] at hi
        exact ⟨f, rfl, hi.1, hi.2⟩
    match cs, hlen, xs, hxl with
    | [c0, c1, c2, c3], _, [x0, x1, x2, x3], _ =>
      obtain ⟨f0, g0, a0, b0⟩ := fld 0 0 3 rfl
      obtain ⟨f1, g1, a1, b1⟩ := fld 1 1 9 rfl
      obtain ⟨f2, g2, a2, b2⟩ := fld 2 2 3 rfl
      obtain ⟨f3, g3, a3, b3⟩ := fld 3 3 51 rfl
      have h0 := hf 0 f0 g0
      have h1 := hf 1 f1 g1
      have h2 := hf 2 f2 g2
      have h3 := hf 3 f3 g3
      rw [a0, b0, co3] at h0
      rw [a1, b1, co9] at h1
      rw [a2, b2, co3] at h2
      rw [a3, b3, co22] at h3
      simp only [List.drop_zero, List.take_succ_cons, List.take_zero, List.drop_succ_cons, List.getElem?_cons_zero, List.getElem?_cons_succ] at h0 h1 h2 h3
      obtain ⟨k, e0, e0', _⟩ := DataW.trod_int (kd_int (T6.hkd 3 _ rfl)) h0
      obtain ⟨s, e1, e1', _⟩ := DataW.trod_string (kd_str (T6.hkd 9 _ rfl)) h1
      obtain ⟨o, e2, e2', _⟩ := DataW.trod_int (kd_int (T6.hkd 3 _ rfl)) h2
      obtain rfl : c0 = .int .i64 k := by simpa using e0
      obtain rfl : c1 = .string s := by simpa using e1
      obtain rfl : c2 = .int .i64 o := by simpa using e2
      subst e0' e1' e2'
      have fin : ∀ (l : List Tm), SRel w NoB c3 (.snap false (encs l)) → bulks l + 1 ≤ Rows.uptoBulk x3.1 → ∃ t : Tm, SRel w NoB (.agg [.int .i64 k, .string s, .int .i64 o, c3].toArray) (enc t) ∧
          bulk t ≤ Rows.uptoBulk (.agg ([((.lit (.int .i64 k), []) : DataW H × List MemPlace), (.lit (.string s.data.toList), []), (.lit (.int .i64 o), []), x3].map (·.1))) := by
        intro l hl hb
        refine ⟨.mk k s o l, ?_, ?_⟩
        · rw [enc_mk]
          refine .agg _ _ rfl (fun j hj => ?_)
          match j, hj with
          | 0, _ => exact .int _ _
          | 1, _ => exact .str _
          | 2, _ => exact .int _ _
          | 3, _ => exact hl
        · have hs : s.data.toList.length = s.size := Array.length_toList
          simp only [List.map_cons, List.map_nil, Rows.uptoBulk, Rows.uptoBulkAll, bulk, hs]
          omega
      rcases DataW.trod_slice (kd_sl (T6.hkd 51 _ rfl)) h3 with ⟨e3, rfl⟩ | ⟨a, len, cap, elems, rest, n2, hn2, e3, rfl, hb, hle, hcap, hlen2, hel, _, _⟩
      · obtain rfl : c3 = .slice none 0 0 := by simpa using e3
        exact fin [] (.snapE none 0 false (fun h => by cases h)) (by simp [bulks, Rows.uptoBulk])
      · obtain rfl : c3 = .slice (some a) len cap := by simpa using e3
        rw [co24] at hel
        have each : ∀ i, i < len → ∃ q : List Value × Tm, w.cells? 0 (a.add (i * 4)) 4 = some q.1 ∧ SRel w NoB (.agg q.1.toArray) (enc q.2) ∧ ∀ y, elems[i]? = some y → bulk q.2 ≤ Rows.uptoBulk y.1 := by
          intro i hi
          have h1 := hel i hi
          obtain ⟨y, hy⟩ : ∃ y, elems[i]? = some y := ⟨elems[i], List.getElem?_eq_getElem (by omega)⟩
          rw [hy] at h1
          cases hc : w.cells? 0 (a.add (i * 4)) 4 with
          | none => rw [hc] at h1; cases h1
          | some cs' =>
            rw [hc] at h1
            obtain ⟨t, t1, t2⟩ := ih n2 (by omega) cs' y h1
            exact ⟨(cs', t), rfl, t1, fun y' hy' => by rw [hy] at hy'; obtain rfl := Option.some.inj hy'; exact t2⟩
        obtain ⟨q, hq⟩ := Deep.choose_lt each
        have hl1 : ((List.range len).map fun i => (q i).2).length = len := by simp
        have hget : ∀ i, i < len → ((List.range len).map fun i => (q i).2)[i]? = some (q i).2 := fun i hi => by rw [List.getElem?_map, List.getElem?_range hi]; rfl
        refine fin ((List.range len).map fun i => (q i).2) ?_ ?_
        · by_cases h0 : len = 0
          · subst h0
            exact .snapE (some a) cap false (fun h => by cases h)
          · have h00 := (hq 0 (by omega)).1
            obtain ⟨_, hcl, hcc⟩ := World.cells?_some h00
            have hc0 := hcc 0 (by omega)
            rw [Nat.zero_mul, add0, add0] at hc0
            obtain ⟨v0, hv0⟩ : ∃ v, (q 0).1[0]? = some v := ⟨(q 0).1[0], List.getElem?_eq_getElem (by omega)⟩
            rw [hv0] at hc0
            obtain ⟨b, off, rfl⟩ := plain_addr hc0
            have hes : (encs ((List.range len).map fun i => (q i).2)).length = len := by rw [encs_len, hl1]
            have hgd : ∀ i, i < len → (encs ((List.range len).map fun i => (q i).2)).getD i .any = enc (q i).2 := fun i hi => by
              rw [encs_eq, List.getD, List.getElem?_map, hget i hi]; rfl
            have key : SRel w NoB (.slice (some ⟨b, off, none⟩) (encs ((List.range len).map fun i => (q i).2)).length cap) (.snap false (encs ((List.range len).map fun i => (q i).2))) := by
              refine .snap b off cap 4 false _ (fun i j => (q i).1.getD j undef) (fun h => ?_) (by omega) (fun h => by cases h) (fun h => h) (by omega) (fun i hi => ?_) (fun i j hi hj => ?_) (fun i j hi hj => ?_)
              · rw [h] at hes; simp at hes; omega
              · rw [hgd i (by omega)]; exact (hq i (by omega)).2.1.cells4.2.1
              · obtain ⟨_, hcl, hcc⟩ := World.cells?_some (hq i (by omega)).1
                have := hcc j hj
                rw [addr_add, addr_add] at this
                rw [show off + (i * 4 + j) = off + i * 4 + j by omega, this, List.getElem?_eq_getElem (by omega)]
                simp [List.getD, List.getElem?_eq_getElem (show j < (q i).1.length by omega)]
              · rw [hgd i (by omega)]; exact (hq i (by omega)).2.1.cells4.2.2 j hj
            rw [hes] at key
            exact key
        · have := bulks_upto ((List.range len).map fun i => (q i).2) (elems.map (·.1)) (by simp [hlen2]) (fun i t d e1 e2 => by
            have hi : i < len := by have := lt_of_some e1; rwa [hl1] at this
            rw [hget i hi] at e1
            obtain rfl := Option.some.inj e1
            rw [List.getElem?_map] at e2
            cases hy : elems[i]? with
            | none => rw [hy] at e2; cases e2
            | some y =>
              rw [hy] at e2
              obtain rfl := Option.some.inj e2
              exact (hq i hi).2.2 y hy)
          simp only [Rows.uptoBulk]
          omega

end Go.Pm
end
