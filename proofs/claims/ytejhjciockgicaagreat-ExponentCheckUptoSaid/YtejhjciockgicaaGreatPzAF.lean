/-
  A part of the library Pm and its contracts (joined by program): PmPVal PmCat PmTm. Conditions: none.
-/
import Derived.Test.YtejhjciockgicaaGreatPzAE
/-
  CHAPTER 6, PART 19: the program's valid and app. Conditions: none.
-/
section
set_option linter.unusedVariables false
set_option linter.unusedSimpArgs false
set_option linter.unusedVariables false
set_option linter.unusedSimpArgs false
set_option maxRecDepth 4000
set_option maxHeartbeats 4000000
namespace Go.Pm
open Go.Proofs
attribute [local irreducible] thenQ blockQ loopQ bodyQ Ev EvOps CallEv FnEv EvD

def validGo : Option Tm → List Pw → Int
  | _, [] => 0
  | pr, p :: l => if valid p.1 ≠ 0 then valid p.1 else if special p.1 = true then 1 else if p.2 = 0 ∨ p.2 < -1000 ∨ 1000 < p.2 then 7 else
    if (match pr with | some q => decide (0 ≤ cmpT q p.1) | none => false) = true then 5 else validGo (some p.1) l
theorem validGo_cons (pr : Option Tm) (p : Pw) (l : List Pw) : validGo pr (p :: l) = if valid p.1 ≠ 0 then valid p.1 else if special p.1 = true then 1 else if p.2 = 0 ∨ p.2 < -1000 ∨ 1000 < p.2 then 7 else
    if (match pr with | some q => decide (0 ≤ cmpT q p.1) | none => false) = true then 5 else validGo (some p.1) l := by
  cases pr <;> rfl
theorem validGo_nil (pr : Option Tm) : validGo pr [] = 0 := by cases pr <;> rfl
def validP (l : List Pw) : Int := if 200 < l.length then 3 else validGo none l
def prv (l : List Pw) (i : Nat) : Option Tm := match i with | 0 => none | i + 1 => (l[i]?).map (·.1)

set_option maxHeartbeats 8000000 in
theorem pvalid_fun (l : List Pw) (hb : ∀ p ∈ l, bulk p.1 < 100000000) (hl : l.length < 100000000) : Fun C 34 [.snap false (encPs l)] (.int .i64 (validP l)) := by
  have hel := encPs_len l
  have r1 : 200 < l.length → validP l = 3 := fun h => by rw [validP, if_pos h]
  have r2 : ¬ 200 < l.length → validP l = validGo none l := fun h => by rw [validP, if_neg h]
  refine Fun.of (FnEv.bodyL Tryz.func34 rfl ?_)
  generalize validP l = R0 at r1 r2 ⊢
  (repeat' (first | refine EvOps.nil ?_ | (apply R.move; exact rfl) | (apply R.assign; exact rfl) | (apply R.cmp; exact rfl; exact rfl; exact rfl; all_goals intro hc) | (apply R.lenS T6; exact rfl; exact rfl) | refine Ev.seq ?_ | refine Ev.region ?_ | (apply Ev.condB; exact rfl) | refine Ev.ret ?_ | refine Ev.skip ?_ | refine Ev.block ?_ | refine thenQ.normal ?_ | refine thenQ.ret ?_ | (apply bodyQ.ret; exact rfl) | fail))
  · exact ⟨_, rfl, by rw [r1 (by omega)]; rfl⟩
  · have r2 := r2 (by omega)
    clear r1
    refine Ev.loop (I := fun k' st => ∃ (i : Nat) (J : AHeap) (ρ' : Nat → PV), st = ⟨al [(0, .snap false (encPs l)), (9, .snap false (encPs l)), (10, .int .i64 (encPs l).length), (11, .int .i64 i)] ρ', J⟩ ∧ k' + i = l.length ∧ HV J ∧ R0 = validGo (prv l i) (l.drop i)) l.length ?_ ?_
    · exact ⟨0, [], _, St.keep ⟨rfl, rfl, rfl, rfl, trivial⟩, rfl, HV.nil, r2⟩
    · clear r2
      rintro k' _ ⟨i, J, ρ', rfl, hk, hJ, hb'⟩
      (repeat' (first | refine EvOps.nil ?_ | (apply R.move; exact rfl) | (apply R.assign; exact rfl) | (apply R.cmp; exact rfl; exact rfl; exact rfl; all_goals intro hc) | refine Ev.seq ?_ | refine Ev.region ?_ | (apply Ev.condB; exact rfl) | refine Ev.ret ?_ | refine Ev.skip ?_ | refine Ev.exit ?_ | refine Ev.block ?_ | refine thenQ.normal ?_ | refine thenQ.exit ?_ | refine blockQ.hit ?_ | refine loopQ.exit ?_ | (apply bodyQ.ret; exact rfl) | fail))
      · obtain ⟨k1, s1, o1, l1, n1, hmem, hat, hd, hil, hget⟩ := encPs_at hc
        have hva := valid_fun _ (hb _ hmem)
        have hsy := symbol_fun k1 s1 o1 l1
        rw [hd, validGo_cons] at hb'
        simp only at hva hb'
        rw [enc_mk] at hva hsy
        have hJ2 := hJ.app (HV.one (ep := 0) (n := 5) (es := [.agg [.int .i64 k1, .str s1, .int .i64 o1, .snap false (encs l1), .int .i64 n1]]) rfl)
        have hcl := hJ2.closed
        clear hc
        refine R.indexS T6 rfl rfl rfl rfl hat rfl rfl ?_
        (repeat' (first | refine EvOps.nil ?_ | (apply R.assign; exact rfl) | (apply R.loadA T6; exact rfl; exact rfl; exact rfl; exact rfl; exact (by repeat constructor)) | (apply R.fieldAddr T6; exact rfl; exact rfl; exact rfl; exact rfl) | (apply R.allocN T6; exact rfl; exact rfl; exact rfl) | (apply R.storeN T6; exact rfl; exact rfl; exact rfl; exact rfl; exact rfl; exact rfl) | (apply R.loadAN T6; exact rfl; exact rfl; exact rfl; exact (by repeat constructor)) | refine Ev.seq ?_ | refine Ev.region ?_ | refine thenQ.normal ?_ | fail))
        refine R.call rfl rfl (CallEv.pure rfl (by simp [isVals, isVal]) (by simpa [nrms, nrm, nrms_encs] using hva) ?_)
        (repeat' (first | refine EvOps.nil ?_ | (apply R.move; exact rfl) | (apply R.assign; exact rfl) | (apply R.fieldAddr T6; exact rfl; exact rfl; exact rfl; exact rfl) | (apply R.cmp; exact rfl; exact rfl; exact rfl; all_goals intro hc) | (apply R.loadAN T6; exact rfl; exact rfl; exact rfl; exact (by repeat constructor)) | refine Ev.seq ?_ | refine Ev.region ?_ | (apply Ev.condB; exact rfl) | refine Ev.ret ?_ | refine Ev.skip ?_ | refine Ev.block ?_ | refine thenQ.normal ?_ | refine thenQ.ret ?_ | refine blockQ.ret ?_ | refine loopQ.ret ?_ | (apply bodyQ.ret; exact rfl) | fail))
        · rw [if_pos (by assumption)] at hb'
          exact ⟨_, rfl, by rw [hb']; rfl⟩
        · rw [if_neg (by assumption)] at hb'
          refine R.call rfl rfl (CallEv.pure rfl (by simp [isVals, isVal]) (by simpa [nrms, nrm, nrms_encs] using hsy) ?_)
          cases hsp : special (.mk k1 s1 o1 l1)
          · rw [if_neg (by rw [hsp]; simp)] at hb'
            (repeat' (first | refine EvOps.nil ?_ | (apply R.gOn; exact rfl; exact rfl; exact rfl) | (apply R.gOff; exact rfl; exact rfl; exact rfl) | (apply R.move; exact rfl) | (apply R.assign; exact rfl) | (apply R.pickT; exact rfl; exact rfl) | (apply R.pickF; exact rfl; exact rfl) | (apply R.fieldAddr T6; exact rfl; exact rfl; exact rfl; exact rfl) | (apply R.cmp; exact rfl; exact rfl; exact rfl; all_goals intro hc; all_goals (try (exfalso; omega))) | (apply R.arith; exact rfl; exact rfl; exact rfl; exact (wrapI (by omega) (by omega))) | (apply R.load1No T6; exact rfl; exact rfl; exact rfl; exact rfl) | refine Ev.seq ?_ | refine Ev.region ?_ | refine Ev.regionD ?_ | refine EvD.nil ?_ | (apply D.move; exact rfl) | (apply D.assign; exact rfl) | (apply D.gOn; exact rfl; exact rfl; exact rfl; exact rfl) | (apply D.gOff; exact rfl; exact rfl; exact rfl) | (apply D.pickF; exact rfl; exact rfl) | (apply D.cmp; exact rfl; exact rfl; exact rfl; all_goals intro hc; all_goals (try (exfalso; omega))) | (apply D.arith; exact rfl; exact rfl; exact rfl; exact (wrapI (by omega) (by omega))) | (apply Ev.condB; exact rfl) | refine Ev.ret ?_ | refine Ev.skip ?_ | refine thenQ.normal ?_ | refine thenQ.ret ?_ | refine blockQ.normal ?_ | refine blockQ.ret ?_ | refine loopQ.normal ?_ | refine loopQ.ret ?_ | (apply bodyQ.ret; exact rfl) | fail))
            all_goals try (rw [if_pos (by omega)] at hb'; exact ⟨_, rfl, by rw [hb']; rfl⟩)
            · -- a factor before it
              rw [if_neg (by omega)] at hb'
              obtain ⟨i', rfl⟩ : ∃ i', i = i' + 1 := ⟨i - 1, by omega⟩
              obtain ⟨k2, s2, o2, l2, n2, hmem2, hat2, hd2, hil2, hget2⟩ := encPs_at (l := l) (i := i') (by omega)
              have hcm := tcmp_fun _ _ (by have := hb _ hmem2; simp only at this; omega : bulk (.mk k2 s2 o2 l2) < 1000000000) (by have := hb _ hmem; simp only at this; omega : bulk (.mk k1 s1 o1 l1) < 1000000000)
              rw [enc_mk, enc_mk] at hcm
              have hpr : prv l (i' + 1) = some (.mk k2 s2 o2 l2) := by simp only [prv, hget2]; rfl
              rw [hpr] at hb'
              simp only at hb'
              refine D.indexS T6 (by assumption) rfl (congrArg (fun z => some (PV.int .i64 z)) (show ((i' + 1 : Nat) : Int) - 1 = (i' : Int) by omega)) rfl rfl hat2 rfl rfl ?_
              (repeat' (first | (apply D.gOn; exact rfl; exact rfl; exact rfl; exact rfl) | (apply D.fieldAddrS T6; exact rfl; exact rfl; exact rfl; exact rfl; exact rfl) | (apply D.fieldAddr T6; exact rfl; exact rfl; exact rfl; exact rfl) | (apply D.loadA T6; exact (by first | exact rfl | assumption); exact rfl; exact rfl; exact rfl; exact rfl; exact rfl; exact (by repeat constructor)) | (apply D.loadAN T6; exact (by first | exact rfl | assumption); exact rfl; exact rfl; exact rfl; exact (by repeat constructor)) | fail))
              refine D.callP (by assumption) rfl rfl rfl rfl rfl rfl (by simpa [nrms, nrm, nrms_encs] using hcm) ?_
              (repeat' (first | refine EvOps.nil ?_ | (apply R.move; exact rfl) | (apply R.assign; exact rfl) | (apply R.arith; exact rfl; exact rfl; exact rfl; exact (wrapI (by omega) (by omega))) | refine Ev.seq ?_ | refine Ev.region ?_ | refine EvD.nil ?_ | (apply D.assign; exact rfl) | (apply D.gOn; exact rfl; exact rfl; exact rfl; exact rfl) | (apply D.pickT; exact rfl; exact rfl) | (apply D.cmp; exact rfl; exact rfl; exact rfl; all_goals intro hc) | (apply Ev.condB; exact rfl) | refine Ev.ret ?_ | refine Ev.skip ?_ | refine thenQ.normal ?_ | refine thenQ.ret ?_ | refine blockQ.normal ?_ | refine blockQ.ret ?_ | refine loopQ.normal ?_ | refine loopQ.ret ?_ | (apply bodyQ.ret; exact rfl) | fail))
              · rw [if_pos (decide_eq_true (by assumption))] at hb'
                exact ⟨_, rfl, by rw [hb']; rfl⟩
              · rw [if_neg (by rw [decide_eq_false (by assumption)]; simp)] at hb'
                refine ⟨k' - 1, by omega, i' + 1 + 1, _, _, St.keep ⟨rfl, rfl, rfl, rfl, trivial⟩, by omega, hJ2, ?_⟩
                have : prv l (i' + 1 + 1) = some (.mk k1 s1 o1 l1) := by simp only [prv, hget]; rfl
                rw [this]; exact hb'
            · rw [if_neg (by omega)] at hb'
              obtain rfl : i = 0 := by omega
              simp only [prv, Bool.false_eq_true, if_false] at hb'
              refine ⟨k' - 1, by omega, 0 + 1, _, _, St.keep ⟨rfl, rfl, rfl, rfl, trivial⟩, by omega, hJ2, ?_⟩
              have : prv l (0 + 1) = some (.mk k1 s1 o1 l1) := by simp only [prv, hget]; rfl
              rw [this]; exact hb'
          · rw [if_pos hsp] at hb'
            (repeat' (first | refine EvOps.nil ?_ | (apply R.assign; exact rfl) | refine Ev.seq ?_ | refine Ev.region ?_ | (apply Ev.condB; exact rfl) | refine Ev.ret ?_ | refine thenQ.normal ?_ | refine thenQ.ret ?_ | refine blockQ.ret ?_ | refine loopQ.ret ?_ | (apply bodyQ.ret; exact rfl) | fail))
            exact ⟨_, rfl, by rw [hb']; rfl⟩
      · rw [encPs_end hc, validGo_nil] at hb'
        exact ⟨_, rfl, by rw [hb']; rfl⟩

theorem app_fun (s : ByteArray) (l : List Tm) : Fun C 72 [.str s, .snap false (encs l)] (enc (.mk 3 s 0 l)) := by
  refine Fun.of (FnEv.bodyL Tryz.func72 rfl ?_)
  rw [enc_mk]
  (repeat' (first | refine EvOps.nil ?_ | (apply R.move; exact rfl) | (apply R.build T6; exact rfl; exact rfl; exact rfl; exact rfl; exact rfl; exact rfl) | (apply R.alloc T6; exact rfl; exact rfl; exact rfl; exact .nil) | refine Ev.seq ?_ | refine Ev.region ?_ | refine thenQ.normal ?_ | fail))
  refine R.storeH T6 (n := 0) (o := ⟨.m, 0, 4, [.agg [.int .i64 0, .str ByteArray.empty, .int .i64 0, .snap true []]]⟩) (i := 0) (e := .agg [.int .i64 0, .str ByteArray.empty, .int .i64 0, .snap true []]) rfl rfl rfl rfl rfl rfl rfl rfl (Nat.le_refl 4) ?_
  (repeat' (first | refine EvOps.nil ?_ | refine Ev.ret ?_ | refine thenQ.normal ?_ | (apply bodyQ.retC T6; exact rfl) | fail))
  refine ⟨.agg [.int .i64 3, .str s, .int .i64 0, .snap false (encs l)], ?_, by simp [nrm, nrms, nrms_encs]⟩
  rfl

end Go.Pm
end

/-
  CHAPTER 6, PART 20: slices.Grow and slices.Concat. Conditions: none.
-/
section
set_option linter.unusedVariables false
set_option linter.unusedSimpArgs false
set_option linter.unusedVariables false
set_option linter.unusedSimpArgs false
set_option maxRecDepth 4000
set_option maxHeartbeats 4000000
namespace Go.Pm
open Go.Proofs

section
variable {C : Cfg} (T : Tab C.P)
variable {ops : Array Oper} {d : Nat} {ty : TypeId} {pos : String} {af : Array Edge} {r : List Oper} {ρ : Nat → PV} {L : List (Nat × PV)} {h : AHeap} {Q : St → Prop}

theorem Ev.unroll {c : Code} {s : St} {Q : Ex → St → Prop} (k : Ev C c s (loopQ (fun s' => Ev C (.loop c) s' Q) Q)) : Ev C (.loop c) s Q := by
  obtain ⟨ex, s', q, n0, hn⟩ := k
  cases ex with
  | normal =>
    obtain ⟨ex2, s2, q2, n1, hn1⟩ := q
    refine ⟨ex2, s2, q2, max n0 n1 + 1, fun n m h1 h2 => ?_⟩
    obtain ⟨m, rfl⟩ : ∃ i', m = i' + 1 := ⟨m - 1, by omega⟩
    have e1 := hn n (m + 1) (by omega) (by omega)
    have e2 := hn1 n m (by omega) (by omega)
    simp only [evalC] at e2 ⊢
    simp only [iter, e1]
    exact iter_mono (fun s x hh => evalC_mono (fun _ _ _ _ hh => hh) (Nat.le_succ m) c hh) (Nat.le_refl m) e2
  | exit id =>
    refine ⟨_, _, q, n0 + 1, fun n m h1 h2 => ?_⟩
    obtain ⟨m, rfl⟩ : ∃ i', m = i' + 1 := ⟨m - 1, by omega⟩
    simp only [evalC, iter, hn n (m + 1) (by omega) (by omega)]
  | ret =>
    refine ⟨_, _, q, n0 + 1, fun n m h1 h2 => ?_⟩
    obtain ⟨m, rfl⟩ : ∃ i', m = i' + 1 := ⟨m - 1, by omega⟩
    simp only [evalC, iter, hn n (m + 1) (by omega) (by omega)]

theorem R.capNil {t el : TypeId} {x : Operand} (hx : evL L x = some (.snap true [])) (hk : T.kd t = some (.sl el)) (k : EvOps C ops r ⟨al ((d, .int .i64 0) :: L) ρ, h⟩ Q) :
    EvOps C ops (⟨some d, .call ⟨.builtin .cap, #[x], #[t]⟩, ty, pos, af, none⟩ :: r) ⟨al L ρ, h⟩ Q :=
  EvOps.valL (fun run => by simp [opVal, evL_ev hx, builtinP, capP, kd_sl (T.hkd _ _ hk)]) k
theorem R.sliceNil {t el : TypeId} {x y : Operand} {k : IntKind} {sz : Nat} (hx : evL L x = some (.snap true [])) (hy : evL L y = some (.int k 0)) (hk : T.kd t = some (.sl el)) (hs : T.ts el = some sz) (kk : EvOps C ops r ⟨al ((d, .snap true []) :: L) ρ, h⟩ Q) :
    EvOps C ops (⟨some d, .slice t x none (some y) none, ty, pos, af, none⟩ :: r) ⟨al L ρ, h⟩ Q :=
  EvOps.valL (fun run => by simp [opVal, stepOp, evL_ev hx, evL_ev hy, sliceP, kd_sl (T.hkd _ _ hk), T.hts _ _ hs, boundP]) kk
theorem R.sliceM0 {t el : TypeId} {x y : Operand} {k : IntKind} {id ep len : Nat} {o : AObj} (hx : evL L x = some (.mref id ep 0 len)) (hy : evL L y = some (.int k 0)) (hk : T.kd t = some (.sl el)) (hg : getM h id ep = some o) (hs : T.ts el = some o.esz) (hle : len ≤ o.es.length) (kk : EvOps C ops r ⟨al ((d, .mref id ep 0 0) :: L) ρ, h⟩ Q) :
    EvOps C ops (⟨some d, .slice t x none (some y) none, ty, pos, af, none⟩ :: r) ⟨al L ρ, h⟩ Q :=
  EvOps.valL (fun run => by
    have h1 : ¬ ((len : Int) < 0) := by omega
    simp [opVal, stepOp, evL_ev hx, evL_ev hy, sliceP, kd_sl (T.hkd _ _ hk), T.hts _ _ hs, beyond, h1, boundP, hg, hle]) kk
theorem R.appendZ {st xt el : TypeId} {sz by' n : Nat} {z : PV} {ki : IntKind} {x y : Operand} (hx : evL L x = some (.snap true [])) (hy : evL L y = some (.int ki (n : Int))) (hk : T.kd st = some (.sl el)) (hk' : T.kd xt = some (.int ki)) (hs : T.ts el = some (sz + 1)) (hb : T.tb el = some by') (hz : T.tz el = some z) (hby : by' ≤ 1000) (hl : (cells z).length = sz + 1) (ho : (cells z).all oneC = true)
    (hn0 : 0 < n) (hn : n < 1000000000) (kk : EvOps C ops r ⟨al ((d, .mref h.length 0 0 n) :: L) ρ, h ++ [⟨.m, 0, sz + 1, List.replicate n z⟩]⟩ Q) :
    EvOps C ops (⟨some d, .call ⟨.builtin .append, #[x, y], #[st, xt]⟩, ty, pos, af, none⟩ :: r) ⟨al L ρ, h⟩ Q := by
  refine EvOps.valL (fun run => ?_) kk
  have hne : (List.replicate n z).isEmpty = false := by cases n with | zero => omega | succ n => rfl
  have hall : (List.replicate n z).all (fun v => decide ((cells v).length = sz + 1) && (cells v).all oneC) = true := by
    rw [List.all_eq_true]; intro v hv; rw [(List.mem_replicate.1 hv).2, hl, ho]; simp
  have hap : appendP C.P 2 h st xt (.snap true []) (.int ki (n : Int)) = some (.mref h.length 0 0 n, h ++ [⟨.m, 0, sz + 1, List.replicate n z⟩]) := by
    unfold appendP
    rw [kd_sl (T.hkd _ _ hk)]
    simp only [T.hts _ _ hs, T.htb _ _ hb, T.htz _ _ hz, appendee, kd_int (T.hkd _ _ hk')]
    rw [if_pos ⟨by omega, by omega⟩]
    simp only [Int.toNat_natCast]
    rw [if_pos ⟨by omega, by omega, ⟨hl, ho⟩, hall⟩]
    simp only [hne, Bool.false_eq_true, if_false, List.length_nil, Nat.zero_add, List.all_nil, List.nil_append, newObj, List.length_replicate]
    rw [if_pos ⟨trivial, by omega, roomy_of hn hby, trivial⟩]
  simp only [opVal, builtinP, List.map_cons, List.map_nil, evL_ev hx, evL_ev hy, hap]

/-- a list with room behind it, in the newest object -/
def Gr (H : AHeap) (sz : Nat) (h : AHeap) (v : PV) (es : List PV) : Prop := (v = .snap true [] ∧ es = [] ∧ h = H) ∨ ∃ ep o, v = .mref H.length ep 0 es.length ∧ h = H ++ [⟨.m, ep, sz, o⟩] ∧ o.take es.length = es ∧ es.length ≤ o.length
theorem Out.elems {sz : Nat} {h : AHeap} {v : PV} {es : List PV} (o : Out sz h v es) : elems h v = some es := by
  rcases o with ⟨rfl, rfl⟩ | ⟨id, ep, rfl, e2⟩
  · rfl
  · simp [Pm.elems, getM, e2]
/-- what is given is appended -/
theorem R.appendG {H : AHeap} {st xt el el' : TypeId} {sz by' : Nat} {z : PV} {es ys : List PV} {x y : Operand} {v u : PV} {ep : Nat} {o : List PV} (hx : evL L x = some (.mref H.length ep 0 es.length)) (hy : evL L y = some u) (hk : T.kd st = some (.sl el)) (hk' : T.kd xt = some (.sl el')) (hs : T.ts el = some (sz + 1)) (hb : T.tb el = some by') (hz : T.tz el = some z)
    (hby : by' ≤ 1000) (hl : (cells z).length = sz + 1) (ho : (cells z).all oneC = true) (hyo : esOk (sz + 1) ys) (hu : Out (sz + 1) H u ys) (hn : es.length + ys.length < 1000000000) (g1 : o.take es.length = es) (g2 : es.length ≤ o.length)
    (kk : ∀ ep' o', o'.take (es ++ ys).length = es ++ ys → (es ++ ys).length ≤ o'.length → (ys ≠ [] → o' = es ++ ys) → (ys = [] → o' = o) → EvOps C ops r ⟨al ((d, .mref H.length ep' 0 (es ++ ys).length) :: L) ρ, H ++ [⟨.m, ep', sz + 1, o'⟩]⟩ Q) :
    EvOps C ops (⟨some d, .call ⟨.builtin .append, #[x, y], #[st, xt]⟩, ty, pos, af, none⟩ :: r) ⟨al L ρ, H ++ [⟨.m, ep, sz + 1, o⟩]⟩ Q := by
  have hel := (hu.app [⟨.m, ep, sz + 1, o⟩]).elems
  have hg : getM (H ++ [(⟨.m, ep, sz + 1, o⟩ : AObj)]) H.length ep = some ⟨.m, ep, sz + 1, o⟩ := by simp [getM]
  unfold esOk at hyo
  cases hys : ys with
  | nil =>
    subst hys
    refine EvOps.valL (fun run => ?_) (kk ep o (by simpa using g1) (by simpa using g2) (fun h => absurd rfl h) (fun _ => rfl))
    have hap : appendP C.P 2 (H ++ [⟨.m, ep, sz + 1, o⟩]) st xt (.mref H.length ep 0 es.length) u = some (.mref H.length ep 0 (es ++ []).length, H ++ [⟨.m, ep, sz + 1, o⟩]) := by
      unfold appendP
      rw [kd_sl (T.hkd _ _ hk)]
      simp only [T.hts _ _ hs, T.htb _ _ hb, T.htz _ _ hz, appendee, kd_sl (T.hkd _ _ hk'), hel]
      rw [if_pos ⟨by omega, by omega, ⟨hl, ho⟩, hyo⟩]
      simp only [hg]
      rw [if_pos ⟨by omega, trivial⟩]
      simp
    simp only [opVal, builtinP, List.map_cons, List.map_nil, evL_ev hx, evL_ev hy, hap]
  | cons y0 ys0 =>
    have hne : ys.isEmpty = false := by rw [hys]; rfl
    refine EvOps.valL (fun run => ?_) (kk (ep + 1) (es ++ ys) List.take_length (Nat.le_refl _) (fun _ => rfl) (fun h => by rw [h] at hne; cases hne))
    have hap : appendP C.P 2 (H ++ [⟨.m, ep, sz + 1, o⟩]) st xt (.mref H.length ep 0 es.length) u = some (.mref H.length (ep + 1) 0 (es ++ ys).length, H ++ [⟨.m, ep + 1, sz + 1, es ++ ys⟩]) := by
      unfold appendP
      rw [kd_sl (T.hkd _ _ hk)]
      simp only [T.hts _ _ hs, T.htb _ _ hb, T.htz _ _ hz, appendee, kd_sl (T.hkd _ _ hk'), hel]
      rw [if_pos ⟨by omega, by omega, ⟨hl, ho⟩, hyo⟩]
      simp only [hg]
      rw [if_pos ⟨by omega, trivial⟩]
      simp only [hne, Bool.false_eq_true, if_false]
      have hso : sameObj H.length u = false := by
        rcases hu with ⟨rfl, _⟩ | ⟨id, ep', rfl, e2⟩
        · rfl
        · have := lt_of_some e2
          simp [sameObj]; omega
      rw [if_neg (by rw [hso]; simp), if_pos ⟨trivial, by omega, trivial, roomy_of hn hby⟩, g1]
      have : (H ++ [(⟨.m, ep, sz + 1, o⟩ : AObj)]).set H.length ⟨.m, ep + 1, sz + 1, es ++ ys⟩ = H ++ [⟨.m, ep + 1, sz + 1, es ++ ys⟩] := by
        refine (List.set_append_right H.length _ (Nat.le_refl _)).trans ?_
        simp
      rw [this, List.length_append]
    simp only [opVal, builtinP, List.map_cons, List.map_nil, evL_ev hx, evL_ev hy, hap]
/-- nothing is appended to nothing -/
theorem R.appendN {st xt el el' : TypeId} {sz by' : Nat} {z : PV} {x y : Operand} {u : PV} (hx : evL L x = some (.snap true [])) (hy : evL L y = some u) (hk : T.kd st = some (.sl el)) (hk' : T.kd xt = some (.sl el')) (hs : T.ts el = some (sz + 1)) (hb : T.tb el = some by') (hz : T.tz el = some z)
    (hby : by' ≤ 1000) (hl : (cells z).length = sz + 1) (ho : (cells z).all oneC = true) (hu : Out (sz + 1) h u []) (kk : EvOps C ops r ⟨al ((d, .snap true []) :: L) ρ, h⟩ Q) :
    EvOps C ops (⟨some d, .call ⟨.builtin .append, #[x, y], #[st, xt]⟩, ty, pos, af, none⟩ :: r) ⟨al L ρ, h⟩ Q := by
  refine EvOps.valL (fun run => ?_) kk
  have hel := hu.elems
  have hap : appendP C.P 2 h st xt (.snap true []) u = some (.snap true [], h) := by
    unfold appendP
    rw [kd_sl (T.hkd _ _ hk)]
    simp only [T.hts _ _ hs, T.htb _ _ hb, T.htz _ _ hz, appendee, kd_sl (T.hkd _ _ hk'), hel]
    rw [if_pos ⟨by omega, by omega, ⟨hl, ho⟩, rfl⟩]
    rfl
  simp only [opVal, builtinP, List.map_cons, List.map_nil, evL_ev hx, evL_ev hy, hap]
end

section
variable {C : Cfg} (T : Tab C.P)
/-- two slices, handed on as a slice of slices -/
def X2 (H : AHeap) (x v1 v2 : PV) : Prop := x = .snap true [v1, v2] ∨ ∃ id, x = .mref id 0 0 2 ∧ H[id]? = some ⟨.m, 0, 1, [v1, v2]⟩
theorem X2.app {H : AHeap} {x v1 v2 : PV} (a : X2 H x v1 v2) (J : AHeap) : X2 (H ++ J) x v1 v2 := by
  rcases a with a | ⟨id, e1, e2⟩
  · exact .inl a
  · exact .inr ⟨id, e1, by rw [List.getElem?_append_left (lt_of_some e2)]; exact e2⟩
theorem Out.cells {sz : Nat} {h : AHeap} {v : PV} {es : List PV} (o : Out sz h v es) : cells v = [v] := by
  rcases o with ⟨rfl, rfl⟩ | ⟨id, ep, rfl, e2⟩ <;> rfl
theorem R.lenX {ops : Array Oper} {d : Nat} {ty : TypeId} {pos : String} {af : Array Edge} {r : List Oper} {ρ : Nat → PV} {L : List (Nat × PV)} {h : AHeap} {Q : St → Prop} {t el : TypeId} {x : Operand} {u v1 v2 : PV}
    (hx : evL L x = some u) (hk : T.kd t = some (.sl el)) (a : X2 h u v1 v2) (k : EvOps C ops r ⟨al ((d, (.int .i64 2)) :: L) ρ, h⟩ Q) :
    EvOps C ops (⟨some d, .call ⟨.builtin .len, #[x], #[t]⟩, ty, pos, af, none⟩ :: r) ⟨al L ρ, h⟩ Q := by
  rcases a with rfl | ⟨id, rfl, e2⟩
  · exact R.lenS T (xs := []) (ts := []) hx hk k
  · exact R.lenM T (xs := []) (ts := []) (o := ⟨.m, 0, 1, [v1, v2]⟩) hx hk (getM_at e2 rfl (by simp)) (by show 0 + 2 ≤ 2; omega) k
theorem R.idxX {ops : Array Oper} {d d2 : Nat} {ty ty2 : TypeId} {pos pos2 : String} {af af2 : Array Edge} {r : List Oper} {ρ : Nat → PV} {L : List (Nat × PV)} {h : AHeap} {Q : St → Prop} {t t2 el : TypeId} {x ix : Operand} {u v1 v2 v : PV} {i : Nat} {k : IntKind}
    (hx : evL L x = some u) (hi : evL L ix = some (.int k (i : Int))) (hk : T.kd t = some (.sl el)) (hs : T.ts el = some 1) (hs2 : T.ts t2 = some 1) (ht2 : T.ta t2 = some false) (a : X2 h u v1 v2) (hv : [v1, v2][i]? = some v) (hc : cells v = [v])
    (kk : ∀ p, EvOps C ops r ⟨al ((d2, v) :: (d, p) :: L) ρ, h⟩ Q) :
    EvOps C ops (⟨some d, .indexAddr t x ix, ty, pos, af, none⟩ :: ⟨some d2, .load t2 (.tmp d), ty2, pos2, af2, none⟩ :: r) ⟨al L ρ, h⟩ Q := by
  have hlk : ∀ p, evL ((d, p) :: L) (.tmp d) = some p := fun p => by simp [evL, lk]
  rcases a with rfl | ⟨id, rfl, e2⟩
  · refine R.indexS T hx hi hk (sz := 0) hs hv hc rfl ?_
    exact R.load1 T (hlk _) hs2 ht2 (cs := []) rfl (kk _)
  · have hlt : i < 2 := by have := lt_of_some hv; simpa using this
    refine R.indexM T (o := ⟨.m, 0, 1, [v1, v2]⟩) hx hi hk (getM_at e2 rfl (by simp)) hs hlt (by show 0 + 2 ≤ 2; omega) ?_
    refine R.load1 T (hlk _) hs2 ht2 (c := v) (cs := []) ?_ (kk _)
    simp only [pcells, getM_at e2 rfl (show Mu.m ≠ .x by simp), Nat.zero_add, hv, hc, List.drop_zero]
end

attribute [local irreducible] thenQ blockQ loopQ bodyQ Ev EvOps CallEv FnEv EvD
theorem grow_ev (n : Nat) (hn : n < 1000000000) (H : AHeap) : FnEv C 104 [.snap true [], .int .i64 n] H (fun r h' => Gr H 4 h' r [] ∧ (n = 0 → r = .snap true []) ∧ (r = .snap true [] → n = 0)) := by
  refine FnEv.bodyL Tryz.func104 rfl ?_
  (repeat' (first | refine EvOps.nil ?_ | (apply R.move; exact rfl) | (apply R.assign; exact rfl) | (apply R.cmp; exact rfl; exact rfl; exact rfl; all_goals intro hc; all_goals (try (exfalso; omega))) | refine Ev.seq ?_ | refine Ev.region ?_ | (apply Ev.condB; exact rfl) | refine Ev.skip ?_ | refine thenQ.normal ?_ | fail))
  apply R.capNil T6; exact rfl; exact rfl
  (repeat' (first | (apply R.move; exact rfl) | (apply R.lenS T6; exact rfl; exact rfl) | fail))
  refine R.arith (c' := 0) rfl rfl rfl (by decide) ?_
  (repeat' (first | refine EvOps.nil ?_ | (apply R.move; exact rfl) | (apply R.assign; exact rfl) | (apply R.cmp; exact rfl; exact rfl; exact rfl; all_goals intro hc; all_goals (try (exfalso; omega))) | (apply R.arith; exact rfl; exact rfl; exact rfl; exact (wrapI (by omega) (by omega))) | refine Ev.seq ?_ | refine Ev.region ?_ | (apply Ev.condB; exact rfl) | refine Ev.ret ?_ | refine Ev.skip ?_ | refine thenQ.normal ?_ | (apply bodyQ.ret; exact rfl) | fail))
  · apply R.capNil T6; exact rfl; exact rfl
    skip
    apply R.sliceNil T6; exact rfl; exact rfl; exact rfl; exact rfl
    (repeat' (first | (apply R.move; exact rfl) | fail))
    apply R.appendZ T6 (n := n)
    · exact rfl
    · exact (congrArg (fun z => some (PV.int .i64 z)) (by simp))
    all_goals first | exact rfl | exact (by decide : (_ : Nat) ≤ 1000) | omega | skip
    (repeat' (first | (apply R.move; exact rfl) | (apply R.lenS T6; exact rfl; exact rfl) | fail))
    apply R.sliceM0 T6 (o := ⟨.m, 0, 4, List.replicate n (.agg [.int .i64 0, .str ByteArray.empty, .int .i64 0, .snap true []])⟩)
    · exact rfl
    · exact rfl
    · exact rfl
    · exact getM_new
    · exact rfl
    · simp
    (repeat' (first | refine EvOps.nil ?_ | (apply R.move; exact rfl) | (apply R.assign; exact rfl) | refine Ev.seq ?_ | refine Ev.region ?_ | refine Ev.ret ?_ | refine thenQ.normal ?_ | (apply bodyQ.ret; exact rfl) | fail))
    exact ⟨.inr ⟨0, List.replicate n (.agg [.int .i64 0, .str ByteArray.empty, .int .i64 0, .snap true []]), rfl, rfl, rfl, by simp⟩, fun h => by omega, fun h => by cases h⟩
  · exact ⟨.inl ⟨rfl, rfl, rfl⟩, fun _ => rfl, fun _ => by omega⟩

theorem encs_app (a b : List Tm) : encs (a ++ b) = encs a ++ encs b := by rw [encs_eq, encs_eq, encs_eq, List.map_append]
def CatP (H : AHeap) (l : List Tm) (r : PV) (h' : AHeap) : Prop := (l = [] ∧ r = .snap true [] ∧ h' = H) ∨ ∃ ep, r = .mref H.length ep 0 (encs l).length ∧ h' = H ++ [⟨.m, ep, 4, encs l⟩]
set_option maxHeartbeats 8000000 in
theorem concat_ev (a b : List Tm) (H : AHeap) (x v1 v2 : PV) (hx : X2 H x v1 v2) (h1 : Out 4 H v1 (encs a)) (h2 : Out 4 H v2 (encs b)) (hl : a.length + b.length < 100000000) :
    FnEv C 73 [x] H (CatP H (a ++ b)) := by
  refine FnEv.bodyL Tryz.func73 rfl ?_
  have e1 := encs_len a
  have e2 := encs_len b
  (repeat' (first | refine EvOps.nil ?_ | (apply R.move; exact rfl) | (apply R.assign; exact rfl) | refine Ev.seq ?_ | refine Ev.region ?_ | refine thenQ.normal ?_ | fail))
  apply R.lenX T6; exact rfl; exact rfl; exact hx
  (repeat' (first | refine EvOps.nil ?_ | (apply R.move; exact rfl) | refine Ev.block ?_ | refine thenQ.normal ?_ | fail))
  apply Ev.unroll
  (repeat' (first | refine EvOps.nil ?_ | (apply R.cmp; exact rfl; exact rfl; exact rfl; all_goals intro hc; all_goals (try (exfalso; omega))) | refine Ev.seq ?_ | refine Ev.region ?_ | (apply Ev.condB; exact rfl) | refine Ev.skip ?_ | refine Ev.block ?_ | refine thenQ.normal ?_ | fail))
  apply R.idxX T6 (i := 0); exact rfl; exact rfl; exact rfl; exact rfl; exact rfl; exact rfl; exact hx; exact rfl; exact h1.cells
  intro p1
  (repeat' (first | refine EvOps.nil ?_ | (apply R.move; exact rfl) | (apply R.assign; exact rfl) | refine Ev.seq ?_ | refine Ev.region ?_ | refine thenQ.normal ?_ | fail))
  apply R.lenOut T6; exact rfl; exact rfl; exact h1
  (repeat' (first | refine EvOps.nil ?_ | (apply R.move; exact rfl) | (apply R.assign; exact rfl) | (apply R.cmp; exact rfl; exact rfl; exact rfl; all_goals intro hc; all_goals (try (exfalso; omega))) | (apply R.arith; exact rfl; exact rfl; exact rfl; exact (wrapI (by omega) (by omega))) | refine Ev.seq ?_ | refine Ev.region ?_ | (apply Ev.condB; exact rfl) | refine Ev.skip ?_ | refine thenQ.normal ?_ | refine blockQ.normal ?_ | refine loopQ.normal ?_ | fail))
  apply Ev.unroll
  (repeat' (first | refine EvOps.nil ?_ | (apply R.cmp; exact rfl; exact rfl; exact rfl; all_goals intro hc; all_goals (try (exfalso; omega))) | refine Ev.seq ?_ | refine Ev.region ?_ | (apply Ev.condB; exact rfl) | refine Ev.skip ?_ | refine Ev.block ?_ | refine thenQ.normal ?_ | fail))
  apply R.idxX T6 (i := 1); exact rfl; exact rfl; exact rfl; exact rfl; exact rfl; exact rfl; exact hx; exact rfl; exact h2.cells
  intro p2
  (repeat' (first | refine EvOps.nil ?_ | (apply R.move; exact rfl) | (apply R.assign; exact rfl) | refine Ev.seq ?_ | refine Ev.region ?_ | refine thenQ.normal ?_ | fail))
  apply R.lenOut T6; exact rfl; exact rfl; exact h2
  (repeat' (first | refine EvOps.nil ?_ | (apply R.move; exact rfl) | (apply R.assign; exact rfl) | (apply R.cmp; exact rfl; exact rfl; exact rfl; all_goals intro hc; all_goals (try (exfalso; omega))) | (apply R.arith; exact rfl; exact rfl; exact rfl; exact (wrapI (by omega) (by omega))) | refine Ev.seq ?_ | refine Ev.region ?_ | (apply Ev.condB; exact rfl) | refine Ev.skip ?_ | refine thenQ.normal ?_ | refine blockQ.normal ?_ | refine loopQ.normal ?_ | fail))
  apply Ev.unroll
  (repeat' (first | refine EvOps.nil ?_ | (apply R.move; exact rfl) | (apply R.cmp; exact rfl; exact rfl; exact rfl; all_goals intro hc; all_goals (try (exfalso; omega))) | refine Ev.seq ?_ | refine Ev.region ?_ | (apply Ev.condB; exact rfl) | refine Ev.exit ?_ | refine thenQ.normal ?_ | refine thenQ.exit ?_ | refine blockQ.hit ?_ | refine loopQ.exit ?_ | fail))
  refine R.call rfl rfl (CallEv.opened rfl ?_)
  refine FnEv.heap (args' := [.snap true [], .int .i64 ((a.length + b.length : Nat) : Int)]) rfl (by simp [e1, e2]) ((grow_ev (a.length + b.length) (by omega) H).mono ?_)
  rintro r h' ⟨hg, hz, hz'⟩
  have key : (if (belowR H.length r && (h'.take H.length).all fun o => o.es.all (belowA H.length)) = true then h'.take H.length else h') = h' := by
    rcases hg with ⟨_, _, rfl⟩ | ⟨ep, o, rfl, rfl, _, _⟩
    · simp
    · rw [if_neg (by simp [belowR, belowA, below1])]
  rw [key]
  have hx' : X2 h' x v1 v2 := by
    rcases hg with ⟨_, _, rfl⟩ | ⟨ep, o, rfl, rfl, _, _⟩
    · exact hx
    · exact hx.app _
  by_cases hab : a.length + b.length = 0
  · have hr := hz hab
    subst hr
    have ha : a = [] := List.eq_nil_of_length_eq_zero (by omega)
    have hb : b = [] := List.eq_nil_of_length_eq_zero (by omega)
    subst ha; subst hb
    rcases hg with ⟨_, _, rfl⟩ | ⟨ep, o, hh, _⟩
    · (repeat' (first | refine EvOps.nil ?_ | (apply R.move; exact rfl) | (apply R.assign; exact rfl) | refine Ev.seq ?_ | refine Ev.region ?_ | refine thenQ.normal ?_ | fail))
      apply R.lenX T6; exact rfl; exact rfl; exact hx'
      (repeat' (first | refine EvOps.nil ?_ | (apply R.move; exact rfl) | refine Ev.block ?_ | refine thenQ.normal ?_ | fail))
      apply Ev.unroll
      (repeat' (first | refine EvOps.nil ?_ | (apply R.cmp; exact rfl; exact rfl; exact rfl; all_goals intro hc; all_goals (try (exfalso; omega))) | refine Ev.seq ?_ | refine Ev.region ?_ | (apply Ev.condB; exact rfl) | refine Ev.skip ?_ | refine Ev.block ?_ | refine thenQ.normal ?_ | fail))
      apply R.idxX T6 (i := 0); exact rfl; exact rfl; exact rfl; exact rfl; exact rfl; exact rfl; exact hx'; exact rfl; exact h1.cells
      intro p3
      (repeat' (first | refine EvOps.nil ?_ | (apply R.move; exact rfl) | (apply R.assign; exact rfl) | refine Ev.region ?_ | refine thenQ.normal ?_ | fail))
      refine R.appendN T6 rfl rfl rfl rfl rfl rfl rfl (by decide) rfl rfl h1 ?_
      (repeat' (first | refine EvOps.nil ?_ | (apply R.move; exact rfl) | (apply R.assign; exact rfl) | (apply R.arith; exact rfl; exact rfl; exact rfl; exact (wrapI (by omega) (by omega))) | refine Ev.region ?_ | refine thenQ.normal ?_ | refine blockQ.normal ?_ | refine loopQ.normal ?_ | fail))
      apply Ev.unroll
      (repeat' (first | refine EvOps.nil ?_ | (apply R.cmp; exact rfl; exact rfl; exact rfl; all_goals intro hc; all_goals (try (exfalso; omega))) | refine Ev.seq ?_ | refine Ev.region ?_ | (apply Ev.condB; exact rfl) | refine Ev.skip ?_ | refine Ev.block ?_ | refine thenQ.normal ?_ | fail))
      apply R.idxX T6 (i := 1); exact rfl; exact rfl; exact rfl; exact rfl; exact rfl; exact rfl; exact hx'; exact rfl; exact h2.cells
      intro p4
      (repeat' (first | refine EvOps.nil ?_ | (apply R.move; exact rfl) | (apply R.assign; exact rfl) | refine Ev.region ?_ | refine thenQ.normal ?_ | fail))
      refine R.appendN T6 rfl rfl rfl rfl rfl rfl rfl (by decide) rfl rfl h2 ?_
      (repeat' (first | refine EvOps.nil ?_ | (apply R.move; exact rfl) | (apply R.assign; exact rfl) | (apply R.arith; exact rfl; exact rfl; exact rfl; exact (wrapI (by omega) (by omega))) | refine Ev.region ?_ | refine thenQ.normal ?_ | refine blockQ.normal ?_ | refine loopQ.normal ?_ | fail))
      apply Ev.unroll
      (repeat' (first | refine EvOps.nil ?_ | (apply R.move; exact rfl) | (apply R.assign; exact rfl) | (apply R.cmp; exact rfl; exact rfl; exact rfl; all_goals intro hc; all_goals (try (exfalso; omega))) | refine Ev.seq ?_ | refine Ev.region ?_ | (apply Ev.condB; exact rfl) | refine Ev.ret ?_ | refine Ev.exit ?_ | refine thenQ.normal ?_ | refine thenQ.exit ?_ | refine blockQ.hit ?_ | refine loopQ.exit ?_ | (apply bodyQ.ret; exact rfl) | fail))
      exact .inl ⟨rfl, rfl, rfl⟩
    · cases hh
  · rcases hg with ⟨hr, _, _⟩ | ⟨ep, o, rfl, rfl, g1, g2⟩
    · exact absurd (hz' hr) hab
    · (repeat' (first | refine EvOps.nil ?_ | (apply R.move; exact rfl) | (apply R.assign; exact rfl) | refine Ev.seq ?_ | refine Ev.region ?_ | refine thenQ.normal ?_ | fail))
      apply R.lenX T6; exact rfl; exact rfl; exact hx'
      (repeat' (first | refine EvOps.nil ?_ | (apply R.move; exact rfl) | refine Ev.block ?_ | refine thenQ.normal ?_ | fail))
      apply Ev.unroll
      (repeat' (first | refine EvOps.nil ?_ | (apply R.cmp; exact rfl; exact rfl; exact rfl; all_goals intro hc; all_goals (try (exfalso; omega))) | refine Ev.seq ?_ | refine Ev.region ?_ | (apply Ev.condB; exact rfl) | refine Ev.skip ?_ | refine Ev.block ?_ | refine thenQ.normal ?_ | fail))
      apply R.idxX T6 (i := 0); exact rfl; exact rfl; exact rfl; exact rfl; exact rfl; exact rfl; exact hx'; exact rfl; exact h1.cells
      intro p3
      (repeat' (first | refine EvOps.nil ?_ | (apply R.move; exact rfl) | (apply R.assign; exact rfl) | refine Ev.region ?_ | refine thenQ.normal ?_ | fail))
      refine R.appendG T6 (es := []) (ys := encs a) (v := .nilp) rfl rfl rfl rfl rfl rfl rfl (by decide) rfl rfl (encs_ok a) h1 (by simp; omega) g1 g2 ?_
      intro ep1 o1 t1 t2 t3 t4
      (repeat' (first | refine EvOps.nil ?_ | (apply R.move; exact rfl) | (apply R.assign; exact rfl) | (apply R.arith; exact rfl; exact rfl; exact rfl; exact (wrapI (by omega) (by omega))) | refine Ev.region ?_ | refine thenQ.normal ?_ | refine blockQ.normal ?_ | refine loopQ.normal ?_ | fail))
      apply Ev.unroll
      (repeat' (first | refine EvOps.nil ?_ | (apply R.cmp; exact rfl; exact rfl; exact rfl; all_goals intro hc; all_goals (try (exfalso; omega))) | refine Ev.seq ?_ | refine Ev.region ?_ | (apply Ev.condB; exact rfl) | refine Ev.skip ?_ | refine Ev.block ?_ | refine thenQ.normal ?_ | fail))
      apply R.idxX T6 (i := 1); exact rfl; exact rfl; exact rfl; exact rfl; exact rfl; exact rfl; exact (hx.app _); exact rfl; exact h2.cells
      intro p4
      (repeat' (first | refine EvOps.nil ?_ | (apply R.move; exact rfl) | (apply R.assign; exact rfl) | refine Ev.region ?_ | refine thenQ.normal ?_ | fail))
      refine R.appendG T6 (es := encs a) (ys := encs b) (v := .nilp) rfl rfl rfl rfl rfl rfl rfl (by decide) rfl rfl (encs_ok b) h2 (by omega) t1 t2 ?_
      intro ep2 o2 u1 u2 u3 u4
      (repeat' (first | refine EvOps.nil ?_ | (apply R.move; exact rfl) | (apply R.assign; exact rfl) | (apply R.arith; exact rfl; exact rfl; exact rfl; exact (wrapI (by omega) (by omega))) | refine Ev.region ?_ | refine thenQ.normal ?_ | refine blockQ.normal ?_ | refine loopQ.normal ?_ | fail))
      apply Ev.unroll
      (repeat' (first | refine EvOps.nil ?_ | (apply R.move; exact rfl) | (apply R.assign; exact rfl) | (apply R.cmp; exact rfl; exact rfl; exact rfl; all_goals intro hc; all_goals (try (exfalso; omega))) | refine Ev.seq ?_ | refine Ev.region ?_ | (apply Ev.condB; exact rfl) | refine Ev.ret ?_ | refine Ev.exit ?_ | refine thenQ.normal ?_ | refine thenQ.exit ?_ | refine blockQ.hit ?_ | refine loopQ.exit ?_ | (apply bodyQ.ret; exact rfl) | fail))
      have ho : o2 = encs (a ++ b) := by
        rw [encs_app]
        by_cases hb : encs b = []
        · rw [u4 hb, hb, List.append_nil]
          refine t3 (fun ha => ?_)
          rw [ha] at e1; rw [hb] at e2
          simp at e1 e2
          omega
        · exact u3 hb
      refine .inr ⟨ep2, ?_, by rw [ho]⟩
      rw [encs_app]; rfl

end Go.Pm
end

/-
  CHAPTER 6, PART 21: the program's Term: rules. Conditions: none.
-/
section
set_option linter.unusedVariables false
set_option linter.unusedSimpArgs false
set_option linter.unusedVariables false
set_option linter.unusedSimpArgs false
set_option maxRecDepth 4000
set_option maxHeartbeats 4000000
namespace Go.Pm
open Go.Proofs
section
variable {C : Cfg} (T : Tab C.P)
variable {ops : Array Oper} {d : Nat} {ty : TypeId} {pos : String} {af : Array Edge} {r : List Oper} {ρ : Nat → PV} {L : List (Nat × PV)} {h : AHeap} {Q : St → Prop}

/-- append to a list, whatever else there is -/
theorem R.appendLP {st xt el el' : TypeId} {sz by' : Nat} {z : PV} {full : Bool} {es ys : List PV} {x y : Operand} {v : PV} (hx : evL L x = some v) (hy : evL L y = some (.snap full ys)) (hk : T.kd st = some (.sl el)) (hk' : T.kd xt = some (.sl el')) (hs : T.ts el = some (sz + 1)) (hb : T.tb el = some by') (hz : T.tz el = some z)
    (hby : by' ≤ 1000) (hl : (cells z).length = sz + 1) (ho : (cells z).all oneC = true) (hyo : esOk (sz + 1) ys) (hne : ys.isEmpty = false) (o : Out (sz + 1) h v es) (hn : es.length + ys.length < 1000000000)
    (hvs : isVals (es ++ ys) = true) (hH : HV h) (kk : ∀ v' h', LP h v (sz + 1) (es ++ ys) v' h' → EvOps C ops r ⟨al ((d, v') :: L) ρ, h'⟩ Q) :
    EvOps C ops (⟨some d, .call ⟨.builtin .append, #[x, y], #[st, xt]⟩, ty, pos, af, none⟩ :: r) ⟨al L ρ, h⟩ Q := by
  rcases o with ⟨rfl, rfl⟩ | ⟨id, ep, rfl, e2⟩
  · refine EvOps.valL (fun run => ?_) (kk (.mref h.length 0 0 ys.length) (h ++ [⟨.m, 0, sz + 1, ys⟩]) ⟨.inr ⟨h.length, 0, by simp, by simp⟩, hH.app (HV.one (by simpa using hvs)), by simp, fun j hj _ => List.getElem?_append_left hj, fun j ep n hh => ?_⟩)
    · have := appendP_new T (h := h) (lv := 2) (full := full) (by omega) hk hk' hs hb hz hby hl ho hyo hne (by simpa using hn)
      simp only [opVal, builtinP, List.map_cons, List.map_nil, evL_ev hx, evL_ev hy, this]
    · cases hh; exact .inr (Nat.le_refl _)
  · have hlt := lt_of_some e2
    refine EvOps.valL (fun run => ?_) (kk (.mref id (ep + 1) 0 (es.length + ys.length)) (h.set id ⟨.m, ep + 1, sz + 1, es ++ ys⟩) ⟨.inr ⟨id, ep + 1, by simp, List.getElem?_set_self hlt⟩, hH.set id (by simp) hvs, by simp, fun j hj hne => List.getElem?_set_ne (fun hh => hne ep es.length (by rw [hh])), fun j ep' n hh => ?_⟩)
    · have := appendP_m T (h := h) (full := full) (len := es.length) hk hk' hs hb hz hby hl ho hyo hne hn (getM_at e2 rfl (by simp)) rfl rfl (Nat.le_refl _)
      simp only [opVal, builtinP, List.map_cons, List.map_nil, evL_ev hx, evL_ev hy, this, List.take_length]
    · cases hh; exact .inl ⟨ep, es.length, rfl⟩
/-- two slices as a slice -/
theorem R.buildPair {t el : TypeId} {z : PV} {x y : Operand} {u v : PV} {a b : List PV} {sz : Nat} (hx : evL L x = some u) (hy : evL L y = some v) (hk : T.kd t = some (.sl el)) (hs : T.ts el = some 1) (hz : T.tz el = some z) (hl : (cells z).length = 1) (h1 : (cells z).all oneC = true)
    (ou : Out sz h u a) (ov : Out sz h v b) (kk : ∀ w h', X2 h' w u v → (h' = h ∨ h' = h ++ [⟨.m, 0, 1, [u, v]⟩]) → EvOps C ops r ⟨al ((d, w) :: L) ρ, h'⟩ Q) :
    EvOps C ops (⟨some d, .buildSlice t 2 #[(0, x), (1, y)], ty, pos, af, none⟩ :: r) ⟨al L ρ, h⟩ Q := by
  have cu := ou.cells
  have cv := ov.cells
  have ou1 : oneC u = true := by rcases ou with ⟨rfl, _⟩ | ⟨id, ep, rfl, _⟩ <;> rfl
  have ov1 : oneC v = true := by rcases ov with ⟨rfl, _⟩ | ⟨id, ep, rfl, _⟩ <;> rfl
  have hlit : litP z 2 [(0, u), (1, v)] = [u, v] := rfl
  by_cases hv : isVals [u, v] = true
  · refine EvOps.valL (v := .snap true [u, v]) (h' := h) (fun run => ?_) (kk _ h (.inl rfl) (.inl rfl))
    simp only [opVal, stepOp, List.map_cons, List.map_nil, evL_ev hx, evL_ev hy, buildSliceP, kd_sl (T.hkd _ _ hk), T.hts _ _ hs, T.htz _ _ hz, hlit, hv, if_true]
    rw [if_pos ⟨by omega, by omega, hl, h1, by simp [cu, cv, ou1, ov1]⟩]
  · refine EvOps.valL (v := .mref h.length 0 0 2) (h' := newObj h 1 [u, v]) (fun run => ?_) (kk _ _ (.inr ⟨h.length, rfl, by simp [newObj]⟩) (.inr rfl))
    simp only [opVal, stepOp, List.map_cons, List.map_nil, evL_ev hx, evL_ev hy, buildSliceP, kd_sl (T.hkd _ _ hk), T.hts _ _ hs, T.htz _ _ hz, hlit]
    rw [if_pos ⟨by omega, by omega, hl, h1, by simp [cu, cv, ou1, ov1]⟩, if_neg hv, if_pos (Nat.le_refl _)]

/-- a list that may be frozen -/
def OutF (sz : Nat) (h : AHeap) (v : PV) (es : List PV) : Prop := (v = .snap true [] ∧ es = []) ∨ ∃ id ep mu, v = .mref id ep 0 es.length ∧ h[id]? = some ⟨mu, ep, sz, es⟩ ∧ (mu = .m ∨ mu = .f)
theorem OutF.app {sz : Nat} {h : AHeap} {v : PV} {es : List PV} (o : OutF sz h v es) (J : AHeap) : OutF sz (h ++ J) v es := by
  rcases o with o | ⟨id, ep, mu, e1, e2, e3⟩
  · exact .inl o
  · exact .inr ⟨id, ep, mu, e1, by rw [List.getElem?_append_left (lt_of_some e2)]; exact e2, e3⟩
theorem R.lenOutF {t el : TypeId} {x : Operand} {v : PV} {es : List PV} {sz : Nat} (hx : evL L x = some v) (hk : T.kd t = some (.sl el)) (o : OutF sz h v es) (k : EvOps C ops r ⟨al ((d, (.int .i64 es.length)) :: L) ρ, h⟩ Q) :
    EvOps C ops (⟨some d, .call ⟨.builtin .len, #[x], #[t]⟩, ty, pos, af, none⟩ :: r) ⟨al L ρ, h⟩ Q := by
  rcases o with ⟨rfl, rfl⟩ | ⟨id, ep, mu, rfl, e2, e3⟩
  · exact R.lenS T (xs := []) (ts := []) hx hk k
  · exact R.lenM T (xs := []) (ts := []) (o := ⟨mu, ep, sz, es⟩) hx hk (getM_at e2 rfl (by rcases e3 with rfl | rfl <;> simp)) (by show 0 + es.length ≤ es.length; omega) k
/-- a pure call that is given a string and a list, and returns something with a slice in it: the list is frozen -/
theorem CallEv.outF {f : FuncId} {sz : Nat} {s : ByteArray} {v : PV} {es : List PV} {rv : PV} {Q : PV → AHeap → Prop} (hm : C.mode f = .pure) (o : Out sz h v es) (hv : isVals es = true) (a : Fun C f [.str s, .snap false (nrms es)] rv) (hs : scal rv = false)
    (q : ∀ h', OutF sz h' v es → h'.length = h.length → (∀ j, (∀ ep n, v ≠ .mref j ep 0 n) → h'[j]? = h[j]?) → Q rv h') : CallEv C 2 f [.str s, v] h Q := by
  rcases o with ⟨rfl, rfl⟩ | ⟨id, ep, rfl, e2⟩
  · exact CallEv.pure hm rfl (by simpa [nrms, nrm] using a) (q h (.inl ⟨rfl, rfl⟩) rfl (fun _ _ => rfl))
  · obtain ⟨n0, hn⟩ := a
    have hlt := lt_of_some e2
    refine ⟨rv, h.set id ⟨.f, ep, sz, es⟩, q _ (.inr ⟨id, ep, .f, rfl, List.getElem?_set_self hlt, .inr rfl⟩) (by simp) (fun j hj => List.getElem?_set_ne (fun hh => hj ep es.length (by rw [hh]))), n0, fun n h1 => ?_⟩
    obtain ⟨r0, hc, r1, e1, e3, e4⟩ := hn n h1
    have hsc : scal r1 = false := by
      have := scal_nrm' r1
      rw [e4] at this
      rw [← this]; exact hs
    have hb : rbAs h [.str s, .mref id ep 0 es.length] = some [.str s, .snap false es] := by
      simp [rbAs, rbA, rb1, isVal, getM, e2, hv]
    have hnr : nrms [PV.str s, .snap false es] = [.str s, .snap false (nrms es)] := rfl
    have hids : idsOf [PV.str s, .mref id ep 0 es.length] = [id] := rfl
    have hfz : frozenAll h [id] = false := by simp [frozenAll, e2]
    have hfr : freezes h [id] = some (h.set id ⟨.f, ep, sz, es⟩) := by simp [freezes, freeze1, e2, hv]
    unfold callF
    rw [hm]
    have hvv : isVals [PV.str s, .mref id ep 0 es.length] = false := rfl
    simp only [callPure, hvv, Bool.false_eq_true, if_false, hb, hnr, e1, e3, hids, hsc, hfz, Bool.or_self, Nat.le_refl, if_true, hfr, Option.map_some, e4]
theorem resC_cell {a b c n : Nat} {t : TypeId} {cs : List PV} {v : PV} {sz : Nat} (ha : lk L a = some (.ptr b 0 0 0)) (hb : h[b]? = some ⟨.m, 0, n, [.agg cs]⟩) (hs : T.ts t = some (sz + 1)) (ht : T.ta t = some true) (hl : cs.length = sz + 1) (hc : lk L c = some v) : resC T L h [.cell a t, .tmp c] = some [.agg cs, v] := by
  have hp : pcells h (.ptr b 0 0 0) = some cs := (pcOf hb).trans rfl
  have hld : loadT T h t (.ptr b 0 0 0) = some (.agg cs) := by
    unfold loadT
    rw [hs, ht, hp]
    have : Nat.ble (sz + 1) cs.length = true := Nat.ble_eq_true_of_le (by omega)
    simp only [this, if_true]
    rw [List.take_of_length_le (by omega)]
  simp only [resC, ha, hld, hc]
end

theorem posT_snoc (l : List Pw) (p : Pw) : posT (l ++ [p]) = posT l ++ List.replicate p.2.toNat p.1 := by simp [posT]
theorem negT_snoc (l : List Pw) (p : Pw) : negT (l ++ [p]) = negT l ++ List.replicate (-p.2).toNat (invT p.1) := by simp [negT]
theorem take_snoc {l : List Pw} {i : Nat} {p : Pw} (h : l[i]? = some p) : l.take (i + 1) = l.take i ++ [p] := by rw [List.take_add_one, h]; rfl
def zeroT : Tm := .mk 0 ByteArray.empty 0 []
def wide (l : List Pw) : Bool := l.any fun p => decide (8 < p.2 ∨ p.2 < -8)
/-- the term of a product, or its error -/
def termT (l : List Pw) : Tm × Int := if validP l ≠ 0 then (zeroT, validP l) else if wide l = true then (zeroT, 3) else if 8 < (opsT l).length then (zeroT, 3) else if valid (joinT (opsT l)) ≠ 0 then (zeroT, valid (joinT (opsT l))) else (joinT (opsT l), 0)
/-- lists apart from each other -/
def Apart (v u : PV) : Prop := ∀ j ep n ep' n', v = .mref j ep 0 n → u = .mref j ep' 0 n' → False
theorem Out.lt {sz : Nat} {h : AHeap} {v : PV} {es : List PV} (o : Out sz h v es) {j ep n : Nat} (hv : v = .mref j ep 0 n) : j < h.length := by
  rcases o with ⟨rfl, _⟩ | ⟨id, ep', rfl, e2⟩
  · cases hv
  · cases hv; exact lt_of_some e2
/-- what lies apart stays -/
theorem LP.keep {H : AHeap} {v : PV} {sz : Nat} {es : List PV} {r : PV} {h' : AHeap} (a : LP H v sz es r h') {sz2 : Nat} {u : PV} {es2 : List PV} (o : Out sz2 H u es2) (ap : Apart v u) : Out sz2 h' u es2 ∧ Apart r u := by
  refine ⟨?_, ?_⟩
  · rcases o with o | ⟨id, ep, rfl, e2⟩
    · exact .inl o
    · exact .inr ⟨id, ep, rfl, by rw [a.fr id (lt_of_some e2) (fun ep' n hh => ap id ep' n ep es2.length hh rfl)]; exact e2⟩
  · intro j ep n ep' n' h1 h2
    rcases a.ref j ep n h1 with ⟨ep2, n2, h3⟩ | h3
    · exact ap j ep2 n2 ep' n' h3 h2
    · have := o.lt h2; omega
theorem LP.obj {H : AHeap} {v : PV} {sz : Nat} {es : List PV} {r : PV} {h' : AHeap} (a : LP H v sz es r h') {b : Nat} {o : AObj} (e : H[b]? = some o) (hb : ∀ ep n, v ≠ .mref b ep 0 n) : h'[b]? = some o ∧ ∀ ep n, r ≠ .mref b ep 0 n := by
  refine ⟨by rw [a.fr b (lt_of_some e) hb]; exact e, fun ep n hh => ?_⟩
  rcases a.ref b ep n hh with ⟨ep', n', h3⟩ | h3
  · exact hb ep' n' h3
  · have := lt_of_some e; omega

end Go.Pm
end
