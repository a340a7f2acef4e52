/-
  A part of the library Pm and its contracts (joined by program): PmRVal PmPrim PmC0 PmClo PmROps PmRTerm PmRInv PmXT PmInv PmMulM PmMulW PmRMul PmChrR. Conditions: none.
-/
import Derived.Test.YtejhjciockgicaaGreatPzAF
import Derived.Test.YtejhjciockgicaaGreatPzAH
import Derived.Test.YtejhjciockgicaaGreatPzAA
import Derived.Test.YtejhjciockgicaaGreatPzAB
import Derived.Test.YtejhjciockgicaaGreatPzAE
import Derived.Laws.Cover3
/-
  CHAPTER 6, PART 26: the reference's Valid of a product, and its operands. Conditions: none.
-/
section
set_option linter.unusedVariables false
set_option linter.unusedSimpArgs false
set_option linter.unusedVariables false
set_option linter.unusedSimpArgs false
set_option maxRecDepth 4000
set_option maxHeartbeats 8000000
namespace Go.Pm
open Go.Proofs
attribute [local irreducible] thenQ blockQ loopQ bodyQ Ev EvOps CallEv FnEv EvD
theorem rpvalid_fun (l : List Pw) (hb : ∀ p ∈ l, bulk p.1 < 100000000) (hl : l.length < 100000000) : Fun C 45 [.snap false (encPs l)] (.int .i64 (validP l)) := by
  have hel := encPs_len l
  have r1 : 200 < l.length → validP l = 3 := fun h => by rw [validP, if_pos h]
  have r2 : ¬ 200 < l.length → validP l = validGo none l := fun h => by rw [validP, if_neg h]
  refine Fun.of (FnEv.bodyL Tryz.func45 rfl ?_)
  generalize validP l = R0 at r1 r2 ⊢
  (repeat' (first | refine EvOps.nil ?_ | (apply R.move; exact rfl) | (apply R.assign; exact rfl) | (apply R.cmp; exact rfl; exact rfl; exact rfl; all_goals intro hc) | (apply R.lenS T6; exact rfl; exact rfl) | refine Ev.seq ?_ | refine Ev.region ?_ | (apply Ev.condB; exact rfl) | refine Ev.ret ?_ | refine Ev.skip ?_ | refine Ev.block ?_ | refine thenQ.normal ?_ | refine thenQ.ret ?_ | (apply bodyQ.ret; exact rfl) | fail))
  · exact ⟨_, rfl, by rw [r1 (by omega)]; rfl⟩
  · have r2 := r2 (by omega)
    clear r1
    refine Ev.loop (I := fun k' st => ∃ (i : Nat) (ρ' : Nat → PV), st = ⟨al [(0, .snap false (encPs l)), (3, .int .i64 i)] ρ', []⟩ ∧ k' + i = l.length ∧ R0 = validGo (prv l i) (l.drop i)) l.length ?_ ?_
    · exact ⟨0, _, St.keep ⟨rfl, rfl, trivial⟩, rfl, r2⟩
    · clear r2
      rintro k' _ ⟨i, ρ', rfl, hk, hb'⟩
      (repeat' (first | refine EvOps.nil ?_ | (apply R.move; exact rfl) | (apply R.assign; exact rfl) | (apply R.cmp; exact rfl; exact rfl; exact rfl; all_goals intro hc) | (apply R.lenS T6; exact rfl; exact rfl) | refine Ev.seq ?_ | refine Ev.region ?_ | (apply Ev.condB; exact rfl) | refine Ev.ret ?_ | refine Ev.skip ?_ | refine Ev.exit ?_ | refine Ev.block ?_ | refine thenQ.normal ?_ | refine thenQ.exit ?_ | refine blockQ.hit ?_ | refine loopQ.exit ?_ | (apply bodyQ.ret; exact rfl) | fail))
      · obtain ⟨k1, s1, o1, l1, n1, hmem, hat, hd, hil, hget⟩ := encPs_at hc
        have hva := rvalid_fun _ (by have := hb _ hmem; simp only at this; omega : bulk (.mk k1 s1 o1 l1) < 1000000000)
        have hsy := rspecial_fun k1 s1 o1 l1
        rw [hd, validGo_cons] at hb'
        simp only at hva hb'
        rw [enc_mk] at hva hsy
        clear hc
        refine R.indexS T6 rfl rfl rfl rfl hat rfl rfl ?_
        (repeat' (first | (apply R.loadA T6; exact rfl; exact rfl; exact rfl; exact rfl; exact (by repeat constructor)) | (apply R.fieldAddrS T6; exact rfl; exact rfl; exact rfl; exact rfl; exact rfl) | fail))
        refine R.call rfl rfl (CallEv.pure rfl (by simp [isVals, isVal]) (by simpa [nrms, nrm, nrms_encs] using hva) ?_)
        (repeat' (first | refine EvOps.nil ?_ | (apply R.move; exact rfl) | (apply R.assign; exact rfl) | (apply R.cmp; exact rfl; exact rfl; exact rfl; all_goals intro hc) | refine Ev.seq ?_ | refine Ev.region ?_ | (apply Ev.condB; exact rfl) | refine Ev.ret ?_ | refine Ev.skip ?_ | refine thenQ.normal ?_ | refine thenQ.ret ?_ | refine blockQ.ret ?_ | refine loopQ.ret ?_ | (apply bodyQ.ret; exact rfl) | fail))
        · rw [if_pos (by assumption)] at hb'
          exact ⟨_, rfl, by rw [hb']; rfl⟩
        · rw [if_neg (by assumption)] at hb'
          refine R.indexS T6 rfl rfl rfl rfl hat rfl rfl ?_
          (repeat' (first | (apply R.loadA T6; exact rfl; exact rfl; exact rfl; exact rfl; exact (by repeat constructor)) | (apply R.fieldAddrS T6; exact rfl; exact rfl; exact rfl; exact rfl; exact rfl) | fail))
          refine R.call rfl rfl (CallEv.pure rfl (by simp [isVals, isVal]) (by simpa [nrms, nrm, nrms_encs] using hsy) ?_)
          cases hsp : special (.mk k1 s1 o1 l1)
          · rw [if_neg (by rw [hsp]; simp)] at hb'
            (repeat' (first | refine EvOps.nil ?_ | (apply R.move; exact rfl) | refine Ev.seq ?_ | refine Ev.region ?_ | (apply Ev.condB; exact rfl) | refine Ev.skip ?_ | refine thenQ.normal ?_ | fail))
            refine R.indexS T6 rfl rfl rfl rfl hat rfl rfl ?_
            (repeat' (first | refine EvOps.nil ?_ | (apply R.gOn; exact rfl; exact rfl; exact rfl) | (apply R.gOff; exact rfl; exact rfl; exact rfl) | (apply R.move; exact rfl) | (apply R.assign; exact rfl) | (apply R.pickT; exact rfl; exact rfl) | (apply R.load1 T6; exact rfl; exact rfl; exact rfl; exact rfl) | (apply R.fieldAddrS T6; exact rfl; exact rfl; exact rfl; exact rfl; exact rfl) | (apply R.cmp; exact rfl; exact rfl; exact rfl; all_goals intro hc; all_goals (try (exfalso; omega))) | refine Ev.seq ?_ | refine Ev.region ?_ | (apply Ev.condB; exact rfl) | refine Ev.ret ?_ | refine thenQ.normal ?_ | refine thenQ.ret ?_ | refine blockQ.ret ?_ | refine loopQ.ret ?_ | (apply bodyQ.ret; exact rfl) | fail))
            · rw [if_pos (by omega)] at hb'; exact ⟨_, rfl, by rw [hb']; rfl⟩
            refine R.indexS T6 rfl rfl rfl rfl hat rfl rfl ?_
            (repeat' (first | refine EvOps.nil ?_ | (apply R.gOn; exact rfl; exact rfl; exact rfl) | (apply R.gOff; exact rfl; exact rfl; exact rfl) | (apply R.move; exact rfl) | (apply R.assign; exact rfl) | (apply R.pickT; exact rfl; exact rfl) | (apply R.pickF; exact rfl; exact rfl) | (apply R.load1 T6; exact rfl; exact rfl; exact rfl; exact rfl) | (apply R.fieldAddrS T6; exact rfl; exact rfl; exact rfl; exact rfl; exact rfl) | (apply R.cmp; exact rfl; exact rfl; exact rfl; all_goals intro hc; all_goals (try (exfalso; omega))) | refine Ev.seq ?_ | refine Ev.region ?_ | (apply Ev.condB; exact rfl) | refine Ev.ret ?_ | refine thenQ.normal ?_ | refine thenQ.ret ?_ | refine blockQ.ret ?_ | refine loopQ.ret ?_ | (apply bodyQ.ret; exact rfl) | fail))
            · rw [if_pos (by omega)] at hb'; exact ⟨_, rfl, by rw [hb']; rfl⟩
            refine R.indexS T6 rfl rfl rfl rfl hat rfl rfl ?_
            (repeat' (first | refine EvOps.nil ?_ | (apply R.gOn; exact rfl; exact rfl; exact rfl) | (apply R.move; exact rfl) | (apply R.assign; exact rfl) | (apply R.pickF; exact rfl; exact rfl) | (apply R.load1 T6; exact rfl; exact rfl; exact rfl; exact rfl) | (apply R.fieldAddrS T6; exact rfl; exact rfl; exact rfl; exact rfl; exact rfl) | (apply R.cmp; exact rfl; exact rfl; exact rfl; all_goals intro hc; all_goals (try (exfalso; omega))) | (apply R.arith; exact rfl; exact rfl; exact rfl; exact (wrapI (by omega) (by omega))) | refine Ev.seq ?_ | refine Ev.region ?_ | refine Ev.regionD ?_ | refine EvD.nil ?_ | (apply D.move; exact rfl) | (apply D.gOn; exact rfl; exact rfl; exact rfl; exact rfl) | (apply D.gOff; exact rfl; exact rfl; exact rfl) | (apply D.pickF; exact rfl; exact rfl) | (apply D.cmp; exact rfl; exact rfl; exact rfl; all_goals intro hc; all_goals (try (exfalso; omega))) | (apply D.arith; exact rfl; exact rfl; exact rfl; exact (wrapI (by omega) (by omega))) | (apply Ev.condB; exact rfl) | refine Ev.ret ?_ | refine Ev.skip ?_ | refine thenQ.normal ?_ | refine thenQ.ret ?_ | refine blockQ.normal ?_ | refine blockQ.ret ?_ | refine loopQ.normal ?_ | refine loopQ.ret ?_ | (apply bodyQ.ret; exact rfl) | fail))
            · rw [if_pos (by omega)] at hb'; exact ⟨_, rfl, by rw [hb']; rfl⟩
            · -- a factor before it
              rw [if_neg (by omega)] at hb'
              obtain ⟨i', rfl⟩ : ∃ i', i = i' + 1 := ⟨i - 1, by omega⟩
              obtain ⟨k2, s2, o2, l2, n2, hmem2, hat2, hd2, hil2, hget2⟩ := encPs_at (l := l) (i := i') (by omega)
              have hcm := rcmp_fun _ _ (by have := hb _ hmem2; simp only at this; omega : bulk (.mk k2 s2 o2 l2) < 1000000000) (by have := hb _ hmem; simp only at this; omega : bulk (.mk k1 s1 o1 l1) < 1000000000)
              rw [enc_mk, enc_mk] at hcm
              have hpr : prv l (i' + 1) = some (.mk k2 s2 o2 l2) := by simp only [prv, hget2]; rfl
              rw [hpr] at hb'
              simp only at hb'
              refine D.indexS T6 rfl rfl (congrArg (fun z => some (PV.int .i64 z)) (show ((i' + 1 : Nat) : Int) - 1 = (i' : Int) by omega)) rfl rfl hat2 rfl rfl ?_
              (repeat' (first | (apply D.move; exact rfl) | (apply D.gOn; exact rfl; exact rfl; exact rfl; exact rfl) | (apply D.fieldAddrS T6; exact rfl; exact rfl; exact rfl; exact rfl; exact rfl) | (apply D.loadA T6; exact (by first | exact rfl | assumption); exact rfl; exact rfl; exact rfl; exact rfl; exact rfl; exact (by repeat constructor)) | fail))
              refine D.indexS T6 rfl rfl rfl rfl rfl hat rfl rfl ?_
              (repeat' (first | (apply D.gOn; exact rfl; exact rfl; exact rfl; exact rfl) | (apply D.fieldAddrS T6; exact rfl; exact rfl; exact rfl; exact rfl; exact rfl) | (apply D.loadA T6; exact (by first | exact rfl | assumption); exact rfl; exact rfl; exact rfl; exact rfl; exact rfl; exact (by repeat constructor)) | fail))
              refine D.callP rfl rfl rfl rfl rfl rfl rfl (by simpa [nrms, nrm, nrms_encs] using hcm) ?_
              (repeat' (first | refine EvOps.nil ?_ | (apply R.move; exact rfl) | (apply R.assign; exact rfl) | (apply R.arith; exact rfl; exact rfl; exact rfl; exact (wrapI (by omega) (by omega))) | refine Ev.seq ?_ | refine Ev.region ?_ | refine EvD.nil ?_ | (apply D.gOn; exact rfl; exact rfl; exact rfl; exact rfl) | (apply D.pickT; exact rfl; exact rfl) | (apply D.cmp; exact rfl; exact rfl; exact rfl; all_goals intro hc) | (apply Ev.condB; exact rfl) | refine Ev.ret ?_ | refine Ev.skip ?_ | refine thenQ.normal ?_ | refine thenQ.ret ?_ | refine blockQ.normal ?_ | refine blockQ.ret ?_ | refine loopQ.normal ?_ | refine loopQ.ret ?_ | (apply bodyQ.ret; exact rfl) | fail))
              · rw [if_pos (decide_eq_true (by assumption))] at hb'
                exact ⟨_, rfl, by rw [hb']; rfl⟩
              · rw [if_neg (by rw [decide_eq_false (by assumption)]; simp)] at hb'
                refine ⟨k' - 1, by omega, i' + 1 + 1, _, St.keep ⟨rfl, rfl, trivial⟩, by omega, ?_⟩
                have : prv l (i' + 1 + 1) = some (.mk k1 s1 o1 l1) := by simp only [prv, hget]; rfl
                rw [this]; exact hb'
            · rw [if_neg (by omega)] at hb'
              obtain rfl : i = 0 := by omega
              simp only [prv, Bool.false_eq_true, if_false] at hb'
              refine ⟨k' - 1, by omega, 0 + 1, _, St.keep ⟨rfl, rfl, trivial⟩, by omega, ?_⟩
              have : prv l (0 + 1) = some (.mk k1 s1 o1 l1) := by simp only [prv, hget]; rfl
              rw [this]; exact hb'
          · rw [if_pos hsp] at hb'
            (repeat' (first | refine EvOps.nil ?_ | (apply R.assign; exact rfl) | refine Ev.seq ?_ | refine Ev.region ?_ | (apply Ev.condB; exact rfl) | refine Ev.ret ?_ | refine thenQ.normal ?_ | refine thenQ.ret ?_ | refine blockQ.ret ?_ | refine loopQ.ret ?_ | (apply bodyQ.ret; exact rfl) | fail))
            exact ⟨_, rfl, by rw [hb']; rfl⟩
      · rw [encPs_end hc, validGo_nil] at hb'
        exact ⟨_, rfl, by rw [hb']; rfl⟩
end Go.Pm
end

/-
  PM, PART 27: A REGION WITH ONE OPERATION THAT THE EVALUATOR DOES NOT COVER; functions walked so. Conditions: none.
-/
section
set_option linter.unusedVariables false
set_option linter.unusedSimpArgs false
set_option linter.unusedVariables false
namespace Go.Pm
variable {w : World} {F : Nat → Prop} {β : List (Nat × Nat)} {h : AHeap}

theorem evalOps_wp2 {C : Cfg} (K : CfgOk C) {run : Run} (S : RunsOk C run) {N : Nat} {ops : Array Oper} {Q : Exit → Act → World → Prop} (hd : ops.toList.all (dstOk N) = true) (rest : List Nat) (l2 : List Oper) :
    ∀ (l : List Oper) (k : Nat) {w : World} {β : List (Nat × Nat)} {s s' : St} {a : Act}, ops.toList.drop k = l ++ l2 → SR N w F β s a → evalOps C run ops l s = some s' →
      (∀ a' w' β', SR N w' F β' s' a' → Stp w s.h β w' s'.h β' → wpOps C.P ops Q rest a' w') → wpOps C.P ops Q (List.map (· + k) (List.range l.length) ++ rest) a w := by
  intro l
  induction l with
  | nil =>
    intro k w β s s' a hl R e hQ
    simp [evalOps] at e
    subst e
    simpa using hQ a w β R (Stp.refl w s.h β)
  | cons o r ih =>
    intro k w β s s' a hl R e hQ
    simp only [evalOps] at e
    have hk : ops[k]? = some o := by
      rw [← Array.getElem?_toList]
      have : (ops.toList.drop k)[0]? = some o := by rw [hl]; rfl
      rwa [List.getElem?_drop] at this
    have hr : ops.toList.drop (k + 1) = r ++ l2 := by
      have := congrArg (List.drop 1) hl
      rw [List.drop_drop] at this
      simpa using this
    have hrange : List.map (· + k) (List.range (o :: r).length) ++ rest = k :: (List.map (· + (k + 1)) (List.range r.length) ++ rest) := by
      rw [List.length_cons, List.range_succ_eq_map]
      simp only [List.map_cons, Nat.zero_add, List.map_map, List.cons_append]
      congr 2
      apply List.map_congr_left
      intro x _
      simp; omega
    rw [hrange]
    simp only [wpOps, hk]
    split at e
    · rename_i s1 he
      have hdo : dstOk N o = true := List.all_eq_true.1 hd o (by
        have : o ∈ ops.toList.drop k := by rw [hl]; simp
        exact List.mem_of_mem_drop this)
      have := opStep_wp K S R hdo he (Q := Q) (next := wpOps C.P ops Q (List.map (· + (k + 1)) (List.range r.length) ++ rest)) (fun a' w' β' R' S' => ih (k + 1) hr R' e (fun a2 w2 β2 R2 S2 => hQ a2 w2 β2 R2 (S'.trans S2)))
      split
      · rename_i hw; rw [if_pos hw] at this; exact .inl this
      · rename_i hw; rw [if_neg hw] at this; exact this
    · cases e

/-- one operation whose run is known -/
theorem special_step {P : Program} {N : Nat} {ops : Array Oper} {Q : Exit → Act → World → Prop} {rest : List Nat} {k : Nat} {o : Oper} {s : St} {a : Act} {p : PV} {h' : AHeap} (hk : ops[k]? = some o) (hg : o.guard = none) (hd : dstOk N o = true) (R : SR N w F β s a)
    (S : OSim P 2 w F β s.h (execOp a.eval o) p h') (hK : ∀ a' w' β', SR N w' F β' ⟨updO s.ρ o.dst p, h'⟩ a' → Stp w s.h β w' h' β' → wpOps P ops Q rest a' w') : wpOps P ops Q (k :: rest) a w := by
  simp only [wpOps, hk]
  have hw : Region.wanted o (yielded ops a.tmps) = true := by simp [Region.wanted, hg]
  rw [if_pos hw]
  left
  have hdl := dstOk_lt hd R.sz
  obtain ⟨v, w', β', h1, h2, h3, h4, _⟩ := S
  have fin : ∀ u, u = v → wpOps P ops Q rest (a.put o.dst u) w' := by
    rintro u rfl
    exact hK _ w' β' ⟨h3, (R.er.mono h4).put hdl h2, by rw [put_defers']; exact R.df, by rw [put_size]; exact R.sz⟩ h4
  unfold Oper.wp
  rcases h1 with h1 | ⟨h1, rfl⟩
  · rw [h1]; exact fin _ rfl
  · rw [h1]; exact fin _ rfl

/-- a region with one special operation -/
theorem region_special {C : Cfg} (K : CfgOk C) (hrun : ∀ n, RunsOk C (runF C n)) {N : Nat} {ops : Array Oper} {id : Nat} {Q : Exit → Act → World → Prop} (hd : ops.toList.all (dstOk N) = true) {pre post : List Oper} {o : Oper} (ho : ops.toList = pre ++ o :: post) (hg : o.guard = none)
    {s : St} {a : Act} (R : SR N w F β s a) {M M2 : St → Prop} (e1 : EvOps C ops pre s M)
    (hs : ∀ s1 a1 w1 β1, M s1 → SR N w1 F β1 s1 a1 → Stp w s.h β w1 s1.h β1 → ∃ p h', OSim C.P 2 w1 F β1 s1.h (execOp a1.eval o) p h' ∧ EvOps C ops post ⟨updO s1.ρ o.dst p, h'⟩ M2)
    (hQ : ∀ s3 a3 w3 β3, M2 s3 → SR N w3 F β3 s3 a3 → Stp w s.h β w3 s3.h β3 → Q .normal a3 w3) : (Code.region id ops false).wp C.P Q a w := by
  refine wp_region ?_
  obtain ⟨s1, m1, n0, hn0⟩ := e1
  have hsize : ops.size = pre.length + (post.length + 1) := by
    have := congrArg List.length ho
    simpa using this
  have hrange : List.range ops.size = List.map (· + 0) (List.range pre.length) ++ (pre.length :: (List.map (· + (pre.length + 1)) (List.range post.length) ++ [])) := by
    rw [hsize, List.range_add]
    simp only [Nat.add_zero, List.map_id', List.append_nil]
    congr 1
    rw [List.range_succ_eq_map]
    simp only [List.map_cons, Nat.add_zero, List.map_map]
    congr 1
    apply List.map_congr_left
    intro x _
    simp; omega
  rw [hrange]
  have hdo : dstOk N o = true := List.all_eq_true.1 hd o (by rw [ho]; simp)
  have hk : ops[pre.length]? = some o := by
    rw [← Array.getElem?_toList, ho, List.getElem?_append_right (Nat.le_refl _)]
    simp
  refine evalOps_wp2 K (hrun n0) hd _ (o :: post) pre 0 (by simpa using ho) R (hn0 n0 (Nat.le_refl _)) (fun a1 w1 β1 R1 S1 => ?_)
  obtain ⟨p, h', os, e2⟩ := hs s1 a1 w1 β1 m1 R1 S1
  obtain ⟨s3, m3, n1, hn1⟩ := e2
  refine special_step hk hg hdo R1 os (fun a2 w2 β2 R2 S2 => ?_)
  refine evalOps_wp2 K (hrun n1) hd [] [] post (pre.length + 1) ?_ R2 (hn1 n1 (Nat.le_refl _)) (fun a3 w3 β3 R3 S3 => ?_)
  · have : ops.toList.drop (pre.length + 1) = post := by
      rw [ho, List.drop_append]
      simp
    simpa using this
  · simp only [wpOps]
    exact hQ s3 a3 w3 β3 m3 R3 (S1.trans (S2.trans S3))

/-- code that the evaluator covers -/
theorem ev_wp {C : Cfg} (K : CfgOk C) (hm : C.P.follows .mixedOrders = true) (hrun : ∀ n, RunsOk C (runF C n)) {N : Nat} {c : Code} {s : St} {a : Act} {M : Ex → St → Prop} {Q : Exit → Act → World → Prop} (hc : codeOk N c = true) (e : Ev C c s M) (R : SR N w F β s a)
    (hQ : ∀ ex s' a' w' β', M ex s' → SR N w' F β' s' a' → Stp w s.h β w' s'.h β' → Q (exOf ex) a' w') : c.wp C.P Q a w := by
  obtain ⟨ex, s', m, n0, hn⟩ := e
  exact evalC_wp K hm (hrun n0) c hc (hn n0 n0 (Nat.le_refl _) (Nat.le_refl _)) R (fun a' w' β' R' S' => hQ ex s' a' w' β' m R' S')

/-- a function's call, walked -/
theorem csim_wp {P : Program} {f : FuncId} {fn : Func} {c : Code} {args : List PV} {vs : List Value} {r : PV} {h' : AHeap} (hfn : P.funcs[f]? = some fn) (hc : fn.body = some c) (H : HRel w F β h) (ha : L2 (VRel w (Av F h β) β h) vs args)
    (hw : ∀ a, SR fn.ntmps w F β ⟨envOf args, h⟩ a → c.wp P (fun ex a' w' => (ex = .normal ∨ ex = .ret) ∧ ∃ s' β', SR fn.ntmps w' F β' s' a' ∧ Stp w h β w' s'.h β' ∧ ∃ rs, resultOf P s'.h s'.ρ fn.results.toList = some rs ∧
        ∀ u, VRel w' (Av F s'.h β') β' s'.h u (tupOf rs) → ∃ β2, VRel w' (Av F h' β2) β2 h' u r ∧ HRel w' F β2 h' ∧ Stp w h β w' h' β2) a w) : CSim P 2 w F β h f vs r h' := by
  refine calls_of_wp hfn hc ?_
  have hlen := ha.1
  have R : SR fn.ntmps w F β ⟨envOf args, h⟩ { tmps := vs.toArray ++ Array.replicate (fn.ntmps - vs.toArray.size) undef, defers := [] } := by
    refine ⟨H, fun t => ?_, rfl, by simp; omega⟩
    show VRel w (Av F h β) β h ((vs.toArray ++ Array.replicate (fn.ntmps - vs.toArray.size) undef).getD t Go.undef) (args.getD t .undef)
    by_cases ht : t < args.length
    · have e1 : (vs.toArray ++ Array.replicate (fn.ntmps - vs.toArray.size) undef).getD t Go.undef = vs.getD t Go.undef := by
        rw [Array.getD_eq_getD_getElem?, Array.getElem?_append, if_pos (by simp; omega)]
        simp [List.getD]
      have e2 : args.getD t .undef = args.getD t .any := by simp [List.getD, ht]
      rw [e1, e2]
      exact ha.2 t ht
    · have e1 : (vs.toArray ++ Array.replicate (fn.ntmps - vs.toArray.size) undef).getD t Go.undef = Go.undef := by
        rw [Array.getD_eq_getD_getElem?, Array.getElem?_append]
        rw [if_neg (by simp; omega)]
        rw [Array.getElem?_replicate]
        split <;> rfl
      have e2 : args.getD t .undef = .undef := by simp [List.getD, List.getElem?_eq_none (show args.length ≤ t by omega)]
      rw [e1, e2]
      exact .undef
  refine Code.wp_mono ?_ (hw _ R)
  rintro ex a' w' ⟨hex, s', β', R', S', rs, hrs, hfin⟩
  obtain ⟨u, r1, r2⟩ := results_run (P := P) R'.hr R'.er fn hrs
  obtain ⟨β2, f1, f2, f3⟩ := hfin u r2
  rcases hex with rfl | rfl
  · exact ⟨R'.df, u, r1, u, β2, rfl, f1, f2, f3, fun hh => by omega⟩
  · exact ⟨R'.df, u, r1, u, β2, rfl, f1, f2, f3, fun hh => by omega⟩

/-- an object read as another list of the same cells, shorter, or longer by what is not known -/
theorem HRel.reshape (H : HRel w F β h) {id : Nat} {o : AObj} {bc : Nat × Nat} (eo : h[id]? = some o) (eb : β[id]? = some bc) (em : o.mu = .m) (es' : List PV) (ep' : Nat) (hep : o.ep < ep') (h1 : es'.length ≤ bc.2)
    (h4 : ∀ (i : Nat) (e : PV), es'[i]? = some e → o.es[i]? = some e ∨ ((cells e).length = o.esz ∧ ∀ p ∈ cells e, p = .any)) :
    HRel w F β (h.set id { o with es := es', ep := ep' }) ∧ Stp w h β w (h.set id { o with es := es', ep := ep' }) β := by
  obtain ⟨T, cs, k1, k2, k3, k4, k5⟩ := H.obj id o bc eo eb (by rw [em]; simp)
  have hfit : ∀ i : Nat, i < es'.length → i * o.esz + o.esz ≤ cs.size := fun i hi => by
    have : (i + 1) * o.esz ≤ bc.2 * o.esz := Nat.mul_le_mul_right _ (by omega)
    rw [Nat.add_mul, Nat.one_mul] at this
    omega
  have := H.set eo eb em (w' := w) T cs es' ep' bc (Nat.le_refl _) k1 (fun _ _ _ => rfl) (.inl ⟨rfl, fun hh => by omega⟩) (Nat.le_of_lt hep) rfl rfl rfl h1 k3 (fun i e he => by
    rcases h4 i e he with hh | ⟨h5, h6⟩
    · exact k5 i e hh
    · refine ⟨h5, fun j p hp => ?_⟩
      have hj : j < o.esz := by have := lt_of_some hp; omega
      have hi := lt_of_some he
      have := hfit i hi
      refine ⟨cs[i * o.esz + j], Array.getElem?_eq_getElem (by omega), ?_⟩
      rw [h6 p (List.mem_of_getElem? hp)]
      exact .any _)
  rw [beta_set eb] at this
  exact this

/-- a slice of an object that is read as another list -/
theorem VRel.reshape {v : Value} {id ep n : Nat} {o : AObj} {bc : Nat × Nat} (eo : h[id]? = some o) (eb : β[id]? = some bc) (em : o.mu = .m) (hv : VRel w (Av F h β) β h v (.mref id ep 0 n)) (he : o.ep = ep) (hn : n ≤ o.es.length) (es' : List PV) (ep' : Nat) {A : Nat → Prop} :
    VRel w A β (h.set id { o with es := es', ep := ep' }) v (.mref id ep' 0 n) := by
  obtain ⟨_, _, m3⟩ := hv.mref_inv
  obtain ⟨cap, c1, c2⟩ := m3 o bc eo eb (by rw [em]; simp) he (by omega)
  exact .mref v id ep' 0 n { o with es := es', ep := ep' } bc ⟨_, _, _, c1⟩ (List.getElem?_set_self (lt_of_some eo)) eb (by show o.mu ≠ .x; rw [em]; simp) (Nat.le_refl _) (fun _ _ => ⟨cap, c1, c2⟩)
end Go.Pm
end

/-
  PM, PART 27b: the same program, no call of a Go function allowed: what the primitives are walked with. Conditions: none.
-/
section
set_option linter.unusedVariables false
set_option linter.unusedSimpArgs false
set_option linter.unusedVariables false
set_option maxRecDepth 100000
namespace Go.Pm
open Go.Proofs
noncomputable def C0 : Cfg := ⟨C.P, fun f => if f = 92 ∨ f = 91 then .opened else .no⟩
theorem c0_mode {f : FuncId} (h : C0.mode f ≠ .no) : f = 92 ∨ f = 91 := by
  by_cases hf : f = 92 ∨ f = 91
  · exact hf
  · exact (h (if_neg hf)).elim
theorem c0_cases (f : FuncId) : C0.mode f = .opened ∨ C0.mode f = .no := by
  by_cases hf : f = 92 ∨ f = 91
  · exact .inl (if_pos hf)
  · exact .inr (if_neg hf)
theorem K0 : CfgOk C0 where
  enters f hf _ := by
    rcases c0_mode (f := f) (fun h => hf h) with rfl | rfl
    · exact ⟨_, Tryz.func92, rfl, rfl⟩
    · exact ⟨_, Tryz.func91, rfl, rfl⟩
  primQ f g hh := by rcases c0_cases f with h | h <;> rw [h] at hh <;> cases hh
  primL f g hh := by rcases c0_cases f with h | h <;> rw [h] at hh <;> cases hh
  ext f g hh := by rcases c0_cases f with h | h <;> rw [h] at hh <;> cases hh
def bodyChk (P : Program) (f : FuncId) : Bool := match P.funcs[f]? with
  | some fn => match fn.body with
    | some c => codeOk fn.ntmps c
    | none => true
  | none => true
theorem chk64 : bodyChk C0.P 92 = true := by kernel_rfl
theorem chk63 : bodyChk C0.P 91 = true := by kernel_rfl
theorem KC0 : CodesOk C0 where
  mixed := codesOk6.mixed
  codes f fn c hm hf hb := by
    have h1 : bodyChk C0.P f = true := by
      rcases c0_mode (f := f) (fun h => by rcases hm with hm | hm <;> rw [hm] at h <;> cases h) with rfl | rfl
      · exact chk64
      · exact chk63
    unfold bodyChk at h1
    rw [hf] at h1
    simp only [hb] at h1
    exact h1
theorem S0 : ∀ n, RunsOk C0 (runF C0 n) := runF_sim K0 KC0
theorem mixed0 : C0.P.follows .mixedOrders = true := codesOk6.mixed
namespace Zero
noncomputable def T6 : Tab C0.P := Go.Pm.T6
end Zero
end Go.Pm
end

/-
  PM, PART 28: slices.Clone over any program that has it. Conditions: none.
-/
section
set_option linter.unusedVariables false
set_option linter.unusedSimpArgs false
set_option linter.unusedVariables false
set_option linter.unusedSimpArgs false
set_option maxRecDepth 100000
set_option maxHeartbeats 4000000
namespace Go.Pm
open Go.Proofs
variable {w : World} {F : Nat → Prop} {β : List (Nat × Nat)} {h : AHeap}

attribute [local irreducible] thenQ blockQ loopQ bodyQ Ev EvOps CallEv FnEv EvD

theorem eqnil_osim {a : Act} {ρ : Nat → PV} (H : HRel w F β h) (R : ERel w (Av F h β) β h a ρ) {t yt el : TypeId} {x : Operand} {fl : Bool} {es : List PV} (hu : C0.P.underlying t = some (.slice el)) (hx : ev ρ x = .snap fl es) :
    ∃ bb, (bb = true → es = []) ∧ ∀ o : Oper, o.op = .binOp .eql t x (.const (.slice none 0 0)) yt → OSim C0.P 2 w F β h (execOp a.eval o) (.bool bb) h := by
  have hv := R.ev x
  rw [hx] at hv
  obtain ⟨ad, cap, e1, _, _⟩ := hv.snap_inv.snap_len
  refine ⟨ad.isNone, fun hb => ?_, fun o ho => ⟨.bool ad.isNone, w, β, .inl ?_, .val (.bool _), H, Stp.refl w h β, fun _ => Grew.refl w⟩⟩
  · have hn : ad = none := by cases ad <;> simp_all
    subst hn
    rcases hv.snap_inv.snap_open with h0 | ⟨b, off, cap', sz', cvs, ev', _⟩
    · exact h0
    · rw [e1] at ev'; cases ev'
  · obtain ⟨d, op, ty, pos, af, g⟩ := o
    simp only at ho
    subst ho
    have h2 : a.eval (.const (.slice none 0 0)) = .slice none 0 0 := rfl
    have g1 : (eqGuard .eql t x (.const (.slice none 0 0)) (.slice ad es.length cap) (.slice none 0 0)).run C0.P w = .ok () w := by simp [eqGuard]
    have g2 : (binOp .eql t (.slice ad es.length cap) (.slice none 0 0)).run C0.P w = .ok (.bool ad.isNone) w := by
      simp only [binOp]
      simp [run_equal_slice_nil w t el ad es.length cap hu]
    simp only [execOp, e1, h2, Sem.run_bind, g1, g2, Result.andThen_ok, Sem.run_pure]

theorem appendP_nil {C : Cfg} (T : Tab C.P) {lv : Nat} {st xt el el' : TypeId} {sz by' : Nat} {z : PV} {full : Bool} (hk : T.kd st = some (.sl el)) (hk' : T.kd xt = some (.sl el')) (hs : T.ts el = some (sz + 1)) (hb : T.tb el = some by') (hz : T.tz el = some z)
    (hby : by' ≤ 1000) (hl : (cells z).length = sz + 1) (ho : (cells z).all oneC = true) : appendP C.P lv h st xt (.snap true []) (.snap full []) = some (.snap true [], h) := by
  unfold appendP
  rw [kd_sl (T.hkd _ _ hk)]
  simp only [T.hts _ _ hs, T.htb _ _ hb, T.htz _ _ hz, appendee, kd_sl (T.hkd _ _ hk'), elems]
  rw [if_pos ⟨by omega, by omega, ⟨hl, ho⟩, rfl⟩]
  rfl

section
variable {C : Cfg} (T : Tab C.P)
variable {ops : Array Oper} {d : Nat} {ty : TypeId} {pos : String} {af : Array Edge} {r : List Oper} {ρ : Nat → PV} {L : List (Nat × PV)} {Q : St → Prop}
theorem R.appendS0 {st xt el el' : TypeId} {sz by' : Nat} {z : PV} {full : Bool} {x y : Operand} (hx : evL L x = some (.snap true [])) (hy : evL L y = some (.snap full [])) (hk : T.kd st = some (.sl el)) (hk' : T.kd xt = some (.sl el')) (hs : T.ts el = some (sz + 1)) (hb : T.tb el = some by') (hz : T.tz el = some z)
    (hby : by' ≤ 1000) (hl : (cells z).length = sz + 1) (ho : (cells z).all oneC = true) (kk : EvOps C ops r ⟨al ((d, .snap true []) :: L) ρ, h⟩ Q) :
    EvOps C ops (⟨some d, .call ⟨.builtin .append, #[x, y], #[st, xt]⟩, ty, pos, af, none⟩ :: r) ⟨al L ρ, h⟩ Q := by
  refine EvOps.valL (fun run => ?_) kk
  have hap := appendP_nil T (h := h) (lv := 2) (full := full) hk hk' hs hb hz hby hl ho
  simp only [opVal, builtinP, List.map_cons, List.map_nil, evL_ev hx, evL_ev hy, hap]
theorem R.appendS1 {st xt el el' : TypeId} {sz by' : Nat} {z : PV} {full : Bool} {ys : List PV} {x y : Operand} (hx : evL L x = some (.snap true [])) (hy : evL L y = some (.snap full ys)) (hk : T.kd st = some (.sl el)) (hk' : T.kd xt = some (.sl el')) (hs : T.ts el = some (sz + 1)) (hb : T.tb el = some by') (hz : T.tz el = some z)
    (hby : by' ≤ 1000) (hl : (cells z).length = sz + 1) (ho : (cells z).all oneC = true) (hyo : esOk (sz + 1) ys) (hne : ys ≠ []) (hn : ys.length < 1000000000) (kk : EvOps C ops r ⟨al ((d, .mref h.length 0 0 ys.length) :: L) ρ, h ++ [⟨.m, 0, sz + 1, ys⟩]⟩ Q) :
    EvOps C ops (⟨some d, .call ⟨.builtin .append, #[x, y], #[st, xt]⟩, ty, pos, af, none⟩ :: r) ⟨al L ρ, h⟩ Q := by
  refine EvOps.valL (fun run => ?_) kk
  have hap := appendP_new T (h := h) (lv := 2) (full := full) (by decide) hk hk' hs hb hz hby hl ho hyo (by cases ys with | nil => exact absurd rfl hne | cons => rfl) hn
  simp only [opVal, builtinP, List.map_cons, List.map_nil, evL_ev hx, evL_ev hy, hap]
end
namespace Zero
theorem clone59 {fl : Bool} {es : List PV} {vs : List Value} (H : HRel w F β h) (ha : L2 (VRel w (Av F h β) β h) vs [.snap fl es]) (hes : esOk 4 es) (hn : es.length < 1000000000) {r : PV} {h' : AHeap}
    (hr : (es = [] ∧ r = .snap true [] ∧ h' = h) ∨ (es ≠ [] ∧ r = .mref h.length 0 0 es.length ∧ h' = h ++ [⟨.m, 0, 4, es⟩])) : CSim C0.P 2 w F β h 103 vs r h' := by
  refine csim_wp (P := C0.P) Tryz.func103 rfl H ha (fun a RR => ?_)
  refine wp_seq ?_
  refine ev_wp K0 mixed0 S0 (M := fun ex s' => ex = .normal ∧ ∃ ρ', s' = ⟨al [(0, .snap fl es)] ρ', h⟩) rfl ?_ RR ?_
  · rw [envOf_al]
    (repeat' (first | refine EvOps.nil ?_ | (apply R.assign; exact rfl) | refine Ev.region ?_ | fail))
    exact ⟨rfl, _, St.keep ⟨rfl, trivial⟩⟩
  rintro ex s' a1 w1 β1 ⟨rfl, ρ1, rfl⟩ R1 S1
  refine wp_seq ?_
  refine wp_seq ?_
  apply region_special K0 S0 (pre := [_]) (post := []) (R := R1) (M := fun s' => ∃ ρ', s' = ⟨al [(0, .snap fl es), (3, .snap fl es)] ρ', h⟩) (M2 := fun s' => ∃ bb ρ', s' = ⟨al [(0, .snap fl es), (4, .bool bb)] ρ', h⟩ ∧ (bb = true → es = []))
  · rfl
  · rfl
  · (repeat' (first | refine EvOps.nil ?_ | (apply R.move; exact rfl) | fail))
    exact ⟨_, St.keep ⟨rfl, rfl, trivial⟩⟩
  · rintro s1 a2 w2 β2 ⟨ρ2, rfl⟩ R2 S2
    obtain ⟨bb, hb, os⟩ := eqnil_osim (t := 51) (yt := 51) (el := 53) (x := .tmp 3) (fl := fl) (es := es) R2.hr R2.er (kd_sl (T6.hkd 51 _ rfl)) (lk_al (L := [(0, .snap fl es), (3, .snap fl es)]) (t := 3) rfl ρ2)
    refine ⟨.bool bb, h, os _ rfl, EvOps.nil ⟨bb, al ((4, .bool bb) :: [(0, .snap fl es), (3, .snap fl es)]) ρ2, ?_, hb⟩⟩
    show (⟨updO (al [(0, .snap fl es), (3, .snap fl es)] ρ2) (some 4) (.bool bb), h⟩ : St) = _
    rw [al_cons]
    exact St.keep ⟨rfl, rfl, trivial⟩
  rintro s3 a3 w3 β3 ⟨bb, ρ3, rfl, hb⟩ R3 S3
  cases bb
  · refine ev_wp K0 mixed0 S0 (M := fun ex s' => ex = .normal ∧ ∃ ρ', s' = ⟨al [(0, .snap fl es)] ρ', h⟩) rfl ?_ R3 ?_
    · (repeat' (first | (apply Ev.condB; exact rfl) | refine Ev.skip ?_ | fail))
      exact ⟨rfl, _, St.keep ⟨rfl, trivial⟩⟩
    rintro ex s' a4 w4 β4 ⟨rfl, ρ4, rfl⟩ R4 S4
    refine ev_wp K0 mixed0 S0 (M := fun ex s' => ex = .ret ∧ ∃ ρ', s' = ⟨al [(2, r)] ρ', h'⟩) rfl ?_ R4 ?_
    · (repeat' (first | (apply R.move; exact rfl) | (apply R.buildSlice T6; exact rfl; exact rfl; exact rfl; exact rfl; exact (by decide); exact rfl; exact rfl; exact rfl; exact rfl; exact rfl) | refine Ev.seq ?_ | refine Ev.region ?_ | fail))
      rcases hr with ⟨rfl, rfl, rfl⟩ | ⟨hne, rfl, rfl⟩
      · apply R.appendS0 T6; exact rfl; exact rfl; exact rfl; exact rfl; exact rfl; exact rfl; exact rfl; exact (by decide); exact rfl; exact rfl
        (repeat' (first | refine EvOps.nil ?_ | (apply R.assign; exact rfl) | refine Ev.ret ?_ | refine thenQ.normal ?_ | fail))
        exact ⟨rfl, _, St.keep ⟨rfl, trivial⟩⟩
      · apply R.appendS1 T6; exact rfl; exact rfl; exact rfl; exact rfl; exact rfl; exact rfl; exact rfl; exact (by decide); exact rfl; exact rfl; exact hes; exact hne; exact hn
        (repeat' (first | refine EvOps.nil ?_ | (apply R.assign; exact rfl) | refine Ev.ret ?_ | refine thenQ.normal ?_ | fail))
        exact ⟨rfl, _, St.keep ⟨rfl, trivial⟩⟩
    rintro ex s5 a5 w5 β5 ⟨rfl, ρ5, rfl⟩ R5 S5
    refine ⟨.inr rfl, _, β5, R5, ((S1.trans S3).trans S4).trans S5, [r], ?_, fun u hu => ⟨β5, hu, R5.hr, ((S1.trans S3).trans S4).trans S5⟩⟩
    exact resT_of (L := [(2, r)]) rfl
  · obtain rfl := hb rfl
    rcases hr with ⟨_, rfl, rfl⟩ | ⟨hne, _⟩
    · refine ev_wp K0 mixed0 S0 (M := fun ex s' => ex = .ret ∧ ∃ ρ', s' = ⟨al [(2, .snap true [])] ρ', h'⟩) rfl ?_ R3 ?_
      · (repeat' (first | refine EvOps.nil ?_ | (apply R.assign; exact rfl) | refine Ev.seq ?_ | refine Ev.region ?_ | (apply Ev.condB; exact rfl) | refine Ev.ret ?_ | refine thenQ.normal ?_ | fail))
        exact ⟨rfl, _, St.keep ⟨rfl, trivial⟩⟩
      rintro ex s5 a5 w5 β5 ⟨rfl, ρ5, rfl⟩ R5 S5
      refine ⟨.inr rfl, _, β5, R5, (S1.trans S3).trans S5, [.snap true []], ?_, fun u hu => ⟨β5, hu, R5.hr, (S1.trans S3).trans S5⟩⟩
      exact resT_of (L := [(2, .snap true [])]) rfl
    · exact absurd rfl hne
  · rfl

theorem clone79 {fl : Bool} {es : List PV} {vs : List Value} (H : HRel w F β h) (ha : L2 (VRel w (Av F h β) β h) vs [.snap fl es]) (hes : esOk 1 es) (hn : es.length < 1000000000) {r : PV} {h' : AHeap}
    (hr : (es = [] ∧ r = .snap true [] ∧ h' = h) ∨ (es ≠ [] ∧ r = .mref h.length 0 0 es.length ∧ h' = h ++ [⟨.m, 0, 1, es⟩])) : CSim C0.P 2 w F β h 51 vs r h' := by
  refine csim_wp (P := C0.P) Tryz.func51 rfl H ha (fun a RR => ?_)
  refine wp_seq ?_
  refine ev_wp K0 mixed0 S0 (M := fun ex s' => ex = .normal ∧ ∃ ρ', s' = ⟨al [(0, .snap fl es)] ρ', h⟩) rfl ?_ RR ?_
  · rw [envOf_al]
    (repeat' (first | refine EvOps.nil ?_ | (apply R.assign; exact rfl) | refine Ev.region ?_ | fail))
    exact ⟨rfl, _, St.keep ⟨rfl, trivial⟩⟩
  rintro ex s' a1 w1 β1 ⟨rfl, ρ1, rfl⟩ R1 S1
  refine wp_seq ?_
  refine wp_seq ?_
  apply region_special K0 S0 (pre := [_]) (post := []) (R := R1) (M := fun s' => ∃ ρ', s' = ⟨al [(0, .snap fl es), (3, .snap fl es)] ρ', h⟩) (M2 := fun s' => ∃ bb ρ', s' = ⟨al [(0, .snap fl es), (4, .bool bb)] ρ', h⟩ ∧ (bb = true → es = []))
  · rfl
  · rfl
  · (repeat' (first | refine EvOps.nil ?_ | (apply R.move; exact rfl) | fail))
    exact ⟨_, St.keep ⟨rfl, rfl, trivial⟩⟩
  · rintro s1 a2 w2 β2 ⟨ρ2, rfl⟩ R2 S2
    obtain ⟨bb, hb, os⟩ := eqnil_osim (t := 31) (yt := 31) (el := 26) (x := .tmp 3) (fl := fl) (es := es) R2.hr R2.er (kd_sl (T6.hkd 31 _ rfl)) (lk_al (L := [(0, .snap fl es), (3, .snap fl es)]) (t := 3) rfl ρ2)
    refine ⟨.bool bb, h, os _ rfl, EvOps.nil ⟨bb, al ((4, .bool bb) :: [(0, .snap fl es), (3, .snap fl es)]) ρ2, ?_, hb⟩⟩
    show (⟨updO (al [(0, .snap fl es), (3, .snap fl es)] ρ2) (some 4) (.bool bb), h⟩ : St) = _
    rw [al_cons]
    exact St.keep ⟨rfl, rfl, trivial⟩
  rintro s3 a3 w3 β3 ⟨bb, ρ3, rfl, hb⟩ R3 S3
  cases bb
  · refine ev_wp K0 mixed0 S0 (M := fun ex s' => ex = .normal ∧ ∃ ρ', s' = ⟨al [(0, .snap fl es)] ρ', h⟩) rfl ?_ R3 ?_
    · (repeat' (first | (apply Ev.condB; exact rfl) | refine Ev.skip ?_ | fail))
      exact ⟨rfl, _, St.keep ⟨rfl, trivial⟩⟩
    rintro ex s' a4 w4 β4 ⟨rfl, ρ4, rfl⟩ R4 S4
    refine ev_wp K0 mixed0 S0 (M := fun ex s' => ex = .ret ∧ ∃ ρ', s' = ⟨al [(2, r)] ρ', h'⟩) rfl ?_ R4 ?_
    · (repeat' (first | (apply R.move; exact rfl) | (apply R.buildSlice T6; exact rfl; exact rfl; exact rfl; exact rfl; exact (by decide); exact rfl; exact rfl; exact rfl; exact rfl; exact rfl) | refine Ev.seq ?_ | refine Ev.region ?_ | fail))
      rcases hr with ⟨rfl, rfl, rfl⟩ | ⟨hne, rfl, rfl⟩
      · apply R.appendS0 T6; exact rfl; exact rfl; exact rfl; exact rfl; exact rfl; exact rfl; exact rfl; exact (by decide); exact rfl; exact rfl
        (repeat' (first | refine EvOps.nil ?_ | (apply R.assign; exact rfl) | refine Ev.ret ?_ | refine thenQ.normal ?_ | fail))
        exact ⟨rfl, _, St.keep ⟨rfl, trivial⟩⟩
      · apply R.appendS1 T6; exact rfl; exact rfl; exact rfl; exact rfl; exact rfl; exact rfl; exact rfl; exact (by decide); exact rfl; exact rfl; exact hes; exact hne; exact hn
        (repeat' (first | refine EvOps.nil ?_ | (apply R.assign; exact rfl) | refine Ev.ret ?_ | refine thenQ.normal ?_ | fail))
        exact ⟨rfl, _, St.keep ⟨rfl, trivial⟩⟩
    rintro ex s5 a5 w5 β5 ⟨rfl, ρ5, rfl⟩ R5 S5
    refine ⟨.inr rfl, _, β5, R5, ((S1.trans S3).trans S4).trans S5, [r], ?_, fun u hu => ⟨β5, hu, R5.hr, ((S1.trans S3).trans S4).trans S5⟩⟩
    exact resT_of (L := [(2, r)]) rfl
  · obtain rfl := hb rfl
    rcases hr with ⟨_, rfl, rfl⟩ | ⟨hne, _⟩
    · refine ev_wp K0 mixed0 S0 (M := fun ex s' => ex = .ret ∧ ∃ ρ', s' = ⟨al [(2, .snap true [])] ρ', h'⟩) rfl ?_ R3 ?_
      · (repeat' (first | refine EvOps.nil ?_ | (apply R.assign; exact rfl) | refine Ev.seq ?_ | refine Ev.region ?_ | (apply Ev.condB; exact rfl) | refine Ev.ret ?_ | refine thenQ.normal ?_ | fail))
        exact ⟨rfl, _, St.keep ⟨rfl, trivial⟩⟩
      rintro ex s5 a5 w5 β5 ⟨rfl, ρ5, rfl⟩ R5 S5
      refine ⟨.inr rfl, _, β5, R5, (S1.trans S3).trans S5, [.snap true []], ?_, fun u hu => ⟨β5, hu, R5.hr, (S1.trans S3).trans S5⟩⟩
      exact resT_of (L := [(2, .snap true [])]) rfl
    · exact absurd rfl hne
  · rfl

end Zero
end Go.Pm
end

/-
  CHAPTER 6, PART 27: the reference's App, and its operands of a product. Conditions: none.
-/
section
set_option linter.unusedVariables false
set_option linter.unusedSimpArgs false
set_option linter.unusedVariables false
set_option linter.unusedSimpArgs false
set_option maxRecDepth 4000
set_option maxHeartbeats 8000000
namespace Go.Pm
open Go.Proofs
theorem take9_step {X : List Tm} {t : Tm} (h : (X.take 9).length < 9) : (X ++ [t]).take 9 = X.take 9 ++ [t] := by
  have : X.length < 9 := by simp at h; omega
  rw [List.take_of_length_le (by simp; omega), List.take_of_length_le (by omega)]
theorem take9_full {X Y : List Tm} (h : ¬ (X.take 9).length < 9) : (X ++ Y).take 9 = X.take 9 := by
  have : 9 ≤ X.length := by simp at h; omega
  rw [List.take_append_of_le_length this]
theorem take9_len (X : List Tm) : (X.take 9).length ≤ 9 := by simp; omega
attribute [local irreducible] thenQ blockQ loopQ bodyQ Ev EvOps CallEv FnEv EvD
theorem rapp_fun (s : ByteArray) (l : List Tm) (hl : l.length < 100000000) : Fun C 26 [.str s, .snap false (encs l)] (enc (.mk 3 s 0 l)) := by
  refine Fun.of (FnEv.bodyL Tryz.func26 rfl ?_)
  have hel := encs_len l
  have hok := encs_ok l
  have hnr := nrms_encs l
  have hv := isVals_encs l
  rw [enc_mk]
  generalize encs l = es at hel hok hnr hv ⊢
  (repeat' (first | refine EvOps.nil ?_ | (apply R.move; exact rfl) | (apply R.buildSlice T6; exact rfl; exact rfl; exact rfl; exact rfl; exact (by decide); exact rfl; exact rfl; exact rfl; exact rfl; exact rfl) | (apply R.alloc T6; exact rfl; exact rfl; exact rfl; exact .nil) | refine Ev.seq ?_ | refine Ev.region ?_ | refine thenQ.normal ?_ | fail))
  cases es with
  | nil =>
    apply R.appendS0 T6; exact rfl; exact rfl; exact rfl; exact rfl; exact rfl; exact rfl; exact rfl; exact (by decide); exact rfl; exact rfl
    (repeat' (first | (apply R.build T6; exact rfl; exact rfl; exact rfl; exact rfl; exact rfl; exact rfl) | fail))
    refine R.storeH T6 (n := 0) (o := ⟨.m, 0, 4, [.agg [.int .i64 0, .str ByteArray.empty, .int .i64 0, .snap true []]]⟩) (i := 0) (e := .agg [.int .i64 0, .str ByteArray.empty, .int .i64 0, .snap true []]) rfl rfl rfl rfl rfl rfl rfl rfl (Nat.le_refl 4) ?_
    (repeat' (first | refine EvOps.nil ?_ | refine Ev.ret ?_ | refine thenQ.normal ?_ | (apply bodyQ.retC T6; exact rfl) | fail))
    exact ⟨_, rfl, by simp [nrm, nrms]⟩
  | cons e es =>
    apply R.appendS1 T6; exact rfl; exact rfl; exact rfl; exact rfl; exact rfl; exact rfl; exact rfl; exact (by decide); exact rfl; exact rfl; exact hok; exact (by simp); exact (by omega)
    (repeat' (first | (apply R.build T6; exact rfl; exact rfl; exact rfl; exact rfl; exact rfl; exact rfl) | fail))
    refine R.storeH T6 (n := 0) (o := ⟨.m, 0, 4, [.agg [.int .i64 0, .str ByteArray.empty, .int .i64 0, .snap true []]]⟩) (i := 0) (e := .agg [.int .i64 0, .str ByteArray.empty, .int .i64 0, .snap true []]) rfl rfl rfl rfl rfl rfl rfl rfl (Nat.le_refl 4) ?_
    (repeat' (first | refine EvOps.nil ?_ | refine Ev.ret ?_ | refine thenQ.normal ?_ | (apply bodyQ.retC T6; exact rfl) | fail))
    refine ⟨.agg [.int .i64 3, .str s, .int .i64 0, .snap false (e :: es)], ?_, by show PV.agg [.int .i64 3, .str s, .int .i64 0, .snap false (nrms (e :: es))] = _; rw [hnr]⟩
    show rbA _ (.agg [.int .i64 3, .str s, .int .i64 0, .mref 1 0 0 (e :: es).length]) = _
    simp [rbA, rb1s, rb1, isVal, getM, hv]
theorem take9_enc {X : List Tm} : (encs (X.take 9)).length ≤ 9 := by rw [encs_len]; exact take9_len X
end Go.Pm
end

/-
  CHAPTER 6, PART 28: the reference's Term. Conditions: none.
-/
section
set_option linter.unusedVariables false
set_option linter.unusedSimpArgs false
set_option linter.unusedVariables false
set_option linter.unusedSimpArgs false
set_option maxRecDepth 4000
set_option maxHeartbeats 8000000
namespace Go.Pm
open Go.Proofs
theorem validGo_bd : ∀ {l : List Pw} {pr : Option Tm}, validGo pr l = 0 → Bd 1000 l ∧ (∀ p ∈ l, valid p.1 = 0 ∧ special p.1 = false) ∧ Nz l ∧ Srt l ∧ (∀ q, pr = some q → ∀ p ∈ l, cmpT q p.1 < 0)
  | [], _, _ => ⟨(fun p hp => by cases hp), (fun p hp => by cases hp), (fun p hp => by cases hp), by simp [Srt], (fun _ _ p hp => by cases hp)⟩
  | p :: l, pr, h => by
    rw [validGo_cons] at h
    by_cases h1 : valid p.1 = 0
    · rw [if_neg (by omega)] at h
      by_cases h2 : special p.1 = true
      · rw [if_pos h2] at h; cases h
      · rw [if_neg h2] at h
        by_cases h3 : p.2 = 0 ∨ p.2 < -1000 ∨ 1000 < p.2
        · rw [if_pos h3] at h; cases h
        · rw [if_neg h3] at h
          have main : validGo (some p.1) l = 0 ∧ (∀ q, pr = some q → cmpT q p.1 < 0) := by
            cases pr with
            | none =>
              simp only [Bool.false_eq_true, if_false] at h
              exact ⟨h, fun q hq => by cases hq⟩
            | some q =>
              simp only at h
              split at h
              · cases h
              · rename_i h4
                refine ⟨h, fun q' hq => ?_⟩
                cases hq
                have : ¬ 0 ≤ cmpT q p.1 := fun hh => h4 (decide_eq_true hh)
                omega
          obtain ⟨b1, b2, b3, b4, b5⟩ := validGo_bd main.1
          refine ⟨fun x hx => ?_, fun x hx => ?_, fun x hx => ?_, List.pairwise_cons.2 ⟨fun x hx => b5 p.1 rfl x hx, b4⟩, fun q hq x hx => ?_⟩
          · rcases List.mem_cons.1 hx with rfl | hx
            · omega
            · exact b1 x hx
          · rcases List.mem_cons.1 hx with rfl | hx
            · exact ⟨h1, by simpa using h2⟩
            · exact b2 x hx
          · rcases List.mem_cons.1 hx with rfl | hx
            · omega
            · exact b3 x hx
          · rcases List.mem_cons.1 hx with rfl | hx
            · exact main.2 q hq
            · exact cmpT_trans (main.2 q hq) (b5 p.1 rfl x hx)
    · rw [if_pos h1] at h; exact absurd h h1
theorem validP_zero {l : List Pw} (h : validP l = 0) : l.length ≤ 200 ∧ Bd 1000 l ∧ (∀ p ∈ l, valid p.1 = 0 ∧ special p.1 = false) ∧ Nz l ∧ Srt l := by
  unfold validP at h
  split at h
  · cases h
  · obtain ⟨b1, b2, b3, b4, _⟩ := validGo_bd h
    exact ⟨by omega, b1, b2, b3, b4⟩
theorem wide_ops : ∀ {l : List Pw}, wide l = true → 8 < (opsT l).length
  | [], h => by cases h
  | p :: l, h => by
    have e1 : posT (p :: l) = List.replicate p.2.toNat p.1 ++ posT l := by simp [posT]
    have e2 : negT (p :: l) = List.replicate (-p.2).toNat (invT p.1) ++ negT l := by simp [negT]
    unfold opsT
    rw [e1, e2]
    simp only [List.length_append, List.length_replicate]
    unfold wide at h
    rw [List.any_cons, Bool.or_eq_true] at h
    rcases h with h | h
    · have := of_decide_eq_true h; omega
    · have := wide_ops (l := l) h
      unfold opsT at this
      rw [List.length_append] at this
      omega
attribute [local irreducible] thenQ blockQ loopQ bodyQ Ev EvOps CallEv FnEv EvD
end Go.Pm
end

/-
  CHAPTER 6, PART 29: the reference's Few and Inverse of products. Conditions: none.
-/
section
set_option linter.unusedVariables false
set_option linter.unusedSimpArgs false
set_option linter.unusedVariables false
set_option linter.unusedSimpArgs false
set_option maxRecDepth 4000
set_option maxHeartbeats 8000000
namespace Go.Pm
open Go.Proofs
def encPPs (l : List (List Pw)) : List PV := l.map fun p => .snap false (encPs p)
def allT (l : List (List Pw)) : List Tm := l.flatMap fun p => p.map (·.1)
theorem encPPs_len (l : List (List Pw)) : (encPPs l).length = l.length := by simp [encPPs]
theorem allT_snoc {l : List (List Pw)} {i : Nat} {p : List Pw} (h : l[i]? = some p) : allT (l.take (i + 1)) = allT (l.take i) ++ p.map (·.1) := by
  rw [List.take_add_one, h]; simp [allT]
theorem allT_len {l : List (List Pw)} {i j : Nat} {p : List Pw} (h : l[i]? = some p) : (allT (l.take i) ++ (p.take j).map (·.1)).length ≤ (allT l).length := by
  have h1 : l = l.take (i + 1) ++ l.drop (i + 1) := (List.take_append_drop _ _).symm
  have h2 : allT l = allT (l.take (i + 1)) ++ allT (l.drop (i + 1)) := by
    conv => lhs; rw [h1]
    simp only [allT, List.flatMap_append]
  rw [h2, allT_snoc h]
  simp only [List.length_append, List.length_map, List.length_take]
  omega
theorem vals_of {es : List PV} {l : List Tm} (h : es = encs l) : isVals es = true := by rw [h]; exact isVals_encs l
attribute [local irreducible] thenQ blockQ loopQ bodyQ Ev EvOps CallEv FnEv EvD
theorem pfew_fun (l : List (List Pw)) (hb : bulks (allT l) < 100000000) (hl : l.length < 100000000) (hls : ∀ p ∈ l, p.length < 100000000) (n m : Int) (hm : m < 1000000000) : Fun C 8 [.snap false (encPPs l), .int .i64 n, .int .i64 m] (.bool (if n < (l.length : Int) then false else few (allT l) m m)) := by
  have hel := encPPs_len l
  have hfew := few_fun (allT l) (by omega) m m hm
  have hlen := len_bulks (allT l)
  refine Fun.of (FnEv.bodyL Tryz.func8 rfl ?_)
  (repeat' (first | refine EvOps.nil ?_ | (apply R.assign; exact rfl) | refine Ev.seq ?_ | refine Ev.region ?_ | refine Ev.block ?_ | refine thenQ.normal ?_ | fail))
  refine Ev.loop (I := fun k' st => ∃ (i : Nat) (v : PV) (H : AHeap) (ρ' : Nat → PV), st = ⟨al [(0, .snap false (encPPs l)), (1, .int .i64 n), (2, .int .i64 m), (7, v), (8, .int .i64 i)] ρ', H⟩ ∧ k' + i = l.length ∧ HV H ∧ Out 4 H v (encs (allT (l.take i)))) l.length ?_ ?_
  · exact ⟨0, _, [], _, St.keep ⟨rfl, rfl, rfl, rfl, rfl, trivial⟩, rfl, HV.nil, .inl ⟨rfl, rfl⟩⟩
  rintro k' _ ⟨i, v, H, ρ', rfl, hk, hH, ho⟩
  (repeat' (first | refine EvOps.nil ?_ | (apply R.gOn; exact rfl; exact rfl; exact rfl) | (apply R.gOff; exact rfl; exact rfl; exact rfl) | (apply R.move; exact rfl) | (apply R.assign; exact rfl) | (apply R.pickF; exact rfl; exact rfl) | (apply R.cmp; exact rfl; exact rfl; exact rfl; all_goals intro hc) | (apply R.lenS T6; exact rfl; exact rfl) | refine Ev.seq ?_ | refine Ev.region ?_ | (apply Ev.condB; exact rfl) | refine Ev.ret ?_ | refine Ev.skip ?_ | refine Ev.exit ?_ | refine Ev.block ?_ | refine thenQ.normal ?_ | refine thenQ.exit ?_ | refine blockQ.hit ?_ | refine loopQ.exit ?_ | (apply bodyQ.ret; exact rfl) | fail))
  · obtain ⟨p, hget⟩ : ∃ p, l[i]? = some p := ⟨l[i]'(by omega), List.getElem?_eq_getElem _⟩
    have hat : (encPPs l)[i]? = some (.snap false (encPs p)) := by rw [encPPs, List.getElem?_map, hget]; rfl
    have hpl := hls p (List.mem_of_getElem? hget)
    have hep := encPs_len p
    have hsn := allT_snoc hget
    have hal := fun j => allT_len (j := j) hget
    have hil := lt_of_some hget
    clear hc
    refine Ev.loop (I := fun k2 st => ∃ (j : Nat) (v : PV) (H : AHeap) (ρ' : Nat → PV), st = ⟨al [(0, .snap false (encPPs l)), (1, .int .i64 n), (2, .int .i64 m), (7, v), (8, .int .i64 i), (9, .int .i64 j)] ρ', H⟩ ∧ k2 + j = p.length ∧ HV H ∧ Out 4 H v (encs (allT (l.take i) ++ (p.take j).map (·.1)))) p.length ?_ ?_
    · exact ⟨0, _, _, _, St.keep ⟨rfl, rfl, rfl, rfl, rfl, rfl, trivial⟩, rfl, hH, by simpa using ho⟩
    clear ho hH
    rintro k2 _ ⟨j, v, H, ρ', rfl, hk2, hH, ho⟩
    (repeat' (first | (apply R.move; exact rfl) | refine Ev.seq ?_ | refine Ev.region ?_ | fail))
    refine R.indexS T6 rfl rfl rfl rfl hat rfl rfl ?_
    (repeat' (first | refine EvOps.nil ?_ | (apply R.move; exact rfl) | (apply R.assign; exact rfl) | (apply R.load1 T6; exact rfl; exact rfl; exact rfl; exact rfl) | (apply R.cmp; exact rfl; exact rfl; exact rfl; all_goals intro hc) | (apply R.arith; exact rfl; exact rfl; exact rfl; exact (wrapI (by omega) (by omega))) | (apply R.lenS T6; exact rfl; exact rfl) | refine Ev.seq ?_ | refine Ev.region ?_ | (apply Ev.condB; exact rfl) | refine Ev.skip ?_ | refine Ev.exit ?_ | refine Ev.block ?_ | refine thenQ.normal ?_ | refine thenQ.exit ?_ | refine blockQ.normal ?_ | refine blockQ.hit ?_ | refine loopQ.normal ?_ | refine loopQ.exit ?_ | fail))
    · obtain ⟨k1, s1, o1, l1, n1, hmem, hat2, hd, hil, hget2⟩ := encPs_at hc
      have hal1 := hal j
      have hlx := encs_len (allT (l.take i) ++ (p.take j).map (·.1))
      refine R.indexS T6 rfl rfl rfl rfl hat rfl rfl ?_
      (repeat' (first | (apply R.move; exact rfl) | (apply R.load1 T6; exact rfl; exact rfl; exact rfl; exact rfl) | fail))
      refine R.indexS T6 rfl rfl rfl rfl hat2 rfl rfl ?_
      (repeat' (first | (apply R.loadA T6; exact rfl; exact rfl; exact rfl; exact rfl; exact (by repeat constructor)) | (apply R.fieldAddrS T6; exact rfl; exact rfl; exact rfl; exact rfl; exact rfl) | (apply R.buildSlice T6; exact rfl; exact rfl; exact rfl; exact rfl; exact (by decide); exact rfl; exact rfl; exact rfl; exact rfl; exact rfl) | fail))
      refine R.appendLP T6 rfl rfl rfl rfl rfl rfl rfl (by decide) rfl rfl rfl rfl ho (by show _ + 1 < _; omega) (by rw [isVals_eq, List.all_append, ← isVals_eq, isVals_encs]; rfl) hH ?_
      intro v3 H3 lp
      rw [← enc_mk] at lp
      have lp : LP H v 4 (encs (allT (l.take i) ++ (p.take j).map (·.1)) ++ [enc (Tm.mk k1 s1 o1 l1)]) v3 H3 := lp
      have hst : allT (l.take i) ++ (p.take j).map (·.1) ++ [Tm.mk k1 s1 o1 l1] = allT (l.take i) ++ (p.take (j + 1)).map (·.1) := by
        rw [List.take_add_one, hget2, List.map_append, List.append_assoc]; rfl
      rw [encs_snoc, hst] at lp
      have o3 := lp.out
      have h3 := lp.hv
      (repeat' (first | refine EvOps.nil ?_ | (apply R.move; exact rfl) | (apply R.assign; exact rfl) | (apply R.arith; exact rfl; exact rfl; exact rfl; exact (wrapI (by omega) (by omega))) | refine Ev.region ?_ | refine thenQ.normal ?_ | refine blockQ.normal ?_ | refine loopQ.normal ?_ | fail))
      exact ⟨k2 - 1, by omega, j + 1, v3, H3, _, St.keep ⟨rfl, rfl, rfl, rfl, rfl, rfl, trivial⟩, by omega, h3, o3⟩
    · have tk : p.take j = p := List.take_of_length_le (by omega)
      rw [tk, ← hsn] at ho
      exact ⟨k' - 1, by omega, i + 1, v, H, _, St.keep ⟨rfl, rfl, rfl, rfl, rfl, trivial⟩, by omega, hH, ho⟩
  · have tk : l.take i = l := List.take_of_length_le (by omega)
    rw [tk] at ho
    refine R.call rfl rfl (CallEv.out rfl ho (isVals_encs _) rfl (by rw [nrms_encs]; exact hfew) rfl ?_)
    (repeat' (first | refine EvOps.nil ?_ | (apply R.assign; exact rfl) | (apply R.pickT; exact rfl; exact rfl) | refine Ev.ret ?_ | refine thenQ.normal ?_ | (apply bodyQ.ret; exact rfl) | fail))
    exact ⟨_, rfl, by rw [if_neg (by omega)]; rfl⟩
  · exact ⟨_, rfl, by rw [if_pos (by omega)]; rfl⟩
section
variable {C : Cfg} (T : Tab C.P)
variable {ops : Array Oper} {i : Nat} {d L0 : Nat} {own : List Nat} {ty : TypeId} {pos : String} {af : Array Edge} {r : List Oper} {ρ : Nat → PV} {L : List (Nat × PV)} {h : AHeap} {Q : St → Prop}
theorem D.neg {t : TypeId} {x : Operand} {k : IntKind} {a c : Int} (hx : evL L x = some (.int k a)) (hw : k.wrap (0 - a) = c) (kk : EvD C ops (i + 1) r ⟨⟨al ((d, .int k c) :: L) ρ, h⟩, L0, own⟩ Q) :
    EvD C ops i (⟨some d, .unOp .neg t x, ty, pos, af, none⟩ :: r) ⟨⟨al L ρ, h⟩, L0, own⟩ Q :=
  EvD.plain (h' := h) rfl (fun run => by simp only [opVal, stepOp, evL_ev hx, unP, hw, Option.map_some]) kk
/-- append to a list in a region that draws its order, behind all else -/
theorem D.appendLP {st xt el el' : TypeId} {sz by' : Nat} {z : PV} {full : Bool} {es ys : List PV} {x y : Operand} {v : PV} (hl2 : level ops (before ops) i = 2) (hx : evL L x = some v) (hy : evL L y = some (.snap full ys)) (hk : T.kd st = some (.sl el)) (hk' : T.kd xt = some (.sl el')) (hs : T.ts el = some (sz + 1)) (hb : T.tb el = some by') (hz : T.tz el = some z)
    (hby : by' ≤ 1000) (hl : (cells z).length = sz + 1) (ho : (cells z).all oneC = true) (hyo : esOk (sz + 1) ys) (hne : ys.isEmpty = false) (o : Out (sz + 1) h v es) (hn : es.length + ys.length < 1000000000)
    (hvs : isVals (es ++ ys) = true) (hH : HV h) (kk : ∀ v' h', LP h v (sz + 1) (es ++ ys) v' h' → EvD C ops (i + 1) r ⟨⟨al ((d, v') :: L) ρ, h'⟩, h'.length, []⟩ Q) :
    EvD C ops i (⟨some d, .call ⟨.builtin .append, #[x, y], #[st, xt]⟩, ty, pos, af, none⟩ :: r) ⟨⟨al L ρ, h⟩, L0, own⟩ Q := by
  rcases o with ⟨rfl, rfl⟩ | ⟨id, ep, rfl, e2⟩
  · refine EvD.two rfl hl2 ⟨0, fun n _ => ?_⟩ (kk (.mref h.length 0 0 ys.length) (h ++ [⟨.m, 0, sz + 1, ys⟩]) ⟨.inr ⟨h.length, 0, by simp, by simp⟩, hH.app (HV.one (by simpa using hvs)), by simp, fun j hj _ => List.getElem?_append_left hj, fun j ep n hh => ?_⟩)
    · have := appendP_new T (h := h) (lv := 2) (full := full) (by omega) hk hk' hs hb hz hby hl ho hyo hne (by simpa using hn)
      simp only [opVal, builtinP, List.map_cons, List.map_nil, evL_ev hx, evL_ev hy, this]
    · cases hh; exact .inr (Nat.le_refl _)
  · have hlt := lt_of_some e2
    refine EvD.two rfl hl2 ⟨0, fun n _ => ?_⟩ (kk (.mref id (ep + 1) 0 (es.length + ys.length)) (h.set id ⟨.m, ep + 1, sz + 1, es ++ ys⟩) ⟨.inr ⟨id, ep + 1, by simp, List.getElem?_set_self hlt⟩, hH.set id (by simp) hvs, by simp, fun j hj hne => List.getElem?_set_ne (fun hh => hne ep es.length (by rw [hh])), fun j ep' n hh => ?_⟩)
    · have := appendP_m T (h := h) (full := full) (len := es.length) hk hk' hs hb hz hby hl ho hyo hne hn (getM_at e2 rfl (by simp)) rfl rfl (Nat.le_refl _)
      simp only [opVal, builtinP, List.map_cons, List.map_nil, evL_ev hx, evL_ev hy, this, List.take_length]
    · cases hh; exact .inl ⟨ep, es.length, rfl⟩
end
/-- the inverse of a product (of any numbers) -/
def invP (l : List Pw) : List Pw := l.map fun p => (p.1, IntKind.i64.wrap (0 - p.2))
theorem invP_len (l : List Pw) : (invP l).length = l.length := by simp [invP]
theorem encPs_snoc (l : List Pw) (p : Pw) : encPs l ++ [encP p] = encPs (l ++ [p]) := by simp [encPs]
theorem invP_snoc {l : List Pw} {i : Nat} {p : Pw} (h : l[i]? = some p) : invP (l.take (i + 1)) = invP (l.take i) ++ [(p.1, IntKind.i64.wrap (0 - p.2))] := by
  rw [List.take_add_one, h]; simp [invP]
end Go.Pm
end

/-
  CHAPTER 6, PART 41: terms and products for runs by computation. Conditions: none.
-/
section
set_option linter.unusedVariables false
set_option linter.unusedSimpArgs false
set_option linter.unusedVariables false
set_option linter.unusedSimpArgs false
set_option maxRecDepth 4000
namespace Go.Pm
open Go.Proofs
def Tm.k : Tm → Int | .mk k _ _ _ => k
def Tm.s : Tm → ByteArray | .mk _ s _ _ => s
def Tm.o : Tm → Int | .mk _ _ o _ => o
def Tm.l : Tm → List Tm | .mk _ _ _ l => l
theorem enc_x (t : Tm) : enc t = .agg [.int .i64 t.k, .str t.s, .int .i64 t.o, .snap false (encs t.l)] := by cases t; exact enc_mk _ _ _ _
theorem encP_x (t : Tm) (n : Int) : encP (t, n) = .agg [.int .i64 t.k, .str t.s, .int .i64 t.o, .snap false (encs t.l), .int .i64 n] := by cases t; rfl
attribute [simp] isVals isVal nrms nrm isVals_encs nrms_encs isVal_enc nrm_enc nrms_encPs encPs_vals
@[simp] theorem fold_enc (t : Tm) : PV.agg [.int .i64 t.k, .str t.s, .int .i64 t.o, .snap false (encs t.l)] = enc t := (enc_x t).symm
@[simp] theorem fold_encP (t : Tm) (n : Int) : PV.agg [.int .i64 t.k, .str t.s, .int .i64 t.o, .snap false (encs t.l), .int .i64 n] = encP (t, n) := (encP_x t n).symm
theorem isVals_app (a b : List PV) : isVals (a ++ b) = (isVals a && isVals b) := by rw [isVals_eq, List.all_append, ← isVals_eq, ← isVals_eq]
attribute [simp] isVals_app
@[simp] theorem isVal_encP (p : Pw) : isVal (encP p) = true := by obtain ⟨t, n⟩ := p; rw [encP_x]; simp
@[simp] theorem nrm_encP (p : Pw) : nrm (encP p) = encP p := by obtain ⟨t, n⟩ := p; rw [encP_x]; simp [-fold_encP, -fold_enc]
@[simp] theorem encPs_nil : encPs [] = [] := rfl
@[simp] theorem encs_nil : encs [] = [] := by simp [encs]
@[simp] theorem encs_lenS (l : List Tm) : (encs l).length = l.length := encs_len l
@[simp] theorem encPs_lenS (l : List Pw) : (encPs l).length = l.length := encPs_len l
theorem at_encs {l p q : List Tm} {t : Tm} (e : l = p ++ t :: q) : (encs l)[p.length]? = some (.agg [.int .i64 t.k, .str t.s, .int .i64 t.o, .snap false (encs t.l)]) := by rw [encs_eq, e, ← enc_x]; simp
theorem at_encPs {l p q : List Pw} {t : Tm} {n : Int} (e : l = p ++ (t, n) :: q) : (encPs l)[p.length]? = some (.agg [.int .i64 t.k, .str t.s, .int .i64 t.o, .snap false (encs t.l), .int .i64 n]) := by rw [encPs, e, ← encP_x]; simp
theorem set_encPs (x q : List Pw) (p p' : Pw) : (encPs (x ++ p :: q)).set x.length (encP p') = encPs (x ++ p' :: q) := by simp [encPs]
attribute [local irreducible] thenQ blockQ loopQ bodyQ Ev EvOps CallEv FnEv EvD
end Go.Pm
end

/-
  CHAPTER 6, PART 30: the program's copied and Inverse. Conditions: none.
-/
section
set_option linter.unusedVariables false
set_option linter.unusedSimpArgs false
set_option linter.unusedVariables false
set_option linter.unusedSimpArgs false
set_option maxRecDepth 4000
set_option maxHeartbeats 8000000
namespace Go.Pm
open Go.Proofs
/-- the first i changed -/
def updL (g : Pw → Pw) (l : List Pw) (i : Nat) : List Pw := (l.take i).map g ++ l.drop i
theorem updL_zero (g : Pw → Pw) (l : List Pw) : updL g l 0 = l := by simp [updL]
theorem updL_all (g : Pw → Pw) (l : List Pw) {i : Nat} (h : l.length ≤ i) : updL g l i = l.map g := by
  rw [updL, List.take_of_length_le h, List.drop_eq_nil_of_le h, List.append_nil]
theorem updL_len (g : Pw → Pw) (l : List Pw) (i : Nat) : (updL g l i).length = l.length := by simp [updL]; omega
theorem updL_at {g : Pw → Pw} {l : List Pw} {i : Nat} {p : Pw} (h : l[i]? = some p) : (updL g l i)[i]? = some p := by
  have hi := lt_of_some h
  rw [updL, List.getElem?_append_right (by simp; omega), List.getElem?_drop]
  simp only [List.length_map, List.length_take]
  rw [← h]; congr 1; omega
theorem updL_set {g : Pw → Pw} {l : List Pw} {i : Nat} {p : Pw} (h : l[i]? = some p) : (updL g l i).set i (g p) = updL g l (i + 1) := by
  have hi := lt_of_some h
  have hd : l.drop i = p :: l.drop (i + 1) := by
    rw [List.drop_eq_getElem_cons hi]
    congr 1
    rw [List.getElem?_eq_getElem hi] at h
    exact Option.some.inj h
  have hl : ((l.take i).map g).length = i := by simp; omega
  rw [updL, updL, List.set_append_right _ _ (by omega), hl, Nat.sub_self, hd, List.set_cons_zero, List.take_add_one, h, List.map_append, List.append_assoc]
  rfl
theorem belowR_mref {N id ep off len : Nat} : belowR N (.mref id ep off len) = decide (id < N) := by
  simp [belowR, belowA, below1]
/-- an open call that makes a list anew -/
theorem CallEv.openedLP {C : Cfg} {f : FuncId} {sz : Nat} {args : List PV} {h : AHeap} {es : List PV} {Q : PV → AHeap → Prop} (hm : C.mode f = .opened) (a : FnEv C f args h (fun r k => LP h (.snap true []) sz es r k))
    (q : ∀ r K, HV K → Out sz K r es → h.length ≤ K.length → (∀ j, j < h.length → K[j]? = h[j]?) → (∀ j ep n, r = .mref j ep 0 n → h.length ≤ j) → Q r K) : CallEv C 2 f args h Q := by
  refine CallEv.openedV (N := h.length) hm rfl rfl rfl a ?_
  rintro r k lp
  have hl := lp.len
  have hfr : ∀ j, j < h.length → k[j]? = h[j]? := fun j hj => lp.fr j hj (fun ep n hh => by cases hh)
  have href : ∀ j ep n, r = .mref j ep 0 n → h.length ≤ j := fun j ep n hh => by
    rcases lp.ref j ep n hh with ⟨_, _, h1⟩ | h1
    · cases h1
    · exact h1
  refine ⟨lp.hv, fun hb => ?_, fun _ => q r k lp.hv lp.out hl hfr href⟩
  rcases lp.out with ⟨rfl, e0⟩ | ⟨id, ep, rfl, e1⟩
  · refine q _ _ (lp.hv.take _) (.inl ⟨rfl, e0⟩) (by simp; omega) (fun j hj => ?_) (fun j ep n hh => by cases hh)
    rw [List.getElem?_take, if_pos hj]
    exact hfr j hj
  · have := href id ep _ rfl
    rw [belowR_mref] at hb
    have := of_decide_eq_true hb
    omega
attribute [local irreducible] thenQ blockQ loopQ bodyQ Ev EvOps CallEv FnEv EvD
theorem copied_ev (l : List Pw) (hb : ∀ p ∈ l, bulk p.1 < 1000000000) (hl : l.length < 100000000) (H : AHeap) (hH : HV H) : FnEv C 56 [.snap false (encPs l)] H (fun r k => LP H (.snap true []) 5 (encPs l) r k) := by
  have hel := encPs_len l
  refine FnEv.bodyL Tryz.func56 rfl ?_
  (repeat' (first | refine EvOps.nil ?_ | (apply R.move; exact rfl) | (apply R.assign; exact rfl) | (apply R.lenS T6; exact rfl; exact rfl) | refine Ev.seq ?_ | refine Ev.region ?_ | refine Ev.block ?_ | refine thenQ.normal ?_ | fail))
  refine Ev.loop (I := fun k' st => ∃ (i : Nat) (v : PV) (K : AHeap) (ρ' : Nat → PV), st = ⟨al [(3, v), (6, .snap false (encPs l)), (7, .int .i64 (encPs l).length), (8, .int .i64 i)] ρ', K⟩ ∧ k' + i = l.length ∧ LP H (.snap true []) 5 (encPs (l.take i)) v K) l.length ?_ ?_
  · exact ⟨0, _, H, _, St.keep ⟨rfl, rfl, rfl, rfl, trivial⟩, rfl, .inl ⟨rfl, rfl⟩, hH, Nat.le_refl _, fun _ _ _ => rfl, fun j ep n hh => by cases hh⟩
  rintro k' _ ⟨i, v, K, ρ', rfl, hk, lp0⟩
  (repeat' (first | refine EvOps.nil ?_ | (apply R.move; exact rfl) | (apply R.assign; exact rfl) | (apply R.cmp; exact rfl; exact rfl; exact rfl; all_goals intro hc) | refine Ev.seq ?_ | refine Ev.region ?_ | (apply Ev.condB; exact rfl) | refine Ev.ret ?_ | refine Ev.skip ?_ | refine Ev.exit ?_ | refine Ev.block ?_ | refine thenQ.normal ?_ | refine thenQ.exit ?_ | refine blockQ.hit ?_ | refine loopQ.exit ?_ | (apply bodyQ.ret; exact rfl) | fail))
  · obtain ⟨k1, s1, o1, l1, n1, hmem, hat, hd, hil, hget⟩ := encPs_at hc
    have hcl := clone_fun _ (hb _ hmem)
    simp only at hcl
    rw [enc_mk] at hcl
    have hsn := take_snoc hget
    have hlx := encPs_len (l.take i)
    rw [List.length_take] at hlx
    clear hc
    refine R.indexS T6 rfl rfl rfl rfl hat rfl rfl ?_
    (repeat' (first | refine EvOps.nil ?_ | (apply R.loadA T6; exact rfl; exact rfl; exact rfl; exact rfl; exact (by repeat constructor)) | (apply R.allocN T6; exact rfl; exact rfl; exact rfl) | (apply R.storeN T6; exact rfl; exact rfl; exact rfl; exact rfl; exact rfl; exact rfl) | refine Ev.regionD ?_ | (apply D.move; exact rfl) | (apply D.fieldAddr T6; exact rfl; exact rfl; exact rfl; exact rfl) | refine thenQ.normal ?_ | fail))
    obtain ⟨H1, hH1⟩ : ∃ x, x = K ++ [⟨.m, 0, 5, [.agg [.int .i64 k1, .str s1, .int .i64 o1, .snap false (encs l1), .int .i64 n1]]⟩] := ⟨_, rfl⟩
    have v1 : HV H1 := by rw [hH1]; exact lp0.hv.app (HV.one rfl)
    have b1 : H1[K.length]? = some ⟨.m, 0, 5, [.agg [.int .i64 k1, .str s1, .int .i64 o1, .snap false (encs l1), .int .i64 n1]]⟩ := by rw [hH1]; simp
    have o1' : Out 5 H1 v (encPs (l.take i)) := by rw [hH1]; exact lp0.out.app _
    refine EvD.heap hH1.symm ?_
    have v1c := v1.closed
    have hvis : visible H1 K.length = true := v1.vis (by rw [hH1]; simp)
    (repeat' (first | (apply D.loadAH T6; exact (by assumption); exact rfl; exact rfl; exact rfl; exact (by assumption); exact (by repeat constructor)) | fail))
    refine D.callP v1c rfl rfl rfl rfl rfl rfl (by simpa [nrms, nrm, nrms_encs] using hcl) ?_
    (repeat' (first | (apply D.build T6; exact rfl; exact rfl; exact rfl; exact rfl; exact rfl; exact rfl) | (apply D.fieldAddr T6; exact rfl; exact rfl; exact rfl; exact rfl) | (apply D.load1H T6; exact (by assumption); exact rfl; exact rfl; exact rfl; exact (by assumption); exact rfl) | fail))
    refine D.buildSlice T6 v1c rfl rfl rfl rfl rfl (by decide) rfl rfl rfl rfl rfl ?_
    refine D.appendLP T6 rfl rfl rfl rfl rfl rfl rfl rfl (by decide) rfl rfl rfl rfl o1' (by show _ + 1 < _; omega) (by rw [isVals_eq, List.all_append, ← isVals_eq, encPs_vals]; rfl) v1 ?_
    intro v3 H3 lp
    have lp : LP H1 v 5 (encPs (l.take i) ++ [encP (.mk k1 s1 o1 l1, n1)]) v3 H3 := lp
    rw [encPs_snoc, ← hsn, hH1] at lp
    have lp2 := lp0.trans lp
    (repeat' (first | refine EvOps.nil ?_ | (apply R.move; exact rfl) | (apply R.arith; exact rfl; exact rfl; exact rfl; exact (wrapI (by omega) (by omega))) | refine Ev.region ?_ | refine EvD.nil ?_ | (apply D.assign; exact rfl) | refine thenQ.normal ?_ | refine blockQ.normal ?_ | refine loopQ.normal ?_ | fail))
    exact ⟨k' - 1, by omega, i + 1, v3, H3, _, St.keep ⟨rfl, rfl, rfl, rfl, trivial⟩, by omega, lp2⟩
  · have tk : l.take i = l := List.take_of_length_le (by omega)
    rw [tk] at lp0
    exact lp0
end Go.Pm
end

/-
  CHAPTER 6, PLAIN LAW 5: products multiplied, raised. Conditions: none.
-/
section
set_option linter.unusedVariables false
set_option linter.unusedSimpArgs false
set_option linter.unusedVariables false
namespace Go.Pm
theorem snocInd {α : Type} {P : List α → Prop} (h0 : P []) (h1 : ∀ p x, P p → P (p ++ [x])) (l : List α) : P l := by
  have : ∀ r : List α, P r.reverse := fun r => by
    induction r with
    | nil => exact h0
    | cons x r ih => rw [List.reverse_cons]; exact h1 _ _ ih
  simpa using this l.reverse
def inR (l : List Pw) : Bool := l.any fun p => decide (p.2 < -1000 ∨ 1000 < p.2)
def resP (l : List Pw) : List Pw × Int := if inR l = true then ([], 7) else if 200 < l.length then ([], 3) else (l, 0)
def mulP (a b : List Pw) : List Pw := b.foldl (fun acc p => insP p.1 p.2 acc) a
def mulT (a b : List Pw) : List Pw × Int := if validP a ≠ 0 then ([], validP a) else if validP b ≠ 0 then ([], validP b) else resP (mulP a b)
def tmsP (a : List Pw) (n : Int) : List Pw := if n = 0 then [] else a.map fun p => (p.1, n * p.2)
def timesT (a : List Pw) (n : Int) : List Pw × Int := if validP a ≠ 0 then ([], validP a) else if n < -1000 ∨ 1000 < n then ([], 7) else resP (tmsP a n)
theorem insP_bdN {B M : Int} {t : Tm} {n : Int} (h1 : -M ≤ n) (h2 : n ≤ M) (hM : 0 ≤ M) (hB : 0 ≤ B) : ∀ {l : List Pw}, Bd B l → Bd (B + M) (insP t n l)
  | [], _ => by intro p hp; simp [insP] at hp; subst hp; simp only; omega
  | q :: l, h => by
    have hl : Bd B l := fun r hr => h r (by simp [hr])
    have hl1 : Bd (B + M) l := fun r hr => by have := hl r hr; omega
    have hq := h q (by simp)
    rw [insP]
    split
    · intro p hp
      rcases List.mem_cons.1 hp with rfl | hp
      · omega
      · exact insP_bdN h1 h2 hM hB hl p hp
    · split
      · split
        · exact hl1
        · intro p hp
          rcases List.mem_cons.1 hp with rfl | hp
          · simp only; omega
          · exact hl1 p hp
      · intro p hp
        rcases List.mem_cons.1 hp with rfl | hp
        · simp only; omega
        · have := h p hp; omega
/-- what holds of a product while it is multiplied -/
structure MI (a : List Pw) (k : Nat) : Prop where
  srt : Srt a
  nz : Nz a
  bd : Bd (1000 + 1000 * (k : Int)) a
  len : a.length ≤ 200 + k
theorem MI.of {a : List Pw} (h : validP a = 0) : MI a 0 := by
  obtain ⟨h1, h2, h3, h4, h5⟩ := validP_zero h
  exact ⟨h5, h4, fun p hp => by have := h2 p hp; omega, by omega⟩
theorem MI.ins {a : List Pw} {k : Nat} (m : MI a k) {t : Tm} {n : Int} (h0 : n ≠ 0) (h1 : -1000 ≤ n) (h2 : n ≤ 1000) : MI (insP t n a) (k + 1) :=
  ⟨insP_srt m.srt, insP_nz h0 m.nz, fun p hp => by have := insP_bdN h1 h2 (by omega) (by omega) m.bd p hp; omega, by have := insP_len (t := t) (n := n) a; have := m.len; omega⟩
theorem mulP_snoc (a p : List Pw) (x : Pw) : mulP a (p ++ [x]) = insP x.1 x.2 (mulP a p) := by simp [mulP]
theorem MI.mul {a : List Pw} (ha : validP a = 0) : ∀ {p b : List Pw}, validP b = 0 → (∀ x ∈ p, x ∈ b) → MI (mulP a p) p.length := by
  intro p b hb hp
  induction p using snocInd with
  | h0 => exact MI.of ha
  | h1 p x ih =>
    obtain ⟨h1, h2, h3, h4, h5⟩ := validP_zero hb
    have hx := hp x (by simp)
    rw [mulP_snoc, List.length_append]
    exact (ih (fun y hy => hp y (by simp [hy]))).ins (h4 x hx) (h2 x hx).1 (h2 x hx).2
theorem insP_bulk {t : Tm} {n : Int} {B : Nat} (ht : bulk t < B) {l : List Pw} (hl : ∀ p ∈ l, bulk p.1 < B) : ∀ p ∈ insP t n l, bulk p.1 < B := fun p hp => by
  rcases insP_mem hp with h | ⟨q, hq, h⟩
  · rw [h]; exact ht
  · rw [← h]; exact hl q hq
theorem mulP_bulk {B : Nat} {a b : List Pw} (ha : ∀ p ∈ a, bulk p.1 < B) (hb : ∀ p ∈ b, bulk p.1 < B) : ∀ p ∈ mulP a b, bulk p.1 < B := by
  induction b using snocInd with
  | h0 => exact ha
  | h1 p x ih => rw [mulP_snoc]; exact insP_bulk (hb x (by simp)) (ih fun y hy => hb y (by simp [hy]))
theorem mulP_add {a p b : List Pw} (ha : validP a = 0) (hb : validP b = 0) (hp : ∀ x ∈ p, x ∈ b) {t : Tm} {n : Int} : addP t n false (mulP a p) = insP t n (mulP a p) :=
  addP_ins _ _ _ (MI.mul ha hb hp).srt (MI.mul ha hb hp).nz
theorem pw_mul (a b : List Pw) (u : Tm) : pw (mulP a b) u = pw a u + pw b u := by
  induction b using snocInd with
  | h0 => simp [mulP, pw]
  | h1 p x ih =>
    have pa : ∀ l : List Pw, pw (l ++ [x]) u = pw l u + if cmpT x.1 u = 0 then x.2 else 0 := fun l => by
      induction l with
      | nil => simp [pw]
      | cons y l ih => rw [List.cons_append, pw, pw, ih]; omega
    rw [mulP_snoc, pw_ins, ih, pa]; omega
end Go.Pm
end

/-
  CHAPTER 6, PART 42: the program's result, Mul, Times. Conditions: none.
-/
section
set_option linter.unusedVariables false
set_option linter.unusedSimpArgs false
set_option linter.unusedVariables false
set_option linter.unusedSimpArgs false
set_option maxRecDepth 4000
namespace Go.Pm
open Go.Proofs
def idxI {α : Type} (p : α → Bool) (l : List α) : Int := match l.findIdx? p with | some i => i | none => -1
theorem idxI_at {α : Type} {p : α → Bool} {a q : List α} {x : α} (h : ∀ y ∈ a, p y = false) (hx : p x = true) : idxI p (a ++ x :: q) = a.length := by
  unfold idxI
  rw [List.findIdx?_append, List.findIdx?_eq_none_iff.2 h]
  simp [List.findIdx?_cons, hx]
theorem idxI_none {α : Type} {p : α → Bool} {a : List α} (h : ∀ y ∈ a, p y = false) : idxI p a = -1 := by
  unfold idxI
  rw [List.findIdx?_eq_none_iff.2 h]
theorem idxI_any {α : Type} (p : α → Bool) (l : List α) : decide (0 ≤ idxI p l) = l.any p := by
  unfold idxI
  cases h : l.findIdx? p with
  | none =>
    rw [List.findIdx?_eq_none_iff] at h
    have : l.any p = false := by rw [List.any_eq_false]; intro x hx; simp [h x hx]
    rw [this]; rfl
  | some i =>
    obtain ⟨h1, h2, _⟩ := List.findIdx?_eq_some_iff_getElem.1 h
    have : l.any p = true := List.any_eq_true.2 ⟨_, List.getElem_mem h1, h2⟩
    rw [this]; simp
attribute [local irreducible] thenQ blockQ loopQ bodyQ Ev EvOps CallEv FnEv EvD
theorem res1_fun (p : Pw) : Fun C 94 [encP p] (.bool (decide (p.2 < -1000 ∨ 1000 < p.2))) := by
  obtain ⟨t, n⟩ := p
  rw [encP_x]
  refine Fun.x T6 Tryz.func94 rfl ?_
  (repeat' (first | (refine Rn.go ?_; conv => whnf) | refine .mk ?_ | refine .tt ?_ | refine .ff ?_ | refine .m2 ?_ | refine .m3 ?_ | refine .mk (fun hc => ?_) (fun hc => ?_) | refine .lp (fun v H lp => ?_) | fail))
  all_goals exact ⟨_, rfl, by simp [tupOf, *]⟩
theorem idxP_fun (l : List Pw) (g : FuncId) (cs : List PV) (p : Pw → Bool) (hl : l.length < 1000000000) (hm : C.mode g = .pure) (hc : isVals cs = true) (hcn : nrms cs = cs) (hp : ∀ x ∈ l, Fun C g (encP x :: cs) (.bool (p x))) :
    Fun C 115 [.snap false (encPs l), .fn g cs] (.int .i64 (idxI p l)) := by
  have hel := encPs_len l
  refine Fun.x T6 Tryz.func115 rfl ?_
  (repeat' (first | (refine Rn.go ?_; conv => whnf) | refine .mk ?_ | refine .tt ?_ | refine .ff ?_ | refine .m2 ?_ | refine .m3 ?_ | refine .mk (fun hc => ?_) (fun hc => ?_) | refine .lp (fun v H lp => ?_) | fail))
  refine LpX.zip T6 l (fun a q L H => L = [(0, .snap false (encPs l)), (1, .fn g cs), (7, .int .i64 (encPs l).length), (8, .int .i64 a.length)] ∧ ∀ y ∈ a, p y = false) (.nx ⟨rfl, by simp⟩) ?_ ?_
  · rintro a ⟨t, n⟩ q _ h ρ e ⟨rfl, ha⟩
    have hat := at_encPs e
    have hl2 := congrArg List.length e
    simp only [List.length_append, List.length_cons] at hl2
    have hpx := hp (t, n) (by rw [e]; simp)
    (repeat' (first | (refine Rn.go ?_; conv => whnf) | refine .mk ?_ | refine .tt ?_ | refine .ff ?_ | refine .m2 ?_ | refine .m3 ?_ | refine .mk (fun hc => ?_) (fun hc => ?_) | refine .lp (fun v H lp => ?_) | fail))
    refine .p hpx ?_ hm (by simp [hc]) (by simp [hcn])
    cases hb : p (t, n)
    · (repeat' (first | (refine Rn.go ?_; conv => whnf) | refine .mk ?_ | refine .tt ?_ | refine .ff ?_ | refine .m2 ?_ | refine .m3 ?_ | refine .mk (fun hc => ?_) (fun hc => ?_) | refine .lp (fun v H lp => ?_) | fail))
      exact .nx ⟨rfl, fun y hy => by rcases List.mem_append.1 hy with h | h; exact ha y h; simp at h; rw [h]; exact hb⟩
    · (repeat' (first | (refine Rn.go ?_; conv => whnf) | refine .mk ?_ | refine .tt ?_ | refine .ff ?_ | refine .m2 ?_ | refine .m3 ?_ | refine .mk (fun hc => ?_) (fun hc => ?_) | refine .lp (fun v H lp => ?_) | fail))
      exact ⟨_, rfl, by rw [e, idxI_at ha hb]; rfl⟩
  · rintro _ h ρ ⟨rfl, ha⟩
    (repeat' (first | (refine Rn.go ?_; conv => whnf) | refine .mk ?_ | refine .tt ?_ | refine .ff ?_ | refine .m2 ?_ | refine .m3 ?_ | refine .mk (fun hc => ?_) (fun hc => ?_) | refine .lp (fun v H lp => ?_) | fail))
    exact ⟨_, rfl, by rw [idxI_none ha]; rfl⟩
theorem cntP_fun (l : List Pw) (g : FuncId) (cs : List PV) (p : Pw → Bool) (hl : l.length < 1000000000) (hm : C.mode g = .pure) (hc : isVals cs = true) (hcn : nrms cs = cs) (hp : ∀ x ∈ l, Fun C g (encP x :: cs) (.bool (p x))) :
    Fun C 93 [.snap false (encPs l), .fn g cs] (.bool (l.any p)) := by
  have hi := idxP_fun l g cs p hl hm hc hcn hp
  have ha := idxI_any p l
  refine Fun.x T6 Tryz.func93 rfl ?_
  (repeat' (first | (refine Rn.go ?_; conv => whnf) | refine .mk ?_ | refine .tt ?_ | refine .ff ?_ | refine .m2 ?_ | refine .m3 ?_ | refine .mk (fun hc => ?_) (fun hc => ?_) | refine .lp (fun v H lp => ?_) | fail))
  refine .p hi ?_ rfl (by simp [hc]) (by simp [hcn])
  (repeat' (first | (refine Rn.go ?_; conv => whnf) | refine .mk ?_ | refine .tt ?_ | refine .ff ?_ | refine .m2 ?_ | refine .m3 ?_ | refine .mk (fun hc => ?_) (fun hc => ?_) | refine .lp (fun v H lp => ?_) | fail))
  all_goals exact ⟨_, rfl, by rw [← ha]; simp [tupOf, *]⟩
theorem result_fun (l : List Pw) (hl : l.length < 1000000000) : Fun C 58 [.snap false (encPs l)] (.tup [.snap false (encPs (resP l).1), .int .i64 (resP l).2]) := by
  have hel := encPs_len l
  have hc := cntP_fun l 94 [] (fun p => decide (p.2 < -1000 ∨ 1000 < p.2)) hl rfl rfl rfl (fun x _ => res1_fun x)
  have hr : resP l = if inR l = true then ([], 7) else if 200 < l.length then ([], 3) else (l, 0) := rfl
  rw [show (l.any fun p => decide (p.2 < -1000 ∨ 1000 < p.2)) = inR l from rfl] at hc
  refine Fun.x T6 Tryz.func58 rfl ?_
  (repeat' (first | (refine Rn.go ?_; conv => whnf) | refine .mk ?_ | refine .tt ?_ | refine .ff ?_ | refine .m2 ?_ | refine .m3 ?_ | refine .mk (fun hc => ?_) (fun hc => ?_) | refine .lp (fun v H lp => ?_) | fail))
  refine .p hc ?_
  cases hb : inR l <;> rw [hb] at hr
  · (repeat' (first | (refine Rn.go ?_; conv => whnf) | refine .mk ?_ | refine .tt ?_ | refine .ff ?_ | refine .m2 ?_ | refine .m3 ?_ | refine .mk (fun hc => ?_) (fun hc => ?_) | refine .lp (fun v H lp => ?_) | fail))
    · exact ⟨_, rfl, by rw [hr, if_neg (by simp), if_pos (by omega)]; rfl⟩
    · exact ⟨_, rfl, by rw [hr, if_neg (by simp), if_neg (by omega)]; simp [tupOf]⟩
  · (repeat' (first | (refine Rn.go ?_; conv => whnf) | refine .mk ?_ | refine .tt ?_ | refine .ff ?_ | refine .m2 ?_ | refine .m3 ?_ | refine .mk (fun hc => ?_) (fun hc => ?_) | refine .lp (fun v H lp => ?_) | fail))
    exact ⟨_, rfl, by rw [hr, if_pos rfl]; rfl⟩
theorem pmul_fun (a b : List Pw) (ha : ∀ p ∈ a, bulk p.1 < 10000000) (hb : ∀ p ∈ b, bulk p.1 < 10000000) (la : a.length < 10000000) (lb : b.length < 10000000) :
    Fun C 15 [.snap false (encPs a), .snap false (encPs b)] (.tup [.snap false (encPs (mulT a b).1), .int .i64 (mulT a b).2]) := by
  have hva := pvalid_fun a (fun p hp => by have := ha p hp; omega) (by omega)
  have hvb := pvalid_fun b (fun p hp => by have := hb p hp; omega) (by omega)
  have hcp := fun H hH => copied_ev a (fun p hp => by have := ha p hp; omega) (by omega) H hH
  have r1 : validP a ≠ 0 → mulT a b = ([], validP a) := fun h => by rw [mulT, if_pos h]
  have r2 : validP a = 0 → validP b ≠ 0 → mulT a b = ([], validP b) := fun h h2 => by rw [mulT, if_neg (by omega), if_pos h2]
  have r3 : validP a = 0 → validP b = 0 → mulT a b = resP (mulP a b) := fun h h2 => by rw [mulT, if_neg (by omega), if_neg (by omega)]
  have hel := encPs_len b
  generalize mulT a b = R at *
  refine Fun.x T6 Tryz.func15 rfl ?_
  (repeat' (first | (refine Rn.go ?_; conv => whnf) | refine .mk ?_ | refine .tt ?_ | refine .ff ?_ | refine .m2 ?_ | refine .m3 ?_ | refine .mk (fun hc => ?_) (fun hc => ?_) | refine .lp (fun v H lp => ?_) | fail))
  refine .p hva ?_
  (repeat' (first | (refine Rn.go ?_; conv => whnf) | refine .mk ?_ | refine .tt ?_ | refine .ff ?_ | refine .m2 ?_ | refine .m3 ?_ | refine .mk (fun hc => ?_) (fun hc => ?_) | refine .lp (fun v H lp => ?_) | fail))
  rotate_left
  · exact ⟨_, rfl, by rw [r1 hc]; rfl⟩
  have va := hc
  clear hc
  refine .p hvb ?_
  (repeat' (first | (refine Rn.go ?_; conv => whnf) | refine .mk ?_ | refine .tt ?_ | refine .ff ?_ | refine .m2 ?_ | refine .m3 ?_ | refine .mk (fun hc => ?_) (fun hc => ?_) | refine .lp (fun v H lp => ?_) | fail))
  rotate_left
  · exact ⟨_, rfl, by rw [r2 va hc]; rfl⟩
  have vb := hc
  clear hc
  have r3 := r3 va vb
  clear r1 r2 hva hvb
  refine .lp (hcp _ HV.nil) (fun v H lp => ?_)
  (repeat' (first | (refine Rn.go ?_; conv => whnf) | refine .mk ?_ | refine .tt ?_ | refine .ff ?_ | refine .m2 ?_ | refine .m3 ?_ | refine .mk (fun hc => ?_) (fun hc => ?_) | refine .lp (fun v H lp => ?_) | fail))
  refine LpX.zip T6 b (fun p q L H => ∃ v, L = [(8, v), (23, .snap false (encPs b)), (24, .int .i64 (encPs b).length), (25, .int .i64 p.length)] ∧ HV H ∧ Out 5 H v (encPs (mulP a p))) (.nx ⟨_, rfl, lp.hv, lp.out⟩) ?_ ?_
  · rintro p ⟨t, n⟩ q _ h ρ e ⟨v, rfl, hH, ho⟩
    have hat := at_encPs e
    have hl2 := congrArg List.length e
    simp only [List.length_append, List.length_cons] at hl2
    have mi := MI.mul va vb (fun x hx => by rw [e]; exact List.mem_append.2 (.inl hx) : ∀ x ∈ p, x ∈ b)
    have hbt := hb (t, n) (by rw [e]; simp)
    have lb2 := (validP_zero vb).1
    have hins := insert_ev (mulP a p) t n (h ++ [⟨.m, 0, 5, [encP (t, n)]⟩]) v (hH.app (HV.one (by simp))) (ho.app _) mi.srt ⟨mulP_bulk (fun x hx => by have := ha x hx; omega) (fun x hx => by have := hb x (by rw [e]; exact List.mem_append.2 (.inl hx)); omega), by have := mi.len; omega⟩ (by simp only at hbt; omega) (fun x hx => by have := mi.bd x hx; omega) (by have := (validP_zero vb).2.1 (t, n) (by rw [e]; simp); simp only at this; omega)
    rw [encP_x] at hins
    (repeat' (first | (refine Rn.go ?_; conv => whnf) | refine .mk ?_ | refine .tt ?_ | refine .ff ?_ | refine .m2 ?_ | refine .m3 ?_ | refine .mk (fun hc => ?_) (fun hc => ?_) | refine .lp (fun v H lp => ?_) | fail))
    refine .lp hins (fun v' H' lp' => ?_)
    (repeat' (first | (refine Rn.go ?_; conv => whnf) | refine .mk ?_ | refine .tt ?_ | refine .ff ?_ | refine .m2 ?_ | refine .m3 ?_ | refine .mk (fun hc => ?_) (fun hc => ?_) | refine .lp (fun v H lp => ?_) | fail))
    exact .nx ⟨_, rfl, lp'.hv, by rw [mulP_snoc]; exact lp'.out⟩
  · rintro _ h ρ ⟨v, rfl, hH, ho⟩
    have mi := MI.mul va vb (fun x hx => hx : ∀ x ∈ b, x ∈ b)
    have hres := result_fun (mulP a b) (by have := mi.len; omega)
    rw [← r3] at hres
    (repeat' (first | (refine Rn.go ?_; conv => whnf) | refine .mk ?_ | refine .tt ?_ | refine .ff ?_ | refine .m2 ?_ | refine .m3 ?_ | refine .mk (fun hc => ?_) (fun hc => ?_) | refine .lp (fun v H lp => ?_) | fail))
    refine .po ho hres (fun _ _ => ?_)
    (repeat' (first | (refine Rn.go ?_; conv => whnf) | refine .mk ?_ | refine .tt ?_ | refine .ff ?_ | refine .m2 ?_ | refine .m3 ?_ | refine .mk (fun hc => ?_) (fun hc => ?_) | refine .lp (fun v H lp => ?_) | fail))
    exact ⟨_, rfl, by simp [tupOf]⟩
theorem mul_bd {n m B D : Int} (h1 : -B ≤ n) (h2 : n ≤ B) (h3 : -D ≤ m) (h4 : m ≤ D) : -(B * D) ≤ n * m ∧ n * m ≤ B * D := by
  have h : (n * m).natAbs ≤ (B * D).natAbs := by
    rw [Int.natAbs_mul, Int.natAbs_mul]
    exact Nat.mul_le_mul (by omega) (by omega)
  have hp : 0 ≤ B * D := Int.mul_nonneg (by omega) (by omega)
  omega
theorem ptimes_fun (a : List Pw) (m : Int) (ha : ∀ p ∈ a, bulk p.1 < 10000000) (la : a.length < 10000000) :
    Fun C 17 [.snap false (encPs a), .int .i64 m] (.tup [.snap false (encPs (timesT a m).1), .int .i64 (timesT a m).2]) := by
  have hva := pvalid_fun a (fun p hp => by have := ha p hp; omega) (by omega)
  have hcp := fun H hH => copied_ev a (fun p hp => by have := ha p hp; omega) (by omega) H hH
  have r1 : validP a ≠ 0 → timesT a m = ([], validP a) := fun h => by rw [timesT, if_pos h]
  have r2 : validP a = 0 → (m < -1000 ∨ 1000 < m) → timesT a m = ([], 7) := fun h h2 => by rw [timesT, if_neg (by omega), if_pos h2]
  have r3 : validP a = 0 → ¬ (m < -1000 ∨ 1000 < m) → timesT a m = resP (tmsP a m) := fun h h2 => by rw [timesT, if_neg (by omega), if_neg (by omega)]
  have hres := result_fun (tmsP a m) (by unfold tmsP; split <;> simp; omega)
  have hel := encPs_len a
  have ht : m = 0 → tmsP a m = [] := fun h => by rw [tmsP, if_pos h]
  have ht' : m ≠ 0 → tmsP a m = a.map fun p => (p.1, m * p.2) := fun h => by rw [tmsP, if_neg h]
  generalize timesT a m = R at *
  refine Fun.x T6 Tryz.func17 rfl ?_
  (repeat' (first | (refine Rn.go ?_; conv => whnf) | refine .mk ?_ | refine .tt ?_ | refine .ff ?_ | refine .m2 ?_ | refine .m3 ?_ | refine .mk (fun hc => ?_) (fun hc => ?_) | refine .lp (fun v H lp => ?_) | fail))
  refine .p hva ?_
  (repeat' (first | (refine Rn.go ?_; conv => whnf) | refine .mk ?_ | refine .tt ?_ | refine .ff ?_ | refine .m2 ?_ | refine .m3 ?_ | refine .mk (fun hc => ?_) (fun hc => ?_) | refine .lp (fun v H lp => ?_) | fail))
  rotate_left 4
  · exact ⟨_, rfl, by rw [r1 hc]; rfl⟩
  · exact ⟨_, rfl, by rw [r2 (by assumption) (by omega)]; rfl⟩
  · exact ⟨_, rfl, by rw [r2 (by assumption) (by omega)]; rfl⟩
  · exact ⟨_, rfl, by rw [r3 (by assumption) (by omega), ht hc]; rfl⟩
  have va : validP a = 0 := by assumption
  have hb := (validP_zero va).2.1
  refine .lp (hcp _ HV.nil) (fun v H lp => ?_)
  rw [← r3 va (by omega)] at hres
  have ht' := ht' hc
  rcases lp.out with ⟨rfl, e0⟩ | ⟨id, ep, rfl, e1⟩
  · obtain rfl : a = [] := List.eq_nil_of_length_eq_zero (by rw [← hel, e0]; rfl)
    (repeat' (first | (refine Rn.go ?_; conv => whnf) | refine .mk ?_ | refine .tt ?_ | refine .ff ?_ | refine .m2 ?_ | refine .m3 ?_ | refine .mk (fun hc => ?_) (fun hc => ?_) | refine .lp (fun v H lp => ?_) | fail))
    refine LpX.zip T6 ([] : List Pw) (fun p q L H => L = [(7, .snap true []), (25, .int .i64 0), (26, .int .i64 0)]) (.nx rfl) (fun p x q _ _ _ e => by simp at e) ?_
    rintro _ h ρ rfl
    (repeat' (first | (refine Rn.go ?_; conv => whnf) | refine .mk ?_ | refine .tt ?_ | refine .ff ?_ | refine .m2 ?_ | refine .m3 ?_ | refine .mk (fun hc => ?_) (fun hc => ?_) | refine .lp (fun v H lp => ?_) | fail))
    rw [ht'] at hres
    refine .p hres ?_
    (repeat' (first | (refine Rn.go ?_; conv => whnf) | refine .mk ?_ | refine .tt ?_ | refine .ff ?_ | refine .m2 ?_ | refine .m3 ?_ | refine .mk (fun hc => ?_) (fun hc => ?_) | refine .lp (fun v H lp => ?_) | fail))
    exact ⟨_, rfl, by simp [tupOf]⟩
  · have hV := lp.hv
    clear lp
    (repeat' (first | (refine Rn.go ?_; conv => whnf) | refine .mk ?_ | refine .tt ?_ | refine .ff ?_ | refine .m2 ?_ | refine .m3 ?_ | refine .mk (fun hc => ?_) (fun hc => ?_) | refine .lp (fun v H lp => ?_) | fail))
    refine LpX.zip T6 a (fun p q L H => L = [(1, .int .i64 m), (7, .mref id ep 0 (encPs a).length), (25, .int .i64 (encPs a).length), (26, .int .i64 p.length)] ∧ HV H ∧ H[id]? = some ⟨.m, ep, 5, encPs ((p.map fun p => (p.1, m * p.2)) ++ q)⟩) (.nx ⟨rfl, hV, e1⟩) ?_ ?_
    · rintro p ⟨t, n⟩ q _ h ρ e ⟨rfl, hH, e1⟩
      have hl2 := congrArg List.length e
      simp only [List.length_append, List.length_cons] at hl2
      have hle : (encPs ((p.map fun p => (p.1, m * p.2)) ++ (t, n) :: q)).length = a.length := by rw [encPs_len, e]; simp
      have hat : (encPs ((p.map fun p => (p.1, m * p.2)) ++ (t, n) :: q))[0 + p.length]? = some (.agg [.int .i64 t.k, .str t.s, .int .i64 t.o, .snap false (encs t.l), .int .i64 n]) := by
        have := at_encPs (l := (p.map fun p => (p.1, m * p.2)) ++ (t, n) :: q) rfl
        rw [List.length_map] at this
        rw [Nat.zero_add]; exact this
      have hn := hb (t, n) (by rw [e]; simp)
      have hnm := mul_bd hn.1 hn.2 (show -1000 ≤ m by omega) (show m ≤ 1000 by omega)
      dsimp only at hn hnm
      (repeat' (first | (refine Rn.go ?_; conv => whnf) | refine .mk ?_ | refine .tt ?_ | refine .ff ?_ | refine .m2 ?_ | refine .m3 ?_ | refine .mk (fun hc => ?_) (fun hc => ?_) | refine .lp (fun v H lp => ?_) | fail))
      have hs := set_encPs (p.map fun p => (p.1, m * p.2)) q (t, n) (t, n * m)
      rw [List.length_map, encP_x] at hs
      rw [Nat.zero_add, hs]
      exact .nx ⟨rfl, hH.set id (by simp) (by simp), by rw [List.getElem?_set_self (lt_of_some e1)]; simp [Int.mul_comm]⟩
    · rintro _ h ρ ⟨rfl, hH, e1⟩
      rw [List.append_nil, ← ht'] at e1
      have ho : Out 5 h (.mref id ep 0 (encPs a).length) (encPs (tmsP a m)) := .inr ⟨id, ep, by rw [encPs_len, encPs_len, ht', List.length_map], e1⟩
      (repeat' (first | (refine Rn.go ?_; conv => whnf) | refine .mk ?_ | refine .tt ?_ | refine .ff ?_ | refine .m2 ?_ | refine .m3 ?_ | refine .mk (fun hc => ?_) (fun hc => ?_) | refine .lp (fun v H lp => ?_) | fail))
      refine .po ho hres (fun _ _ => ?_)
      (repeat' (first | (refine Rn.go ?_; conv => whnf) | refine .mk ?_ | refine .tt ?_ | refine .ff ?_ | refine .m2 ?_ | refine .m3 ?_ | refine .mk (fun hc => ?_) (fun hc => ?_) | refine .lp (fun v H lp => ?_) | fail))
      exact ⟨_, rfl, by simp [tupOf]⟩
end Go.Pm
end

/-
  CHAPTER 6, PART 46: the reference's inRange, Mul, Times. Conditions: none.
-/
section
set_option linter.unusedVariables false
set_option linter.unusedSimpArgs false
set_option linter.unusedVariables false
set_option linter.unusedSimpArgs false
set_option maxRecDepth 4000
namespace Go.Pm
open Go.Proofs
@[simp] theorem esOk_encPs (l : List Pw) : esOk (4 + 1) (encPs l) := by
  unfold esOk encPs
  rw [List.all_map, List.all_eq_true]
  rintro ⟨t, n⟩ _
  simp only [Function.comp, encP_x]
  rfl
def inE (l : List Pw) : Int := if inR l = true then 7 else if 200 < l.length then 3 else 0
theorem resP_inE (l : List Pw) : resP l = if inE l ≠ 0 then ([], inE l) else (l, 0) := by
  unfold resP inE
  split
  · rfl
  · split <;> rfl
theorem inR_at {p q : List Pw} {x : Pw} (h : x.2 < -1000 ∨ 1000 < x.2) : inR (p ++ x :: q) = true := by
  unfold inR
  rw [List.any_eq_true]
  exact ⟨x, by simp, by simpa using h⟩
theorem inR_none {l : List Pw} (h : ∀ x ∈ l, ¬ (x.2 < -1000 ∨ 1000 < x.2)) : inR l = false := by
  unfold inR
  rw [List.any_eq_false]
  intro x hx
  simpa using h x hx
attribute [local irreducible] thenQ blockQ loopQ bodyQ Ev EvOps CallEv FnEv EvD
theorem inRange_fun (l : List Pw) (hl : l.length < 1000000000) : Fun C 60 [.snap false (encPs l)] (.int .i64 (inE l)) := by
  have hel := encPs_len l
  refine Fun.x T6 Tryz.func60 rfl ?_
  (repeat' (first | (refine Rn.go ?_; conv => whnf) | refine .mk ?_ | refine .tt ?_ | refine .ff ?_ | refine .m2 ?_ | refine .m3 ?_ | refine .mk (fun hc => ?_) (fun hc => ?_) | refine .lp (fun v H lp => ?_) | fail))
  refine LpX.zip T6 l (fun p q L H => L = [(0, .snap false (encPs l)), (3, .int .i64 p.length)] ∧ ∀ x ∈ p, ¬ (x.2 < -1000 ∨ 1000 < x.2)) (.nx ⟨rfl, by simp⟩) ?_ ?_
  · rintro p ⟨t, n⟩ q _ h ρ e ⟨rfl, hp⟩
    have hat := at_encPs e
    have hl2 := congrArg List.length e
    simp only [List.length_append, List.length_cons] at hl2
    (repeat' (first | (refine Rn.go ?_; conv => whnf) | refine .mk ?_ | refine .tt ?_ | refine .ff ?_ | refine .m2 ?_ | refine .m3 ?_ | refine .mk (fun hc => ?_) (fun hc => ?_) | refine .lp (fun v H lp => ?_) | fail))
    · exact ⟨_, rfl, by rw [inE, e, inR_at (.inl hc)]; rfl⟩
    · exact ⟨_, rfl, by rw [inE, e, inR_at (.inr hc)]; rfl⟩
    · exact .nx ⟨rfl, fun x hx => by rcases List.mem_append.1 hx with h | h; exact hp x h; simp at h; subst h; simp only; omega⟩
  · rintro _ h ρ ⟨rfl, hp⟩
    have h1 := inR_none hp
    (repeat' (first | (refine Rn.go ?_; conv => whnf) | refine .mk ?_ | refine .tt ?_ | refine .ff ?_ | refine .m2 ?_ | refine .m3 ?_ | refine .mk (fun hc => ?_) (fun hc => ?_) | refine .lp (fun v H lp => ?_) | fail))
    · exact ⟨_, rfl, by rw [inE, h1, if_neg (by simp), if_pos (by omega)]; rfl⟩
    · exact ⟨_, rfl, by rw [inE, h1, if_neg (by simp), if_neg (by omega)]; rfl⟩
theorem rmul_fun (a b : List Pw) (ha : ∀ p ∈ a, bulk p.1 < 10000000) (hb : ∀ p ∈ b, bulk p.1 < 10000000) (la : a.length < 10000000) (lb : b.length < 10000000) :
    Fun C 16 [.snap false (encPs a), .snap false (encPs b)] (.tup [.snap false (encPs (mulT a b).1), .int .i64 (mulT a b).2]) := by
  have hva := rpvalid_fun a (fun p hp => by have := ha p hp; omega) (by omega)
  have hvb := rpvalid_fun b (fun p hp => by have := hb p hp; omega) (by omega)
  have r1 : validP a ≠ 0 → mulT a b = ([], validP a) := fun h => by rw [mulT, if_pos h]
  have r2 : validP a = 0 → validP b ≠ 0 → mulT a b = ([], validP b) := fun h h2 => by rw [mulT, if_neg (by omega), if_pos h2]
  have r3 : validP a = 0 → validP b = 0 → mulT a b = resP (mulP a b) := fun h h2 => by rw [mulT, if_neg (by omega), if_neg (by omega)]
  have hel := encPs_len b
  have hela := encPs_len a
  generalize mulT a b = R at *
  refine Fun.x T6 Tryz.func16 rfl ?_
  (repeat' (first | (refine Rn.go ?_; conv => whnf) | refine .mk ?_ | refine .tt ?_ | refine .ff ?_ | refine .m2 ?_ | refine .m3 ?_ | refine .mk (fun hc => ?_) (fun hc => ?_) | refine .lp (fun v H lp => ?_) | fail))
  refine .p hva ?_
  (repeat' (first | (refine Rn.go ?_; conv => whnf) | refine .mk ?_ | refine .tt ?_ | refine .ff ?_ | refine .m2 ?_ | refine .m3 ?_ | refine .mk (fun hc => ?_) (fun hc => ?_) | refine .lp (fun v H lp => ?_) | fail))
  rotate_left
  · exact ⟨_, rfl, by rw [r1 hc]; rfl⟩
  have va := hc
  clear hc
  refine .p hvb ?_
  (repeat' (first | (refine Rn.go ?_; conv => whnf) | refine .mk ?_ | refine .tt ?_ | refine .ff ?_ | refine .m2 ?_ | refine .m3 ?_ | refine .mk (fun hc => ?_) (fun hc => ?_) | refine .lp (fun v H lp => ?_) | fail))
  rotate_left
  · exact ⟨_, rfl, by rw [r2 va hc]; rfl⟩
  have vb := hc
  clear hc
  have r3 := r3 va vb
  rw [resP_inE] at r3
  clear r1 r2 hva hvb
  have lb2 := (validP_zero vb).1
  refine LpX.zip T6 b (fun p q L H => ∃ v, L = [(1, .snap false (encPs b)), (8, v), (9, .int .i64 p.length)] ∧ HV H ∧ Ls 5 H v (encPs (mulP a p))) (.nx ⟨_, rfl, lp.hv, .inl lp.out⟩) ?_ ?_
  · rintro p ⟨t, n⟩ q _ h ρ e ⟨v, rfl, hH, ho⟩
    have hat := at_encPs e
    have hl2 := congrArg List.length e
    simp only [List.length_append, List.length_cons] at hl2
    have hpb : ∀ x ∈ p, x ∈ b := fun x hx => by rw [e]; exact List.mem_append.2 (.inl hx)
    have mi := MI.mul va vb hpb
    have hbt := hb (t, n) (by rw [e]; simp)
    have hadd := radd_fun (mulP a p) t n ⟨mulP_bulk (fun x hx => by have := ha x hx; omega) (fun x hx => by have := hb x (hpb x hx); omega), by have := mi.len; omega⟩ (by simp only at hbt; omega) (fun x hx => by have := mi.bd x hx; omega) (by have := (validP_zero vb).2.1 (t, n) (by rw [e]; simp); simp only at this; omega)
    rw [mulP_add va vb hpb] at hadd
    (repeat' (first | (refine Rn.go ?_; conv => whnf) | refine .mk ?_ | refine .tt ?_ | refine .ff ?_ | refine .m2 ?_ | refine .m3 ?_ | refine .mk (fun hc => ?_) (fun hc => ?_) | refine .lp (fun v H lp => ?_) | fail))
    refine .pl ho hadd (fun h' z => ?_)
    (repeat' (first | (refine Rn.go ?_; conv => whnf) | refine .mk ?_ | refine .tt ?_ | refine .ff ?_ | refine .m2 ?_ | refine .m3 ?_ | refine .mk (fun hc => ?_) (fun hc => ?_) | refine .lp (fun v H lp => ?_) | fail))
    exact .nx ⟨_, rfl, z.hv hH (by simp), .inr ⟨_, by rw [mulP_snoc]⟩⟩
  · rintro _ h ρ ⟨v, rfl, hH, ho⟩
    have mi := MI.mul va vb (fun x hx => hx : ∀ x ∈ b, x ∈ b)
    have hin := inRange_fun (mulP a b) (by have := mi.len; omega)
    (repeat' (first | (refine Rn.go ?_; conv => whnf) | refine .mk ?_ | refine .tt ?_ | refine .ff ?_ | refine .m2 ?_ | refine .m3 ?_ | refine .mk (fun hc => ?_) (fun hc => ?_) | refine .lp (fun v H lp => ?_) | fail))
    refine .plS ho hin ?_
    (repeat' (first | (refine Rn.go ?_; conv => whnf) | refine .mk ?_ | refine .tt ?_ | refine .ff ?_ | refine .m2 ?_ | refine .m3 ?_ | refine .mk (fun hc => ?_) (fun hc => ?_) | refine .lp (fun v H lp => ?_) | fail))
    · rw [r3, if_neg (by omega)]; exact ho.ret2
    · exact ⟨_, rfl, by rw [r3, if_pos hc]; rfl⟩
theorem rtimes_fun (a : List Pw) (m : Int) (ha : ∀ p ∈ a, bulk p.1 < 10000000) (la : a.length < 10000000) :
    Fun C 18 [.snap false (encPs a), .int .i64 m] (.tup [.snap false (encPs (timesT a m).1), .int .i64 (timesT a m).2]) := by
  have hva := rpvalid_fun a (fun p hp => by have := ha p hp; omega) (by omega)
  have r1 : validP a ≠ 0 → timesT a m = ([], validP a) := fun h => by rw [timesT, if_pos h]
  have r2 : validP a = 0 → (m < -1000 ∨ 1000 < m) → timesT a m = ([], 7) := fun h h2 => by rw [timesT, if_neg (by omega), if_pos h2]
  have r3 : validP a = 0 → ¬ (m < -1000 ∨ 1000 < m) → timesT a m = resP (tmsP a m) := fun h h2 => by rw [timesT, if_neg (by omega), if_neg (by omega)]
  have hin := inRange_fun (tmsP a m) (by unfold tmsP; split <;> simp; omega)
  have hel := encPs_len a
  have ht : m = 0 → tmsP a m = [] := fun h => by rw [tmsP, if_pos h]
  have ht' : m ≠ 0 → tmsP a m = a.map fun p => (p.1, m * p.2) := fun h => by rw [tmsP, if_neg h]
  rw [resP_inE] at r3
  generalize timesT a m = R at *
  refine Fun.x T6 Tryz.func18 rfl ?_
  (repeat' (first | (refine Rn.go ?_; conv => whnf) | refine .mk ?_ | refine .tt ?_ | refine .ff ?_ | refine .m2 ?_ | refine .m3 ?_ | refine .mk (fun hc => ?_) (fun hc => ?_) | refine .lp (fun v H lp => ?_) | fail))
  refine .p hva ?_
  (repeat' (first | (refine Rn.go ?_; conv => whnf) | refine .mk ?_ | refine .tt ?_ | refine .ff ?_ | refine .m2 ?_ | refine .m3 ?_ | refine .mk (fun hc => ?_) (fun hc => ?_) | refine .lp (fun v H lp => ?_) | fail))
  rotate_left 3
  · exact ⟨_, rfl, by rw [r1 hc]; rfl⟩
  · exact ⟨_, rfl, by rw [r2 (by assumption) (by omega)]; rfl⟩
  · exact ⟨_, rfl, by rw [r2 (by assumption) (by omega)]; rfl⟩
  have va : validP a = 0 := by assumption
  have hb := (validP_zero va).2.1
  have r3 := r3 va (by omega)
  by_cases h0 : m = 0
  · have ht := ht h0
    have hil : inE ([] : List Pw) = 0 := rfl
    rw [ht, hil] at hin
    rw [ht, hil, if_neg (by simp)] at r3
    refine LpX.nat T6 (fun _ L H => L = [(0, .snap false (encPs a)), (1, .int .i64 m), (7, .snap true []), (8, .int .i64 0)]) 0 (.nx rfl) ?_
    rintro _ _ h ρ rfl
    (repeat' (first | (refine Rn.go ?_; conv => whnf) | refine .mk ?_ | refine .tt ?_ | refine .ff ?_ | refine .m2 ?_ | refine .m3 ?_ | refine .mk (fun hc => ?_) (fun hc => ?_) | refine .lp (fun v H lp => ?_) | fail))
    all_goals (refine .p hin ?_; (repeat' (first | (refine Rn.go ?_; conv => whnf) | refine .mk ?_ | refine .tt ?_ | refine .ff ?_ | refine .m2 ?_ | refine .m3 ?_ | refine .mk (fun hc => ?_) (fun hc => ?_) | refine .lp (fun v H lp => ?_) | fail)); exact ⟨_, rfl, by rw [r3]; rfl⟩)
  · have ht' := ht' h0
    refine LpX.zip T6 a (fun p q L H => ∃ v, L = [(0, .snap false (encPs a)), (1, .int .i64 m), (7, v), (8, .int .i64 p.length)] ∧ HV H ∧ Out 5 H v (encPs (p.map fun p => (p.1, m * p.2)))) (.nx ⟨_, rfl, HV.nil, .inl ⟨rfl, rfl⟩⟩) ?_ ?_
    · rintro p ⟨t, n⟩ q _ h ρ e ⟨v, rfl, hH, ho⟩
      have hat := at_encPs e
      have hl2 := congrArg List.length e
      simp only [List.length_append, List.length_cons] at hl2
      have hlp : (encPs (p.map fun p => (p.1, m * p.2))).length = p.length := by rw [encPs_len, List.length_map]
      have hn := hb (t, n) (by rw [e]; simp)
      have hnm := mul_bd (show -1000 ≤ m by omega) (show m ≤ 1000 by omega) hn.1 hn.2
      dsimp only at hn hnm
      (repeat' (first | (refine Rn.go ?_; conv => whnf) | refine .mk ?_ | refine .tt ?_ | refine .ff ?_ | refine .m2 ?_ | refine .m3 ?_ | refine .mk (fun hc => ?_) (fun hc => ?_) | refine .lp (fun v H lp => ?_) | fail))
      exact .nx ⟨_, rfl, lp.hv, by simpa [encPs] using lp.out⟩
    · rintro _ h ρ ⟨v, rfl, hH, ho⟩
      rw [← ht'] at ho
      (repeat' (first | (refine Rn.go ?_; conv => whnf) | refine .mk ?_ | refine .tt ?_ | refine .ff ?_ | refine .m2 ?_ | refine .m3 ?_ | refine .mk (fun hc => ?_) (fun hc => ?_) | refine .lp (fun v H lp => ?_) | fail))
      refine .plS (.inl ho) hin ?_
      (repeat' (first | (refine Rn.go ?_; conv => whnf) | refine .mk ?_ | refine .tt ?_ | refine .ff ?_ | refine .m2 ?_ | refine .m3 ?_ | refine .mk (fun hc => ?_) (fun hc => ?_) | refine .lp (fun v H lp => ?_) | fail))
      · rw [r3, if_neg (by omega)]; exact Ls.ret2 (.inl ho)
      · exact ⟨_, rfl, by rw [r3, if_pos hc]; rfl⟩
theorem bulk_resP {B : Nat} {l : List Pw} (h : ∀ p ∈ l, bulk p.1 < B) (hl : l.length ≤ B) : (∀ p ∈ (resP l).1, bulk p.1 < B) ∧ (resP l).1.length ≤ B := by
  unfold resP
  split
  · exact ⟨(fun p hp => by cases hp), by simp⟩
  · split
    · exact ⟨(fun p hp => by cases hp), by simp⟩
    · exact ⟨h, hl⟩
theorem sm_mulT {a b : List Pw} (ha : ∀ p ∈ a, bulk p.1 < 10000000) (hb : ∀ p ∈ b, bulk p.1 < 10000000) : Sm (mulT a b).1 := by
  unfold mulT
  split
  · exact ⟨(fun p hp => by cases hp), by simp⟩
  · split
    · exact ⟨(fun p hp => by cases hp), by simp⟩
    · rename_i h1 h2
      have mi := MI.mul (Decidable.not_not.1 h1) (Decidable.not_not.1 h2) (fun x hx => hx : ∀ x ∈ b, x ∈ b)
      have lb2 := (validP_zero (Decidable.not_not.1 h2)).1
      obtain ⟨h3, h4⟩ := bulk_resP (l := mulP a b) (mulP_bulk ha hb) (by have := mi.len; omega)
      exact ⟨fun p hp => by have := h3 p hp; omega, by omega⟩
theorem sm_timesT {a : List Pw} (m : Int) (ha : ∀ p ∈ a, bulk p.1 < 10000000) : Sm (timesT a m).1 := by
  unfold timesT
  split
  · exact ⟨(fun p hp => by cases hp), by simp⟩
  · split
    · exact ⟨(fun p hp => by cases hp), by simp⟩
    · rename_i h1 h2
      have la := (validP_zero (Decidable.not_not.1 h1)).1
      obtain ⟨h3, h4⟩ := bulk_resP (B := 10000000) (l := tmsP a m) (fun p hp => by
        unfold tmsP at hp
        split at hp
        · cases hp
        · obtain ⟨q, hq, rfl⟩ := List.mem_map.1 hp; exact ha q hq) (by unfold tmsP; split <;> simp; omega)
      exact ⟨fun p hp => by have := h3 p hp; omega, by omega⟩
end Go.Pm
end

/-
  CHAPTER 6, PART 50: characters, the reference. Conditions: none.
-/
section
set_option linter.unusedVariables false
set_option linter.unusedSimpArgs false
set_option linter.unusedVariables false
set_option linter.unusedSimpArgs false
set_option maxRecDepth 4000
namespace Go.Pm
open Go.Proofs
def pwr : List Pw → Tm → Int
  | [], _ => 0
  | p :: l, t => if cmpT p.1 t = 0 then p.2 else pwr l t
def valS (vs m : List Pw) : Int := (m.map fun p => p.2 * pwr vs p.1).sum
def modI (n q : Int) : Int := ((n.tmod q) + q).tmod q
def valC (q : Int) (vs m : List Pw) : Int := if q = 0 then valS vs m else modI (valS vs m) q
theorem valS_snoc (vs p : List Pw) (x : Pw) : valS vs (p ++ [x]) = valS vs p + x.2 * pwr vs x.1 := by simp [valS]
theorem pwr_bd {B : Int} (hB : 0 ≤ B) : ∀ {l : List Pw}, Bd B l → ∀ t, -B ≤ pwr l t ∧ pwr l t ≤ B
  | [], _, t => by simp [pwr]; omega
  | p :: l, b, t => by
    have ih := pwr_bd hB (l := l) (fun q hq => b q (by simp [hq])) t
    have hp := b p (by simp)
    rw [pwr]
    split <;> omega
theorem pwr_at {p q : List Pw} {x : Pw} {t : Tm} (h : ∀ y ∈ p, cmpT y.1 t ≠ 0) (hx : cmpT x.1 t = 0) : pwr (p ++ x :: q) t = x.2 := by
  induction p with
  | nil => rw [List.nil_append, pwr, if_pos hx]
  | cons y p ih => rw [List.cons_append, pwr, if_neg (h y (by simp)), ih (fun z hz => h z (by simp [hz]))]
theorem pwr_none {p : List Pw} {t : Tm} (h : ∀ y ∈ p, cmpT y.1 t ≠ 0) : pwr p t = 0 := by
  induction p with
  | nil => rfl
  | cons y p ih => rw [pwr, if_neg (h y (by simp)), ih (fun z hz => h z (by simp [hz]))]
/-- the values of a character, one after another -/
def bef (pr : Option Tm) (t : Tm) : Bool := match pr with | none => false | some q => decide (0 ≤ cmpT q t)
def rgtGo : Option Tm → List Pw → Bool
  | _, [] => true
  | pr, p :: l => if valid p.1 ≠ 0 ∨ special p.1 = true ∨ p.2 = 0 ∨ p.2 < -35184372088832 ∨ 35184372088832 < p.2 ∨ bef pr p.1 = true then false else rgtGo (some p.1) l
theorem rgtGo_cons (pr : Option Tm) (p : Pw) (l : List Pw) : rgtGo pr (p :: l) = if valid p.1 ≠ 0 ∨ special p.1 = true ∨ p.2 = 0 ∨ p.2 < -35184372088832 ∨ 35184372088832 < p.2 ∨ bef pr p.1 = true then false else rgtGo (some p.1) l := by
  cases pr <;> rfl
theorem rgtGo_nil (pr : Option Tm) : rgtGo pr [] = true := by cases pr <;> rfl
def rgtC (q : Int) (vs : List Pw) : Bool := if q < 0 ∨ q = 1 ∨ 35184372088832 < q ∨ 200 < vs.length then false else rgtGo none vs
def lastT (pr : Option Tm) (l : List Pw) : Option Tm := match l.getLast? with | some p => some p.1 | none => pr
theorem lastT_snoc (l : List Pw) (x : Pw) (pr : Option Tm) : lastT pr (l ++ [x]) = some x.1 := by simp [lastT]
theorem rgtGo_ok : ∀ {l : List Pw} {pr : Option Tm}, rgtGo pr l = true → Bd 35184372088832 l ∧ Srt l ∧ (∀ p ∈ l, valid p.1 = 0 ∧ special p.1 = false) ∧ ∀ q, pr = some q → ∀ p ∈ l, cmpT q p.1 < 0
  | [], _, _ => ⟨(fun p hp => by cases hp), by simp [Srt], (fun p hp => by cases hp), fun _ _ p hp => by cases hp⟩
  | p :: l, pr, h => by
    rw [rgtGo_cons] at h
    split at h
    · cases h
    · rename_i hn
      obtain ⟨b1, b2, b3, b4⟩ := rgtGo_ok h
      have hq : ∀ q, pr = some q → cmpT q p.1 < 0 := fun q hq => by
        subst hq
        have : ¬ 0 ≤ cmpT q p.1 := fun hh => hn (.inr (.inr (.inr (.inr (.inr (by simpa [bef] using hh))))))
        omega
      refine ⟨fun x hx => ?_, List.pairwise_cons.2 ⟨fun x hx => b4 p.1 rfl x hx, b2⟩, fun x hx => ?_, fun q hq' x hx => ?_⟩
      all_goals (rcases List.mem_cons.1 hx with rfl | hx)
      · omega
      · exact b1 x hx
      · refine ⟨by omega, ?_⟩
        cases hs : special x.1 with
        | false => rfl
        | true => exact absurd (.inr (.inl hs)) hn
      · exact b3 x hx
      · exact hq q hq'
      · exact cmpT_trans (hq q hq') (b4 p.1 rfl x hx)
attribute [local irreducible] thenQ blockQ loopQ bodyQ Ev EvOps CallEv FnEv EvD
theorem rpower_fun (l : List Pw) (t : Tm) (hl : Sm l) (ht : bulk t < 1000000000) : Fun C 55 [.snap false (encPs l), enc t] (.int .i64 (pwr l t)) := by
  have hel := encPs_len l
  have hl2 := hl.2
  rw [enc_x]
  refine Fun.x T6 Tryz.func55 rfl ?_
  (repeat' (first | (refine Rn.go ?_; conv => whnf) | refine .mk ?_ | refine .tt ?_ | refine .ff ?_ | refine .m2 ?_ | refine .m3 ?_ | refine .mk (fun hc => ?_) (fun hc => ?_) | refine .lp (fun v H lp => ?_) | fail))
  refine LpX.zip T6 l (fun p q L H => L = [(0, .snap false (encPs l)), (3, .ptr 0 0 0 0), (5, .int .i64 p.length)] ∧ H = [⟨.m, 0, 4, [.agg [.int .i64 t.k, .str t.s, .int .i64 t.o, .snap false (encs t.l)]]⟩] ∧ ∀ y ∈ p, cmpT y.1 t ≠ 0) (.nx ⟨rfl, rfl, by simp⟩) ?_ ?_
  · rintro p ⟨u, n⟩ q _ _ ρ e ⟨rfl, rfl, hp⟩
    have hat := at_encPs e
    have hl2 := congrArg List.length e
    simp only [List.length_append, List.length_cons] at hl2
    have hs := rsame_fun u t (hl.1 (u, n) (by rw [e]; simp)) ht
    (repeat' (first | (refine Rn.go ?_; conv => whnf) | refine .mk ?_ | refine .tt ?_ | refine .ff ?_ | refine .m2 ?_ | refine .m3 ?_ | refine .mk (fun hc => ?_) (fun hc => ?_) | refine .lp (fun v H lp => ?_) | fail))
    refine .p hs ?_
    by_cases hc : cmpT u t = 0
    · rw [decide_eq_true hc]
      (repeat' (first | (refine Rn.go ?_; conv => whnf) | refine .mk ?_ | refine .tt ?_ | refine .ff ?_ | refine .m2 ?_ | refine .m3 ?_ | refine .mk (fun hc => ?_) (fun hc => ?_) | refine .lp (fun v H lp => ?_) | fail))
      exact ⟨_, rfl, by rw [e, pwr_at hp hc]; rfl⟩
    · rw [decide_eq_false hc]
      (repeat' (first | (refine Rn.go ?_; conv => whnf) | refine .mk ?_ | refine .tt ?_ | refine .ff ?_ | refine .m2 ?_ | refine .m3 ?_ | refine .mk (fun hc => ?_) (fun hc => ?_) | refine .lp (fun v H lp => ?_) | fail))
      exact .nx ⟨rfl, rfl, fun y hy => by rcases List.mem_append.1 hy with h | h; exact hp y h; simp at h; rw [h]; exact hc⟩
  · rintro _ _ ρ ⟨rfl, rfl, hp⟩
    (repeat' (first | (refine Rn.go ?_; conv => whnf) | refine .mk ?_ | refine .tt ?_ | refine .ff ?_ | refine .m2 ?_ | refine .m3 ?_ | refine .mk (fun hc => ?_) (fun hc => ?_) | refine .lp (fun v H lp => ?_) | fail))
    exact ⟨_, rfl, by rw [pwr_none hp]; rfl⟩
theorem mod_fun (n q : Int) (hn : -9000000000000000000 ≤ n ∧ n ≤ 9000000000000000000) (hq : 1 ≤ q ∧ q ≤ 35184372088832) : Fun C 83 [.int .i64 n, .int .i64 q] (.int .i64 (modI n q)) := by
  have h1 : -q < n.tmod q ∧ n.tmod q < q := by
    have a1 := Int.tmod_lt_of_pos n (show 0 < q by omega)
    have a2 := Int.lt_tmod_of_pos n (show 0 < q by omega)
    omega
  refine Fun.x T6 Tryz.func83 rfl ?_
  (repeat' (first | (refine Rn.go ?_; conv => whnf) | refine .mk ?_ | refine .tt ?_ | refine .ff ?_ | refine .m2 ?_ | refine .m3 ?_ | refine .mk (fun hc => ?_) (fun hc => ?_) | refine .lp (fun v H lp => ?_) | fail))
  exact ⟨_, rfl, rfl⟩
theorem valS_bd {vs p : List Pw} (hv : Bd 35184372088832 vs) (hp : Bd 1000 p) : -(35184372088832000 * (p.length : Int)) ≤ valS vs p ∧ valS vs p ≤ 35184372088832000 * p.length := by
  induction p using snocInd with
  | h0 => simp [valS]
  | h1 p x ih =>
    have ih := ih (fun y hy => hp y (by simp [hy]))
    have hx := hp x (by simp)
    have h1 := pwr_bd (by omega) hv x.1
    have h2 := mul_bd hx.1 hx.2 h1.1 h1.2
    rw [valS_snoc, List.length_append]
    simp only [List.length_cons, List.length_nil, Int.natCast_add]
    omega
theorem value_fun (q : Int) (vs m : List Pw) (hq : q = 0 ∨ 1 ≤ q ∧ q ≤ 35184372088832) (hv : Bd 35184372088832 vs) (sv : Sm vs) (hm : Bd 1000 m) (lm : m.length ≤ 200) (sm : Sm m) : Fun C 47 [.snap false (encPs m), .agg [.int .i64 q, .snap false (encPs vs)]] (.int .i64 (valC q vs m)) := by
  have hel := encPs_len m
  refine Fun.x T6 Tryz.func47 rfl ?_
  (repeat' (first | (refine Rn.go ?_; conv => whnf) | refine .mk ?_ | refine .tt ?_ | refine .ff ?_ | refine .m2 ?_ | refine .m3 ?_ | refine .mk (fun hc => ?_) (fun hc => ?_) | refine .lp (fun v H lp => ?_) | fail))
  refine LpX.zip T6 m (fun p _ L H => L = [(0, .snap false (encPs m)), (3, .ptr 0 0 0 0), (5, .int .i64 (valS vs p)), (6, .int .i64 p.length)] ∧ H = [⟨.m, 0, 2, [.agg [.int .i64 q, .snap false (encPs vs)]]⟩]) (.nx ⟨rfl, rfl⟩) ?_ ?_
  · rintro p ⟨u, n⟩ r _ _ ρ e ⟨rfl, rfl⟩
    have hat := at_encPs e
    have hl2 := congrArg List.length e
    simp only [List.length_append, List.length_cons] at hl2
    have hpw := rpower_fun vs u sv (sm.1 (u, n) (by rw [e]; simp))
    have hn := hm (u, n) (by rw [e]; simp)
    have h1 := pwr_bd (by omega) hv u
    have h2 := mul_bd hn.1 hn.2 h1.1 h1.2
    have h3 := valS_bd hv (p := p) (fun y hy => hm y (by rw [e]; simp [hy]))
    dsimp only at hn h2
    have hsn := valS_snoc vs p (u, n)
    (repeat' (first | (refine Rn.go ?_; conv => whnf) | refine .mk ?_ | refine .tt ?_ | refine .ff ?_ | refine .m2 ?_ | refine .m3 ?_ | refine .mk (fun hc => ?_) (fun hc => ?_) | refine .lp (fun v H lp => ?_) | fail))
    refine .p hpw ?_
    (repeat' (first | (refine Rn.go ?_; conv => whnf) | refine .mk ?_ | refine .tt ?_ | refine .ff ?_ | refine .m2 ?_ | refine .m3 ?_ | refine .mk (fun hc => ?_) (fun hc => ?_) | refine .lp (fun v H lp => ?_) | fail))
    exact .nx ⟨by rw [hsn], rfl⟩
  · rintro _ _ ρ ⟨rfl, rfl⟩
    have h3 := valS_bd hv hm
    (repeat' (first | (refine Rn.go ?_; conv => whnf) | refine .mk ?_ | refine .tt ?_ | refine .ff ?_ | refine .m2 ?_ | refine .m3 ?_ | refine .mk (fun hc => ?_) (fun hc => ?_) | refine .lp (fun v H lp => ?_) | fail))
    · exact ⟨_, rfl, by rw [valC, if_pos hc]; rfl⟩
    · refine .p (mod_fun (valS vs m) q (by omega) (by omega)) ?_
      (repeat' (first | (refine Rn.go ?_; conv => whnf) | refine .mk ?_ | refine .tt ?_ | refine .ff ?_ | refine .m2 ?_ | refine .m3 ?_ | refine .mk (fun hc => ?_) (fun hc => ?_) | refine .lp (fun v H lp => ?_) | fail))
      exact ⟨_, rfl, by rw [valC, if_neg hc]; rfl⟩
end Go.Pm
end
