/-
  A part of the library Pm and its contracts (joined by program): PmROps PmRTerm PmRInv PmXT PmInv PmMulM PmMulW PmMade PmGrpM PmLawG. Conditions: none.
-/
import Derived.Test.YtejhjciockgicaaPzAI
import Derived.Test.YtejhjciockgicaaPzAF
import Derived.Test.YtejhjciockgicaaPzAG
import Derived.Test.YtejhjciockgicaaPzAE
import Derived.Test.YtejhjciockgicaaPzAA
/-
  CHAPTER 6, PART 27: the reference's App, and its operands of a product. Conditions: none.
-/
section
set_option linter.unusedVariables false
set_option linter.unusedSimpArgs false
set_option linter.unusedVariables false
set_option linter.unusedSimpArgs false
set_option maxRecDepth 4000
set_option maxHeartbeats 8000000
namespace Go.Pm
open Go.Proofs
theorem take9_step {X : List Tm} {t : Tm} (h : (X.take 9).length < 9) : (X ++ [t]).take 9 = X.take 9 ++ [t] := by
  have : X.length < 9 := by simp at h; omega
  rw [List.take_of_length_le (by simp; omega), List.take_of_length_le (by omega)]
theorem take9_full {X Y : List Tm} (h : ¬ (X.take 9).length < 9) : (X ++ Y).take 9 = X.take 9 := by
  have : 9 ≤ X.length := by simp at h; omega
  rw [List.take_append_of_le_length this]
theorem take9_len (X : List Tm) : (X.take 9).length ≤ 9 := by simp; omega
attribute [local irreducible] thenQ blockQ loopQ bodyQ Ev EvOps CallEv FnEv EvD
theorem rapp_fun (s : ByteArray) (l : List Tm) (hl : l.length < 100000000) : Fun C 20 [.str s, .snap false (encs l)] (enc (.mk 3 s 0 l)) := by
  refine Fun.of (FnEv.bodyL Try.func20 rfl ?_)
  have hel := encs_len l
  have hok := encs_ok l
  have hnr := nrms_encs l
  have hv := isVals_encs l
  rw [enc_mk]
  generalize encs l = es at hel hok hnr hv ⊢
  (repeat' (first | refine EvOps.nil ?_ | (apply R.move; exact rfl) | (apply R.buildSlice T6; exact rfl; exact rfl; exact rfl; exact rfl; exact (by decide); exact rfl; exact rfl; exact rfl; exact rfl; exact rfl) | (apply R.alloc T6; exact rfl; exact rfl; exact rfl; exact .nil) | refine Ev.seq ?_ | refine Ev.region ?_ | refine thenQ.normal ?_ | fail))
  cases es with
  | nil =>
    apply R.appendS0 T6; exact rfl; exact rfl; exact rfl; exact rfl; exact rfl; exact rfl; exact rfl; exact (by decide); exact rfl; exact rfl
    (repeat' (first | (apply R.build T6; exact rfl; exact rfl; exact rfl; exact rfl; exact rfl; exact rfl) | fail))
    refine R.storeH T6 (n := 0) (o := ⟨.m, 0, 4, [.agg [.int .i64 0, .str ByteArray.empty, .int .i64 0, .snap true []]]⟩) (i := 0) (e := .agg [.int .i64 0, .str ByteArray.empty, .int .i64 0, .snap true []]) rfl rfl rfl rfl rfl rfl rfl rfl (Nat.le_refl 4) ?_
    (repeat' (first | refine EvOps.nil ?_ | refine Ev.ret ?_ | refine thenQ.normal ?_ | (apply bodyQ.retC T6; exact rfl) | fail))
    exact ⟨_, rfl, by simp [nrm, nrms]⟩
  | cons e es =>
    apply R.appendS1 T6; exact rfl; exact rfl; exact rfl; exact rfl; exact rfl; exact rfl; exact rfl; exact (by decide); exact rfl; exact rfl; exact hok; exact (by simp); exact (by omega)
    (repeat' (first | (apply R.build T6; exact rfl; exact rfl; exact rfl; exact rfl; exact rfl; exact rfl) | fail))
    refine R.storeH T6 (n := 0) (o := ⟨.m, 0, 4, [.agg [.int .i64 0, .str ByteArray.empty, .int .i64 0, .snap true []]]⟩) (i := 0) (e := .agg [.int .i64 0, .str ByteArray.empty, .int .i64 0, .snap true []]) rfl rfl rfl rfl rfl rfl rfl rfl (Nat.le_refl 4) ?_
    (repeat' (first | refine EvOps.nil ?_ | refine Ev.ret ?_ | refine thenQ.normal ?_ | (apply bodyQ.retC T6; exact rfl) | fail))
    refine ⟨.agg [.int .i64 3, .str s, .int .i64 0, .snap false (e :: es)], ?_, by show PV.agg [.int .i64 3, .str s, .int .i64 0, .snap false (nrms (e :: es))] = _; rw [hnr]⟩
    show rbA _ (.agg [.int .i64 3, .str s, .int .i64 0, .mref 1 0 0 (e :: es).length]) = _
    simp [rbA, rb1s, rb1, isVal, getM, hv]
theorem take9_enc {X : List Tm} : (encs (X.take 9)).length ≤ 9 := by rw [encs_len]; exact take9_len X
set_option maxHeartbeats 20000000 in
theorem rops_fun (l : List Pw) (hb : ∀ p ∈ l, bulk p.1 < 100000000) (hl : l.length < 100000000) (hB : Bd 1000 l) : Fun C 38 [.snap false (encPs l)] (.snap false (encs ((opsT l).take 9))) := by
  have hel := encPs_len l
  refine Fun.of (FnEv.bodyL Try.func38 rfl ?_)
  (repeat' (first | refine EvOps.nil ?_ | (apply R.assign; exact rfl) | refine Ev.seq ?_ | refine Ev.region ?_ | refine Ev.block ?_ | refine thenQ.normal ?_ | fail))
  refine Ev.loop (I := fun k' st => ∃ (i : Nat) (v : PV) (H : AHeap) (ρ' : Nat → PV), st = ⟨al [(0, .snap false (encPs l)), (3, v), (4, .int .i64 i)] ρ', H⟩ ∧ k' + i = l.length ∧ HV H ∧ Out 4 H v (encs ((posT (l.take i)).take 9))) l.length ?_ ?_
  · exact ⟨0, _, [], _, St.keep ⟨rfl, rfl, rfl, trivial⟩, rfl, HV.nil, .inl ⟨rfl, rfl⟩⟩
  rintro k' _ ⟨i, v, H, ρ', rfl, hk, hH, ho⟩
  (repeat' (first | refine EvOps.nil ?_ | (apply R.move; exact rfl) | (apply R.assign; exact rfl) | (apply R.cmp; exact rfl; exact rfl; exact rfl; all_goals intro hc) | (apply R.lenS T6; exact rfl; exact rfl) | refine Ev.seq ?_ | refine Ev.region ?_ | (apply Ev.condB; exact rfl) | refine Ev.skip ?_ | refine Ev.exit ?_ | refine Ev.block ?_ | refine thenQ.normal ?_ | refine thenQ.exit ?_ | refine blockQ.hit ?_ | refine loopQ.exit ?_ | fail))
  · obtain ⟨k1, s1, o1, l1, n1, hmem, hat, hd, hil, hget⟩ := encPs_at hc
    have hB1 := hB _ hmem
    simp only at hB1
    have hpos := posT_snoc (l.take i) (.mk k1 s1 o1 l1, n1)
    rw [← take_snoc hget] at hpos
    clear hc
    refine Ev.loop (I := fun k2 st => ∃ (j : Nat) (v : PV) (H : AHeap) (ρ' : Nat → PV), st = ⟨al [(0, .snap false (encPs l)), (3, v), (4, .int .i64 i), (5, .int .i64 j)] ρ', H⟩ ∧ k2 + j = n1.toNat ∧ HV H ∧ Out 4 H v (encs ((posT (l.take i) ++ List.replicate j (Tm.mk k1 s1 o1 l1)).take 9))) n1.toNat ?_ ?_
    · exact ⟨0, _, _, _, St.keep ⟨rfl, rfl, rfl, rfl, trivial⟩, rfl, hH, by simpa using ho⟩
    clear ho hH
    rintro k2 _ ⟨j, v, H, ρ', rfl, hk2, hH, ho⟩
    have hle9 := take9_enc (X := posT (l.take i) ++ List.replicate j (Tm.mk k1 s1 o1 l1))
    have fin : (¬ (j : Int) < n1 ∨ ¬ (encs ((posT (l.take i) ++ List.replicate j (Tm.mk k1 s1 o1 l1)).take 9)).length < 9) → Out 4 H v (encs ((posT (l.take (i + 1))).take 9)) := by
      intro h
      rw [hpos]
      rcases h with h | h
      · obtain rfl : j = n1.toNat := by omega
        exact ho
      · rw [encs_len] at h
        have : List.replicate n1.toNat (Tm.mk k1 s1 o1 l1) = List.replicate j (Tm.mk k1 s1 o1 l1 : Tm) ++ List.replicate k2 (Tm.mk k1 s1 o1 l1) := by rw [List.replicate_append_replicate]; congr 1; omega
        rw [this, ← List.append_assoc, take9_full h]
        exact ho
    (repeat' (first | (apply R.move; exact rfl) | refine Ev.seq ?_ | refine Ev.region ?_ | fail))
    refine R.indexS T6 rfl rfl rfl rfl hat rfl rfl ?_
    (repeat' (first | refine EvOps.nil ?_ | (apply R.gOn; exact rfl; exact rfl; exact rfl) | (apply R.gOff; exact rfl; exact rfl; exact rfl) | (apply R.move; exact rfl) | (apply R.assign; exact rfl) | (apply R.pickF; exact rfl; exact rfl) | (apply R.load1 T6; exact rfl; exact rfl; exact rfl; exact rfl) | (apply R.fieldAddrS T6; exact rfl; exact rfl; exact rfl; exact rfl; exact rfl) | (apply R.cmp; exact rfl; exact rfl; exact rfl; all_goals intro hc; all_goals (try (exfalso; omega))) | (apply R.arith; exact rfl; exact rfl; exact rfl; exact (wrapI (by omega) (by omega))) | refine Ev.region ?_ | (apply Ev.condB; exact rfl) | refine Ev.exit ?_ | refine thenQ.normal ?_ | refine thenQ.exit ?_ | refine blockQ.normal ?_ | refine blockQ.hit ?_ | refine loopQ.normal ?_ | refine loopQ.exit ?_ | fail))
    · apply R.lenOut T6; exact rfl; exact rfl; exact ho
      (repeat' (first | refine EvOps.nil ?_ | (apply R.gOn; exact rfl; exact rfl; exact rfl) | (apply R.move; exact rfl) | (apply R.assign; exact rfl) | (apply R.pickT; exact rfl; exact rfl) | (apply R.cmp; exact rfl; exact rfl; exact rfl; all_goals intro hc; all_goals (try (exfalso; omega))) | (apply R.arith; exact rfl; exact rfl; exact rfl; exact (wrapI (by omega) (by omega))) | refine Ev.seq ?_ | refine Ev.region ?_ | (apply Ev.condB; exact rfl) | refine Ev.skip ?_ | refine Ev.exit ?_ | refine Ev.block ?_ | refine thenQ.normal ?_ | refine thenQ.exit ?_ | refine blockQ.normal ?_ | refine blockQ.hit ?_ | refine loopQ.normal ?_ | refine loopQ.exit ?_ | fail))
      · have hlt := hc
        refine R.indexS T6 rfl rfl rfl rfl hat rfl rfl ?_
        (repeat' (first | (apply R.loadA T6; exact rfl; exact rfl; exact rfl; exact rfl; exact (by repeat constructor)) | (apply R.fieldAddrS T6; exact rfl; exact rfl; exact rfl; exact rfl; exact rfl) | (apply R.buildSlice T6; exact rfl; exact rfl; exact rfl; exact rfl; exact (by decide); exact rfl; exact rfl; exact rfl; exact rfl; exact rfl) | fail))
        refine R.appendLP T6 rfl rfl rfl rfl rfl rfl rfl (by decide) rfl rfl rfl rfl ho (by show _ + 1 < _; omega) (by rw [isVals_eq, List.all_append, ← isVals_eq, isVals_encs]; rfl) hH ?_
        intro v3 H3 lp
        rw [← enc_mk] at lp
        have lp : LP H v 4 (encs ((posT (l.take i) ++ List.replicate j (Tm.mk k1 s1 o1 l1)).take 9) ++ [enc (Tm.mk k1 s1 o1 l1)]) v3 H3 := lp
        rw [encs_snoc, ← take9_step (by rw [← encs_len]; omega), List.append_assoc, ← List.replicate_succ'] at lp
        have o3 := lp.out
        have h3 := lp.hv
        (repeat' (first | refine EvOps.nil ?_ | (apply R.move; exact rfl) | (apply R.assign; exact rfl) | (apply R.arith; exact rfl; exact rfl; exact rfl; exact (wrapI (by omega) (by omega))) | refine Ev.region ?_ | refine thenQ.normal ?_ | refine blockQ.normal ?_ | refine loopQ.normal ?_ | fail))
        exact ⟨k2 - 1, by omega, j + 1, v3, H3, _, St.keep ⟨rfl, rfl, rfl, rfl, trivial⟩, by omega, h3, o3⟩
      · have f := fin (.inr (by omega))
        exact ⟨k' - 1, by omega, i + 1, v, H, _, St.keep ⟨rfl, rfl, rfl, trivial⟩, by omega, hH, f⟩
    · have f := fin (.inl (by omega))
      exact ⟨k' - 1, by omega, i + 1, v, H, _, St.keep ⟨rfl, rfl, rfl, trivial⟩, by omega, hH, f⟩
  · have tk : l.take i = l := List.take_of_length_le (by omega)
    rw [tk] at ho
    clear hc hk
    refine Ev.loop (I := fun k' st => ∃ (i : Nat) (v : PV) (H : AHeap) (ρ' : Nat → PV), st = ⟨al [(0, .snap false (encPs l)), (3, v), (6, .int .i64 i)] ρ', H⟩ ∧ k' + i = l.length ∧ HV H ∧ Out 4 H v (encs ((posT l ++ negT (l.take i)).take 9))) l.length ?_ ?_
    · exact ⟨0, _, _, _, St.keep ⟨rfl, rfl, rfl, trivial⟩, rfl, hH, by simpa [negT] using ho⟩
    clear ho hH
    rintro k' _ ⟨i, v, H, ρ', rfl, hk, hH, ho⟩
    (repeat' (first | refine EvOps.nil ?_ | (apply R.move; exact rfl) | (apply R.assign; exact rfl) | (apply R.cmp; exact rfl; exact rfl; exact rfl; all_goals intro hc) | (apply R.lenS T6; exact rfl; exact rfl) | refine Ev.seq ?_ | refine Ev.region ?_ | (apply Ev.condB; exact rfl) | refine Ev.ret ?_ | refine Ev.skip ?_ | refine Ev.exit ?_ | refine Ev.block ?_ | refine thenQ.normal ?_ | refine thenQ.exit ?_ | refine blockQ.hit ?_ | refine loopQ.exit ?_ | (apply bodyQ.ret; exact rfl) | fail))
    · obtain ⟨k1, s1, o1, l1, n1, hmem, hat, hd, hil, hget⟩ := encPs_at hc
      have hB1 := hB _ hmem
      simp only at hB1
      have hneg := negT_snoc (l.take i) (.mk k1 s1 o1 l1, n1)
      rw [← take_snoc hget] at hneg
      have hap := rapp_fun sInv [.mk k1 s1 o1 l1] (by simp)
      simp only [encs, enc_mk] at hap
      clear hc
      refine Ev.loop (I := fun k2 st => ∃ (j : Nat) (v : PV) (H : AHeap) (ρ' : Nat → PV), st = ⟨al [(0, .snap false (encPs l)), (3, v), (6, .int .i64 i), (7, .int .i64 j)] ρ', H⟩ ∧ k2 + j = (-n1).toNat ∧ HV H ∧ Out 4 H v (encs (((posT l ++ negT (l.take i)) ++ List.replicate j (invT (Tm.mk k1 s1 o1 l1))).take 9))) (-n1).toNat ?_ ?_
      · exact ⟨0, _, _, _, St.keep ⟨rfl, rfl, rfl, rfl, trivial⟩, by omega, hH, by simpa using ho⟩
      clear ho hH
      rintro k2 _ ⟨j, v, H, ρ', rfl, hk2, hH, ho⟩
      have hle9 := take9_enc (X := (posT l ++ negT (l.take i)) ++ List.replicate j (invT (Tm.mk k1 s1 o1 l1)))
      have fin : (¬ (j : Int) < -n1 ∨ ¬ (encs (((posT l ++ negT (l.take i)) ++ List.replicate j (invT (Tm.mk k1 s1 o1 l1))).take 9)).length < 9) → Out 4 H v (encs ((posT l ++ negT (l.take (i + 1))).take 9)) := by
        intro h
        rw [hneg, ← List.append_assoc]
        rcases h with h | h
        · obtain rfl : j = (-n1).toNat := by omega
          exact ho
        · rw [encs_len] at h
          have : List.replicate (-n1).toNat (invT (Tm.mk k1 s1 o1 l1)) = List.replicate j (invT (Tm.mk k1 s1 o1 l1)) ++ List.replicate k2 (invT (Tm.mk k1 s1 o1 l1)) := by rw [List.replicate_append_replicate]; congr 1; omega
          rw [this, ← List.append_assoc, take9_full h]
          exact ho
      (repeat' (first | (apply R.move; exact rfl) | refine Ev.seq ?_ | refine Ev.region ?_ | fail))
      refine R.indexS T6 rfl rfl rfl rfl hat rfl rfl ?_
      (repeat' (first | refine EvOps.nil ?_ | (apply R.gOn; exact rfl; exact rfl; exact rfl) | (apply R.gOff; exact rfl; exact rfl; exact rfl) | (apply R.move; exact rfl) | (apply R.assign; exact rfl) | (apply R.pickF; exact rfl; exact rfl) | (apply R.load1 T6; exact rfl; exact rfl; exact rfl; exact rfl) | (apply R.fieldAddrS T6; exact rfl; exact rfl; exact rfl; exact rfl; exact rfl) | (apply R.cmp; exact rfl; exact rfl; exact rfl; all_goals intro hc; all_goals (try (exfalso; omega))) | (apply R.arith; exact rfl; exact rfl; exact rfl; exact (wrapI (by omega) (by omega))) | (apply R.neg; exact rfl; exact (wrapI (by omega) (by omega))) | refine Ev.region ?_ | (apply Ev.condB; exact rfl) | refine Ev.exit ?_ | refine thenQ.normal ?_ | refine thenQ.exit ?_ | refine blockQ.normal ?_ | refine blockQ.hit ?_ | refine loopQ.normal ?_ | refine loopQ.exit ?_ | fail))
      · apply R.lenOut T6; exact rfl; exact rfl; exact ho
        (repeat' (first | refine EvOps.nil ?_ | (apply R.gOn; exact rfl; exact rfl; exact rfl) | (apply R.move; exact rfl) | (apply R.assign; exact rfl) | (apply R.pickT; exact rfl; exact rfl) | (apply R.cmp; exact rfl; exact rfl; exact rfl; all_goals intro hc; all_goals (try (exfalso; omega))) | (apply R.arith; exact rfl; exact rfl; exact rfl; exact (wrapI (by omega) (by omega))) | refine Ev.seq ?_ | refine Ev.region ?_ | (apply Ev.condB; exact rfl) | refine Ev.skip ?_ | refine Ev.exit ?_ | refine Ev.block ?_ | refine thenQ.normal ?_ | refine thenQ.exit ?_ | refine blockQ.normal ?_ | refine blockQ.hit ?_ | refine loopQ.normal ?_ | refine loopQ.exit ?_ | fail))
        · have hlt := hc
          refine R.indexS T6 rfl rfl rfl rfl hat rfl rfl ?_
          (repeat' (first | (apply R.loadA T6; exact rfl; exact rfl; exact rfl; exact rfl; exact (by repeat constructor)) | (apply R.fieldAddrS T6; exact rfl; exact rfl; exact rfl; exact rfl; exact rfl) | (apply R.buildSlice T6; exact rfl; exact rfl; exact rfl; exact rfl; exact (by decide); exact rfl; exact rfl; exact rfl; exact rfl; exact rfl) | fail))
          refine R.call rfl rfl (CallEv.pure rfl rfl (by show Fun C _ (nrms [.str sInv, .snap true [.agg [.int .i64 k1, .str s1, .int .i64 o1, .snap false (encs l1)]]]) _; simpa [nrms, nrm, nrms_encs] using hap) ?_)
          (repeat' (first | (apply R.buildSlice T6; exact rfl; exact rfl; exact rfl; exact rfl; exact (by decide); exact rfl; exact rfl; exact rfl; exact rfl; exact rfl) | fail))
          refine R.appendLP T6 rfl rfl rfl rfl rfl rfl rfl (by decide) rfl rfl rfl rfl ho (by show _ + 1 < _; omega) (by rw [isVals_eq, List.all_append, ← isVals_eq, isVals_encs]; rfl) hH ?_
          intro v3 H3 lp
          have : enc (invT (Tm.mk k1 s1 o1 l1)) = .agg [.int .i64 3, .str sInv, .int .i64 0, .snap false [.agg [.int .i64 k1, .str s1, .int .i64 o1, .snap false (encs l1)]]] := by
            unfold invT; rw [enc_mk]; simp only [encs, enc_mk]
          rw [← this] at lp
          have lp : LP H v 4 (encs ((posT l ++ negT (l.take i) ++ List.replicate j (invT (Tm.mk k1 s1 o1 l1))).take 9) ++ [enc (invT (Tm.mk k1 s1 o1 l1))]) v3 H3 := lp
          rw [encs_snoc, ← take9_step (by rw [← encs_len]; omega), List.append_assoc, ← List.replicate_succ'] at lp
          have o3 := lp.out
          have h3 := lp.hv
          (repeat' (first | refine EvOps.nil ?_ | (apply R.move; exact rfl) | (apply R.assign; exact rfl) | (apply R.arith; exact rfl; exact rfl; exact rfl; exact (wrapI (by omega) (by omega))) | refine Ev.region ?_ | refine thenQ.normal ?_ | refine blockQ.normal ?_ | refine loopQ.normal ?_ | fail))
          exact ⟨k2 - 1, by omega, j + 1, v3, H3, _, St.keep ⟨rfl, rfl, rfl, rfl, trivial⟩, by omega, h3, o3⟩
        · have f := fin (.inr (by omega))
          exact ⟨k' - 1, by omega, i + 1, v, H, _, St.keep ⟨rfl, rfl, rfl, trivial⟩, by omega, hH, f⟩
      · have f := fin (.inl (by omega))
        exact ⟨k' - 1, by omega, i + 1, v, H, _, St.keep ⟨rfl, rfl, rfl, trivial⟩, by omega, hH, f⟩
    · have tk : l.take i = l := List.take_of_length_le (by omega)
      rw [tk] at ho
      obtain ⟨r1, e1, e2⟩ := ho.rbA (isVals_encs _)
      rw [nrms_encs] at e2
      exact ⟨r1, by rcases ho with ⟨rfl, _⟩ | ⟨id, ep, rfl, _⟩ <;> exact e1, e2⟩
end Go.Pm
end

/-
  CHAPTER 6, PART 28: the reference's Term. Conditions: none.
-/
section
set_option linter.unusedVariables false
set_option linter.unusedSimpArgs false
set_option linter.unusedVariables false
set_option linter.unusedSimpArgs false
set_option maxRecDepth 4000
set_option maxHeartbeats 8000000
namespace Go.Pm
open Go.Proofs
theorem validGo_bd : ∀ {l : List Pw} {pr : Option Tm}, validGo pr l = 0 → Bd 1000 l ∧ (∀ p ∈ l, valid p.1 = 0 ∧ special p.1 = false) ∧ Nz l ∧ Srt l ∧ (∀ q, pr = some q → ∀ p ∈ l, cmpT q p.1 < 0)
  | [], _, _ => ⟨(fun p hp => by cases hp), (fun p hp => by cases hp), (fun p hp => by cases hp), by simp [Srt], (fun _ _ p hp => by cases hp)⟩
  | p :: l, pr, h => by
    rw [validGo_cons] at h
    by_cases h1 : valid p.1 = 0
    · rw [if_neg (by omega)] at h
      by_cases h2 : special p.1 = true
      · rw [if_pos h2] at h; cases h
      · rw [if_neg h2] at h
        by_cases h3 : p.2 = 0 ∨ p.2 < -1000 ∨ 1000 < p.2
        · rw [if_pos h3] at h; cases h
        · rw [if_neg h3] at h
          have main : validGo (some p.1) l = 0 ∧ (∀ q, pr = some q → cmpT q p.1 < 0) := by
            cases pr with
            | none =>
              simp only [Bool.false_eq_true, if_false] at h
              exact ⟨h, fun q hq => by cases hq⟩
            | some q =>
              simp only at h
              split at h
              · cases h
              · rename_i h4
                refine ⟨h, fun q' hq => ?_⟩
                cases hq
                have : ¬ 0 ≤ cmpT q p.1 := fun hh => h4 (decide_eq_true hh)
                omega
          obtain ⟨b1, b2, b3, b4, b5⟩ := validGo_bd main.1
          refine ⟨fun x hx => ?_, fun x hx => ?_, fun x hx => ?_, List.pairwise_cons.2 ⟨fun x hx => b5 p.1 rfl x hx, b4⟩, fun q hq x hx => ?_⟩
          · rcases List.mem_cons.1 hx with rfl | hx
            · omega
            · exact b1 x hx
          · rcases List.mem_cons.1 hx with rfl | hx
            · exact ⟨h1, by simpa using h2⟩
            · exact b2 x hx
          · rcases List.mem_cons.1 hx with rfl | hx
            · omega
            · exact b3 x hx
          · rcases List.mem_cons.1 hx with rfl | hx
            · exact main.2 q hq
            · exact cmpT_trans (main.2 q hq) (b5 p.1 rfl x hx)
    · rw [if_pos h1] at h; exact absurd h h1
theorem validP_zero {l : List Pw} (h : validP l = 0) : l.length ≤ 200 ∧ Bd 1000 l ∧ (∀ p ∈ l, valid p.1 = 0 ∧ special p.1 = false) ∧ Nz l ∧ Srt l := by
  unfold validP at h
  split at h
  · cases h
  · obtain ⟨b1, b2, b3, b4, _⟩ := validGo_bd h
    exact ⟨by omega, b1, b2, b3, b4⟩
theorem wide_ops : ∀ {l : List Pw}, wide l = true → 8 < (opsT l).length
  | [], h => by cases h
  | p :: l, h => by
    have e1 : posT (p :: l) = List.replicate p.2.toNat p.1 ++ posT l := by simp [posT]
    have e2 : negT (p :: l) = List.replicate (-p.2).toNat (invT p.1) ++ negT l := by simp [negT]
    unfold opsT
    rw [e1, e2]
    simp only [List.length_append, List.length_replicate]
    unfold wide at h
    rw [List.any_cons, Bool.or_eq_true] at h
    rcases h with h | h
    · have := of_decide_eq_true h; omega
    · have := wide_ops (l := l) h
      unfold opsT at this
      rw [List.length_append] at this
      omega
attribute [local irreducible] thenQ blockQ loopQ bodyQ Ev EvOps CallEv FnEv EvD
set_option maxHeartbeats 16000000 in
theorem rterm_fun (l : List Pw) (hb : ∀ p ∈ l, bulk p.1 < 10000000) (hl : l.length < 1000000) : Fun C 13 [.snap false (encPs l)] (.tup [enc (termT l).1, .int .i64 (termT l).2]) := by
  have hva := rpvalid_fun l (fun p hp => by have := hb p hp; omega) (by omega)
  have r1 : validP l ≠ 0 → termT l = (zeroT, validP l) := fun h => by rw [termT, if_pos h]
  have hw : ¬ 8 < (opsT l).length → wide l = false := fun h => by cases hh : wide l with | false => rfl | true => exact absurd (wide_ops hh) h
  have r3 : validP l = 0 → 8 < (opsT l).length → termT l = (zeroT, 3) := fun h h2 => by
    rw [termT, if_neg (by omega)]
    by_cases hh : wide l = true
    · rw [if_pos hh]
    · rw [if_neg hh, if_pos h2]
  have r4 : validP l = 0 → ¬ 8 < (opsT l).length → valid (joinT (opsT l)) ≠ 0 → termT l = (zeroT, valid (joinT (opsT l))) := fun h h2 h3 => by rw [termT, if_neg (by omega), if_neg (by rw [hw h2]; simp), if_neg h2, if_pos h3]
  have r5 : validP l = 0 → ¬ 8 < (opsT l).length → valid (joinT (opsT l)) = 0 → termT l = (joinT (opsT l), 0) := fun h h2 h3 => by rw [termT, if_neg (by omega), if_neg (by rw [hw h2]; simp), if_neg h2, if_neg (by omega)]
  have hops : validP l = 0 → Fun C 38 [.snap false (encPs l)] (.snap false (encs ((opsT l).take 9))) := fun h => rops_fun l (fun p hp => by have := hb p hp; omega) (by omega) (validP_zero h).2.1
  have hbj := bulk_join hb
  clear hw
  refine Fun.of (FnEv.bodyL Try.func13 rfl ?_)
  generalize termT l = R0 at r1 r3 r4 r5 ⊢
  have fin : ∀ (t : Tm) (e : Int), R0 = (t, e) → ∀ (K : AHeap) (cs : List PV), nrm (.agg cs) = enc t → isVals cs = true → ∃ r1, rb K (tupOf [.agg cs, .int .i64 e]) = some r1 ∧ nrm r1 = PV.tup [enc R0.1, .int .i64 R0.2] := by
    intro t e hR K cs h1 h2
    have key : ∀ cs : List PV, isVals cs = true → rb1s K cs = some cs := by
      intro cs
      induction cs with
      | nil => intro _; rfl
      | cons c cs ih =>
        intro hh
        simp only [isVals, Bool.and_eq_true] at hh
        have : rb1 K c = some c := by
          unfold rb1
          split
          · simp [isVal] at hh
          · rw [if_pos hh.1]
        simp only [rb1s, this, ih hh.2]
    refine ⟨.tup [.agg cs, .int .i64 e], ?_, by rw [hR]; simp only [nrm, nrms] at h1 ⊢; rw [h1]⟩
    simp only [tupOf, rb, rbAs, rbA, key cs h2, Option.map_some]
    rfl
  have zz : nrm (.agg [.int .i64 0, .str ByteArray.empty, .int .i64 0, .snap true []]) = enc zeroT := by rw [zeroT, enc_mk]; rfl
  (repeat' (first | refine EvOps.nil ?_ | (apply R.move; exact rfl) | (apply R.assign; exact rfl) | (apply R.alloc T6; exact rfl; exact rfl; exact rfl; exact .nil) | refine Ev.seq ?_ | refine Ev.region ?_ | refine thenQ.normal ?_ | fail))
  refine R.call rfl rfl (CallEv.pure rfl (by simp [isVals, isVal]) (by simpa [nrms, nrm, nrms_encPs] using hva) ?_)
  (repeat' (first | refine EvOps.nil ?_ | (apply R.move; exact rfl) | (apply R.assign; exact rfl) | (apply R.cmp; exact rfl; exact rfl; exact rfl; all_goals intro hc) | (apply R.build T6; exact rfl; exact rfl; exact rfl; exact rfl; exact rfl; exact rfl) | refine Ev.seq ?_ | refine Ev.region ?_ | (apply Ev.condB; exact rfl) | refine Ev.skip ?_ | refine thenQ.normal ?_ | fail))
  · refine R.storeH T6 (n := 0) (o := ⟨.m, 0, 4, [.agg [.int .i64 0, .str ByteArray.empty, .int .i64 0, .snap true []]]⟩) (i := 0) (e := .agg [.int .i64 0, .str ByteArray.empty, .int .i64 0, .snap true []]) rfl rfl rfl rfl rfl rfl rfl rfl (Nat.le_refl 4) ?_
    (repeat' (first | refine EvOps.nil ?_ | (apply R.assign; exact rfl) | refine Ev.ret ?_ | refine thenQ.normal ?_ | refine thenQ.ret ?_ | (apply bodyQ.retC T6; exact rfl) | fail))
    exact fin _ _ (r1 (by assumption)) _ _ zz rfl
  have v0 := Decidable.not_not.1 hc
  clear hc r1
  have r3 := r3 v0
  have r4 := r4 v0
  have r5 := r5 v0
  refine R.call rfl rfl (CallEv.pure rfl (by simp [isVals, isVal]) (by simpa [nrms, nrm, nrms_encPs] using hops v0) ?_)
  have hal := encs_len ((opsT l).take 9)
  by_cases h8 : 8 < (opsT l).length
  · have h9 : ((opsT l).take 9).length = 9 := by simp; omega
    (repeat' (first | refine EvOps.nil ?_ | (apply R.move; exact rfl) | (apply R.assign; exact rfl) | (apply R.cmp; exact rfl; exact rfl; exact rfl; all_goals intro hc; all_goals (try (exfalso; omega))) | (apply R.build T6; exact rfl; exact rfl; exact rfl; exact rfl; exact rfl; exact rfl) | (apply R.lenS T6; exact rfl; exact rfl) | refine Ev.seq ?_ | refine Ev.region ?_ | (apply Ev.condB; exact rfl) | refine thenQ.normal ?_ | fail))
    refine R.storeH T6 (n := 0) (o := ⟨.m, 0, 4, [.agg [.int .i64 0, .str ByteArray.empty, .int .i64 0, .snap true []]]⟩) (i := 0) (e := .agg [.int .i64 0, .str ByteArray.empty, .int .i64 0, .snap true []]) rfl rfl rfl rfl rfl rfl rfl rfl (Nat.le_refl 4) ?_
    (repeat' (first | refine EvOps.nil ?_ | (apply R.assign; exact rfl) | refine Ev.ret ?_ | refine thenQ.normal ?_ | refine thenQ.ret ?_ | (apply bodyQ.retC T6; exact rfl) | fail))
    exact fin _ _ (r3 h8) _ _ zz rfl
  have hva := rvalid_fun (joinT (opsT l)) (by have := hbj h8; omega)
  have hap := rapp_fun sMul (opsT l) (by omega)
  have r4 := r4 h8
  have r5 := r5 h8
  have tk : (opsT l).take 9 = opsT l := List.take_of_length_le (by omega)
  rw [tk] at hal ⊢
  rw [enc_mk] at hap
  clear r3 tk
  (repeat' (first | refine EvOps.nil ?_ | (apply R.move; exact rfl) | (apply R.assign; exact rfl) | (apply R.cmp; exact rfl; exact rfl; exact rfl; all_goals intro hc; all_goals (try (exfalso; omega))) | (apply R.lenS T6; exact rfl; exact rfl) | refine Ev.seq ?_ | refine Ev.region ?_ | (apply Ev.condB; exact rfl) | refine Ev.skip ?_ | refine thenQ.normal ?_ | fail))
  refine R.call rfl rfl (CallEv.pure rfl (by simp [isVals, isVal]) (by show Fun C _ (nrms [.str sMul, .snap false (encs (opsT l))]) _; simpa [nrms, nrm, nrms_encs] using hap) ?_)
  (repeat' (first | (apply R.alloc T6; exact rfl; exact rfl; exact rfl; exact (.cons .nil)) | fail))
  refine R.storeH T6 (n := 1) (o := ⟨.m, 0, 4, [.agg [.int .i64 0, .str ByteArray.empty, .int .i64 0, .snap true []]]⟩) (i := 0) (e := .agg [.int .i64 0, .str ByteArray.empty, .int .i64 0, .snap true []]) rfl rfl rfl rfl rfl rfl rfl rfl (Nat.le_refl 4) ?_
  (repeat' (first | refine EvOps.nil ?_ | (apply R.move; exact rfl) | (apply R.loadA T6; exact rfl; exact rfl; exact rfl; exact rfl; exact (by repeat constructor)) | (apply R.cmp; exact rfl; exact rfl; exact rfl; all_goals intro hc; all_goals (try (exfalso; omega))) | (apply R.lenS T6; exact rfl; exact rfl) | refine Ev.seq ?_ | refine Ev.region ?_ | (apply Ev.condB; exact rfl) | refine Ev.skip ?_ | refine thenQ.normal ?_ | fail))
  · -- no operand
    have hnil : opsT l = [] := List.eq_nil_of_length_eq_zero (by omega)
    have hj : joinT (opsT l) = .mk 3 sOne 0 [] := by rw [hnil]; rfl
    have ha1 := rapp_fun sOne [] (by simp)
    simp only [encs, enc_mk] at ha1
    refine R.call rfl rfl (CallEv.pure rfl rfl (by show Fun C _ (nrms [.str sOne, .snap true []]) _; simpa [nrms, nrm] using ha1) ?_)
    refine R.storeH T6 (n := 1) (o := ⟨.m, 0, 4, [.agg [.int .i64 3, .str sMul, .int .i64 0, .snap false (encs (opsT l))]]⟩) (i := 0) (e := .agg [.int .i64 3, .str sMul, .int .i64 0, .snap false (encs (opsT l))]) rfl rfl rfl rfl rfl rfl rfl rfl (Nat.le_refl 4) ?_
    rw [hj, enc_mk] at hva
    (repeat' (first | refine EvOps.nil ?_ | (apply R.move; exact rfl) | (apply R.loadA T6; exact rfl; exact rfl; exact rfl; exact rfl; exact (by repeat constructor)) | (apply R.cmp; exact rfl; exact rfl; exact rfl; all_goals intro hc; all_goals (try (exfalso; omega))) | (apply R.lenS T6; exact rfl; exact rfl) | refine Ev.seq ?_ | refine Ev.region ?_ | (apply Ev.condB; exact rfl) | refine Ev.skip ?_ | refine thenQ.normal ?_ | fail))
    refine R.call rfl rfl (CallEv.pure rfl (by simp [isVals, isVal]) (by simpa [nrms, nrm, nrms_encs, encs] using hva) ?_)
    (repeat' (first | refine EvOps.nil ?_ | (apply R.move; exact rfl) | (apply R.assign; exact rfl) | (apply R.loadA T6; exact rfl; exact rfl; exact rfl; exact rfl; exact (by repeat constructor)) | (apply R.cmp; exact rfl; exact rfl; exact rfl; all_goals intro hc) | (apply R.build T6; exact rfl; exact rfl; exact rfl; exact rfl; exact rfl; exact rfl) | refine Ev.seq ?_ | refine Ev.region ?_ | (apply Ev.condB; exact rfl) | refine Ev.skip ?_ | refine thenQ.normal ?_ | fail))
    · have hne := hc
      refine R.storeH T6 (n := 0) (o := ⟨.m, 0, 4, [.agg [.int .i64 0, .str ByteArray.empty, .int .i64 0, .snap true []]]⟩) (i := 0) (e := .agg [.int .i64 0, .str ByteArray.empty, .int .i64 0, .snap true []]) rfl rfl rfl rfl rfl rfl rfl rfl (Nat.le_refl 4) ?_
      (repeat' (first | refine EvOps.nil ?_ | (apply R.assign; exact rfl) | refine Ev.ret ?_ | refine thenQ.normal ?_ | refine thenQ.ret ?_ | (apply bodyQ.retC T6; exact rfl) | fail))
      exact fin _ _ ((r4 (by rw [hj]; exact hne)).trans (by rw [hj])) _ _ zz rfl
    · have h0 := Decidable.not_not.1 hc
      refine R.storeH T6 (n := 0) (o := ⟨.m, 0, 4, [.agg [.int .i64 0, .str ByteArray.empty, .int .i64 0, .snap true []]]⟩) (i := 0) (e := .agg [.int .i64 0, .str ByteArray.empty, .int .i64 0, .snap true []]) rfl rfl rfl rfl rfl rfl rfl rfl (Nat.le_refl 4) ?_
      (repeat' (first | refine EvOps.nil ?_ | (apply R.assign; exact rfl) | refine Ev.ret ?_ | refine thenQ.normal ?_ | (apply bodyQ.retC T6; exact rfl) | fail))
      refine fin _ _ (r5 (by rw [hj]; exact h0)) _ [.int .i64 3, .str sOne, .int .i64 0, .snap false []] ?_ rfl
      rw [hj, enc_mk]; simp [nrm, nrms, encs]
  · -- one operand
    have h1 : (opsT l).length = 1 := by omega
    obtain ⟨t, ht⟩ := List.length_eq_one_iff.1 h1
    have hj : joinT (opsT l) = t := by rw [ht]; rfl
    obtain ⟨k1, s1, o1, l1⟩ := t
    have hel : encs (opsT l) = [.agg [.int .i64 k1, .str s1, .int .i64 o1, .snap false (encs l1)]] := by rw [ht]; simp only [encs, enc_mk]
    refine R.indexS T6 (i := 0) rfl rfl rfl rfl (show (encs (opsT l))[0]? = some (.agg [.int .i64 k1, .str s1, .int .i64 o1, .snap false (encs l1)]) by rw [hel]; rfl) rfl rfl ?_
    (repeat' (first | (apply R.loadA T6; exact rfl; exact rfl; exact rfl; exact rfl; exact (by repeat constructor)) | fail))
    refine R.storeH T6 (n := 1) (o := ⟨.m, 0, 4, [.agg [.int .i64 3, .str sMul, .int .i64 0, .snap false (encs (opsT l))]]⟩) (i := 0) (e := .agg [.int .i64 3, .str sMul, .int .i64 0, .snap false (encs (opsT l))]) rfl rfl rfl rfl rfl rfl rfl rfl (Nat.le_refl 4) ?_
    rw [hj, enc_mk] at hva
    (repeat' (first | refine EvOps.nil ?_ | (apply R.loadA T6; exact rfl; exact rfl; exact rfl; exact rfl; exact (by repeat constructor)) | refine Ev.seq ?_ | refine Ev.region ?_ | refine thenQ.normal ?_ | fail))
    refine R.call rfl rfl (CallEv.pure rfl (by simp [isVals, isVal]) (by simpa [nrms, nrm, nrms_encs, encs] using hva) ?_)
    (repeat' (first | refine EvOps.nil ?_ | (apply R.move; exact rfl) | (apply R.assign; exact rfl) | (apply R.loadA T6; exact rfl; exact rfl; exact rfl; exact rfl; exact (by repeat constructor)) | (apply R.cmp; exact rfl; exact rfl; exact rfl; all_goals intro hc) | (apply R.build T6; exact rfl; exact rfl; exact rfl; exact rfl; exact rfl; exact rfl) | refine Ev.seq ?_ | refine Ev.region ?_ | (apply Ev.condB; exact rfl) | refine Ev.skip ?_ | refine thenQ.normal ?_ | fail))
    · have hne := hc
      refine R.storeH T6 (n := 0) (o := ⟨.m, 0, 4, [.agg [.int .i64 0, .str ByteArray.empty, .int .i64 0, .snap true []]]⟩) (i := 0) (e := .agg [.int .i64 0, .str ByteArray.empty, .int .i64 0, .snap true []]) rfl rfl rfl rfl rfl rfl rfl rfl (Nat.le_refl 4) ?_
      (repeat' (first | refine EvOps.nil ?_ | (apply R.assign; exact rfl) | refine Ev.ret ?_ | refine thenQ.normal ?_ | refine thenQ.ret ?_ | (apply bodyQ.retC T6; exact rfl) | fail))
      exact fin _ _ ((r4 (by rw [hj]; exact hne)).trans (by rw [hj])) _ _ zz rfl
    · have h0 := Decidable.not_not.1 hc
      refine R.storeH T6 (n := 0) (o := ⟨.m, 0, 4, [.agg [.int .i64 0, .str ByteArray.empty, .int .i64 0, .snap true []]]⟩) (i := 0) (e := .agg [.int .i64 0, .str ByteArray.empty, .int .i64 0, .snap true []]) rfl rfl rfl rfl rfl rfl rfl rfl (Nat.le_refl 4) ?_
      (repeat' (first | refine EvOps.nil ?_ | (apply R.assign; exact rfl) | refine Ev.ret ?_ | refine thenQ.normal ?_ | (apply bodyQ.retC T6; exact rfl) | fail))
      refine fin _ _ (r5 (by rw [hj]; exact h0)) _ [.int .i64 k1, .str s1, .int .i64 o1, .snap false (encs l1)] ?_ rfl
      rw [hj, enc_mk]; simp [nrm, nrms, nrms_encs]
  · -- two or more
    have hj : joinT (opsT l) = .mk 3 sMul 0 (opsT l) := joinT_many (by omega)
    rw [hj, enc_mk] at hva
    refine R.call rfl rfl (CallEv.pure rfl (by simp [isVals, isVal]) (by simpa [nrms, nrm, nrms_encs, encs] using hva) ?_)
    (repeat' (first | refine EvOps.nil ?_ | (apply R.move; exact rfl) | (apply R.assign; exact rfl) | (apply R.loadA T6; exact rfl; exact rfl; exact rfl; exact rfl; exact (by repeat constructor)) | (apply R.cmp; exact rfl; exact rfl; exact rfl; all_goals intro hc) | (apply R.build T6; exact rfl; exact rfl; exact rfl; exact rfl; exact rfl; exact rfl) | refine Ev.seq ?_ | refine Ev.region ?_ | (apply Ev.condB; exact rfl) | refine Ev.skip ?_ | refine thenQ.normal ?_ | fail))
    · have hne := hc
      refine R.storeH T6 (n := 0) (o := ⟨.m, 0, 4, [.agg [.int .i64 0, .str ByteArray.empty, .int .i64 0, .snap true []]]⟩) (i := 0) (e := .agg [.int .i64 0, .str ByteArray.empty, .int .i64 0, .snap true []]) rfl rfl rfl rfl rfl rfl rfl rfl (Nat.le_refl 4) ?_
      (repeat' (first | refine EvOps.nil ?_ | (apply R.assign; exact rfl) | refine Ev.ret ?_ | refine thenQ.normal ?_ | refine thenQ.ret ?_ | (apply bodyQ.retC T6; exact rfl) | fail))
      exact fin _ _ ((r4 (by rw [hj]; exact hne)).trans (by rw [hj])) _ _ zz rfl
    · have h0 := Decidable.not_not.1 hc
      refine R.storeH T6 (n := 0) (o := ⟨.m, 0, 4, [.agg [.int .i64 0, .str ByteArray.empty, .int .i64 0, .snap true []]]⟩) (i := 0) (e := .agg [.int .i64 0, .str ByteArray.empty, .int .i64 0, .snap true []]) rfl rfl rfl rfl rfl rfl rfl rfl (Nat.le_refl 4) ?_
      (repeat' (first | refine EvOps.nil ?_ | (apply R.assign; exact rfl) | refine Ev.ret ?_ | refine thenQ.normal ?_ | (apply bodyQ.retC T6; exact rfl) | fail))
      refine fin _ _ (r5 (by rw [hj]; exact h0)) _ [.int .i64 3, .str sMul, .int .i64 0, .snap false (encs (opsT l))] ?_ rfl
      rw [hj, enc_mk]; simp [nrm, nrms, nrms_encs]
end Go.Pm
end

/-
  CHAPTER 6, PART 29: the reference's Few and Inverse of products. Conditions: none.
-/
section
set_option linter.unusedVariables false
set_option linter.unusedSimpArgs false
set_option linter.unusedVariables false
set_option linter.unusedSimpArgs false
set_option maxRecDepth 4000
set_option maxHeartbeats 8000000
namespace Go.Pm
open Go.Proofs
def encPPs (l : List (List Pw)) : List PV := l.map fun p => .snap false (encPs p)
def allT (l : List (List Pw)) : List Tm := l.flatMap fun p => p.map (·.1)
theorem encPPs_len (l : List (List Pw)) : (encPPs l).length = l.length := by simp [encPPs]
theorem allT_snoc {l : List (List Pw)} {i : Nat} {p : List Pw} (h : l[i]? = some p) : allT (l.take (i + 1)) = allT (l.take i) ++ p.map (·.1) := by
  rw [List.take_add_one, h]; simp [allT]
theorem allT_len {l : List (List Pw)} {i j : Nat} {p : List Pw} (h : l[i]? = some p) : (allT (l.take i) ++ (p.take j).map (·.1)).length ≤ (allT l).length := by
  have h1 : l = l.take (i + 1) ++ l.drop (i + 1) := (List.take_append_drop _ _).symm
  have h2 : allT l = allT (l.take (i + 1)) ++ allT (l.drop (i + 1)) := by
    conv => lhs; rw [h1]
    simp only [allT, List.flatMap_append]
  rw [h2, allT_snoc h]
  simp only [List.length_append, List.length_map, List.length_take]
  omega
theorem vals_of {es : List PV} {l : List Tm} (h : es = encs l) : isVals es = true := by rw [h]; exact isVals_encs l
attribute [local irreducible] thenQ blockQ loopQ bodyQ Ev EvOps CallEv FnEv EvD
theorem pfew_fun (l : List (List Pw)) (hb : bulks (allT l) < 100000000) (hl : l.length < 100000000) (hls : ∀ p ∈ l, p.length < 100000000) (n m : Int) (hm : m < 1000000000) : Fun C 12 [.snap false (encPPs l), .int .i64 n, .int .i64 m] (.bool (if n < (l.length : Int) then false else few (allT l) m m)) := by
  have hel := encPPs_len l
  have hfew := few_fun (allT l) (by omega) m m hm
  have hlen := len_bulks (allT l)
  refine Fun.of (FnEv.bodyL Try.func12 rfl ?_)
  (repeat' (first | refine EvOps.nil ?_ | (apply R.assign; exact rfl) | refine Ev.seq ?_ | refine Ev.region ?_ | refine Ev.block ?_ | refine thenQ.normal ?_ | fail))
  refine Ev.loop (I := fun k' st => ∃ (i : Nat) (v : PV) (H : AHeap) (ρ' : Nat → PV), st = ⟨al [(0, .snap false (encPPs l)), (1, .int .i64 n), (2, .int .i64 m), (7, v), (8, .int .i64 i)] ρ', H⟩ ∧ k' + i = l.length ∧ HV H ∧ Out 4 H v (encs (allT (l.take i)))) l.length ?_ ?_
  · exact ⟨0, _, [], _, St.keep ⟨rfl, rfl, rfl, rfl, rfl, trivial⟩, rfl, HV.nil, .inl ⟨rfl, rfl⟩⟩
  rintro k' _ ⟨i, v, H, ρ', rfl, hk, hH, ho⟩
  (repeat' (first | refine EvOps.nil ?_ | (apply R.gOn; exact rfl; exact rfl; exact rfl) | (apply R.gOff; exact rfl; exact rfl; exact rfl) | (apply R.move; exact rfl) | (apply R.assign; exact rfl) | (apply R.pickF; exact rfl; exact rfl) | (apply R.cmp; exact rfl; exact rfl; exact rfl; all_goals intro hc) | (apply R.lenS T6; exact rfl; exact rfl) | refine Ev.seq ?_ | refine Ev.region ?_ | (apply Ev.condB; exact rfl) | refine Ev.ret ?_ | refine Ev.skip ?_ | refine Ev.exit ?_ | refine Ev.block ?_ | refine thenQ.normal ?_ | refine thenQ.exit ?_ | refine blockQ.hit ?_ | refine loopQ.exit ?_ | (apply bodyQ.ret; exact rfl) | fail))
  · obtain ⟨p, hget⟩ : ∃ p, l[i]? = some p := ⟨l[i]'(by omega), List.getElem?_eq_getElem _⟩
    have hat : (encPPs l)[i]? = some (.snap false (encPs p)) := by rw [encPPs, List.getElem?_map, hget]; rfl
    have hpl := hls p (List.mem_of_getElem? hget)
    have hep := encPs_len p
    have hsn := allT_snoc hget
    have hal := fun j => allT_len (j := j) hget
    have hil := lt_of_some hget
    clear hc
    refine Ev.loop (I := fun k2 st => ∃ (j : Nat) (v : PV) (H : AHeap) (ρ' : Nat → PV), st = ⟨al [(0, .snap false (encPPs l)), (1, .int .i64 n), (2, .int .i64 m), (7, v), (8, .int .i64 i), (9, .int .i64 j)] ρ', H⟩ ∧ k2 + j = p.length ∧ HV H ∧ Out 4 H v (encs (allT (l.take i) ++ (p.take j).map (·.1)))) p.length ?_ ?_
    · exact ⟨0, _, _, _, St.keep ⟨rfl, rfl, rfl, rfl, rfl, rfl, trivial⟩, rfl, hH, by simpa using ho⟩
    clear ho hH
    rintro k2 _ ⟨j, v, H, ρ', rfl, hk2, hH, ho⟩
    (repeat' (first | (apply R.move; exact rfl) | refine Ev.seq ?_ | refine Ev.region ?_ | fail))
    refine R.indexS T6 rfl rfl rfl rfl hat rfl rfl ?_
    (repeat' (first | refine EvOps.nil ?_ | (apply R.move; exact rfl) | (apply R.assign; exact rfl) | (apply R.load1 T6; exact rfl; exact rfl; exact rfl; exact rfl) | (apply R.cmp; exact rfl; exact rfl; exact rfl; all_goals intro hc) | (apply R.arith; exact rfl; exact rfl; exact rfl; exact (wrapI (by omega) (by omega))) | (apply R.lenS T6; exact rfl; exact rfl) | refine Ev.seq ?_ | refine Ev.region ?_ | (apply Ev.condB; exact rfl) | refine Ev.skip ?_ | refine Ev.exit ?_ | refine Ev.block ?_ | refine thenQ.normal ?_ | refine thenQ.exit ?_ | refine blockQ.normal ?_ | refine blockQ.hit ?_ | refine loopQ.normal ?_ | refine loopQ.exit ?_ | fail))
    · obtain ⟨k1, s1, o1, l1, n1, hmem, hat2, hd, hil, hget2⟩ := encPs_at hc
      have hal1 := hal j
      have hlx := encs_len (allT (l.take i) ++ (p.take j).map (·.1))
      refine R.indexS T6 rfl rfl rfl rfl hat rfl rfl ?_
      (repeat' (first | (apply R.move; exact rfl) | (apply R.load1 T6; exact rfl; exact rfl; exact rfl; exact rfl) | fail))
      refine R.indexS T6 rfl rfl rfl rfl hat2 rfl rfl ?_
      (repeat' (first | (apply R.loadA T6; exact rfl; exact rfl; exact rfl; exact rfl; exact (by repeat constructor)) | (apply R.fieldAddrS T6; exact rfl; exact rfl; exact rfl; exact rfl; exact rfl) | (apply R.buildSlice T6; exact rfl; exact rfl; exact rfl; exact rfl; exact (by decide); exact rfl; exact rfl; exact rfl; exact rfl; exact rfl) | fail))
      refine R.appendLP T6 rfl rfl rfl rfl rfl rfl rfl (by decide) rfl rfl rfl rfl ho (by show _ + 1 < _; omega) (by rw [isVals_eq, List.all_append, ← isVals_eq, isVals_encs]; rfl) hH ?_
      intro v3 H3 lp
      rw [← enc_mk] at lp
      have lp : LP H v 4 (encs (allT (l.take i) ++ (p.take j).map (·.1)) ++ [enc (Tm.mk k1 s1 o1 l1)]) v3 H3 := lp
      have hst : allT (l.take i) ++ (p.take j).map (·.1) ++ [Tm.mk k1 s1 o1 l1] = allT (l.take i) ++ (p.take (j + 1)).map (·.1) := by
        rw [List.take_add_one, hget2, List.map_append, List.append_assoc]; rfl
      rw [encs_snoc, hst] at lp
      have o3 := lp.out
      have h3 := lp.hv
      (repeat' (first | refine EvOps.nil ?_ | (apply R.move; exact rfl) | (apply R.assign; exact rfl) | (apply R.arith; exact rfl; exact rfl; exact rfl; exact (wrapI (by omega) (by omega))) | refine Ev.region ?_ | refine thenQ.normal ?_ | refine blockQ.normal ?_ | refine loopQ.normal ?_ | fail))
      exact ⟨k2 - 1, by omega, j + 1, v3, H3, _, St.keep ⟨rfl, rfl, rfl, rfl, rfl, rfl, trivial⟩, by omega, h3, o3⟩
    · have tk : p.take j = p := List.take_of_length_le (by omega)
      rw [tk, ← hsn] at ho
      exact ⟨k' - 1, by omega, i + 1, v, H, _, St.keep ⟨rfl, rfl, rfl, rfl, rfl, trivial⟩, by omega, hH, ho⟩
  · have tk : l.take i = l := List.take_of_length_le (by omega)
    rw [tk] at ho
    refine R.call rfl rfl (CallEv.out rfl ho (isVals_encs _) rfl (by rw [nrms_encs]; exact hfew) rfl ?_)
    (repeat' (first | refine EvOps.nil ?_ | (apply R.assign; exact rfl) | (apply R.pickT; exact rfl; exact rfl) | refine Ev.ret ?_ | refine thenQ.normal ?_ | (apply bodyQ.ret; exact rfl) | fail))
    exact ⟨_, rfl, by rw [if_neg (by omega)]; rfl⟩
  · exact ⟨_, rfl, by rw [if_pos (by omega)]; rfl⟩
section
variable {C : Cfg} (T : Tab C.P)
variable {ops : Array Oper} {i : Nat} {d L0 : Nat} {own : List Nat} {ty : TypeId} {pos : String} {af : Array Edge} {r : List Oper} {ρ : Nat → PV} {L : List (Nat × PV)} {h : AHeap} {Q : St → Prop}
theorem D.neg {t : TypeId} {x : Operand} {k : IntKind} {a c : Int} (hx : evL L x = some (.int k a)) (hw : k.wrap (0 - a) = c) (kk : EvD C ops (i + 1) r ⟨⟨al ((d, .int k c) :: L) ρ, h⟩, L0, own⟩ Q) :
    EvD C ops i (⟨some d, .unOp .neg t x, ty, pos, af, none⟩ :: r) ⟨⟨al L ρ, h⟩, L0, own⟩ Q :=
  EvD.plain (h' := h) rfl (fun run => by simp only [opVal, stepOp, evL_ev hx, unP, hw, Option.map_some]) kk
/-- append to a list in a region that draws its order, behind all else -/
theorem D.appendLP {st xt el el' : TypeId} {sz by' : Nat} {z : PV} {full : Bool} {es ys : List PV} {x y : Operand} {v : PV} (hl2 : level ops (before ops) i = 2) (hx : evL L x = some v) (hy : evL L y = some (.snap full ys)) (hk : T.kd st = some (.sl el)) (hk' : T.kd xt = some (.sl el')) (hs : T.ts el = some (sz + 1)) (hb : T.tb el = some by') (hz : T.tz el = some z)
    (hby : by' ≤ 1000) (hl : (cells z).length = sz + 1) (ho : (cells z).all oneC = true) (hyo : esOk (sz + 1) ys) (hne : ys.isEmpty = false) (o : Out (sz + 1) h v es) (hn : es.length + ys.length < 1000000000)
    (hvs : isVals (es ++ ys) = true) (hH : HV h) (kk : ∀ v' h', LP h v (sz + 1) (es ++ ys) v' h' → EvD C ops (i + 1) r ⟨⟨al ((d, v') :: L) ρ, h'⟩, h'.length, []⟩ Q) :
    EvD C ops i (⟨some d, .call ⟨.builtin .append, #[x, y], #[st, xt]⟩, ty, pos, af, none⟩ :: r) ⟨⟨al L ρ, h⟩, L0, own⟩ Q := by
  rcases o with ⟨rfl, rfl⟩ | ⟨id, ep, rfl, e2⟩
  · refine EvD.two rfl hl2 ⟨0, fun n _ => ?_⟩ (kk (.mref h.length 0 0 ys.length) (h ++ [⟨.m, 0, sz + 1, ys⟩]) ⟨.inr ⟨h.length, 0, by simp, by simp⟩, hH.app (HV.one (by simpa using hvs)), by simp, fun j hj _ => List.getElem?_append_left hj, fun j ep n hh => ?_⟩)
    · have := appendP_new T (h := h) (lv := 2) (full := full) (by omega) hk hk' hs hb hz hby hl ho hyo hne (by simpa using hn)
      simp only [opVal, builtinP, List.map_cons, List.map_nil, evL_ev hx, evL_ev hy, this]
    · cases hh; exact .inr (Nat.le_refl _)
  · have hlt := lt_of_some e2
    refine EvD.two rfl hl2 ⟨0, fun n _ => ?_⟩ (kk (.mref id (ep + 1) 0 (es.length + ys.length)) (h.set id ⟨.m, ep + 1, sz + 1, es ++ ys⟩) ⟨.inr ⟨id, ep + 1, by simp, List.getElem?_set_self hlt⟩, hH.set id (by simp) hvs, by simp, fun j hj hne => List.getElem?_set_ne (fun hh => hne ep es.length (by rw [hh])), fun j ep' n hh => ?_⟩)
    · have := appendP_m T (h := h) (full := full) (len := es.length) hk hk' hs hb hz hby hl ho hyo hne hn (getM_at e2 rfl (by simp)) rfl rfl (Nat.le_refl _)
      simp only [opVal, builtinP, List.map_cons, List.map_nil, evL_ev hx, evL_ev hy, this, List.take_length]
    · cases hh; exact .inl ⟨ep, es.length, rfl⟩
end
/-- the inverse of a product (of any numbers) -/
def invP (l : List Pw) : List Pw := l.map fun p => (p.1, IntKind.i64.wrap (0 - p.2))
theorem invP_len (l : List Pw) : (invP l).length = l.length := by simp [invP]
theorem encPs_snoc (l : List Pw) (p : Pw) : encPs l ++ [encP p] = encPs (l ++ [p]) := by simp [encPs]
theorem invP_snoc {l : List Pw} {i : Nat} {p : Pw} (h : l[i]? = some p) : invP (l.take (i + 1)) = invP (l.take i) ++ [(p.1, IntKind.i64.wrap (0 - p.2))] := by
  rw [List.take_add_one, h]; simp [invP]
theorem rinv_fun (l : List Pw) (hl : l.length < 100000000) : Fun C 16 [.snap false (encPs l)] (.snap false (encPs (invP l))) := by
  have hel := encPs_len l
  refine Fun.of (FnEv.bodyL Try.func16 rfl ?_)
  (repeat' (first | refine EvOps.nil ?_ | (apply R.assign; exact rfl) | refine Ev.seq ?_ | refine Ev.region ?_ | refine Ev.block ?_ | refine thenQ.normal ?_ | fail))
  refine Ev.loop (I := fun k' st => ∃ (i : Nat) (v : PV) (H : AHeap) (ρ' : Nat → PV), st = ⟨al [(0, .snap false (encPs l)), (3, v), (4, .int .i64 i)] ρ', H⟩ ∧ k' + i = l.length ∧ HV H ∧ Out 5 H v (encPs (invP (l.take i)))) l.length ?_ ?_
  · exact ⟨0, _, [], _, St.keep ⟨rfl, rfl, rfl, trivial⟩, rfl, HV.nil, .inl ⟨rfl, rfl⟩⟩
  rintro k' _ ⟨i, v, H, ρ', rfl, hk, hH, ho⟩
  (repeat' (first | refine EvOps.nil ?_ | (apply R.move; exact rfl) | (apply R.assign; exact rfl) | (apply R.cmp; exact rfl; exact rfl; exact rfl; all_goals intro hc) | (apply R.lenS T6; exact rfl; exact rfl) | refine Ev.seq ?_ | refine Ev.region ?_ | refine Ev.regionD ?_ | (apply D.move; exact rfl) | (apply Ev.condB; exact rfl) | refine Ev.ret ?_ | refine Ev.skip ?_ | refine Ev.exit ?_ | refine Ev.block ?_ | refine thenQ.normal ?_ | refine thenQ.exit ?_ | refine blockQ.hit ?_ | refine loopQ.exit ?_ | (apply bodyQ.ret; exact rfl) | fail))
  · obtain ⟨k1, s1, o1, l1, n1, hmem, hat, hd, hil, hget⟩ := encPs_at hc
    have hsn := invP_snoc hget
    have hlx := encPs_len (invP (l.take i))
    have hly := invP_len (l.take i)
    have hcl := hH.closed
    rw [List.length_take] at hly
    clear hc
    refine D.indexS T6 hcl rfl rfl rfl rfl hat rfl rfl ?_
    (repeat' (first | (apply D.move; exact rfl) | (apply D.fieldAddrS T6; exact rfl; exact rfl; exact rfl; exact rfl; exact rfl) | (apply D.loadA T6; exact (by first | exact rfl | assumption); exact rfl; exact rfl; exact rfl; exact rfl; exact rfl; exact (by repeat constructor)) | fail))
    refine D.indexS T6 hcl rfl rfl rfl rfl hat rfl rfl ?_
    (repeat' (first | (apply D.fieldAddrS T6; exact rfl; exact rfl; exact rfl; exact rfl; exact rfl) | (apply D.load1 T6; exact (by first | exact rfl | assumption); exact rfl; exact rfl; exact rfl; exact rfl; exact rfl) | fail))
    refine D.neg rfl rfl ?_
    (repeat' (first | (apply D.build T6; exact rfl; exact rfl; exact rfl; exact rfl; exact rfl; exact rfl) | fail))
    refine D.buildSlice T6 hcl rfl rfl rfl rfl rfl (by decide) rfl rfl rfl rfl rfl ?_
    refine D.appendLP T6 rfl rfl rfl rfl rfl rfl rfl rfl (by decide) rfl rfl rfl rfl ho (by show _ + 1 < _; omega) (by rw [isVals_eq, List.all_append, ← isVals_eq, encPs_vals]; rfl) hH ?_
    intro v3 H3 lp
    have lp : LP H v 5 (encPs (invP (l.take i)) ++ [encP (.mk k1 s1 o1 l1, IntKind.i64.wrap (0 - n1))]) v3 H3 := lp
    rw [encPs_snoc, ← hsn] at lp
    have o3 := lp.out
    have h3 := lp.hv
    (repeat' (first | refine EvOps.nil ?_ | (apply R.move; exact rfl) | (apply R.assign; exact rfl) | (apply R.arith; exact rfl; exact rfl; exact rfl; exact (wrapI (by omega) (by omega))) | refine Ev.region ?_ | refine EvD.nil ?_ | (apply D.assign; exact rfl) | refine thenQ.normal ?_ | refine blockQ.normal ?_ | refine loopQ.normal ?_ | fail))
    exact ⟨k' - 1, by omega, i + 1, v3, H3, _, St.keep ⟨rfl, rfl, rfl, trivial⟩, by omega, h3, o3⟩
  · have tk : l.take i = l := List.take_of_length_le (by omega)
    rw [tk] at ho
    obtain ⟨r1, e1, e2⟩ := ho.rbA (encPs_vals _)
    rw [nrms_encPs] at e2
    exact ⟨r1, by rcases ho with ⟨rfl, _⟩ | ⟨id, ep, rfl, _⟩ <;> exact e1, e2⟩
end Go.Pm
end

/-
  CHAPTER 6, PART 41: terms and products for runs by computation. Conditions: none.
-/
section
set_option linter.unusedVariables false
set_option linter.unusedSimpArgs false
set_option linter.unusedVariables false
set_option linter.unusedSimpArgs false
set_option maxRecDepth 4000
namespace Go.Pm
open Go.Proofs
def Tm.k : Tm → Int | .mk k _ _ _ => k
def Tm.s : Tm → ByteArray | .mk _ s _ _ => s
def Tm.o : Tm → Int | .mk _ _ o _ => o
def Tm.l : Tm → List Tm | .mk _ _ _ l => l
theorem enc_x (t : Tm) : enc t = .agg [.int .i64 t.k, .str t.s, .int .i64 t.o, .snap false (encs t.l)] := by cases t; exact enc_mk _ _ _ _
theorem encP_x (t : Tm) (n : Int) : encP (t, n) = .agg [.int .i64 t.k, .str t.s, .int .i64 t.o, .snap false (encs t.l), .int .i64 n] := by cases t; rfl
attribute [simp] isVals isVal nrms nrm isVals_encs nrms_encs isVal_enc nrm_enc nrms_encPs encPs_vals
@[simp] theorem fold_enc (t : Tm) : PV.agg [.int .i64 t.k, .str t.s, .int .i64 t.o, .snap false (encs t.l)] = enc t := (enc_x t).symm
@[simp] theorem fold_encP (t : Tm) (n : Int) : PV.agg [.int .i64 t.k, .str t.s, .int .i64 t.o, .snap false (encs t.l), .int .i64 n] = encP (t, n) := (encP_x t n).symm
theorem isVals_app (a b : List PV) : isVals (a ++ b) = (isVals a && isVals b) := by rw [isVals_eq, List.all_append, ← isVals_eq, ← isVals_eq]
attribute [simp] isVals_app
@[simp] theorem isVal_encP (p : Pw) : isVal (encP p) = true := by obtain ⟨t, n⟩ := p; rw [encP_x]; simp
@[simp] theorem nrm_encP (p : Pw) : nrm (encP p) = encP p := by obtain ⟨t, n⟩ := p; rw [encP_x]; simp [-fold_encP, -fold_enc]
@[simp] theorem encPs_nil : encPs [] = [] := rfl
@[simp] theorem encs_nil : encs [] = [] := by simp [encs]
@[simp] theorem encs_lenS (l : List Tm) : (encs l).length = l.length := encs_len l
@[simp] theorem encPs_lenS (l : List Pw) : (encPs l).length = l.length := encPs_len l
theorem at_encs {l p q : List Tm} {t : Tm} (e : l = p ++ t :: q) : (encs l)[p.length]? = some (.agg [.int .i64 t.k, .str t.s, .int .i64 t.o, .snap false (encs t.l)]) := by rw [encs_eq, e, ← enc_x]; simp
theorem at_encPs {l p q : List Pw} {t : Tm} {n : Int} (e : l = p ++ (t, n) :: q) : (encPs l)[p.length]? = some (.agg [.int .i64 t.k, .str t.s, .int .i64 t.o, .snap false (encs t.l), .int .i64 n]) := by rw [encPs, e, ← encP_x]; simp
theorem set_encPs (x q : List Pw) (p p' : Pw) : (encPs (x ++ p :: q)).set x.length (encP p') = encPs (x ++ p' :: q) := by simp [encPs]
attribute [local irreducible] thenQ blockQ loopQ bodyQ Ev EvOps CallEv FnEv EvD
theorem rinv_x (l : List Pw) (hl : l.length < 100000000) : Fun C 16 [.snap false (encPs l)] (.snap false (encPs (invP l))) := by
  have hel := encPs_len l
  refine Fun.x T6 Try.func16 rfl ?_
  (repeat' (first | (refine Rn.go ?_; conv => whnf) | refine .mk ?_ | refine .tt ?_ | refine .ff ?_ | refine .m2 ?_ | refine .m3 ?_ | refine .mk (fun hc => ?_) (fun hc => ?_) | refine .lp (fun v H lp => ?_) | fail))
  refine LpX.zip T6 l (fun p q L H => ∃ v, L = [(0, .snap false (encPs l)), (3, v), (4, .int .i64 p.length)] ∧ HV H ∧ Out 5 H v (encPs (invP p))) (.nx ⟨_, rfl, HV.nil, .inl ⟨rfl, rfl⟩⟩) ?_ ?_
  · rintro p ⟨t, n⟩ q _ h ρ e ⟨v, rfl, hH, ho⟩
    have hat := at_encPs e
    have hl2 := congrArg List.length e
    simp only [List.length_append, List.length_cons] at hl2
    have hlp : (encPs (invP p)).length = p.length := by rw [encPs_len, invP_len]
    (repeat' (first | (refine Rn.go ?_; conv => whnf) | refine .mk ?_ | refine .tt ?_ | refine .ff ?_ | refine .m2 ?_ | refine .m3 ?_ | refine .mk (fun hc => ?_) (fun hc => ?_) | refine .lp (fun v H lp => ?_) | fail))
    refine .raw _ rfl ?_
    (repeat' (first | (refine Rn.go ?_; conv => whnf) | refine .mk ?_ | refine .tt ?_ | refine .ff ?_ | refine .m2 ?_ | refine .m3 ?_ | refine .mk (fun hc => ?_) (fun hc => ?_) | refine .lp (fun v H lp => ?_) | fail))
    exact .nx ⟨_, rfl, lp.hv, by simpa [invP, encPs] using lp.out⟩
  · rintro _ h ρ ⟨v, rfl, hH, ho⟩
    (repeat' (first | (refine Rn.go ?_; conv => whnf) | refine .mk ?_ | refine .tt ?_ | refine .ff ?_ | refine .m2 ?_ | refine .m3 ?_ | refine .mk (fun hc => ?_) (fun hc => ?_) | refine .lp (fun v H lp => ?_) | fail))
    obtain ⟨r1, e1, e2⟩ := ho.rbA (encPs_vals _)
    exact ⟨r1, by rcases ho with ⟨rfl, _⟩ | ⟨id, ep, rfl, _⟩ <;> exact e1, by simpa using e2⟩
end Go.Pm
end

/-
  CHAPTER 6, PART 30: the program's copied and Inverse. Conditions: none.
-/
section
set_option linter.unusedVariables false
set_option linter.unusedSimpArgs false
set_option linter.unusedVariables false
set_option linter.unusedSimpArgs false
set_option maxRecDepth 4000
set_option maxHeartbeats 8000000
namespace Go.Pm
open Go.Proofs
/-- the first i changed -/
def updL (g : Pw → Pw) (l : List Pw) (i : Nat) : List Pw := (l.take i).map g ++ l.drop i
theorem updL_zero (g : Pw → Pw) (l : List Pw) : updL g l 0 = l := by simp [updL]
theorem updL_all (g : Pw → Pw) (l : List Pw) {i : Nat} (h : l.length ≤ i) : updL g l i = l.map g := by
  rw [updL, List.take_of_length_le h, List.drop_eq_nil_of_le h, List.append_nil]
theorem updL_len (g : Pw → Pw) (l : List Pw) (i : Nat) : (updL g l i).length = l.length := by simp [updL]; omega
theorem updL_at {g : Pw → Pw} {l : List Pw} {i : Nat} {p : Pw} (h : l[i]? = some p) : (updL g l i)[i]? = some p := by
  have hi := lt_of_some h
  rw [updL, List.getElem?_append_right (by simp; omega), List.getElem?_drop]
  simp only [List.length_map, List.length_take]
  rw [← h]; congr 1; omega
theorem updL_set {g : Pw → Pw} {l : List Pw} {i : Nat} {p : Pw} (h : l[i]? = some p) : (updL g l i).set i (g p) = updL g l (i + 1) := by
  have hi := lt_of_some h
  have hd : l.drop i = p :: l.drop (i + 1) := by
    rw [List.drop_eq_getElem_cons hi]
    congr 1
    rw [List.getElem?_eq_getElem hi] at h
    exact Option.some.inj h
  have hl : ((l.take i).map g).length = i := by simp; omega
  rw [updL, updL, List.set_append_right _ _ (by omega), hl, Nat.sub_self, hd, List.set_cons_zero, List.take_add_one, h, List.map_append, List.append_assoc]
  rfl
theorem belowR_mref {N id ep off len : Nat} : belowR N (.mref id ep off len) = decide (id < N) := by
  simp [belowR, belowA, below1]
/-- an open call that makes a list anew -/
theorem CallEv.openedLP {C : Cfg} {f : FuncId} {sz : Nat} {args : List PV} {h : AHeap} {es : List PV} {Q : PV → AHeap → Prop} (hm : C.mode f = .opened) (a : FnEv C f args h (fun r k => LP h (.snap true []) sz es r k))
    (q : ∀ r K, HV K → Out sz K r es → h.length ≤ K.length → (∀ j, j < h.length → K[j]? = h[j]?) → (∀ j ep n, r = .mref j ep 0 n → h.length ≤ j) → Q r K) : CallEv C 2 f args h Q := by
  refine CallEv.openedV (N := h.length) hm rfl rfl rfl a ?_
  rintro r k lp
  have hl := lp.len
  have hfr : ∀ j, j < h.length → k[j]? = h[j]? := fun j hj => lp.fr j hj (fun ep n hh => by cases hh)
  have href : ∀ j ep n, r = .mref j ep 0 n → h.length ≤ j := fun j ep n hh => by
    rcases lp.ref j ep n hh with ⟨_, _, h1⟩ | h1
    · cases h1
    · exact h1
  refine ⟨lp.hv, fun hb => ?_, fun _ => q r k lp.hv lp.out hl hfr href⟩
  rcases lp.out with ⟨rfl, e0⟩ | ⟨id, ep, rfl, e1⟩
  · refine q _ _ (lp.hv.take _) (.inl ⟨rfl, e0⟩) (by simp; omega) (fun j hj => ?_) (fun j ep n hh => by cases hh)
    rw [List.getElem?_take, if_pos hj]
    exact hfr j hj
  · have := href id ep _ rfl
    rw [belowR_mref] at hb
    have := of_decide_eq_true hb
    omega
attribute [local irreducible] thenQ blockQ loopQ bodyQ Ev EvOps CallEv FnEv EvD
theorem copied_ev (l : List Pw) (hb : ∀ p ∈ l, bulk p.1 < 1000000000) (hl : l.length < 100000000) (H : AHeap) (hH : HV H) : FnEv C 40 [.snap false (encPs l)] H (fun r k => LP H (.snap true []) 5 (encPs l) r k) := by
  have hel := encPs_len l
  refine FnEv.bodyL Try.func40 rfl ?_
  (repeat' (first | refine EvOps.nil ?_ | (apply R.move; exact rfl) | (apply R.assign; exact rfl) | (apply R.lenS T6; exact rfl; exact rfl) | refine Ev.seq ?_ | refine Ev.region ?_ | refine Ev.block ?_ | refine thenQ.normal ?_ | fail))
  refine Ev.loop (I := fun k' st => ∃ (i : Nat) (v : PV) (K : AHeap) (ρ' : Nat → PV), st = ⟨al [(3, v), (6, .snap false (encPs l)), (7, .int .i64 (encPs l).length), (8, .int .i64 i)] ρ', K⟩ ∧ k' + i = l.length ∧ LP H (.snap true []) 5 (encPs (l.take i)) v K) l.length ?_ ?_
  · exact ⟨0, _, H, _, St.keep ⟨rfl, rfl, rfl, rfl, trivial⟩, rfl, .inl ⟨rfl, rfl⟩, hH, Nat.le_refl _, fun _ _ _ => rfl, fun j ep n hh => by cases hh⟩
  rintro k' _ ⟨i, v, K, ρ', rfl, hk, lp0⟩
  (repeat' (first | refine EvOps.nil ?_ | (apply R.move; exact rfl) | (apply R.assign; exact rfl) | (apply R.cmp; exact rfl; exact rfl; exact rfl; all_goals intro hc) | refine Ev.seq ?_ | refine Ev.region ?_ | (apply Ev.condB; exact rfl) | refine Ev.ret ?_ | refine Ev.skip ?_ | refine Ev.exit ?_ | refine Ev.block ?_ | refine thenQ.normal ?_ | refine thenQ.exit ?_ | refine blockQ.hit ?_ | refine loopQ.exit ?_ | (apply bodyQ.ret; exact rfl) | fail))
  · obtain ⟨k1, s1, o1, l1, n1, hmem, hat, hd, hil, hget⟩ := encPs_at hc
    have hcl := clone_fun _ (hb _ hmem)
    simp only at hcl
    rw [enc_mk] at hcl
    have hsn := take_snoc hget
    have hlx := encPs_len (l.take i)
    rw [List.length_take] at hlx
    clear hc
    refine R.indexS T6 rfl rfl rfl rfl hat rfl rfl ?_
    (repeat' (first | refine EvOps.nil ?_ | (apply R.loadA T6; exact rfl; exact rfl; exact rfl; exact rfl; exact (by repeat constructor)) | (apply R.allocN T6; exact rfl; exact rfl; exact rfl) | (apply R.storeN T6; exact rfl; exact rfl; exact rfl; exact rfl; exact rfl; exact rfl) | refine Ev.regionD ?_ | (apply D.move; exact rfl) | (apply D.fieldAddr T6; exact rfl; exact rfl; exact rfl; exact rfl) | refine thenQ.normal ?_ | fail))
    obtain ⟨H1, hH1⟩ : ∃ x, x = K ++ [⟨.m, 0, 5, [.agg [.int .i64 k1, .str s1, .int .i64 o1, .snap false (encs l1), .int .i64 n1]]⟩] := ⟨_, rfl⟩
    have v1 : HV H1 := by rw [hH1]; exact lp0.hv.app (HV.one rfl)
    have b1 : H1[K.length]? = some ⟨.m, 0, 5, [.agg [.int .i64 k1, .str s1, .int .i64 o1, .snap false (encs l1), .int .i64 n1]]⟩ := by rw [hH1]; simp
    have o1' : Out 5 H1 v (encPs (l.take i)) := by rw [hH1]; exact lp0.out.app _
    refine EvD.heap hH1.symm ?_
    have v1c := v1.closed
    have hvis : visible H1 K.length = true := v1.vis (by rw [hH1]; simp)
    (repeat' (first | (apply D.loadAH T6; exact (by assumption); exact rfl; exact rfl; exact rfl; exact (by assumption); exact (by repeat constructor)) | fail))
    refine D.callP v1c rfl rfl rfl rfl rfl rfl (by simpa [nrms, nrm, nrms_encs] using hcl) ?_
    (repeat' (first | (apply D.build T6; exact rfl; exact rfl; exact rfl; exact rfl; exact rfl; exact rfl) | (apply D.fieldAddr T6; exact rfl; exact rfl; exact rfl; exact rfl) | (apply D.load1H T6; exact (by assumption); exact rfl; exact rfl; exact rfl; exact (by assumption); exact rfl) | fail))
    refine D.buildSlice T6 v1c rfl rfl rfl rfl rfl (by decide) rfl rfl rfl rfl rfl ?_
    refine D.appendLP T6 rfl rfl rfl rfl rfl rfl rfl rfl (by decide) rfl rfl rfl rfl o1' (by show _ + 1 < _; omega) (by rw [isVals_eq, List.all_append, ← isVals_eq, encPs_vals]; rfl) v1 ?_
    intro v3 H3 lp
    have lp : LP H1 v 5 (encPs (l.take i) ++ [encP (.mk k1 s1 o1 l1, n1)]) v3 H3 := lp
    rw [encPs_snoc, ← hsn, hH1] at lp
    have lp2 := lp0.trans lp
    (repeat' (first | refine EvOps.nil ?_ | (apply R.move; exact rfl) | (apply R.arith; exact rfl; exact rfl; exact rfl; exact (wrapI (by omega) (by omega))) | refine Ev.region ?_ | refine EvD.nil ?_ | (apply D.assign; exact rfl) | refine thenQ.normal ?_ | refine blockQ.normal ?_ | refine loopQ.normal ?_ | fail))
    exact ⟨k' - 1, by omega, i + 1, v3, H3, _, St.keep ⟨rfl, rfl, rfl, rfl, trivial⟩, by omega, lp2⟩
  · have tk : l.take i = l := List.take_of_length_le (by omega)
    rw [tk] at lp0
    exact lp0
theorem inv_fun (l : List Pw) (hb : ∀ p ∈ l, bulk p.1 < 1000000000) (hl : l.length < 100000000) : Fun C 15 [.snap false (encPs l)] (.snap false (encPs (invP l))) := by
  have hel := encPs_len l
  refine Fun.of (FnEv.bodyL Try.func15 rfl ?_)
  (repeat' (first | refine EvOps.nil ?_ | (apply R.move; exact rfl) | (apply R.assign; exact rfl) | refine Ev.seq ?_ | refine Ev.region ?_ | refine thenQ.normal ?_ | fail))
  refine R.call rfl rfl (CallEv.openedLP rfl (copied_ev l hb hl [] HV.nil) ?_)
  rintro r K hK ho _ _ _
  rcases ho with ⟨rfl, e0⟩ | ⟨id, ep, rfl, e1⟩
  · have hl0 : l = [] := List.eq_nil_of_length_eq_zero (by rw [← hel, e0]; rfl)
    subst hl0
    (repeat' (first | refine EvOps.nil ?_ | (apply R.move; exact rfl) | (apply R.assign; exact rfl) | (apply R.lenS T6; exact rfl; exact rfl) | refine Ev.seq ?_ | refine Ev.region ?_ | refine Ev.block ?_ | refine thenQ.normal ?_ | fail))
    refine Ev.loop (I := fun k' st => ∃ (ρ' : Nat → PV), st = ⟨al [(3, .snap true []), (8, .int .i64 0), (9, .int .i64 0)] ρ', K⟩) 0 ?_ ?_
    · exact ⟨_, St.keep ⟨rfl, rfl, rfl, trivial⟩⟩
    rintro k' _ ⟨ρ', rfl⟩
    (repeat' (first | refine EvOps.nil ?_ | (apply R.move; exact rfl) | (apply R.assign; exact rfl) | (apply R.cmp; exact rfl; exact rfl; exact rfl; all_goals intro hc; all_goals (try (exfalso; omega))) | refine Ev.seq ?_ | refine Ev.region ?_ | (apply Ev.condB; exact rfl) | refine Ev.ret ?_ | refine Ev.exit ?_ | refine thenQ.normal ?_ | refine thenQ.exit ?_ | refine blockQ.hit ?_ | refine loopQ.exit ?_ | (apply bodyQ.ret; exact rfl) | fail))
    exact ⟨_, rfl, rfl⟩
  · have hmod : ∀ i, (encPs (updL (fun p => (p.1, IntKind.i64.wrap (0 - p.2))) l i)).length = (encPs l).length := fun i => by rw [encPs_len, encPs_len, updL_len]
    (repeat' (first | refine EvOps.nil ?_ | (apply R.move; exact rfl) | (apply R.assign; exact rfl) | refine Ev.seq ?_ | refine Ev.region ?_ | refine thenQ.normal ?_ | fail))
    apply R.lenM T6 (o := ⟨.m, ep, 5, encPs l⟩); exact rfl; exact rfl; exact getM_at e1 rfl (by simp); exact (by show 0 + _ ≤ (encPs l).length; omega)
    (repeat' (first | refine EvOps.nil ?_ | (apply R.move; exact rfl) | refine Ev.block ?_ | refine thenQ.normal ?_ | fail))
    refine Ev.loop (I := fun k' st => ∃ (i : Nat) (K : AHeap) (ρ' : Nat → PV), st = ⟨al [(3, .mref id ep 0 (encPs l).length), (8, .int .i64 (encPs l).length), (9, .int .i64 i)] ρ', K⟩ ∧ k' + i = l.length ∧ HV K ∧ K[id]? = some ⟨.m, ep, 5, encPs (updL (fun p => (p.1, IntKind.i64.wrap (0 - p.2))) l i)⟩) l.length ?_ ?_
    · exact ⟨0, K, _, St.keep ⟨rfl, rfl, rfl, trivial⟩, rfl, hK, by rw [updL_zero]; exact e1⟩
    clear e1 hK
    rintro k' _ ⟨i, K, ρ', rfl, hk, hK, e1⟩
    have hmi := hmod i
    (repeat' (first | refine EvOps.nil ?_ | (apply R.move; exact rfl) | (apply R.assign; exact rfl) | (apply R.cmp; exact rfl; exact rfl; exact rfl; all_goals intro hc) | refine Ev.seq ?_ | refine Ev.region ?_ | (apply Ev.condB; exact rfl) | refine Ev.ret ?_ | refine Ev.skip ?_ | refine Ev.exit ?_ | refine Ev.block ?_ | refine thenQ.normal ?_ | refine thenQ.exit ?_ | refine blockQ.hit ?_ | refine loopQ.exit ?_ | (apply bodyQ.ret; exact rfl) | fail))
    · obtain ⟨k1, s1, o1, l1, n1, hmem, hat, hd, hil, hget⟩ := encPs_at hc
      have hidl := lt_of_some e1
      have hat2 : (encPs (updL (fun p => (p.1, IntKind.i64.wrap (0 - p.2))) l i))[0 + i]? = some (.agg [.int .i64 k1, .str s1, .int .i64 o1, .snap false (encs l1), .int .i64 n1]) := by
        rw [Nat.zero_add, encPs, List.getElem?_map, updL_at hget]; rfl
      have hpc : pcells K (.ptr id ep (0 + i) (0 + 4)) = some [.int .i64 n1] := by
        simp only [pcells, getM_at e1 rfl (by simp), hat2]; rfl
      refine R.indexM T6 (o := ⟨.m, ep, 5, encPs (updL (fun p => (p.1, IntKind.i64.wrap (0 - p.2))) l i)⟩) rfl rfl rfl (getM_at e1 rfl (by simp)) rfl (by omega) (by show 0 + (encPs l).length ≤ (encPs _).length; omega) ?_
      (repeat' (first | (apply R.fieldAddr T6; exact rfl; exact rfl; exact rfl; exact rfl) | fail))
      refine R.load1 T6 rfl rfl rfl hpc ?_
      refine R.neg rfl rfl ?_
      refine R.indexM T6 (o := ⟨.m, ep, 5, encPs (updL (fun p => (p.1, IntKind.i64.wrap (0 - p.2))) l i)⟩) rfl rfl rfl (getM_at e1 rfl (by simp)) rfl (by omega) (by show 0 + (encPs l).length ≤ (encPs _).length; omega) ?_
      (repeat' (first | (apply R.fieldAddr T6; exact rfl; exact rfl; exact rfl; exact rfl) | fail))
      refine R.storeH T6 (n := 0) (o := ⟨.m, ep, 5, encPs (updL (fun p => (p.1, IntKind.i64.wrap (0 - p.2))) l i)⟩) (i := 0 + i) rfl rfl rfl (getM_at e1 rfl (by simp)) rfl hat2 rfl rfl (Nat.le_refl 5) ?_
      obtain ⟨H2, hH2⟩ : ∃ x, x = K.set id ⟨.m, ep, 5, encPs (updL (fun p => (p.1, IntKind.i64.wrap (0 - p.2))) l (i + 1))⟩ := ⟨_, rfl⟩
      have hset : K.set id { (⟨.m, ep, 5, encPs (updL (fun p => (p.1, IntKind.i64.wrap (0 - p.2))) l i)⟩ : AObj) with es := (encPs (updL (fun p => (p.1, IntKind.i64.wrap (0 - p.2))) l i)).set (0 + i) (recell (0 + 4) 1 (.agg [.int .i64 k1, .str s1, .int .i64 o1, .snap false (encs l1), .int .i64 n1]) (.int .i64 (IntKind.i64.wrap (0 - n1)))) } = H2 := by
        rw [hH2, Nat.zero_add, ← updL_set hget]
        congr 2
        unfold encPs
        rw [List.map_set]
        rfl
      refine EvOps.heap hset ?_
      have e2 : H2[id]? = some ⟨.m, ep, 5, encPs (updL (fun p => (p.1, IntKind.i64.wrap (0 - p.2))) l (i + 1))⟩ := by rw [hH2]; exact List.getElem?_set_self hidl
      have v2 : HV H2 := by rw [hH2]; exact hK.set id (by simp) (encPs_vals _)
      (repeat' (first | refine EvOps.nil ?_ | (apply R.move; exact rfl) | (apply R.arith; exact rfl; exact rfl; exact rfl; exact (wrapI (by omega) (by omega))) | refine Ev.region ?_ | refine thenQ.normal ?_ | refine blockQ.normal ?_ | refine loopQ.normal ?_ | fail))
      exact ⟨k' - 1, by omega, i + 1, H2, _, St.keep ⟨rfl, rfl, rfl, trivial⟩, by omega, v2, e2⟩
    · rw [updL_all _ _ (by omega)] at e1
      have ho : Out 5 K (.mref id ep 0 (encPs l).length) (encPs (invP l)) := .inr ⟨id, ep, by rw [encPs_len, encPs_len, invP_len], e1⟩
      obtain ⟨r1, f1, f2⟩ := ho.rbA (encPs_vals _)
      rw [nrms_encPs] at f2
      exact ⟨r1, f1, f2⟩
end Go.Pm
end

/-
  CHAPTER 6, PLAIN LAW 5: products multiplied, raised. Conditions: none.
-/
section
set_option linter.unusedVariables false
set_option linter.unusedSimpArgs false
set_option linter.unusedVariables false
namespace Go.Pm
theorem snocInd {α : Type} {P : List α → Prop} (h0 : P []) (h1 : ∀ p x, P p → P (p ++ [x])) (l : List α) : P l := by
  have : ∀ r : List α, P r.reverse := fun r => by
    induction r with
    | nil => exact h0
    | cons x r ih => rw [List.reverse_cons]; exact h1 _ _ ih
  simpa using this l.reverse
def inR (l : List Pw) : Bool := l.any fun p => decide (p.2 < -1000 ∨ 1000 < p.2)
def resP (l : List Pw) : List Pw × Int := if inR l = true then ([], 7) else if 200 < l.length then ([], 3) else (l, 0)
def mulP (a b : List Pw) : List Pw := b.foldl (fun acc p => insP p.1 p.2 acc) a
def mulT (a b : List Pw) : List Pw × Int := if validP a ≠ 0 then ([], validP a) else if validP b ≠ 0 then ([], validP b) else resP (mulP a b)
def tmsP (a : List Pw) (n : Int) : List Pw := if n = 0 then [] else a.map fun p => (p.1, n * p.2)
def timesT (a : List Pw) (n : Int) : List Pw × Int := if validP a ≠ 0 then ([], validP a) else if n < -1000 ∨ 1000 < n then ([], 7) else resP (tmsP a n)
theorem insP_bdN {B M : Int} {t : Tm} {n : Int} (h1 : -M ≤ n) (h2 : n ≤ M) (hM : 0 ≤ M) (hB : 0 ≤ B) : ∀ {l : List Pw}, Bd B l → Bd (B + M) (insP t n l)
  | [], _ => by intro p hp; simp [insP] at hp; subst hp; simp only; omega
  | q :: l, h => by
    have hl : Bd B l := fun r hr => h r (by simp [hr])
    have hl1 : Bd (B + M) l := fun r hr => by have := hl r hr; omega
    have hq := h q (by simp)
    rw [insP]
    split
    · intro p hp
      rcases List.mem_cons.1 hp with rfl | hp
      · omega
      · exact insP_bdN h1 h2 hM hB hl p hp
    · split
      · split
        · exact hl1
        · intro p hp
          rcases List.mem_cons.1 hp with rfl | hp
          · simp only; omega
          · exact hl1 p hp
      · intro p hp
        rcases List.mem_cons.1 hp with rfl | hp
        · simp only; omega
        · have := h p hp; omega
/-- what holds of a product while it is multiplied -/
structure MI (a : List Pw) (k : Nat) : Prop where
  srt : Srt a
  nz : Nz a
  bd : Bd (1000 + 1000 * (k : Int)) a
  len : a.length ≤ 200 + k
theorem MI.of {a : List Pw} (h : validP a = 0) : MI a 0 := by
  obtain ⟨h1, h2, h3, h4, h5⟩ := validP_zero h
  exact ⟨h5, h4, fun p hp => by have := h2 p hp; omega, by omega⟩
theorem MI.ins {a : List Pw} {k : Nat} (m : MI a k) {t : Tm} {n : Int} (h0 : n ≠ 0) (h1 : -1000 ≤ n) (h2 : n ≤ 1000) : MI (insP t n a) (k + 1) :=
  ⟨insP_srt m.srt, insP_nz h0 m.nz, fun p hp => by have := insP_bdN h1 h2 (by omega) (by omega) m.bd p hp; omega, by have := insP_len (t := t) (n := n) a; have := m.len; omega⟩
theorem mulP_snoc (a p : List Pw) (x : Pw) : mulP a (p ++ [x]) = insP x.1 x.2 (mulP a p) := by simp [mulP]
theorem MI.mul {a : List Pw} (ha : validP a = 0) : ∀ {p b : List Pw}, validP b = 0 → (∀ x ∈ p, x ∈ b) → MI (mulP a p) p.length := by
  intro p b hb hp
  induction p using snocInd with
  | h0 => exact MI.of ha
  | h1 p x ih =>
    obtain ⟨h1, h2, h3, h4, h5⟩ := validP_zero hb
    have hx := hp x (by simp)
    rw [mulP_snoc, List.length_append]
    exact (ih (fun y hy => hp y (by simp [hy]))).ins (h4 x hx) (h2 x hx).1 (h2 x hx).2
theorem insP_bulk {t : Tm} {n : Int} {B : Nat} (ht : bulk t < B) {l : List Pw} (hl : ∀ p ∈ l, bulk p.1 < B) : ∀ p ∈ insP t n l, bulk p.1 < B := fun p hp => by
  rcases insP_mem hp with h | ⟨q, hq, h⟩
  · rw [h]; exact ht
  · rw [← h]; exact hl q hq
theorem mulP_bulk {B : Nat} {a b : List Pw} (ha : ∀ p ∈ a, bulk p.1 < B) (hb : ∀ p ∈ b, bulk p.1 < B) : ∀ p ∈ mulP a b, bulk p.1 < B := by
  induction b using snocInd with
  | h0 => exact ha
  | h1 p x ih => rw [mulP_snoc]; exact insP_bulk (hb x (by simp)) (ih fun y hy => hb y (by simp [hy]))
theorem mulP_add {a p b : List Pw} (ha : validP a = 0) (hb : validP b = 0) (hp : ∀ x ∈ p, x ∈ b) {t : Tm} {n : Int} : addP t n false (mulP a p) = insP t n (mulP a p) :=
  addP_ins _ _ _ (MI.mul ha hb hp).srt (MI.mul ha hb hp).nz
theorem pw_mul (a b : List Pw) (u : Tm) : pw (mulP a b) u = pw a u + pw b u := by
  induction b using snocInd with
  | h0 => simp [mulP, pw]
  | h1 p x ih =>
    have pa : ∀ l : List Pw, pw (l ++ [x]) u = pw l u + if cmpT x.1 u = 0 then x.2 else 0 := fun l => by
      induction l with
      | nil => simp [pw]
      | cons y l ih => rw [List.cons_append, pw, pw, ih]; omega
    rw [mulP_snoc, pw_ins, ih, pa]; omega
end Go.Pm
end

/-
  CHAPTER 6, PART 42: the program's result, Mul, Times. Conditions: none.
-/
section
set_option linter.unusedVariables false
set_option linter.unusedSimpArgs false
set_option linter.unusedVariables false
set_option linter.unusedSimpArgs false
set_option maxRecDepth 4000
namespace Go.Pm
open Go.Proofs
def idxI {α : Type} (p : α → Bool) (l : List α) : Int := match l.findIdx? p with | some i => i | none => -1
theorem idxI_at {α : Type} {p : α → Bool} {a q : List α} {x : α} (h : ∀ y ∈ a, p y = false) (hx : p x = true) : idxI p (a ++ x :: q) = a.length := by
  unfold idxI
  rw [List.findIdx?_append, List.findIdx?_eq_none_iff.2 h]
  simp [List.findIdx?_cons, hx]
theorem idxI_none {α : Type} {p : α → Bool} {a : List α} (h : ∀ y ∈ a, p y = false) : idxI p a = -1 := by
  unfold idxI
  rw [List.findIdx?_eq_none_iff.2 h]
theorem idxI_any {α : Type} (p : α → Bool) (l : List α) : decide (0 ≤ idxI p l) = l.any p := by
  unfold idxI
  cases h : l.findIdx? p with
  | none =>
    rw [List.findIdx?_eq_none_iff] at h
    have : l.any p = false := by rw [List.any_eq_false]; intro x hx; simp [h x hx]
    rw [this]; rfl
  | some i =>
    obtain ⟨h1, h2, _⟩ := List.findIdx?_eq_some_iff_getElem.1 h
    have : l.any p = true := List.any_eq_true.2 ⟨_, List.getElem_mem h1, h2⟩
    rw [this]; simp
attribute [local irreducible] thenQ blockQ loopQ bodyQ Ev EvOps CallEv FnEv EvD
theorem res1_fun (p : Pw) : Fun C 66 [encP p] (.bool (decide (p.2 < -1000 ∨ 1000 < p.2))) := by
  obtain ⟨t, n⟩ := p
  rw [encP_x]
  refine Fun.x T6 Try.func66 rfl ?_
  (repeat' (first | (refine Rn.go ?_; conv => whnf) | refine .mk ?_ | refine .tt ?_ | refine .ff ?_ | refine .m2 ?_ | refine .m3 ?_ | refine .mk (fun hc => ?_) (fun hc => ?_) | refine .lp (fun v H lp => ?_) | fail))
  all_goals exact ⟨_, rfl, by simp [tupOf, *]⟩
theorem idxP_fun (l : List Pw) (g : FuncId) (cs : List PV) (p : Pw → Bool) (hl : l.length < 1000000000) (hm : C.mode g = .pure) (hc : isVals cs = true) (hcn : nrms cs = cs) (hp : ∀ x ∈ l, Fun C g (encP x :: cs) (.bool (p x))) :
    Fun C 77 [.snap false (encPs l), .fn g cs] (.int .i64 (idxI p l)) := by
  have hel := encPs_len l
  refine Fun.x T6 Try.func77 rfl ?_
  (repeat' (first | (refine Rn.go ?_; conv => whnf) | refine .mk ?_ | refine .tt ?_ | refine .ff ?_ | refine .m2 ?_ | refine .m3 ?_ | refine .mk (fun hc => ?_) (fun hc => ?_) | refine .lp (fun v H lp => ?_) | fail))
  refine LpX.zip T6 l (fun a q L H => L = [(0, .snap false (encPs l)), (1, .fn g cs), (7, .int .i64 (encPs l).length), (8, .int .i64 a.length)] ∧ ∀ y ∈ a, p y = false) (.nx ⟨rfl, by simp⟩) ?_ ?_
  · rintro a ⟨t, n⟩ q _ h ρ e ⟨rfl, ha⟩
    have hat := at_encPs e
    have hl2 := congrArg List.length e
    simp only [List.length_append, List.length_cons] at hl2
    have hpx := hp (t, n) (by rw [e]; simp)
    (repeat' (first | (refine Rn.go ?_; conv => whnf) | refine .mk ?_ | refine .tt ?_ | refine .ff ?_ | refine .m2 ?_ | refine .m3 ?_ | refine .mk (fun hc => ?_) (fun hc => ?_) | refine .lp (fun v H lp => ?_) | fail))
    refine .p hpx ?_ hm (by simp [hc]) (by simp [hcn])
    cases hb : p (t, n)
    · (repeat' (first | (refine Rn.go ?_; conv => whnf) | refine .mk ?_ | refine .tt ?_ | refine .ff ?_ | refine .m2 ?_ | refine .m3 ?_ | refine .mk (fun hc => ?_) (fun hc => ?_) | refine .lp (fun v H lp => ?_) | fail))
      exact .nx ⟨rfl, fun y hy => by rcases List.mem_append.1 hy with h | h; exact ha y h; simp at h; rw [h]; exact hb⟩
    · (repeat' (first | (refine Rn.go ?_; conv => whnf) | refine .mk ?_ | refine .tt ?_ | refine .ff ?_ | refine .m2 ?_ | refine .m3 ?_ | refine .mk (fun hc => ?_) (fun hc => ?_) | refine .lp (fun v H lp => ?_) | fail))
      exact ⟨_, rfl, by rw [e, idxI_at ha hb]; rfl⟩
  · rintro _ h ρ ⟨rfl, ha⟩
    (repeat' (first | (refine Rn.go ?_; conv => whnf) | refine .mk ?_ | refine .tt ?_ | refine .ff ?_ | refine .m2 ?_ | refine .m3 ?_ | refine .mk (fun hc => ?_) (fun hc => ?_) | refine .lp (fun v H lp => ?_) | fail))
    exact ⟨_, rfl, by rw [idxI_none ha]; rfl⟩
theorem cntP_fun (l : List Pw) (g : FuncId) (cs : List PV) (p : Pw → Bool) (hl : l.length < 1000000000) (hm : C.mode g = .pure) (hc : isVals cs = true) (hcn : nrms cs = cs) (hp : ∀ x ∈ l, Fun C g (encP x :: cs) (.bool (p x))) :
    Fun C 65 [.snap false (encPs l), .fn g cs] (.bool (l.any p)) := by
  have hi := idxP_fun l g cs p hl hm hc hcn hp
  have ha := idxI_any p l
  refine Fun.x T6 Try.func65 rfl ?_
  (repeat' (first | (refine Rn.go ?_; conv => whnf) | refine .mk ?_ | refine .tt ?_ | refine .ff ?_ | refine .m2 ?_ | refine .m3 ?_ | refine .mk (fun hc => ?_) (fun hc => ?_) | refine .lp (fun v H lp => ?_) | fail))
  refine .p hi ?_ rfl (by simp [hc]) (by simp [hcn])
  (repeat' (first | (refine Rn.go ?_; conv => whnf) | refine .mk ?_ | refine .tt ?_ | refine .ff ?_ | refine .m2 ?_ | refine .m3 ?_ | refine .mk (fun hc => ?_) (fun hc => ?_) | refine .lp (fun v H lp => ?_) | fail))
  all_goals exact ⟨_, rfl, by rw [← ha]; simp [tupOf, *]⟩
theorem result_fun (l : List Pw) (hl : l.length < 1000000000) : Fun C 42 [.snap false (encPs l)] (.tup [.snap false (encPs (resP l).1), .int .i64 (resP l).2]) := by
  have hel := encPs_len l
  have hc := cntP_fun l 66 [] (fun p => decide (p.2 < -1000 ∨ 1000 < p.2)) hl rfl rfl rfl (fun x _ => res1_fun x)
  have hr : resP l = if inR l = true then ([], 7) else if 200 < l.length then ([], 3) else (l, 0) := rfl
  rw [show (l.any fun p => decide (p.2 < -1000 ∨ 1000 < p.2)) = inR l from rfl] at hc
  refine Fun.x T6 Try.func42 rfl ?_
  (repeat' (first | (refine Rn.go ?_; conv => whnf) | refine .mk ?_ | refine .tt ?_ | refine .ff ?_ | refine .m2 ?_ | refine .m3 ?_ | refine .mk (fun hc => ?_) (fun hc => ?_) | refine .lp (fun v H lp => ?_) | fail))
  refine .p hc ?_
  cases hb : inR l <;> rw [hb] at hr
  · (repeat' (first | (refine Rn.go ?_; conv => whnf) | refine .mk ?_ | refine .tt ?_ | refine .ff ?_ | refine .m2 ?_ | refine .m3 ?_ | refine .mk (fun hc => ?_) (fun hc => ?_) | refine .lp (fun v H lp => ?_) | fail))
    · exact ⟨_, rfl, by rw [hr, if_neg (by simp), if_pos (by omega)]; rfl⟩
    · exact ⟨_, rfl, by rw [hr, if_neg (by simp), if_neg (by omega)]; simp [tupOf]⟩
  · (repeat' (first | (refine Rn.go ?_; conv => whnf) | refine .mk ?_ | refine .tt ?_ | refine .ff ?_ | refine .m2 ?_ | refine .m3 ?_ | refine .mk (fun hc => ?_) (fun hc => ?_) | refine .lp (fun v H lp => ?_) | fail))
    exact ⟨_, rfl, by rw [hr, if_pos rfl]; rfl⟩
theorem pmul_fun (a b : List Pw) (ha : ∀ p ∈ a, bulk p.1 < 10000000) (hb : ∀ p ∈ b, bulk p.1 < 10000000) (la : a.length < 10000000) (lb : b.length < 10000000) :
    Fun C 18 [.snap false (encPs a), .snap false (encPs b)] (.tup [.snap false (encPs (mulT a b).1), .int .i64 (mulT a b).2]) := by
  have hva := pvalid_fun a (fun p hp => by have := ha p hp; omega) (by omega)
  have hvb := pvalid_fun b (fun p hp => by have := hb p hp; omega) (by omega)
  have hcp := fun H hH => copied_ev a (fun p hp => by have := ha p hp; omega) (by omega) H hH
  have r1 : validP a ≠ 0 → mulT a b = ([], validP a) := fun h => by rw [mulT, if_pos h]
  have r2 : validP a = 0 → validP b ≠ 0 → mulT a b = ([], validP b) := fun h h2 => by rw [mulT, if_neg (by omega), if_pos h2]
  have r3 : validP a = 0 → validP b = 0 → mulT a b = resP (mulP a b) := fun h h2 => by rw [mulT, if_neg (by omega), if_neg (by omega)]
  have hel := encPs_len b
  generalize mulT a b = R at *
  refine Fun.x T6 Try.func18 rfl ?_
  (repeat' (first | (refine Rn.go ?_; conv => whnf) | refine .mk ?_ | refine .tt ?_ | refine .ff ?_ | refine .m2 ?_ | refine .m3 ?_ | refine .mk (fun hc => ?_) (fun hc => ?_) | refine .lp (fun v H lp => ?_) | fail))
  refine .p hva ?_
  (repeat' (first | (refine Rn.go ?_; conv => whnf) | refine .mk ?_ | refine .tt ?_ | refine .ff ?_ | refine .m2 ?_ | refine .m3 ?_ | refine .mk (fun hc => ?_) (fun hc => ?_) | refine .lp (fun v H lp => ?_) | fail))
  rotate_left
  · exact ⟨_, rfl, by rw [r1 hc]; rfl⟩
  have va := hc
  clear hc
  refine .p hvb ?_
  (repeat' (first | (refine Rn.go ?_; conv => whnf) | refine .mk ?_ | refine .tt ?_ | refine .ff ?_ | refine .m2 ?_ | refine .m3 ?_ | refine .mk (fun hc => ?_) (fun hc => ?_) | refine .lp (fun v H lp => ?_) | fail))
  rotate_left
  · exact ⟨_, rfl, by rw [r2 va hc]; rfl⟩
  have vb := hc
  clear hc
  have r3 := r3 va vb
  clear r1 r2 hva hvb
  refine .lp (hcp _ HV.nil) (fun v H lp => ?_)
  (repeat' (first | (refine Rn.go ?_; conv => whnf) | refine .mk ?_ | refine .tt ?_ | refine .ff ?_ | refine .m2 ?_ | refine .m3 ?_ | refine .mk (fun hc => ?_) (fun hc => ?_) | refine .lp (fun v H lp => ?_) | fail))
  refine LpX.zip T6 b (fun p q L H => ∃ v, L = [(8, v), (23, .snap false (encPs b)), (24, .int .i64 (encPs b).length), (25, .int .i64 p.length)] ∧ HV H ∧ Out 5 H v (encPs (mulP a p))) (.nx ⟨_, rfl, lp.hv, lp.out⟩) ?_ ?_
  · rintro p ⟨t, n⟩ q _ h ρ e ⟨v, rfl, hH, ho⟩
    have hat := at_encPs e
    have hl2 := congrArg List.length e
    simp only [List.length_append, List.length_cons] at hl2
    have mi := MI.mul va vb (fun x hx => by rw [e]; exact List.mem_append.2 (.inl hx) : ∀ x ∈ p, x ∈ b)
    have hbt := hb (t, n) (by rw [e]; simp)
    have lb2 := (validP_zero vb).1
    have hins := insert_ev (mulP a p) t n (h ++ [⟨.m, 0, 5, [encP (t, n)]⟩]) v (hH.app (HV.one (by simp))) (ho.app _) mi.srt ⟨mulP_bulk (fun x hx => by have := ha x hx; omega) (fun x hx => by have := hb x (by rw [e]; exact List.mem_append.2 (.inl hx)); omega), by have := mi.len; omega⟩ (by simp only at hbt; omega) (fun x hx => by have := mi.bd x hx; omega) (by have := (validP_zero vb).2.1 (t, n) (by rw [e]; simp); simp only at this; omega)
    rw [encP_x] at hins
    (repeat' (first | (refine Rn.go ?_; conv => whnf) | refine .mk ?_ | refine .tt ?_ | refine .ff ?_ | refine .m2 ?_ | refine .m3 ?_ | refine .mk (fun hc => ?_) (fun hc => ?_) | refine .lp (fun v H lp => ?_) | fail))
    refine .lp hins (fun v' H' lp' => ?_)
    (repeat' (first | (refine Rn.go ?_; conv => whnf) | refine .mk ?_ | refine .tt ?_ | refine .ff ?_ | refine .m2 ?_ | refine .m3 ?_ | refine .mk (fun hc => ?_) (fun hc => ?_) | refine .lp (fun v H lp => ?_) | fail))
    exact .nx ⟨_, rfl, lp'.hv, by rw [mulP_snoc]; exact lp'.out⟩
  · rintro _ h ρ ⟨v, rfl, hH, ho⟩
    have mi := MI.mul va vb (fun x hx => hx : ∀ x ∈ b, x ∈ b)
    have hres := result_fun (mulP a b) (by have := mi.len; omega)
    rw [← r3] at hres
    (repeat' (first | (refine Rn.go ?_; conv => whnf) | refine .mk ?_ | refine .tt ?_ | refine .ff ?_ | refine .m2 ?_ | refine .m3 ?_ | refine .mk (fun hc => ?_) (fun hc => ?_) | refine .lp (fun v H lp => ?_) | fail))
    refine .po ho hres (fun _ _ => ?_)
    (repeat' (first | (refine Rn.go ?_; conv => whnf) | refine .mk ?_ | refine .tt ?_ | refine .ff ?_ | refine .m2 ?_ | refine .m3 ?_ | refine .mk (fun hc => ?_) (fun hc => ?_) | refine .lp (fun v H lp => ?_) | fail))
    exact ⟨_, rfl, by simp [tupOf]⟩
theorem mul_bd {n m B D : Int} (h1 : -B ≤ n) (h2 : n ≤ B) (h3 : -D ≤ m) (h4 : m ≤ D) : -(B * D) ≤ n * m ∧ n * m ≤ B * D := by
  have h : (n * m).natAbs ≤ (B * D).natAbs := by
    rw [Int.natAbs_mul, Int.natAbs_mul]
    exact Nat.mul_le_mul (by omega) (by omega)
  have hp : 0 ≤ B * D := Int.mul_nonneg (by omega) (by omega)
  omega
theorem ptimes_fun (a : List Pw) (m : Int) (ha : ∀ p ∈ a, bulk p.1 < 10000000) (la : a.length < 10000000) :
    Fun C 19 [.snap false (encPs a), .int .i64 m] (.tup [.snap false (encPs (timesT a m).1), .int .i64 (timesT a m).2]) := by
  have hva := pvalid_fun a (fun p hp => by have := ha p hp; omega) (by omega)
  have hcp := fun H hH => copied_ev a (fun p hp => by have := ha p hp; omega) (by omega) H hH
  have r1 : validP a ≠ 0 → timesT a m = ([], validP a) := fun h => by rw [timesT, if_pos h]
  have r2 : validP a = 0 → (m < -1000 ∨ 1000 < m) → timesT a m = ([], 7) := fun h h2 => by rw [timesT, if_neg (by omega), if_pos h2]
  have r3 : validP a = 0 → ¬ (m < -1000 ∨ 1000 < m) → timesT a m = resP (tmsP a m) := fun h h2 => by rw [timesT, if_neg (by omega), if_neg (by omega)]
  have hres := result_fun (tmsP a m) (by unfold tmsP; split <;> simp; omega)
  have hel := encPs_len a
  have ht : m = 0 → tmsP a m = [] := fun h => by rw [tmsP, if_pos h]
  have ht' : m ≠ 0 → tmsP a m = a.map fun p => (p.1, m * p.2) := fun h => by rw [tmsP, if_neg h]
  generalize timesT a m = R at *
  refine Fun.x T6 Try.func19 rfl ?_
  (repeat' (first | (refine Rn.go ?_; conv => whnf) | refine .mk ?_ | refine .tt ?_ | refine .ff ?_ | refine .m2 ?_ | refine .m3 ?_ | refine .mk (fun hc => ?_) (fun hc => ?_) | refine .lp (fun v H lp => ?_) | fail))
  refine .p hva ?_
  (repeat' (first | (refine Rn.go ?_; conv => whnf) | refine .mk ?_ | refine .tt ?_ | refine .ff ?_ | refine .m2 ?_ | refine .m3 ?_ | refine .mk (fun hc => ?_) (fun hc => ?_) | refine .lp (fun v H lp => ?_) | fail))
  rotate_left 4
  · exact ⟨_, rfl, by rw [r1 hc]; rfl⟩
  · exact ⟨_, rfl, by rw [r2 (by assumption) (by omega)]; rfl⟩
  · exact ⟨_, rfl, by rw [r2 (by assumption) (by omega)]; rfl⟩
  · exact ⟨_, rfl, by rw [r3 (by assumption) (by omega), ht hc]; rfl⟩
  have va : validP a = 0 := by assumption
  have hb := (validP_zero va).2.1
  refine .lp (hcp _ HV.nil) (fun v H lp => ?_)
  rw [← r3 va (by omega)] at hres
  have ht' := ht' hc
  rcases lp.out with ⟨rfl, e0⟩ | ⟨id, ep, rfl, e1⟩
  · obtain rfl : a = [] := List.eq_nil_of_length_eq_zero (by rw [← hel, e0]; rfl)
    (repeat' (first | (refine Rn.go ?_; conv => whnf) | refine .mk ?_ | refine .tt ?_ | refine .ff ?_ | refine .m2 ?_ | refine .m3 ?_ | refine .mk (fun hc => ?_) (fun hc => ?_) | refine .lp (fun v H lp => ?_) | fail))
    refine LpX.zip T6 ([] : List Pw) (fun p q L H => L = [(7, .snap true []), (25, .int .i64 0), (26, .int .i64 0)]) (.nx rfl) (fun p x q _ _ _ e => by simp at e) ?_
    rintro _ h ρ rfl
    (repeat' (first | (refine Rn.go ?_; conv => whnf) | refine .mk ?_ | refine .tt ?_ | refine .ff ?_ | refine .m2 ?_ | refine .m3 ?_ | refine .mk (fun hc => ?_) (fun hc => ?_) | refine .lp (fun v H lp => ?_) | fail))
    rw [ht'] at hres
    refine .p hres ?_
    (repeat' (first | (refine Rn.go ?_; conv => whnf) | refine .mk ?_ | refine .tt ?_ | refine .ff ?_ | refine .m2 ?_ | refine .m3 ?_ | refine .mk (fun hc => ?_) (fun hc => ?_) | refine .lp (fun v H lp => ?_) | fail))
    exact ⟨_, rfl, by simp [tupOf]⟩
  · have hV := lp.hv
    clear lp
    (repeat' (first | (refine Rn.go ?_; conv => whnf) | refine .mk ?_ | refine .tt ?_ | refine .ff ?_ | refine .m2 ?_ | refine .m3 ?_ | refine .mk (fun hc => ?_) (fun hc => ?_) | refine .lp (fun v H lp => ?_) | fail))
    refine LpX.zip T6 a (fun p q L H => L = [(1, .int .i64 m), (7, .mref id ep 0 (encPs a).length), (25, .int .i64 (encPs a).length), (26, .int .i64 p.length)] ∧ HV H ∧ H[id]? = some ⟨.m, ep, 5, encPs ((p.map fun p => (p.1, m * p.2)) ++ q)⟩) (.nx ⟨rfl, hV, e1⟩) ?_ ?_
    · rintro p ⟨t, n⟩ q _ h ρ e ⟨rfl, hH, e1⟩
      have hl2 := congrArg List.length e
      simp only [List.length_append, List.length_cons] at hl2
      have hle : (encPs ((p.map fun p => (p.1, m * p.2)) ++ (t, n) :: q)).length = a.length := by rw [encPs_len, e]; simp
      have hat : (encPs ((p.map fun p => (p.1, m * p.2)) ++ (t, n) :: q))[0 + p.length]? = some (.agg [.int .i64 t.k, .str t.s, .int .i64 t.o, .snap false (encs t.l), .int .i64 n]) := by
        have := at_encPs (l := (p.map fun p => (p.1, m * p.2)) ++ (t, n) :: q) rfl
        rw [List.length_map] at this
        rw [Nat.zero_add]; exact this
      have hn := hb (t, n) (by rw [e]; simp)
      have hnm := mul_bd hn.1 hn.2 (show -1000 ≤ m by omega) (show m ≤ 1000 by omega)
      dsimp only at hn hnm
      (repeat' (first | (refine Rn.go ?_; conv => whnf) | refine .mk ?_ | refine .tt ?_ | refine .ff ?_ | refine .m2 ?_ | refine .m3 ?_ | refine .mk (fun hc => ?_) (fun hc => ?_) | refine .lp (fun v H lp => ?_) | fail))
      have hs := set_encPs (p.map fun p => (p.1, m * p.2)) q (t, n) (t, n * m)
      rw [List.length_map, encP_x] at hs
      rw [Nat.zero_add, hs]
      exact .nx ⟨rfl, hH.set id (by simp) (by simp), by rw [List.getElem?_set_self (lt_of_some e1)]; simp [Int.mul_comm]⟩
    · rintro _ h ρ ⟨rfl, hH, e1⟩
      rw [List.append_nil, ← ht'] at e1
      have ho : Out 5 h (.mref id ep 0 (encPs a).length) (encPs (tmsP a m)) := .inr ⟨id, ep, by rw [encPs_len, encPs_len, ht', List.length_map], e1⟩
      (repeat' (first | (refine Rn.go ?_; conv => whnf) | refine .mk ?_ | refine .tt ?_ | refine .ff ?_ | refine .m2 ?_ | refine .m3 ?_ | refine .mk (fun hc => ?_) (fun hc => ?_) | refine .lp (fun v H lp => ?_) | fail))
      refine .po ho hres (fun _ _ => ?_)
      (repeat' (first | (refine Rn.go ?_; conv => whnf) | refine .mk ?_ | refine .tt ?_ | refine .ff ?_ | refine .m2 ?_ | refine .m3 ?_ | refine .mk (fun hc => ?_) (fun hc => ?_) | refine .lp (fun v H lp => ?_) | fail))
      exact ⟨_, rfl, by simp [tupOf]⟩
end Go.Pm
end

/-
  CHAPTER 6, PART 43: Atom, Made. Conditions: none.
-/
section
set_option linter.unusedVariables false
set_option linter.unusedSimpArgs false
set_option linter.unusedVariables false
set_option linter.unusedSimpArgs false
set_option maxRecDepth 4000
namespace Go.Pm
open Go.Proofs
def sAbc : ByteArray := ⟨#[97, 98, 99, 100, 101, 102]⟩
def atm (i : Nat) : Tm := .mk 2 (sAbc.extract i (i + 1)) 2 []
def madeI : Nat → List Int → List Pw
  | _, [] => []
  | i, x :: l => if x = 0 then madeI (i + 1) l else (atm i, x) :: madeI (i + 1) l
def made (l : List Int) : List Pw := madeI 0 (l.take 6)
theorem madeI_snoc (x : Int) : ∀ (i : Nat) (l : List Int), madeI i (l ++ [x]) = madeI i l ++ if x = 0 then [] else [(atm (i + l.length), x)]
  | i, [] => by simp [madeI]
  | i, y :: l => by
    have ih := madeI_snoc x (i + 1) l
    simp only [List.cons_append, madeI, ih, List.length_cons, show i + 1 + l.length = i + (l.length + 1) by omega]
    split <;> simp
theorem madeI_len : ∀ (i : Nat) (l : List Int), (madeI i l).length ≤ l.length
  | i, [] => by simp [madeI]
  | i, y :: l => by have := madeI_len (i + 1) l; simp only [madeI]; split <;> simp <;> omega
def encI8 (l : List Int) : List PV := l.map fun x => .int .i8 x
theorem at_encI8 {l p q : List Int} {x : Int} (e : l = p ++ x :: q) : (encI8 l)[p.length]? = some (.int .i8 x) := by rw [encI8, e]; simp
@[simp] theorem encI8_len (l : List Int) : (encI8 l).length = l.length := by simp [encI8]
@[simp] theorem encI8_vals (l : List Int) : isVals (encI8 l) = true := by induction l with | nil => rfl | cons x l ih => simpa [encI8] using ih
@[simp] theorem encI8_nrms (l : List Int) : nrms (encI8 l) = encI8 l := by induction l with | nil => rfl | cons x l ih => simpa [encI8] using ih
attribute [local irreducible] thenQ blockQ loopQ bodyQ Ev EvOps CallEv FnEv EvD
theorem atom_fun (s : ByteArray) (n : Int) : Fun C 21 [.str s, .int .i64 n] (enc (.mk 2 s n [])) := by
  rw [enc_mk]
  refine Fun.x T6 Try.func21 rfl ?_
  (repeat' (first | (refine Rn.go ?_; conv => whnf) | refine .mk ?_ | refine .tt ?_ | refine .ff ?_ | refine .m2 ?_ | refine .m3 ?_ | refine .mk (fun hc => ?_) (fun hc => ?_) | refine .lp (fun v H lp => ?_) | fail))
  exact ⟨_, rfl, by simp [tupOf, nrm, nrms]⟩
theorem made_fun (l : List Int) (hl : l.length < 1000000000) (hr : ∀ x ∈ l, -128 ≤ x ∧ x ≤ 127) : Fun C 17 [.snap false (encI8 l)] (.snap false (encPs (made l))) := by
  have hel := encI8_len l
  have hsz : (ByteArray.mk #[97, 98, 99, 100, 101, 102]).size = 6 := rfl
  refine Fun.x T6 Try.func17 rfl ?_
  (repeat' (first | (refine Rn.go ?_; conv => whnf) | refine .mk ?_ | refine .tt ?_ | refine .ff ?_ | refine .m2 ?_ | refine .m3 ?_ | refine .mk (fun hc => ?_) (fun hc => ?_) | refine .lp (fun v H lp => ?_) | fail))
  refine LpX.zip T6 (l.take 6) (fun p q L H => ∃ v, L = [(0, .snap false (encI8 l)), (3, v), (4, .int .i64 p.length)] ∧ HV H ∧ Out 5 H v (encPs (madeI 0 p))) (.nx ⟨_, rfl, HV.nil, .inl ⟨rfl, rfl⟩⟩) ?_ ?_
  · rintro p x q _ h ρ e ⟨v, rfl, hH, ho⟩
    have hl2 := congrArg List.length e
    simp only [List.length_append, List.length_cons, List.length_take] at hl2
    have e2 : l = p ++ x :: (q ++ l.drop 6) := by have := (List.take_append_drop 6 l).symm; rw [e] at this; simpa using this
    have hat := at_encI8 e2
    have hx := hr x (by rw [e2]; simp)
    have hll := madeI_len 0 p
    have hlp : (encPs (madeI 0 p)).length = (madeI 0 p).length := encPs_len _
    have hsn := madeI_snoc x 0 p
    rw [Nat.zero_add] at hsn
    have hatm := atom_fun ((ByteArray.mk #[97, 98, 99, 100, 101, 102]).extract p.length (p.length + 1)) 2
    rw [enc_mk] at hatm
    (repeat' (first | (refine Rn.go ?_; conv => whnf) | refine .mk ?_ | refine .tt ?_ | refine .ff ?_ | refine .m2 ?_ | refine .m3 ?_ | refine .mk (fun hc => ?_) (fun hc => ?_) | refine .lp (fun v H lp => ?_) | fail))
    · refine .nx ⟨v, rfl, hH, ?_⟩
      rw [hsn, if_pos hc]; simpa using ho
    · refine .p hatm ?_
      (repeat' (first | (refine Rn.go ?_; conv => whnf) | refine .mk ?_ | refine .tt ?_ | refine .ff ?_ | refine .m2 ?_ | refine .m3 ?_ | refine .mk (fun hc => ?_) (fun hc => ?_) | refine .lp (fun v H lp => ?_) | fail))
      refine .nx ⟨_, rfl, lp.hv, ?_⟩
      rw [hsn, if_neg hc]
      have := lp.out
      rwa [show ([PV.agg [.int .i64 2, .str ((ByteArray.mk #[97, 98, 99, 100, 101, 102]).extract p.length (p.length + 1)), .int .i64 2, .snap false (encs []), .int .i64 x]] : List PV) = encPs [(atm p.length, x)] from rfl, encPs, encPs, ← List.map_append] at this
  · rintro _ h ρ ⟨v, rfl, hH, ho⟩
    have hl6 : (l.take 6).length = min 6 l.length := by simp
    obtain ⟨r1, e1, e2⟩ := ho.rbA (encPs_vals _)
    have fin : ∃ r1, rb h (tupOf [v]) = some r1 ∧ nrm r1 = .snap false (encPs (made l)) := ⟨r1, by rcases ho with ⟨rfl, _⟩ | ⟨id, ep, rfl, _⟩ <;> exact e1, by simpa [made] using e2⟩
    (repeat' (first | (refine Rn.go ?_; conv => whnf) | refine .mk ?_ | refine .tt ?_ | refine .ff ?_ | refine .m2 ?_ | refine .m3 ?_ | refine .mk (fun hc => ?_) (fun hc => ?_) | refine .lp (fun v H lp => ?_) | fail))
    all_goals exact fin
theorem atm_ok : ∀ i, i < 6 → valid (atm i) = 0 ∧ special (atm i) = false ∧ bulk (atm i) < 100 := by decide +kernel
theorem atm_lt : ∀ i, i < 6 → ∀ j, j < i → cmpT (atm j) (atm i) < 0 := by decide +kernel
end Go.Pm
end

/-
  CHAPTER 6, PLAIN LAW 6: products form a group. Conditions: none.
-/
section
set_option linter.unusedVariables false
set_option linter.unusedSimpArgs false
set_option linter.unusedVariables false
set_option linter.unusedSimpArgs false
namespace Go.Pm
/-- a product with powers up to a bound, of terms that are small -/
structure GP (B : Int) (N : Nat) (l : List Pw) : Prop where
  srt : Srt l
  nz : Nz l
  bd : Bd B l
  len : l.length ≤ N
  tm : ∀ p ∈ l, ∃ i, i < 6 ∧ p.1 = atm i
theorem GP.tm' {B : Int} {N : Nat} {l : List Pw} (g : GP B N l) : ∀ p ∈ l, VQ 400 40 p.1 ∧ special p.1 = false := fun p hp => by
  obtain ⟨i, hi, e⟩ := g.tm p hp
  obtain ⟨h1, h2, _⟩ := atm_ok i hi
  rw [e]; exact ⟨valid_zero.1 h1, h2⟩
theorem GP.vP {B : Int} {N : Nat} {l : List Pw} (g : GP B N l) (hB : B ≤ 1000) (hN : N ≤ 200) : validP l = 0 := by
  have := g.len
  rw [validP, if_neg (by omega)]
  exact validGo_zero l none g.srt g.nz (fun p hp => by have := g.bd p hp; omega) g.tm' (fun q hq => by cases hq)
theorem GP.bulk {B : Int} {N : Nat} {l : List Pw} (g : GP B N l) : ∀ p ∈ l, bulk p.1 < 100 := fun p hp => by
  obtain ⟨i, hi, e⟩ := g.tm p hp
  rw [e]; exact (atm_ok i hi).2.2
theorem pw_bd {B : Int} (hB : 0 ≤ B) : ∀ {l : List Pw}, Srt l → Bd B l → ∀ u, -B ≤ pw l u ∧ pw l u ≤ B
  | [], _, _, u => by simp [pw]; omega
  | p :: l, s, b, u => by
    obtain ⟨s1, s2⟩ := List.pairwise_cons.1 s
    have ih := pw_bd hB s2 (fun q hq => b q (by simp [hq])) u
    have hp := b p (by simp)
    rw [pw]
    split
    · rename_i h
      have := cmpT_zero h
      rw [pw_lt (l := l) (fun q hq => by rw [← this]; exact s1 q hq)]; omega
    · omega
theorem mulP_mem {a b : List Pw} : ∀ p ∈ mulP a b, (∃ q ∈ a, q.1 = p.1) ∨ ∃ q ∈ b, q.1 = p.1 := by
  induction b using snocInd with
  | h0 => exact fun p hp => .inl ⟨p, hp, rfl⟩
  | h1 b x ih =>
    rw [mulP_snoc]
    intro p hp
    rcases insP_mem hp with h | ⟨q, hq, h⟩
    · exact .inr ⟨x, by simp, h.symm⟩
    · rcases ih q hq with ⟨r, hr, h2⟩ | ⟨r, hr, h2⟩
      · exact .inl ⟨r, hr, h2.trans h⟩
      · exact .inr ⟨r, by simp [hr], h2.trans h⟩
theorem mulP_sn {a b : List Pw} (s : Srt a) (z : Nz a) (zb : Nz b) : Srt (mulP a b) ∧ Nz (mulP a b) ∧ (mulP a b).length ≤ a.length + b.length := by
  induction b using snocInd with
  | h0 => exact ⟨s, z, by simp [mulP]⟩
  | h1 b x ih =>
    obtain ⟨h1, h2, h3⟩ := ih (fun p hp => zb p (by simp [hp]))
    rw [mulP_snoc]
    have := insP_len (t := x.1) (n := x.2) (mulP a b)
    exact ⟨insP_srt h1, insP_nz (zb x (by simp)) h2, by simp; omega⟩
theorem GP.mulP {A B : Int} {M N : Nat} {a b : List Pw} (g : GP A M a) (k : GP B N b) (hA : 0 ≤ A) (hB : 0 ≤ B) : GP (A + B) (M + N) (mulP a b) := by
  obtain ⟨h1, h2, h3⟩ := mulP_sn g.srt g.nz k.nz
  refine ⟨h1, h2, fun p hp => ?_, by have := g.len; have := k.len; omega, fun p hp => ?_⟩
  · have e := pw_srt h1 hp
    rw [pw_mul] at e
    have := pw_bd hA g.srt g.bd p.1
    have := pw_bd hB k.srt k.bd p.1
    omega
  · rcases mulP_mem p hp with ⟨q, hq, h⟩ | ⟨q, hq, h⟩
    · rw [← h]; exact g.tm q hq
    · rw [← h]; exact k.tm q hq
theorem inR_no {l : List Pw} (h : Bd 1000 l) : inR l = false := by
  unfold inR
  rw [List.any_eq_false]
  intro p hp
  have := h p hp
  simp; omega
theorem resP_ok {l : List Pw} (h : Bd 1000 l) (hl : l.length ≤ 200) : resP l = (l, 0) := by rw [resP, if_neg (by rw [inR_no h]; simp), if_neg (by omega)]
theorem GP.res {B : Int} {N : Nat} {l : List Pw} (g : GP B N l) (hB : B ≤ 1000) (hN : N ≤ 200) : resP l = (l, 0) :=
  resP_ok (fun p hp => by have := g.bd p hp; omega) (by have := g.len; omega)
theorem GP.mulT {A B : Int} {M N : Nat} {a b : List Pw} (g : GP A M a) (k : GP B N b) (hA : 0 ≤ A) (hB : 0 ≤ B) (h1 : A + B ≤ 1000) (h2 : M + N ≤ 200) : mulT a b = (Pm.mulP a b, 0) := by
  rw [Pm.mulT, if_neg (by rw [g.vP (by omega) (by omega)]; simp), if_neg (by rw [k.vP (by omega) (by omega)]; simp)]
  exact (g.mulP k hA hB).res h1 h2
theorem map_srt {l : List Pw} {f : Pw → Pw} (hf : ∀ p, (f p).1 = p.1) (s : Srt l) : Srt (l.map f) := by
  unfold Srt at *
  rw [List.pairwise_map]
  exact s.imp fun {p q} h => by rw [hf, hf]; exact h
theorem pw_map {f : Pw → Pw} {c : Int} (hf : ∀ p, (f p).1 = p.1) : ∀ {l : List Pw}, (∀ p ∈ l, (f p).2 = c * p.2) → ∀ u, pw (l.map f) u = c * pw l u
  | [], _, u => by simp [pw]
  | p :: l, h, u => by
    have ih := pw_map hf (l := l) (fun q hq => h q (by simp [hq])) u
    rw [List.map_cons, pw, pw, ih, hf, h p (by simp), Int.mul_add]
    split <;> simp
theorem GP.map {B : Int} {N : Nat} {l : List Pw} (g : GP B N l) {f : Pw → Pw} {c D : Int} (hf : ∀ p, (f p).1 = p.1) (hc : ∀ p ∈ l, (f p).2 = c * p.2) (h0 : c ≠ 0) (hD : ∀ n, -B ≤ n → n ≤ B → -D ≤ c * n ∧ c * n ≤ D) : GP D N (l.map f) := by
  refine ⟨map_srt hf g.srt, fun p hp => ?_, fun p hp => ?_, by have := g.len; simpa, fun p hp => ?_⟩
  all_goals (obtain ⟨q, hq, rfl⟩ := List.mem_map.1 hp)
  · rw [hc q hq]; exact Int.mul_ne_zero h0 (g.nz q hq)
  · rw [hc q hq]; have := g.bd q hq; exact hD _ this.1 this.2
  · rw [hf]; exact g.tm q hq
theorem GP.inv {l : List Pw} (g : GP 128 6 l) : GP 128 6 (invP l) ∧ ∀ u, pw (invP l) u = - pw l u := by
  have hc : ∀ p ∈ l, (p.1, IntKind.i64.wrap (0 - p.2)).2 = (-1) * p.2 := fun p hp => by
    have := g.bd p hp
    show IntKind.i64.wrap (0 - p.2) = _
    rw [wrapI (by omega) (by omega)]; omega
  refine ⟨g.map (f := fun p => (p.1, IntKind.i64.wrap (0 - p.2))) (fun _ => rfl) hc (by omega) (fun n h1 h2 => by omega), fun u => ?_⟩
  have := pw_map (f := fun p => (p.1, IntKind.i64.wrap (0 - p.2))) (c := -1) (fun _ => rfl) hc u
  rw [invP, this]; omega
theorem GP.uniq {A B : Int} {M N : Nat} {a b : List Pw} (g : GP A M a) (k : GP B N b) (h : ∀ u, pw a u = pw b u) : a = b := srt_uniq g.srt g.nz k.srt k.nz h
theorem madeI_ok : ∀ (i : Nat) (l : List Int), i + l.length ≤ 6 → (∀ x ∈ l, -128 ≤ x ∧ x ≤ 127) → Srt (madeI i l) ∧ Nz (madeI i l) ∧ Bd 128 (madeI i l) ∧ ∀ p ∈ madeI i l, ∃ j, i ≤ j ∧ j < 6 ∧ p.1 = atm j
  | i, [], _, _ => by simp [madeI, Srt, Nz, Bd]
  | i, x :: l, h, hr => by
    simp only [List.length_cons] at h
    obtain ⟨h1, h2, h3, h4⟩ := madeI_ok (i + 1) l (by omega) (fun y hy => hr y (by simp [hy]))
    have hx := hr x (by simp)
    have h4' : ∀ p ∈ madeI (i + 1) l, ∃ j, i ≤ j ∧ j < 6 ∧ p.1 = atm j := fun p hp => by
      obtain ⟨j, a, b, c⟩ := h4 p hp
      exact ⟨j, by omega, b, c⟩
    simp only [madeI]
    split
    · exact ⟨h1, h2, h3, h4'⟩
    · refine ⟨List.pairwise_cons.2 ⟨fun p hp => ?_, h1⟩, fun p hp => ?_, fun p hp => ?_, fun p hp => ?_⟩
      · obtain ⟨j, a, b, c⟩ := h4 p hp
        rw [c]; exact atm_lt j b i (by omega)
      all_goals (rcases List.mem_cons.1 hp with rfl | hp)
      · assumption
      · exact h2 p hp
      · simp only; omega
      · exact h3 p hp
      · exact ⟨i, Nat.le_refl _, by omega, rfl⟩
      · exact h4' p hp
theorem made_GP {l : List Int} (h : ∀ x ∈ l, -128 ≤ x ∧ x ≤ 127) : GP 128 6 (made l) := by
  obtain ⟨h1, h2, h3, h4⟩ := madeI_ok 0 (l.take 6) (by simp; omega) (fun x hx => h x (List.mem_of_mem_take hx))
  refine ⟨h1, h2, h3, ?_, fun p hp => ?_⟩
  · have := madeI_len 0 (l.take 6)
    simp only [List.length_take] at this
    unfold made; omega
  · obtain ⟨j, _, b, c⟩ := h4 p hp
    exact ⟨j, b, c⟩
/-! ### the product of a term, by its powers -/
mutual
def cf : Tm → Tm → Int
  | .mk k s o l, v => if special (.mk k s o l) = false then (if cmpT (.mk k s o l) v = 0 then 1 else 0) else (if s.toList = nmInv then -1 else 1) * cfs l v
def cfs : List Tm → Tm → Int
  | [], _ => 0
  | t :: l, v => cf t v + cfs l v
end
mutual
theorem pw_coll : ∀ (t : Tm) (a : List Pw) (n : Int) (v : Tm), pw (coll a t n) v = pw a v + n * cf t v
  | .mk k s o l, a, n, v => by
    rw [coll, cf]
    split
    · rw [pw_ins]; split <;> simp
    · rw [pw_colls l a _ v]
      split
      · rw [Int.neg_mul, Int.neg_mul, Int.one_mul, Int.mul_neg]
      · rw [Int.one_mul]
theorem pw_colls : ∀ (l : List Tm) (a : List Pw) (n : Int) (v : Tm), pw (colls a l n) v = pw a v + n * cfs l v
  | [], a, n, v => by simp [colls, cfs]
  | t :: l, a, n, v => by
    rw [colls, cfs, pw_colls l, pw_coll t, Int.mul_add]; omega
end
theorem sizes_le {c : Int} : ∀ {l : List Tm}, (∀ t ∈ l, size t ≤ c ∧ depth t ≤ c) → 0 ≤ c → sizes l ≤ c * l.length ∧ depths l ≤ c
  | [], _, h => by simp [sizes, depths]; omega
  | t :: l, h, h0 => by
    have h1 := h t (by simp)
    have h2 := sizes_le (l := l) (fun u hu => h u (by simp [hu])) h0
    simp only [sizes, depths, List.length_cons, Int.natCast_add, Int.mul_add]
    omega
theorem GP.join {B : Int} {N : Nat} {l : List Pw} (g : GP B N l) (h8 : (opsT l).length ≤ 8) : size (joinT (opsT l)) ≤ 17 ∧ depth (joinT (opsT l)) ≤ 3 := by
  have h2 : ∀ t ∈ opsT l, size t ≤ 2 ∧ depth t ≤ 2 := by
    have at1 : ∀ i, size (atm i) = 1 ∧ depth (atm i) = 1 := fun i => by simp [atm, size, sizes, depth, depths]
    intro t ht
    rcases List.mem_append.1 ht with h | h
    · obtain ⟨p, hp, h3⟩ := List.mem_flatMap.1 h
      obtain ⟨i, _, e⟩ := g.tm p hp
      rw [List.mem_replicate] at h3
      rw [h3.2, e, (at1 i).1, (at1 i).2]; omega
    · obtain ⟨p, hp, h3⟩ := List.mem_flatMap.1 h
      obtain ⟨i, _, e⟩ := g.tm p hp
      rw [List.mem_replicate] at h3
      rw [h3.2, e, invT]
      simp only [size, sizes, depth, depths, (at1 i).1, (at1 i).2]; omega
  revert h2 h8
  generalize opsT l = o
  intro h8 h2
  match o, h8, h2 with
  | [], _, _ => decide
  | [t], _, h2 => have := h2 t (by simp); simp only [joinT]; omega
  | t :: u :: o, h8, h2 =>
    obtain ⟨h3, h4⟩ := sizes_le h2 (by omega)
    rw [joinT_many (by simp)]
    simp only [size, depth]; omega
theorem termT_cases {l : List Pw} (hv : validP l = 0) (h : (termT l).2 = 0) : ¬ 8 < (opsT l).length ∧ valid (joinT (opsT l)) = 0 ∧ (termT l).1 = joinT (opsT l) := by
  rw [termT, if_neg (by omega)] at h ⊢
  split at h
  · cases h
  · rename_i h1
    rw [if_neg h1]
    split at h
    · cases h
    · rename_i h8
      rw [if_neg h8]
      split at h
      · rename_i hne; exact absurd h hne
      · rename_i hne; rw [if_neg hne]; exact ⟨h8, by omega, rfl⟩
/-- the product of a mul of two products' terms -/
theorem GP.of {x y : List Pw} (g : GP 128 6 x) (k : GP 128 6 y) (hx : (termT x).2 = 0) (hy : (termT y).2 = 0) : ofT (.mk 3 sMul 0 [(termT x).1, (termT y).1]) = (Pm.mulP x y, 0) := by
  obtain ⟨x1, x2, x3⟩ := termT_cases (g.vP (by omega) (by omega)) hx
  obtain ⟨y1, y2, y3⟩ := termT_cases (k.vP (by omega) (by omega)) hy
  rw [x3, y3]
  have jx := g.join (by omega)
  have jy := k.join (by omega)
  have nx : NS x := fun p hp => (g.tm' p hp).2
  have ny : NS y := fun p hp => (k.tm' p hp).2
  have hv : valid (.mk 3 sMul 0 [joinT (opsT x), joinT (opsT y)]) = 0 := by
    rw [valid_zero]
    refine ⟨nodes_app nm_mul (by simp) ?_, ?_, ?_⟩
    · intro t ht
      simp at ht
      rcases ht with rfl | rfl
      · exact (valid_zero.1 x2).1
      · exact (valid_zero.1 y2).1
    · simp only [size, sizes]; omega
    · simp only [depth, depths]; omega
  have ha : arity (.mk 3 sMul 0 [joinT (opsT x), joinT (opsT y)]) = true := by
    rw [arity]
    have e1 := join_arity (opsT_arity nx)
    have e2 := join_arity (opsT_arity ny)
    split
    · rfl
    · rw [if_neg, arities, if_neg (by rw [e1]; simp), arities, if_neg (by rw [e2]; simp), arities]
      rw [sMul_l]
      simp [nmMul, nmInv, nmOne]
  have hc : coll [] (.mk 3 sMul 0 [joinT (opsT x), joinT (opsT y)]) 1 = Pm.mulP x y := by
    have bx := coll_back g.srt g.nz nx
    have by' := coll_back k.srt k.nz ny
    rw [coll, if_neg (by rw [special, sMul_l]; simp [nmMul]), sMul_l, if_neg (by simp [nmMul, nmInv]), colls, colls, colls, bx]
    obtain ⟨c1, c2, _⟩ := coll_ok (joinT (opsT y)) x 1 g.srt g.nz (by omega)
    obtain ⟨m1, m2, _⟩ := mulP_sn g.srt g.nz k.nz
    refine srt_uniq c1 c2 m1 m2 (fun u => ?_)
    rw [pw_coll, pw_mul, ← by', pw_coll]
    rw [by']; simp [pw]
  have hl := (g.mulP k (by omega) (by omega)).len
  rw [ofT, if_neg (by rw [hv]; simp), if_neg (by rw [ha]; simp), hc, if_neg (by omega)]
theorem GP.bulkT {B : Int} {N : Nat} {l : List Pw} (g : GP B N l) : Pm.bulk (termT l).1 < 10000 := by
  have hz : Pm.bulk zeroT < 10000 := by decide
  have hj : ¬ 8 < (opsT l).length → Pm.bulk (joinT (opsT l)) < 10000 := by
    have h1 : ∀ t ∈ opsT l, Pm.bulk t ≤ 120 := by
      intro t ht
      rcases List.mem_append.1 ht with ht | ht
      · obtain ⟨p, hp, ht⟩ := List.mem_flatMap.1 ht
        rw [(List.mem_replicate.1 ht).2]; have := g.bulk p hp; omega
      · obtain ⟨p, hp, ht⟩ := List.mem_flatMap.1 ht
        rw [(List.mem_replicate.1 ht).2]
        have := g.bulk p hp
        simp only [invT, Pm.bulk, bulks, sInv_sz]; omega
    intro h8
    generalize opsT l = al at h1 h8
    match al, h1, h8 with
    | [], _, _ => simp [joinT, Pm.bulk, bulks, sOne_sz]
    | [t], h1, _ => have := h1 t (by simp); simp only [joinT]; omega
    | t :: u :: r, h1, h8 =>
      have := bulks_le h1
      simp only [joinT, Pm.bulk, sMul_sz]
      simp only [List.length_cons] at this h8
      omega
  unfold termT
  split
  · exact hz
  · split
    · exact hz
    · split
      · exact hz
      · split
        · exact hz
        · exact hj (by assumption)
end Go.Pm
end

/-
  CHAPTER 6, PART 44: ExponentGroup, as a pure function. Conditions: none.
-/
section
set_option linter.unusedVariables false
set_option linter.unusedSimpArgs false
set_option linter.unusedVariables false
set_option linter.unusedSimpArgs false
set_option maxRecDepth 4000
namespace Go.Pm
open Go.Proofs
theorem GP.sm {B : Int} {N : Nat} {l : List Pw} (g : GP B N l) (h : N ≤ 1000) : Sm l := ⟨fun p hp => by have := g.bulk p hp; omega, by have := g.len; omega⟩
theorem GP.same {B : Int} {N : Nat} {l : List Pw} (g : GP B N l) (h : N ≤ 1000) : Fun C 10 [.snap false (encPs l), .snap false (encPs l)] (.bool true) := by
  have := same6_fun l l (g.sm h) (g.sm h)
  rwa [sameP_self] at this
theorem GP.fmul {A B : Int} {M N : Nat} {a b : List Pw} (g : GP A M a) (k : GP B N b) (hA : 0 ≤ A) (hB : 0 ≤ B) (h1 : A + B ≤ 1000) (h2 : M + N ≤ 200) : Fun C 18 [.snap false (encPs a), .snap false (encPs b)] (.tup [.snap false (encPs (Pm.mulP a b)), .int .i64 0]) := by
  have := pmul_fun a b (fun p hp => by have := g.bulk p hp; omega) (fun p hp => by have := k.bulk p hp; omega) (by have := g.len; omega) (by have := k.len; omega)
  rwa [g.mulT k hA hB h1 h2] at this
theorem GP.ftimes {A D : Int} {M : Nat} {a : List Pw} (g : GP A M a) (c : Int) (h0 : c ≠ 0) (hA : A ≤ 1000) (hM : M ≤ 200) (hc : -1000 ≤ c ∧ c ≤ 1000) (hD : ∀ n, -A ≤ n → n ≤ A → -D ≤ c * n ∧ c * n ≤ D) (hD' : D ≤ 1000) : GP D M (a.map fun p => (p.1, c * p.2)) ∧
    Fun C 19 [.snap false (encPs a), .int .i64 c] (.tup [.snap false (encPs (a.map fun p => (p.1, c * p.2))), .int .i64 0]) := by
  have k : GP D M (a.map fun p => (p.1, c * p.2)) := g.map (fun _ => rfl) (fun p hp => rfl) h0 hD
  have := ptimes_fun a c (fun p hp => by have := g.bulk p hp; omega) (by have := g.len; omega)
  rw [timesT, if_neg (by rw [g.vP hA hM]; simp), if_neg (by omega), tmsP, if_neg h0, k.res hD' hM] at this
  exact ⟨k, this⟩
attribute [local irreducible] thenQ blockQ loopQ bodyQ Ev EvOps CallEv FnEv EvD
theorem lawG_fun (a b c : List Int) (ha : ∀ x ∈ a, -128 ≤ x ∧ x ≤ 127) (hb : ∀ x ∈ b, -128 ≤ x ∧ x ≤ 127) (hc : ∀ x ∈ c, -128 ≤ x ∧ x ≤ 127) (la : a.length < 1000000000) (lb : b.length < 1000000000) (lc : c.length < 1000000000) :
    Fun C 5 [.snap false (encI8 a), .snap false (encI8 b), .snap false (encI8 c)] (.bool true) := by
  have ma := made_fun a la ha
  have mb := made_fun b lb hb
  have mc := made_fun c lc hc
  have gx := made_GP ha
  have gy := made_GP hb
  have gz := made_GP hc
  generalize made a = x at *
  generalize made b = y at *
  generalize made c = z at *
  clear ha hb hc la lb lc
  have gxy := gx.mulP gy (by omega) (by omega)
  have gyx := gy.mulP gx (by omega) (by omega)
  have gyz := gy.mulP gz (by omega) (by omega)
  obtain ⟨gi, pi⟩ := gx.inv
  have gl := gxy.mulP gz (by omega) (by omega)
  have gr := gx.mulP gyz (by omega) (by omega)
  have gn := gx.mulP gi (by omega) (by omega)
  have e1 : mulP y x = mulP x y := gyx.uniq gxy (fun u => by rw [pw_mul, pw_mul]; omega)
  have e2 : mulP x (mulP y z) = mulP (mulP x y) z := gr.uniq gl (fun u => by simp only [pw_mul]; omega)
  have e3 : mulP x (invP x) = [] := gn.uniq (b := []) (B := 0) (N := 0) (by constructor <;> simp [Srt, Nz, Bd]) (fun u => by rw [pw_mul, pi, pw]; omega)
  have fxy := gx.fmul gy (by omega) (by omega) (by omega) (by omega)
  have fyx := gy.fmul gx (by omega) (by omega) (by omega) (by omega)
  have fyz := gy.fmul gz (by omega) (by omega) (by omega) (by omega)
  have fl := gxy.fmul gz (by omega) (by omega) (by omega) (by omega)
  have fr := gx.fmul gyz (by omega) (by omega) (by omega) (by omega)
  have fn := gx.fmul gi (by omega) (by omega) (by omega) (by omega)
  obtain ⟨g3, f3⟩ := gx.ftimes (D := 384) 3 (by omega) (by omega) (by omega) (by omega) (fun n _ _ => by omega) (by omega)
  obtain ⟨g32, f32⟩ := g3.ftimes (D := 768) (-2) (by omega) (by omega) (by omega) (by omega) (fun n _ _ => by omega) (by omega)
  obtain ⟨g6, f6⟩ := gx.ftimes (D := 768) (-6) (by omega) (by omega) (by omega) (by omega) (fun n _ _ => by omega) (by omega)
  have e4 : ((x.map fun p => (p.1, 3 * p.2)).map fun p => (p.1, -2 * p.2)) = x.map fun p => (p.1, -6 * p.2) := by
    rw [List.map_map]; apply List.map_congr_left; intro p _; simp only [Function.comp]; congr 1; omega
  have fi := inv_fun x (fun p hp => by have := gx.bulk p hp; omega) (by have := gx.len; omega)
  have s1 := gxy.same (by omega)
  have s2 := gl.same (by omega)
  have s3 := g6.same (by omega)
  have ht := term_fun x (fun p hp => by have := gx.bulk p hp; omega) (by have := gx.len; omega)
  have hu := term_fun y (fun p hp => by have := gy.bulk p hp; omega) (by have := gy.len; omega)
  have hbt := gx.bulkT
  have hbu := gy.bulkT
  have hap := rapp_fun sMul [(termT x).1, (termT y).1] (by simp)
  have hof := fun h1 h2 => gx.of gy h1 h2
  have hofF := of_fun (.mk 3 sMul 0 [(termT x).1, (termT y).1])
  rw [e1] at fyx
  rw [e2] at fr
  rw [e3] at fn
  rw [e4] at f32
  clear gxy gyx gyz gi pi gl gr gn e1 e2 e3 e4 g3 g32 g6 gx gy gz
  generalize mulP (mulP x y) z = xyz at *
  generalize mulP x y = xy at *
  generalize mulP y z = yz at *
  generalize invP x = ix at *
  generalize (x.map fun p => (p.1, 3 * p.2)) = x3 at *
  generalize (x.map fun p => (p.1, -6 * p.2)) = x6 at *
  generalize (termT x).2 = E at *
  generalize (termT y).2 = F at *
  generalize (termT x).1 = t at *
  generalize (termT y).1 = u at *
  have haw := awake_fun
  simp only [encs, enc_x t, enc_x u] at ht hu hap
  refine Fun.x T6 Try.func5 rfl ?_
  (repeat' (first | (refine Rn.go ?_; conv => whnf) | refine .mk ?_ | refine .tt ?_ | refine .ff ?_ | refine .m2 ?_ | refine .m3 ?_ | refine .mk (fun hc => ?_) (fun hc => ?_) | refine .lp (fun v H lp => ?_) | fail))
  refine .p haw ?_
  (repeat' (first | (refine Rn.go ?_; conv => whnf) | refine .mk ?_ | refine .tt ?_ | refine .ff ?_ | refine .m2 ?_ | refine .m3 ?_ | refine .mk (fun hc => ?_) (fun hc => ?_) | refine .lp (fun v H lp => ?_) | fail))
  refine .p ma ?_
  (repeat' (first | (refine Rn.go ?_; conv => whnf) | refine .mk ?_ | refine .tt ?_ | refine .ff ?_ | refine .m2 ?_ | refine .m3 ?_ | refine .mk (fun hc => ?_) (fun hc => ?_) | refine .lp (fun v H lp => ?_) | fail))
  refine .p mb ?_
  (repeat' (first | (refine Rn.go ?_; conv => whnf) | refine .mk ?_ | refine .tt ?_ | refine .ff ?_ | refine .m2 ?_ | refine .m3 ?_ | refine .mk (fun hc => ?_) (fun hc => ?_) | refine .lp (fun v H lp => ?_) | fail))
  refine .p mc ?_
  (repeat' (first | (refine Rn.go ?_; conv => whnf) | refine .mk ?_ | refine .tt ?_ | refine .ff ?_ | refine .m2 ?_ | refine .m3 ?_ | refine .mk (fun hc => ?_) (fun hc => ?_) | refine .lp (fun v H lp => ?_) | fail))
  refine .p fxy ?_
  (repeat' (first | (refine Rn.go ?_; conv => whnf) | refine .mk ?_ | refine .tt ?_ | refine .ff ?_ | refine .m2 ?_ | refine .m3 ?_ | refine .mk (fun hc => ?_) (fun hc => ?_) | refine .lp (fun v H lp => ?_) | fail))
  refine .p fyx ?_
  (repeat' (first | (refine Rn.go ?_; conv => whnf) | refine .mk ?_ | refine .tt ?_ | refine .ff ?_ | refine .m2 ?_ | refine .m3 ?_ | refine .mk (fun hc => ?_) (fun hc => ?_) | refine .lp (fun v H lp => ?_) | fail))
  refine .p fyz ?_
  (repeat' (first | (refine Rn.go ?_; conv => whnf) | refine .mk ?_ | refine .tt ?_ | refine .ff ?_ | refine .m2 ?_ | refine .m3 ?_ | refine .mk (fun hc => ?_) (fun hc => ?_) | refine .lp (fun v H lp => ?_) | fail))
  refine .p fl ?_
  (repeat' (first | (refine Rn.go ?_; conv => whnf) | refine .mk ?_ | refine .tt ?_ | refine .ff ?_ | refine .m2 ?_ | refine .m3 ?_ | refine .mk (fun hc => ?_) (fun hc => ?_) | refine .lp (fun v H lp => ?_) | fail))
  refine .p fr ?_
  (repeat' (first | (refine Rn.go ?_; conv => whnf) | refine .mk ?_ | refine .tt ?_ | refine .ff ?_ | refine .m2 ?_ | refine .m3 ?_ | refine .mk (fun hc => ?_) (fun hc => ?_) | refine .lp (fun v H lp => ?_) | fail))
  refine .p fi ?_
  (repeat' (first | (refine Rn.go ?_; conv => whnf) | refine .mk ?_ | refine .tt ?_ | refine .ff ?_ | refine .m2 ?_ | refine .m3 ?_ | refine .mk (fun hc => ?_) (fun hc => ?_) | refine .lp (fun v H lp => ?_) | fail))
  refine .p fn ?_
  (repeat' (first | (refine Rn.go ?_; conv => whnf) | refine .mk ?_ | refine .tt ?_ | refine .ff ?_ | refine .m2 ?_ | refine .m3 ?_ | refine .mk (fun hc => ?_) (fun hc => ?_) | refine .lp (fun v H lp => ?_) | fail))
  refine .p f3 ?_
  (repeat' (first | (refine Rn.go ?_; conv => whnf) | refine .mk ?_ | refine .tt ?_ | refine .ff ?_ | refine .m2 ?_ | refine .m3 ?_ | refine .mk (fun hc => ?_) (fun hc => ?_) | refine .lp (fun v H lp => ?_) | fail))
  refine .p f32 ?_
  (repeat' (first | (refine Rn.go ?_; conv => whnf) | refine .mk ?_ | refine .tt ?_ | refine .ff ?_ | refine .m2 ?_ | refine .m3 ?_ | refine .mk (fun hc => ?_) (fun hc => ?_) | refine .lp (fun v H lp => ?_) | fail))
  refine .p f6 ?_
  (repeat' (first | (refine Rn.go ?_; conv => whnf) | refine .mk ?_ | refine .tt ?_ | refine .ff ?_ | refine .m2 ?_ | refine .m3 ?_ | refine .mk (fun hc => ?_) (fun hc => ?_) | refine .lp (fun v H lp => ?_) | fail))
  refine .p s1 ?_
  (repeat' (first | (refine Rn.go ?_; conv => whnf) | refine .mk ?_ | refine .tt ?_ | refine .ff ?_ | refine .m2 ?_ | refine .m3 ?_ | refine .mk (fun hc => ?_) (fun hc => ?_) | refine .lp (fun v H lp => ?_) | fail))
  refine .p s2 ?_
  (repeat' (first | (refine Rn.go ?_; conv => whnf) | refine .mk ?_ | refine .tt ?_ | refine .ff ?_ | refine .m2 ?_ | refine .m3 ?_ | refine .mk (fun hc => ?_) (fun hc => ?_) | refine .lp (fun v H lp => ?_) | fail))
  refine .p s3 ?_
  (repeat' (first | (refine Rn.go ?_; conv => whnf) | refine .mk ?_ | refine .tt ?_ | refine .ff ?_ | refine .m2 ?_ | refine .m3 ?_ | refine .mk (fun hc => ?_) (fun hc => ?_) | refine .lp (fun v H lp => ?_) | fail))
  refine .p ht ?_
  (repeat' (first | (refine Rn.go ?_; conv => whnf) | refine .mk ?_ | refine .tt ?_ | refine .ff ?_ | refine .m2 ?_ | refine .m3 ?_ | refine .mk (fun hc => ?_) (fun hc => ?_) | refine .lp (fun v H lp => ?_) | fail))
  refine .p hu ?_
  (repeat' (first | (refine Rn.go ?_; conv => whnf) | refine .mk ?_ | refine .tt ?_ | refine .ff ?_ | refine .m2 ?_ | refine .m3 ?_ | refine .mk (fun hc => ?_) (fun hc => ?_) | refine .lp (fun v H lp => ?_) | fail))
  · have hE : E = 0 := by assumption
    have hof := hof hE hc
    have hofF := hofF (by have : sMul.size = 3 := rfl; simp only [bulk, bulks]; omega)
    rw [hof, enc_mk] at hofF
    rw [enc_mk] at hap
    refine .p hap ?_ (hn := by simp [sMul])
    (repeat' (first | (refine Rn.go ?_; conv => whnf) | refine .mk ?_ | refine .tt ?_ | refine .ff ?_ | refine .m2 ?_ | refine .m3 ?_ | refine .mk (fun hc => ?_) (fun hc => ?_) | refine .lp (fun v H lp => ?_) | fail))
    refine .p hofF ?_
    (repeat' (first | (refine Rn.go ?_; conv => whnf) | refine .mk ?_ | refine .tt ?_ | refine .ff ?_ | refine .m2 ?_ | refine .m3 ?_ | refine .mk (fun hc => ?_) (fun hc => ?_) | refine .lp (fun v H lp => ?_) | fail))
    refine .p s1 ?_
    (repeat' (first | (refine Rn.go ?_; conv => whnf) | refine .mk ?_ | refine .tt ?_ | refine .ff ?_ | refine .m2 ?_ | refine .m3 ?_ | refine .mk (fun hc => ?_) (fun hc => ?_) | refine .lp (fun v H lp => ?_) | fail))
    exact ⟨_, rfl, rfl⟩
  all_goals exact ⟨_, rfl, rfl⟩
end Go.Pm
end
