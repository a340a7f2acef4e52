/-
  A part of the library Pm and its contracts (joined by program): PmRTerm PmRInv PmInv. Conditions: none.
-/
import Derived.Test.YtejhjciockgicaaPzAH
import Derived.Test.YtejhjciockgicaaPzAG
import Derived.Test.YtejhjciockgicaaPzAF
/-
  CHAPTER 6, PART 28: the reference's Term. Conditions: none.
-/
section
set_option linter.unusedVariables false
set_option linter.unusedSimpArgs false
set_option linter.unusedVariables false
set_option linter.unusedSimpArgs false
set_option maxRecDepth 4000
set_option maxHeartbeats 8000000
namespace Go.Pm
open Go.Proofs
theorem validGo_bd : ∀ {l : List Pw} {pr : Option Tm}, validGo pr l = 0 → Bd 1000 l ∧ (∀ p ∈ l, valid p.1 = 0 ∧ special p.1 = false) ∧ Nz l ∧ Srt l ∧ (∀ q, pr = some q → ∀ p ∈ l, cmpT q p.1 < 0)
  | [], _, _ => ⟨(fun p hp => by cases hp), (fun p hp => by cases hp), (fun p hp => by cases hp), by simp [Srt], (fun _ _ p hp => by cases hp)⟩
  | p :: l, pr, h => by
    rw [validGo_cons] at h
    by_cases h1 : valid p.1 = 0
    · rw [if_neg (by omega)] at h
      by_cases h2 : special p.1 = true
      · rw [if_pos h2] at h; cases h
      · rw [if_neg h2] at h
        by_cases h3 : p.2 = 0 ∨ p.2 < -1000 ∨ 1000 < p.2
        · rw [if_pos h3] at h; cases h
        · rw [if_neg h3] at h
          have main : validGo (some p.1) l = 0 ∧ (∀ q, pr = some q → cmpT q p.1 < 0) := by
            cases pr with
            | none =>
              simp only [Bool.false_eq_true, if_false] at h
              exact ⟨h, fun q hq => by cases hq⟩
            | some q =>
              simp only at h
              split at h
              · cases h
              · rename_i h4
                refine ⟨h, fun q' hq => ?_⟩
                cases hq
                have : ¬ 0 ≤ cmpT q p.1 := fun hh => h4 (decide_eq_true hh)
                omega
          obtain ⟨b1, b2, b3, b4, b5⟩ := validGo_bd main.1
          refine ⟨fun x hx => ?_, fun x hx => ?_, fun x hx => ?_, List.pairwise_cons.2 ⟨fun x hx => b5 p.1 rfl x hx, b4⟩, fun q hq x hx => ?_⟩
          · rcases List.mem_cons.1 hx with rfl | hx
            · omega
            · exact b1 x hx
          · rcases List.mem_cons.1 hx with rfl | hx
            · exact ⟨h1, by simpa using h2⟩
            · exact b2 x hx
          · rcases List.mem_cons.1 hx with rfl | hx
            · omega
            · exact b3 x hx
          · rcases List.mem_cons.1 hx with rfl | hx
            · exact main.2 q hq
            · exact cmpT_trans (main.2 q hq) (b5 p.1 rfl x hx)
    · rw [if_pos h1] at h; exact absurd h h1
theorem validP_zero {l : List Pw} (h : validP l = 0) : l.length ≤ 200 ∧ Bd 1000 l ∧ (∀ p ∈ l, valid p.1 = 0 ∧ special p.1 = false) ∧ Nz l ∧ Srt l := by
  unfold validP at h
  split at h
  · cases h
  · obtain ⟨b1, b2, b3, b4, _⟩ := validGo_bd h
    exact ⟨by omega, b1, b2, b3, b4⟩
theorem wide_ops : ∀ {l : List Pw}, wide l = true → 8 < (opsT l).length
  | [], h => by cases h
  | p :: l, h => by
    have e1 : posT (p :: l) = List.replicate p.2.toNat p.1 ++ posT l := by simp [posT]
    have e2 : negT (p :: l) = List.replicate (-p.2).toNat (invT p.1) ++ negT l := by simp [negT]
    unfold opsT
    rw [e1, e2]
    simp only [List.length_append, List.length_replicate]
    unfold wide at h
    rw [List.any_cons, Bool.or_eq_true] at h
    rcases h with h | h
    · have := of_decide_eq_true h; omega
    · have := wide_ops (l := l) h
      unfold opsT at this
      rw [List.length_append] at this
      omega
attribute [local irreducible] thenQ blockQ loopQ bodyQ Ev EvOps CallEv FnEv EvD
set_option maxHeartbeats 16000000 in
theorem rterm_fun (l : List Pw) (hb : ∀ p ∈ l, bulk p.1 < 10000000) (hl : l.length < 1000000) : Fun C 13 [.snap false (encPs l)] (.tup [enc (termT l).1, .int .i64 (termT l).2]) := by
  have hva := rpvalid_fun l (fun p hp => by have := hb p hp; omega) (by omega)
  have r1 : validP l ≠ 0 → termT l = (zeroT, validP l) := fun h => by rw [termT, if_pos h]
  have hw : ¬ 8 < (opsT l).length → wide l = false := fun h => by cases hh : wide l with | false => rfl | true => exact absurd (wide_ops hh) h
  have r3 : validP l = 0 → 8 < (opsT l).length → termT l = (zeroT, 3) := fun h h2 => by
    rw [termT, if_neg (by omega)]
    by_cases hh : wide l = true
    · rw [if_pos hh]
    · rw [if_neg hh, if_pos h2]
  have r4 : validP l = 0 → ¬ 8 < (opsT l).length → valid (joinT (opsT l)) ≠ 0 → termT l = (zeroT, valid (joinT (opsT l))) := fun h h2 h3 => by rw [termT, if_neg (by omega), if_neg (by rw [hw h2]; simp), if_neg h2, if_pos h3]
  have r5 : validP l = 0 → ¬ 8 < (opsT l).length → valid (joinT (opsT l)) = 0 → termT l = (joinT (opsT l), 0) := fun h h2 h3 => by rw [termT, if_neg (by omega), if_neg (by rw [hw h2]; simp), if_neg h2, if_neg (by omega)]
  have hops : validP l = 0 → Fun C 38 [.snap false (encPs l)] (.snap false (encs ((opsT l).take 9))) := fun h => rops_fun l (fun p hp => by have := hb p hp; omega) (by omega) (validP_zero h).2.1
  have hbj := bulk_join hb
  clear hw
  refine Fun.of (FnEv.bodyL Try.func13 rfl ?_)
  generalize termT l = R0 at r1 r3 r4 r5 ⊢
  have fin : ∀ (t : Tm) (e : Int), R0 = (t, e) → ∀ (K : AHeap) (cs : List PV), nrm (.agg cs) = enc t → isVals cs = true → ∃ r1, rb K (tupOf [.agg cs, .int .i64 e]) = some r1 ∧ nrm r1 = PV.tup [enc R0.1, .int .i64 R0.2] := by
    intro t e hR K cs h1 h2
    have key : ∀ cs : List PV, isVals cs = true → rb1s K cs = some cs := by
      intro cs
      induction cs with
      | nil => intro _; rfl
      | cons c cs ih =>
        intro hh
        simp only [isVals, Bool.and_eq_true] at hh
        have : rb1 K c = some c := by
          unfold rb1
          split
          · simp [isVal] at hh
          · rw [if_pos hh.1]
        simp only [rb1s, this, ih hh.2]
    refine ⟨.tup [.agg cs, .int .i64 e], ?_, by rw [hR]; simp only [nrm, nrms] at h1 ⊢; rw [h1]⟩
    simp only [tupOf, rb, rbAs, rbA, key cs h2, Option.map_some]
    rfl
  have zz : nrm (.agg [.int .i64 0, .str ByteArray.empty, .int .i64 0, .snap true []]) = enc zeroT := by rw [zeroT, enc_mk]; rfl
  (repeat' (first | refine EvOps.nil ?_ | (apply R.move; exact rfl) | (apply R.assign; exact rfl) | (apply R.alloc T6; exact rfl; exact rfl; exact rfl; exact .nil) | refine Ev.seq ?_ | refine Ev.region ?_ | refine thenQ.normal ?_ | fail))
  refine R.call rfl rfl (CallEv.pure rfl (by simp [isVals, isVal]) (by simpa [nrms, nrm, nrms_encPs] using hva) ?_)
  (repeat' (first | refine EvOps.nil ?_ | (apply R.move; exact rfl) | (apply R.assign; exact rfl) | (apply R.cmp; exact rfl; exact rfl; exact rfl; all_goals intro hc) | (apply R.build T6; exact rfl; exact rfl; exact rfl; exact rfl; exact rfl; exact rfl) | refine Ev.seq ?_ | refine Ev.region ?_ | (apply Ev.condB; exact rfl) | refine Ev.skip ?_ | refine thenQ.normal ?_ | fail))
  · refine R.storeH T6 (n := 0) (o := ⟨.m, 0, 4, [.agg [.int .i64 0, .str ByteArray.empty, .int .i64 0, .snap true []]]⟩) (i := 0) (e := .agg [.int .i64 0, .str ByteArray.empty, .int .i64 0, .snap true []]) rfl rfl rfl rfl rfl rfl rfl rfl (Nat.le_refl 4) ?_
    (repeat' (first | refine EvOps.nil ?_ | (apply R.assign; exact rfl) | refine Ev.ret ?_ | refine thenQ.normal ?_ | refine thenQ.ret ?_ | (apply bodyQ.retC T6; exact rfl) | fail))
    exact fin _ _ (r1 (by assumption)) _ _ zz rfl
  have v0 := Decidable.not_not.1 hc
  clear hc r1
  have r3 := r3 v0
  have r4 := r4 v0
  have r5 := r5 v0
  refine R.call rfl rfl (CallEv.pure rfl (by simp [isVals, isVal]) (by simpa [nrms, nrm, nrms_encPs] using hops v0) ?_)
  have hal := encs_len ((opsT l).take 9)
  by_cases h8 : 8 < (opsT l).length
  · have h9 : ((opsT l).take 9).length = 9 := by simp; omega
    (repeat' (first | refine EvOps.nil ?_ | (apply R.move; exact rfl) | (apply R.assign; exact rfl) | (apply R.cmp; exact rfl; exact rfl; exact rfl; all_goals intro hc; all_goals (try (exfalso; omega))) | (apply R.build T6; exact rfl; exact rfl; exact rfl; exact rfl; exact rfl; exact rfl) | (apply R.lenS T6; exact rfl; exact rfl) | refine Ev.seq ?_ | refine Ev.region ?_ | (apply Ev.condB; exact rfl) | refine thenQ.normal ?_ | fail))
    refine R.storeH T6 (n := 0) (o := ⟨.m, 0, 4, [.agg [.int .i64 0, .str ByteArray.empty, .int .i64 0, .snap true []]]⟩) (i := 0) (e := .agg [.int .i64 0, .str ByteArray.empty, .int .i64 0, .snap true []]) rfl rfl rfl rfl rfl rfl rfl rfl (Nat.le_refl 4) ?_
    (repeat' (first | refine EvOps.nil ?_ | (apply R.assign; exact rfl) | refine Ev.ret ?_ | refine thenQ.normal ?_ | refine thenQ.ret ?_ | (apply bodyQ.retC T6; exact rfl) | fail))
    exact fin _ _ (r3 h8) _ _ zz rfl
  have hva := rvalid_fun (joinT (opsT l)) (by have := hbj h8; omega)
  have hap := rapp_fun sMul (opsT l) (by omega)
  have r4 := r4 h8
  have r5 := r5 h8
  have tk : (opsT l).take 9 = opsT l := List.take_of_length_le (by omega)
  rw [tk] at hal ⊢
  rw [enc_mk] at hap
  clear r3 tk
  (repeat' (first | refine EvOps.nil ?_ | (apply R.move; exact rfl) | (apply R.assign; exact rfl) | (apply R.cmp; exact rfl; exact rfl; exact rfl; all_goals intro hc; all_goals (try (exfalso; omega))) | (apply R.lenS T6; exact rfl; exact rfl) | refine Ev.seq ?_ | refine Ev.region ?_ | (apply Ev.condB; exact rfl) | refine Ev.skip ?_ | refine thenQ.normal ?_ | fail))
  refine R.call rfl rfl (CallEv.pure rfl (by simp [isVals, isVal]) (by show Fun C _ (nrms [.str sMul, .snap false (encs (opsT l))]) _; simpa [nrms, nrm, nrms_encs] using hap) ?_)
  (repeat' (first | (apply R.alloc T6; exact rfl; exact rfl; exact rfl; exact (.cons .nil)) | fail))
  refine R.storeH T6 (n := 1) (o := ⟨.m, 0, 4, [.agg [.int .i64 0, .str ByteArray.empty, .int .i64 0, .snap true []]]⟩) (i := 0) (e := .agg [.int .i64 0, .str ByteArray.empty, .int .i64 0, .snap true []]) rfl rfl rfl rfl rfl rfl rfl rfl (Nat.le_refl 4) ?_
  (repeat' (first | refine EvOps.nil ?_ | (apply R.move; exact rfl) | (apply R.loadA T6; exact rfl; exact rfl; exact rfl; exact rfl; exact (by repeat constructor)) | (apply R.cmp; exact rfl; exact rfl; exact rfl; all_goals intro hc; all_goals (try (exfalso; omega))) | (apply R.lenS T6; exact rfl; exact rfl) | refine Ev.seq ?_ | refine Ev.region ?_ | (apply Ev.condB; exact rfl) | refine Ev.skip ?_ | refine thenQ.normal ?_ | fail))
  · -- no operand
    have hnil : opsT l = [] := List.eq_nil_of_length_eq_zero (by omega)
    have hj : joinT (opsT l) = .mk 3 sOne 0 [] := by rw [hnil]; rfl
    have ha1 := rapp_fun sOne [] (by simp)
    simp only [encs, enc_mk] at ha1
    refine R.call rfl rfl (CallEv.pure rfl rfl (by show Fun C _ (nrms [.str sOne, .snap true []]) _; simpa [nrms, nrm] using ha1) ?_)
    refine R.storeH T6 (n := 1) (o := ⟨.m, 0, 4, [.agg [.int .i64 3, .str sMul, .int .i64 0, .snap false (encs (opsT l))]]⟩) (i := 0) (e := .agg [.int .i64 3, .str sMul, .int .i64 0, .snap false (encs (opsT l))]) rfl rfl rfl rfl rfl rfl rfl rfl (Nat.le_refl 4) ?_
    rw [hj, enc_mk] at hva
    (repeat' (first | refine EvOps.nil ?_ | (apply R.move; exact rfl) | (apply R.loadA T6; exact rfl; exact rfl; exact rfl; exact rfl; exact (by repeat constructor)) | (apply R.cmp; exact rfl; exact rfl; exact rfl; all_goals intro hc; all_goals (try (exfalso; omega))) | (apply R.lenS T6; exact rfl; exact rfl) | refine Ev.seq ?_ | refine Ev.region ?_ | (apply Ev.condB; exact rfl) | refine Ev.skip ?_ | refine thenQ.normal ?_ | fail))
    refine R.call rfl rfl (CallEv.pure rfl (by simp [isVals, isVal]) (by simpa [nrms, nrm, nrms_encs, encs] using hva) ?_)
    (repeat' (first | refine EvOps.nil ?_ | (apply R.move; exact rfl) | (apply R.assign; exact rfl) | (apply R.loadA T6; exact rfl; exact rfl; exact rfl; exact rfl; exact (by repeat constructor)) | (apply R.cmp; exact rfl; exact rfl; exact rfl; all_goals intro hc) | (apply R.build T6; exact rfl; exact rfl; exact rfl; exact rfl; exact rfl; exact rfl) | refine Ev.seq ?_ | refine Ev.region ?_ | (apply Ev.condB; exact rfl) | refine Ev.skip ?_ | refine thenQ.normal ?_ | fail))
    · have hne := hc
      refine R.storeH T6 (n := 0) (o := ⟨.m, 0, 4, [.agg [.int .i64 0, .str ByteArray.empty, .int .i64 0, .snap true []]]⟩) (i := 0) (e := .agg [.int .i64 0, .str ByteArray.empty, .int .i64 0, .snap true []]) rfl rfl rfl rfl rfl rfl rfl rfl (Nat.le_refl 4) ?_
      (repeat' (first | refine EvOps.nil ?_ | (apply R.assign; exact rfl) | refine Ev.ret ?_ | refine thenQ.normal ?_ | refine thenQ.ret ?_ | (apply bodyQ.retC T6; exact rfl) | fail))
      exact fin _ _ ((r4 (by rw [hj]; exact hne)).trans (by rw [hj])) _ _ zz rfl
    · have h0 := Decidable.not_not.1 hc
      refine R.storeH T6 (n := 0) (o := ⟨.m, 0, 4, [.agg [.int .i64 0, .str ByteArray.empty, .int .i64 0, .snap true []]]⟩) (i := 0) (e := .agg [.int .i64 0, .str ByteArray.empty, .int .i64 0, .snap true []]) rfl rfl rfl rfl rfl rfl rfl rfl (Nat.le_refl 4) ?_
      (repeat' (first | refine EvOps.nil ?_ | (apply R.assign; exact rfl) | refine Ev.ret ?_ | refine thenQ.normal ?_ | (apply bodyQ.retC T6; exact rfl) | fail))
      refine fin _ _ (r5 (by rw [hj]; exact h0)) _ [.int .i64 3, .str sOne, .int .i64 0, .snap false []] ?_ rfl
      rw [hj, enc_mk]; simp [nrm, nrms, encs]
  · -- one operand
    have h1 : (opsT l).length = 1 := by omega
    obtain ⟨t, ht⟩ := List.length_eq_one_iff.1 h1
    have hj : joinT (opsT l) = t := by rw [ht]; rfl
    obtain ⟨k1, s1, o1, l1⟩ := t
    have hel : encs (opsT l) = [.agg [.int .i64 k1, .str s1, .int .i64 o1, .snap false (encs l1)]] := by rw [ht]; simp only [encs, enc_mk]
    refine R.indexS T6 (i := 0) rfl rfl rfl rfl (show (encs (opsT l))[0]? = some (.agg [.int .i64 k1, .str s1, .int .i64 o1, .snap false (encs l1)]) by rw [hel]; rfl) rfl rfl ?_
    (repeat' (first | (apply R.loadA T6; exact rfl; exact rfl; exact rfl; exact rfl; exact (by repeat constructor)) | fail))
    refine R.storeH T6 (n := 1) (o := ⟨.m, 0, 4, [.agg [.int .i64 3, .str sMul, .int .i64 0, .snap false (encs (opsT l))]]⟩) (i := 0) (e := .agg [.int .i64 3, .str sMul, .int .i64 0, .snap false (encs (opsT l))]) rfl rfl rfl rfl rfl rfl rfl rfl (Nat.le_refl 4) ?_
    rw [hj, enc_mk] at hva
    (repeat' (first | refine EvOps.nil ?_ | (apply R.loadA T6; exact rfl; exact rfl; exact rfl; exact rfl; exact (by repeat constructor)) | refine Ev.seq ?_ | refine Ev.region ?_ | refine thenQ.normal ?_ | fail))
    refine R.call rfl rfl (CallEv.pure rfl (by simp [isVals, isVal]) (by simpa [nrms, nrm, nrms_encs, encs] using hva) ?_)
    (repeat' (first | refine EvOps.nil ?_ | (apply R.move; exact rfl) | (apply R.assign; exact rfl) | (apply R.loadA T6; exact rfl; exact rfl; exact rfl; exact rfl; exact (by repeat constructor)) | (apply R.cmp; exact rfl; exact rfl; exact rfl; all_goals intro hc) | (apply R.build T6; exact rfl; exact rfl; exact rfl; exact rfl; exact rfl; exact rfl) | refine Ev.seq ?_ | refine Ev.region ?_ | (apply Ev.condB; exact rfl) | refine Ev.skip ?_ | refine thenQ.normal ?_ | fail))
    · have hne := hc
      refine R.storeH T6 (n := 0) (o := ⟨.m, 0, 4, [.agg [.int .i64 0, .str ByteArray.empty, .int .i64 0, .snap true []]]⟩) (i := 0) (e := .agg [.int .i64 0, .str ByteArray.empty, .int .i64 0, .snap true []]) rfl rfl rfl rfl rfl rfl rfl rfl (Nat.le_refl 4) ?_
      (repeat' (first | refine EvOps.nil ?_ | (apply R.assign; exact rfl) | refine Ev.ret ?_ | refine thenQ.normal ?_ | refine thenQ.ret ?_ | (apply bodyQ.retC T6; exact rfl) | fail))
      exact fin _ _ ((r4 (by rw [hj]; exact hne)).trans (by rw [hj])) _ _ zz rfl
    · have h0 := Decidable.not_not.1 hc
      refine R.storeH T6 (n := 0) (o := ⟨.m, 0, 4, [.agg [.int .i64 0, .str ByteArray.empty, .int .i64 0, .snap true []]]⟩) (i := 0) (e := .agg [.int .i64 0, .str ByteArray.empty, .int .i64 0, .snap true []]) rfl rfl rfl rfl rfl rfl rfl rfl (Nat.le_refl 4) ?_
      (repeat' (first | refine EvOps.nil ?_ | (apply R.assign; exact rfl) | refine Ev.ret ?_ | refine thenQ.normal ?_ | (apply bodyQ.retC T6; exact rfl) | fail))
      refine fin _ _ (r5 (by rw [hj]; exact h0)) _ [.int .i64 k1, .str s1, .int .i64 o1, .snap false (encs l1)] ?_ rfl
      rw [hj, enc_mk]; simp [nrm, nrms, nrms_encs]
  · -- two or more
    have hj : joinT (opsT l) = .mk 3 sMul 0 (opsT l) := joinT_many (by omega)
    rw [hj, enc_mk] at hva
    refine R.call rfl rfl (CallEv.pure rfl (by simp [isVals, isVal]) (by simpa [nrms, nrm, nrms_encs, encs] using hva) ?_)
    (repeat' (first | refine EvOps.nil ?_ | (apply R.move; exact rfl) | (apply R.assign; exact rfl) | (apply R.loadA T6; exact rfl; exact rfl; exact rfl; exact rfl; exact (by repeat constructor)) | (apply R.cmp; exact rfl; exact rfl; exact rfl; all_goals intro hc) | (apply R.build T6; exact rfl; exact rfl; exact rfl; exact rfl; exact rfl; exact rfl) | refine Ev.seq ?_ | refine Ev.region ?_ | (apply Ev.condB; exact rfl) | refine Ev.skip ?_ | refine thenQ.normal ?_ | fail))
    · have hne := hc
      refine R.storeH T6 (n := 0) (o := ⟨.m, 0, 4, [.agg [.int .i64 0, .str ByteArray.empty, .int .i64 0, .snap true []]]⟩) (i := 0) (e := .agg [.int .i64 0, .str ByteArray.empty, .int .i64 0, .snap true []]) rfl rfl rfl rfl rfl rfl rfl rfl (Nat.le_refl 4) ?_
      (repeat' (first | refine EvOps.nil ?_ | (apply R.assign; exact rfl) | refine Ev.ret ?_ | refine thenQ.normal ?_ | refine thenQ.ret ?_ | (apply bodyQ.retC T6; exact rfl) | fail))
      exact fin _ _ ((r4 (by rw [hj]; exact hne)).trans (by rw [hj])) _ _ zz rfl
    · have h0 := Decidable.not_not.1 hc
      refine R.storeH T6 (n := 0) (o := ⟨.m, 0, 4, [.agg [.int .i64 0, .str ByteArray.empty, .int .i64 0, .snap true []]]⟩) (i := 0) (e := .agg [.int .i64 0, .str ByteArray.empty, .int .i64 0, .snap true []]) rfl rfl rfl rfl rfl rfl rfl rfl (Nat.le_refl 4) ?_
      (repeat' (first | refine EvOps.nil ?_ | (apply R.assign; exact rfl) | refine Ev.ret ?_ | refine thenQ.normal ?_ | (apply bodyQ.retC T6; exact rfl) | fail))
      refine fin _ _ (r5 (by rw [hj]; exact h0)) _ [.int .i64 3, .str sMul, .int .i64 0, .snap false (encs (opsT l))] ?_ rfl
      rw [hj, enc_mk]; simp [nrm, nrms, nrms_encs]
end Go.Pm
end

/-
  CHAPTER 6, PART 29: the reference's Few and Inverse of products. Conditions: none.
-/
section
set_option linter.unusedVariables false
set_option linter.unusedSimpArgs false
set_option linter.unusedVariables false
set_option linter.unusedSimpArgs false
set_option maxRecDepth 4000
set_option maxHeartbeats 8000000
namespace Go.Pm
open Go.Proofs
def encPPs (l : List (List Pw)) : List PV := l.map fun p => .snap false (encPs p)
def allT (l : List (List Pw)) : List Tm := l.flatMap fun p => p.map (·.1)
theorem encPPs_len (l : List (List Pw)) : (encPPs l).length = l.length := by simp [encPPs]
theorem allT_snoc {l : List (List Pw)} {i : Nat} {p : List Pw} (h : l[i]? = some p) : allT (l.take (i + 1)) = allT (l.take i) ++ p.map (·.1) := by
  rw [List.take_add_one, h]; simp [allT]
theorem allT_len {l : List (List Pw)} {i j : Nat} {p : List Pw} (h : l[i]? = some p) : (allT (l.take i) ++ (p.take j).map (·.1)).length ≤ (allT l).length := by
  have h1 : l = l.take (i + 1) ++ l.drop (i + 1) := (List.take_append_drop _ _).symm
  have h2 : allT l = allT (l.take (i + 1)) ++ allT (l.drop (i + 1)) := by
    conv => lhs; rw [h1]
    simp only [allT, List.flatMap_append]
  rw [h2, allT_snoc h]
  simp only [List.length_append, List.length_map, List.length_take]
  omega
theorem vals_of {es : List PV} {l : List Tm} (h : es = encs l) : isVals es = true := by rw [h]; exact isVals_encs l
attribute [local irreducible] thenQ blockQ loopQ bodyQ Ev EvOps CallEv FnEv EvD
theorem pfew_fun (l : List (List Pw)) (hb : bulks (allT l) < 100000000) (hl : l.length < 100000000) (hls : ∀ p ∈ l, p.length < 100000000) (n m : Int) (hm : m < 1000000000) : Fun C 12 [.snap false (encPPs l), .int .i64 n, .int .i64 m] (.bool (if n < (l.length : Int) then false else few (allT l) m m)) := by
  have hel := encPPs_len l
  have hfew := few_fun (allT l) (by omega) m m hm
  have hlen := len_bulks (allT l)
  refine Fun.of (FnEv.bodyL Try.func12 rfl ?_)
  (repeat' (first | refine EvOps.nil ?_ | (apply R.assign; exact rfl) | refine Ev.seq ?_ | refine Ev.region ?_ | refine Ev.block ?_ | refine thenQ.normal ?_ | fail))
  refine Ev.loop (I := fun k' st => ∃ (i : Nat) (v : PV) (H : AHeap) (ρ' : Nat → PV), st = ⟨al [(0, .snap false (encPPs l)), (1, .int .i64 n), (2, .int .i64 m), (7, v), (8, .int .i64 i)] ρ', H⟩ ∧ k' + i = l.length ∧ HV H ∧ Out 4 H v (encs (allT (l.take i)))) l.length ?_ ?_
  · exact ⟨0, _, [], _, St.keep ⟨rfl, rfl, rfl, rfl, rfl, trivial⟩, rfl, HV.nil, .inl ⟨rfl, rfl⟩⟩
  rintro k' _ ⟨i, v, H, ρ', rfl, hk, hH, ho⟩
  (repeat' (first | refine EvOps.nil ?_ | (apply R.gOn; exact rfl; exact rfl; exact rfl) | (apply R.gOff; exact rfl; exact rfl; exact rfl) | (apply R.move; exact rfl) | (apply R.assign; exact rfl) | (apply R.pickF; exact rfl; exact rfl) | (apply R.cmp; exact rfl; exact rfl; exact rfl; all_goals intro hc) | (apply R.lenS T6; exact rfl; exact rfl) | refine Ev.seq ?_ | refine Ev.region ?_ | (apply Ev.condB; exact rfl) | refine Ev.ret ?_ | refine Ev.skip ?_ | refine Ev.exit ?_ | refine Ev.block ?_ | refine thenQ.normal ?_ | refine thenQ.exit ?_ | refine blockQ.hit ?_ | refine loopQ.exit ?_ | (apply bodyQ.ret; exact rfl) | fail))
  · obtain ⟨p, hget⟩ : ∃ p, l[i]? = some p := ⟨l[i]'(by omega), List.getElem?_eq_getElem _⟩
    have hat : (encPPs l)[i]? = some (.snap false (encPs p)) := by rw [encPPs, List.getElem?_map, hget]; rfl
    have hpl := hls p (List.mem_of_getElem? hget)
    have hep := encPs_len p
    have hsn := allT_snoc hget
    have hal := fun j => allT_len (j := j) hget
    have hil := lt_of_some hget
    clear hc
    refine Ev.loop (I := fun k2 st => ∃ (j : Nat) (v : PV) (H : AHeap) (ρ' : Nat → PV), st = ⟨al [(0, .snap false (encPPs l)), (1, .int .i64 n), (2, .int .i64 m), (7, v), (8, .int .i64 i), (9, .int .i64 j)] ρ', H⟩ ∧ k2 + j = p.length ∧ HV H ∧ Out 4 H v (encs (allT (l.take i) ++ (p.take j).map (·.1)))) p.length ?_ ?_
    · exact ⟨0, _, _, _, St.keep ⟨rfl, rfl, rfl, rfl, rfl, rfl, trivial⟩, rfl, hH, by simpa using ho⟩
    clear ho hH
    rintro k2 _ ⟨j, v, H, ρ', rfl, hk2, hH, ho⟩
    (repeat' (first | (apply R.move; exact rfl) | refine Ev.seq ?_ | refine Ev.region ?_ | fail))
    refine R.indexS T6 rfl rfl rfl rfl hat rfl rfl ?_
    (repeat' (first | refine EvOps.nil ?_ | (apply R.move; exact rfl) | (apply R.assign; exact rfl) | (apply R.load1 T6; exact rfl; exact rfl; exact rfl; exact rfl) | (apply R.cmp; exact rfl; exact rfl; exact rfl; all_goals intro hc) | (apply R.arith; exact rfl; exact rfl; exact rfl; exact (wrapI (by omega) (by omega))) | (apply R.lenS T6; exact rfl; exact rfl) | refine Ev.seq ?_ | refine Ev.region ?_ | (apply Ev.condB; exact rfl) | refine Ev.skip ?_ | refine Ev.exit ?_ | refine Ev.block ?_ | refine thenQ.normal ?_ | refine thenQ.exit ?_ | refine blockQ.normal ?_ | refine blockQ.hit ?_ | refine loopQ.normal ?_ | refine loopQ.exit ?_ | fail))
    · obtain ⟨k1, s1, o1, l1, n1, hmem, hat2, hd, hil, hget2⟩ := encPs_at hc
      have hal1 := hal j
      have hlx := encs_len (allT (l.take i) ++ (p.take j).map (·.1))
      refine R.indexS T6 rfl rfl rfl rfl hat rfl rfl ?_
      (repeat' (first | (apply R.move; exact rfl) | (apply R.load1 T6; exact rfl; exact rfl; exact rfl; exact rfl) | fail))
      refine R.indexS T6 rfl rfl rfl rfl hat2 rfl rfl ?_
      (repeat' (first | (apply R.loadA T6; exact rfl; exact rfl; exact rfl; exact rfl; exact (by repeat constructor)) | (apply R.fieldAddrS T6; exact rfl; exact rfl; exact rfl; exact rfl; exact rfl) | (apply R.buildSlice T6; exact rfl; exact rfl; exact rfl; exact rfl; exact (by decide); exact rfl; exact rfl; exact rfl; exact rfl; exact rfl) | fail))
      refine R.appendLP T6 rfl rfl rfl rfl rfl rfl rfl (by decide) rfl rfl rfl rfl ho (by show _ + 1 < _; omega) (by rw [isVals_eq, List.all_append, ← isVals_eq, isVals_encs]; rfl) hH ?_
      intro v3 H3 lp
      rw [← enc_mk] at lp
      have lp : LP H v 4 (encs (allT (l.take i) ++ (p.take j).map (·.1)) ++ [enc (Tm.mk k1 s1 o1 l1)]) v3 H3 := lp
      have hst : allT (l.take i) ++ (p.take j).map (·.1) ++ [Tm.mk k1 s1 o1 l1] = allT (l.take i) ++ (p.take (j + 1)).map (·.1) := by
        rw [List.take_add_one, hget2, List.map_append, List.append_assoc]; rfl
      rw [encs_snoc, hst] at lp
      have o3 := lp.out
      have h3 := lp.hv
      (repeat' (first | refine EvOps.nil ?_ | (apply R.move; exact rfl) | (apply R.assign; exact rfl) | (apply R.arith; exact rfl; exact rfl; exact rfl; exact (wrapI (by omega) (by omega))) | refine Ev.region ?_ | refine thenQ.normal ?_ | refine blockQ.normal ?_ | refine loopQ.normal ?_ | fail))
      exact ⟨k2 - 1, by omega, j + 1, v3, H3, _, St.keep ⟨rfl, rfl, rfl, rfl, rfl, rfl, trivial⟩, by omega, h3, o3⟩
    · have tk : p.take j = p := List.take_of_length_le (by omega)
      rw [tk, ← hsn] at ho
      exact ⟨k' - 1, by omega, i + 1, v, H, _, St.keep ⟨rfl, rfl, rfl, rfl, rfl, trivial⟩, by omega, hH, ho⟩
  · have tk : l.take i = l := List.take_of_length_le (by omega)
    rw [tk] at ho
    refine R.call rfl rfl (CallEv.out rfl ho (isVals_encs _) rfl (by rw [nrms_encs]; exact hfew) rfl ?_)
    (repeat' (first | refine EvOps.nil ?_ | (apply R.assign; exact rfl) | (apply R.pickT; exact rfl; exact rfl) | refine Ev.ret ?_ | refine thenQ.normal ?_ | (apply bodyQ.ret; exact rfl) | fail))
    exact ⟨_, rfl, by rw [if_neg (by omega)]; rfl⟩
  · exact ⟨_, rfl, by rw [if_pos (by omega)]; rfl⟩
section
variable {C : Cfg} (T : Tab C.P)
variable {ops : Array Oper} {i : Nat} {d L0 : Nat} {own : List Nat} {ty : TypeId} {pos : String} {af : Array Edge} {r : List Oper} {ρ : Nat → PV} {L : List (Nat × PV)} {h : AHeap} {Q : St → Prop}
theorem D.neg {t : TypeId} {x : Operand} {k : IntKind} {a c : Int} (hx : evL L x = some (.int k a)) (hw : k.wrap (0 - a) = c) (kk : EvD C ops (i + 1) r ⟨⟨al ((d, .int k c) :: L) ρ, h⟩, L0, own⟩ Q) :
    EvD C ops i (⟨some d, .unOp .neg t x, ty, pos, af, none⟩ :: r) ⟨⟨al L ρ, h⟩, L0, own⟩ Q :=
  EvD.plain (h' := h) rfl (fun run => by simp only [opVal, stepOp, evL_ev hx, unP, hw, Option.map_some]) kk
/-- append to a list in a region that draws its order, behind all else -/
theorem D.appendLP {st xt el el' : TypeId} {sz by' : Nat} {z : PV} {full : Bool} {es ys : List PV} {x y : Operand} {v : PV} (hl2 : level ops (before ops) i = 2) (hx : evL L x = some v) (hy : evL L y = some (.snap full ys)) (hk : T.kd st = some (.sl el)) (hk' : T.kd xt = some (.sl el')) (hs : T.ts el = some (sz + 1)) (hb : T.tb el = some by') (hz : T.tz el = some z)
    (hby : by' ≤ 1000) (hl : (cells z).length = sz + 1) (ho : (cells z).all oneC = true) (hyo : esOk (sz + 1) ys) (hne : ys.isEmpty = false) (o : Out (sz + 1) h v es) (hn : es.length + ys.length < 1000000000)
    (hvs : isVals (es ++ ys) = true) (hH : HV h) (kk : ∀ v' h', LP h v (sz + 1) (es ++ ys) v' h' → EvD C ops (i + 1) r ⟨⟨al ((d, v') :: L) ρ, h'⟩, h'.length, []⟩ Q) :
    EvD C ops i (⟨some d, .call ⟨.builtin .append, #[x, y], #[st, xt]⟩, ty, pos, af, none⟩ :: r) ⟨⟨al L ρ, h⟩, L0, own⟩ Q := by
  rcases o with ⟨rfl, rfl⟩ | ⟨id, ep, rfl, e2⟩
  · refine EvD.two rfl hl2 ⟨0, fun n _ => ?_⟩ (kk (.mref h.length 0 0 ys.length) (h ++ [⟨.m, 0, sz + 1, ys⟩]) ⟨.inr ⟨h.length, 0, by simp, by simp⟩, hH.app (HV.one (by simpa using hvs)), by simp, fun j hj _ => List.getElem?_append_left hj, fun j ep n hh => ?_⟩)
    · have := appendP_new T (h := h) (lv := 2) (full := full) (by omega) hk hk' hs hb hz hby hl ho hyo hne (by simpa using hn)
      simp only [opVal, builtinP, List.map_cons, List.map_nil, evL_ev hx, evL_ev hy, this]
    · cases hh; exact .inr (Nat.le_refl _)
  · have hlt := lt_of_some e2
    refine EvD.two rfl hl2 ⟨0, fun n _ => ?_⟩ (kk (.mref id (ep + 1) 0 (es.length + ys.length)) (h.set id ⟨.m, ep + 1, sz + 1, es ++ ys⟩) ⟨.inr ⟨id, ep + 1, by simp, List.getElem?_set_self hlt⟩, hH.set id (by simp) hvs, by simp, fun j hj hne => List.getElem?_set_ne (fun hh => hne ep es.length (by rw [hh])), fun j ep' n hh => ?_⟩)
    · have := appendP_m T (h := h) (full := full) (len := es.length) hk hk' hs hb hz hby hl ho hyo hne hn (getM_at e2 rfl (by simp)) rfl rfl (Nat.le_refl _)
      simp only [opVal, builtinP, List.map_cons, List.map_nil, evL_ev hx, evL_ev hy, this, List.take_length]
    · cases hh; exact .inl ⟨ep, es.length, rfl⟩
end
/-- the inverse of a product (of any numbers) -/
def invP (l : List Pw) : List Pw := l.map fun p => (p.1, IntKind.i64.wrap (0 - p.2))
theorem invP_len (l : List Pw) : (invP l).length = l.length := by simp [invP]
theorem encPs_snoc (l : List Pw) (p : Pw) : encPs l ++ [encP p] = encPs (l ++ [p]) := by simp [encPs]
theorem invP_snoc {l : List Pw} {i : Nat} {p : Pw} (h : l[i]? = some p) : invP (l.take (i + 1)) = invP (l.take i) ++ [(p.1, IntKind.i64.wrap (0 - p.2))] := by
  rw [List.take_add_one, h]; simp [invP]
theorem rinv_fun (l : List Pw) (hl : l.length < 100000000) : Fun C 16 [.snap false (encPs l)] (.snap false (encPs (invP l))) := by
  have hel := encPs_len l
  refine Fun.of (FnEv.bodyL Try.func16 rfl ?_)
  (repeat' (first | refine EvOps.nil ?_ | (apply R.assign; exact rfl) | refine Ev.seq ?_ | refine Ev.region ?_ | refine Ev.block ?_ | refine thenQ.normal ?_ | fail))
  refine Ev.loop (I := fun k' st => ∃ (i : Nat) (v : PV) (H : AHeap) (ρ' : Nat → PV), st = ⟨al [(0, .snap false (encPs l)), (3, v), (4, .int .i64 i)] ρ', H⟩ ∧ k' + i = l.length ∧ HV H ∧ Out 5 H v (encPs (invP (l.take i)))) l.length ?_ ?_
  · exact ⟨0, _, [], _, St.keep ⟨rfl, rfl, rfl, trivial⟩, rfl, HV.nil, .inl ⟨rfl, rfl⟩⟩
  rintro k' _ ⟨i, v, H, ρ', rfl, hk, hH, ho⟩
  (repeat' (first | refine EvOps.nil ?_ | (apply R.move; exact rfl) | (apply R.assign; exact rfl) | (apply R.cmp; exact rfl; exact rfl; exact rfl; all_goals intro hc) | (apply R.lenS T6; exact rfl; exact rfl) | refine Ev.seq ?_ | refine Ev.region ?_ | refine Ev.regionD ?_ | (apply D.move; exact rfl) | (apply Ev.condB; exact rfl) | refine Ev.ret ?_ | refine Ev.skip ?_ | refine Ev.exit ?_ | refine Ev.block ?_ | refine thenQ.normal ?_ | refine thenQ.exit ?_ | refine blockQ.hit ?_ | refine loopQ.exit ?_ | (apply bodyQ.ret; exact rfl) | fail))
  · obtain ⟨k1, s1, o1, l1, n1, hmem, hat, hd, hil, hget⟩ := encPs_at hc
    have hsn := invP_snoc hget
    have hlx := encPs_len (invP (l.take i))
    have hly := invP_len (l.take i)
    have hcl := hH.closed
    rw [List.length_take] at hly
    clear hc
    refine D.indexS T6 hcl rfl rfl rfl rfl hat rfl rfl ?_
    (repeat' (first | (apply D.move; exact rfl) | (apply D.fieldAddrS T6; exact rfl; exact rfl; exact rfl; exact rfl; exact rfl) | (apply D.loadA T6; exact (by first | exact rfl | assumption); exact rfl; exact rfl; exact rfl; exact rfl; exact rfl; exact (by repeat constructor)) | fail))
    refine D.indexS T6 hcl rfl rfl rfl rfl hat rfl rfl ?_
    (repeat' (first | (apply D.fieldAddrS T6; exact rfl; exact rfl; exact rfl; exact rfl; exact rfl) | (apply D.load1 T6; exact (by first | exact rfl | assumption); exact rfl; exact rfl; exact rfl; exact rfl; exact rfl) | fail))
    refine D.neg rfl rfl ?_
    (repeat' (first | (apply D.build T6; exact rfl; exact rfl; exact rfl; exact rfl; exact rfl; exact rfl) | fail))
    refine D.buildSlice T6 hcl rfl rfl rfl rfl rfl (by decide) rfl rfl rfl rfl rfl ?_
    refine D.appendLP T6 rfl rfl rfl rfl rfl rfl rfl rfl (by decide) rfl rfl rfl rfl ho (by show _ + 1 < _; omega) (by rw [isVals_eq, List.all_append, ← isVals_eq, encPs_vals]; rfl) hH ?_
    intro v3 H3 lp
    have lp : LP H v 5 (encPs (invP (l.take i)) ++ [encP (.mk k1 s1 o1 l1, IntKind.i64.wrap (0 - n1))]) v3 H3 := lp
    rw [encPs_snoc, ← hsn] at lp
    have o3 := lp.out
    have h3 := lp.hv
    (repeat' (first | refine EvOps.nil ?_ | (apply R.move; exact rfl) | (apply R.assign; exact rfl) | (apply R.arith; exact rfl; exact rfl; exact rfl; exact (wrapI (by omega) (by omega))) | refine Ev.region ?_ | refine EvD.nil ?_ | (apply D.assign; exact rfl) | refine thenQ.normal ?_ | refine blockQ.normal ?_ | refine loopQ.normal ?_ | fail))
    exact ⟨k' - 1, by omega, i + 1, v3, H3, _, St.keep ⟨rfl, rfl, rfl, trivial⟩, by omega, h3, o3⟩
  · have tk : l.take i = l := List.take_of_length_le (by omega)
    rw [tk] at ho
    obtain ⟨r1, e1, e2⟩ := ho.rbA (encPs_vals _)
    rw [nrms_encPs] at e2
    exact ⟨r1, by rcases ho with ⟨rfl, _⟩ | ⟨id, ep, rfl, _⟩ <;> exact e1, e2⟩
end Go.Pm
end

/-
  CHAPTER 6, PART 30: the program's copied and Inverse. Conditions: none.
-/
section
set_option linter.unusedVariables false
set_option linter.unusedSimpArgs false
set_option linter.unusedVariables false
set_option linter.unusedSimpArgs false
set_option maxRecDepth 4000
set_option maxHeartbeats 8000000
namespace Go.Pm
open Go.Proofs
/-- the first i changed -/
def updL (g : Pw → Pw) (l : List Pw) (i : Nat) : List Pw := (l.take i).map g ++ l.drop i
theorem updL_zero (g : Pw → Pw) (l : List Pw) : updL g l 0 = l := by simp [updL]
theorem updL_all (g : Pw → Pw) (l : List Pw) {i : Nat} (h : l.length ≤ i) : updL g l i = l.map g := by
  rw [updL, List.take_of_length_le h, List.drop_eq_nil_of_le h, List.append_nil]
theorem updL_len (g : Pw → Pw) (l : List Pw) (i : Nat) : (updL g l i).length = l.length := by simp [updL]; omega
theorem updL_at {g : Pw → Pw} {l : List Pw} {i : Nat} {p : Pw} (h : l[i]? = some p) : (updL g l i)[i]? = some p := by
  have hi := lt_of_some h
  rw [updL, List.getElem?_append_right (by simp; omega), List.getElem?_drop]
  simp only [List.length_map, List.length_take]
  rw [← h]; congr 1; omega
theorem updL_set {g : Pw → Pw} {l : List Pw} {i : Nat} {p : Pw} (h : l[i]? = some p) : (updL g l i).set i (g p) = updL g l (i + 1) := by
  have hi := lt_of_some h
  have hd : l.drop i = p :: l.drop (i + 1) := by
    rw [List.drop_eq_getElem_cons hi]
    congr 1
    rw [List.getElem?_eq_getElem hi] at h
    exact Option.some.inj h
  have hl : ((l.take i).map g).length = i := by simp; omega
  rw [updL, updL, List.set_append_right _ _ (by omega), hl, Nat.sub_self, hd, List.set_cons_zero, List.take_add_one, h, List.map_append, List.append_assoc]
  rfl
theorem belowR_mref {N id ep off len : Nat} : belowR N (.mref id ep off len) = decide (id < N) := by
  simp [belowR, belowA, below1]
/-- an open call that makes a list anew -/
theorem CallEv.openedLP {C : Cfg} {f : FuncId} {sz : Nat} {args : List PV} {h : AHeap} {es : List PV} {Q : PV → AHeap → Prop} (hm : C.mode f = .opened) (a : FnEv C f args h (fun r k => LP h (.snap true []) sz es r k))
    (q : ∀ r K, HV K → Out sz K r es → h.length ≤ K.length → (∀ j, j < h.length → K[j]? = h[j]?) → (∀ j ep n, r = .mref j ep 0 n → h.length ≤ j) → Q r K) : CallEv C 2 f args h Q := by
  refine CallEv.openedV (N := h.length) hm rfl rfl rfl a ?_
  rintro r k lp
  have hl := lp.len
  have hfr : ∀ j, j < h.length → k[j]? = h[j]? := fun j hj => lp.fr j hj (fun ep n hh => by cases hh)
  have href : ∀ j ep n, r = .mref j ep 0 n → h.length ≤ j := fun j ep n hh => by
    rcases lp.ref j ep n hh with ⟨_, _, h1⟩ | h1
    · cases h1
    · exact h1
  refine ⟨lp.hv, fun hb => ?_, fun _ => q r k lp.hv lp.out hl hfr href⟩
  rcases lp.out with ⟨rfl, e0⟩ | ⟨id, ep, rfl, e1⟩
  · refine q _ _ (lp.hv.take _) (.inl ⟨rfl, e0⟩) (by simp; omega) (fun j hj => ?_) (fun j ep n hh => by cases hh)
    rw [List.getElem?_take, if_pos hj]
    exact hfr j hj
  · have := href id ep _ rfl
    rw [belowR_mref] at hb
    have := of_decide_eq_true hb
    omega
attribute [local irreducible] thenQ blockQ loopQ bodyQ Ev EvOps CallEv FnEv EvD
theorem copied_ev (l : List Pw) (hb : ∀ p ∈ l, bulk p.1 < 1000000000) (hl : l.length < 100000000) (H : AHeap) (hH : HV H) : FnEv C 40 [.snap false (encPs l)] H (fun r k => LP H (.snap true []) 5 (encPs l) r k) := by
  have hel := encPs_len l
  refine FnEv.bodyL Try.func40 rfl ?_
  (repeat' (first | refine EvOps.nil ?_ | (apply R.move; exact rfl) | (apply R.assign; exact rfl) | (apply R.lenS T6; exact rfl; exact rfl) | refine Ev.seq ?_ | refine Ev.region ?_ | refine Ev.block ?_ | refine thenQ.normal ?_ | fail))
  refine Ev.loop (I := fun k' st => ∃ (i : Nat) (v : PV) (K : AHeap) (ρ' : Nat → PV), st = ⟨al [(3, v), (6, .snap false (encPs l)), (7, .int .i64 (encPs l).length), (8, .int .i64 i)] ρ', K⟩ ∧ k' + i = l.length ∧ LP H (.snap true []) 5 (encPs (l.take i)) v K) l.length ?_ ?_
  · exact ⟨0, _, H, _, St.keep ⟨rfl, rfl, rfl, rfl, trivial⟩, rfl, .inl ⟨rfl, rfl⟩, hH, Nat.le_refl _, fun _ _ _ => rfl, fun j ep n hh => by cases hh⟩
  rintro k' _ ⟨i, v, K, ρ', rfl, hk, lp0⟩
  (repeat' (first | refine EvOps.nil ?_ | (apply R.move; exact rfl) | (apply R.assign; exact rfl) | (apply R.cmp; exact rfl; exact rfl; exact rfl; all_goals intro hc) | refine Ev.seq ?_ | refine Ev.region ?_ | (apply Ev.condB; exact rfl) | refine Ev.ret ?_ | refine Ev.skip ?_ | refine Ev.exit ?_ | refine Ev.block ?_ | refine thenQ.normal ?_ | refine thenQ.exit ?_ | refine blockQ.hit ?_ | refine loopQ.exit ?_ | (apply bodyQ.ret; exact rfl) | fail))
  · obtain ⟨k1, s1, o1, l1, n1, hmem, hat, hd, hil, hget⟩ := encPs_at hc
    have hcl := clone_fun _ (hb _ hmem)
    simp only at hcl
    rw [enc_mk] at hcl
    have hsn := take_snoc hget
    have hlx := encPs_len (l.take i)
    rw [List.length_take] at hlx
    clear hc
    refine R.indexS T6 rfl rfl rfl rfl hat rfl rfl ?_
    (repeat' (first | refine EvOps.nil ?_ | (apply R.loadA T6; exact rfl; exact rfl; exact rfl; exact rfl; exact (by repeat constructor)) | (apply R.allocN T6; exact rfl; exact rfl; exact rfl) | (apply R.storeN T6; exact rfl; exact rfl; exact rfl; exact rfl; exact rfl; exact rfl) | refine Ev.regionD ?_ | (apply D.move; exact rfl) | (apply D.fieldAddr T6; exact rfl; exact rfl; exact rfl; exact rfl) | refine thenQ.normal ?_ | fail))
    obtain ⟨H1, hH1⟩ : ∃ x, x = K ++ [⟨.m, 0, 5, [.agg [.int .i64 k1, .str s1, .int .i64 o1, .snap false (encs l1), .int .i64 n1]]⟩] := ⟨_, rfl⟩
    have v1 : HV H1 := by rw [hH1]; exact lp0.hv.app (HV.one rfl)
    have b1 : H1[K.length]? = some ⟨.m, 0, 5, [.agg [.int .i64 k1, .str s1, .int .i64 o1, .snap false (encs l1), .int .i64 n1]]⟩ := by rw [hH1]; simp
    have o1' : Out 5 H1 v (encPs (l.take i)) := by rw [hH1]; exact lp0.out.app _
    refine EvD.heap hH1.symm ?_
    have v1c := v1.closed
    have hvis : visible H1 K.length = true := v1.vis (by rw [hH1]; simp)
    (repeat' (first | (apply D.loadAH T6; exact (by assumption); exact rfl; exact rfl; exact rfl; exact (by assumption); exact (by repeat constructor)) | fail))
    refine D.callP v1c rfl rfl rfl rfl rfl rfl (by simpa [nrms, nrm, nrms_encs] using hcl) ?_
    (repeat' (first | (apply D.build T6; exact rfl; exact rfl; exact rfl; exact rfl; exact rfl; exact rfl) | (apply D.fieldAddr T6; exact rfl; exact rfl; exact rfl; exact rfl) | (apply D.load1H T6; exact (by assumption); exact rfl; exact rfl; exact rfl; exact (by assumption); exact rfl) | fail))
    refine D.buildSlice T6 v1c rfl rfl rfl rfl rfl (by decide) rfl rfl rfl rfl rfl ?_
    refine D.appendLP T6 rfl rfl rfl rfl rfl rfl rfl rfl (by decide) rfl rfl rfl rfl o1' (by show _ + 1 < _; omega) (by rw [isVals_eq, List.all_append, ← isVals_eq, encPs_vals]; rfl) v1 ?_
    intro v3 H3 lp
    have lp : LP H1 v 5 (encPs (l.take i) ++ [encP (.mk k1 s1 o1 l1, n1)]) v3 H3 := lp
    rw [encPs_snoc, ← hsn, hH1] at lp
    have lp2 := lp0.trans lp
    (repeat' (first | refine EvOps.nil ?_ | (apply R.move; exact rfl) | (apply R.arith; exact rfl; exact rfl; exact rfl; exact (wrapI (by omega) (by omega))) | refine Ev.region ?_ | refine EvD.nil ?_ | (apply D.assign; exact rfl) | refine thenQ.normal ?_ | refine blockQ.normal ?_ | refine loopQ.normal ?_ | fail))
    exact ⟨k' - 1, by omega, i + 1, v3, H3, _, St.keep ⟨rfl, rfl, rfl, rfl, trivial⟩, by omega, lp2⟩
  · have tk : l.take i = l := List.take_of_length_le (by omega)
    rw [tk] at lp0
    exact lp0
theorem inv_fun (l : List Pw) (hb : ∀ p ∈ l, bulk p.1 < 1000000000) (hl : l.length < 100000000) : Fun C 15 [.snap false (encPs l)] (.snap false (encPs (invP l))) := by
  have hel := encPs_len l
  refine Fun.of (FnEv.bodyL Try.func15 rfl ?_)
  (repeat' (first | refine EvOps.nil ?_ | (apply R.move; exact rfl) | (apply R.assign; exact rfl) | refine Ev.seq ?_ | refine Ev.region ?_ | refine thenQ.normal ?_ | fail))
  refine R.call rfl rfl (CallEv.openedLP rfl (copied_ev l hb hl [] HV.nil) ?_)
  rintro r K hK ho _ _ _
  rcases ho with ⟨rfl, e0⟩ | ⟨id, ep, rfl, e1⟩
  · have hl0 : l = [] := List.eq_nil_of_length_eq_zero (by rw [← hel, e0]; rfl)
    subst hl0
    (repeat' (first | refine EvOps.nil ?_ | (apply R.move; exact rfl) | (apply R.assign; exact rfl) | (apply R.lenS T6; exact rfl; exact rfl) | refine Ev.seq ?_ | refine Ev.region ?_ | refine Ev.block ?_ | refine thenQ.normal ?_ | fail))
    refine Ev.loop (I := fun k' st => ∃ (ρ' : Nat → PV), st = ⟨al [(3, .snap true []), (8, .int .i64 0), (9, .int .i64 0)] ρ', K⟩) 0 ?_ ?_
    · exact ⟨_, St.keep ⟨rfl, rfl, rfl, trivial⟩⟩
    rintro k' _ ⟨ρ', rfl⟩
    (repeat' (first | refine EvOps.nil ?_ | (apply R.move; exact rfl) | (apply R.assign; exact rfl) | (apply R.cmp; exact rfl; exact rfl; exact rfl; all_goals intro hc; all_goals (try (exfalso; omega))) | refine Ev.seq ?_ | refine Ev.region ?_ | (apply Ev.condB; exact rfl) | refine Ev.ret ?_ | refine Ev.exit ?_ | refine thenQ.normal ?_ | refine thenQ.exit ?_ | refine blockQ.hit ?_ | refine loopQ.exit ?_ | (apply bodyQ.ret; exact rfl) | fail))
    exact ⟨_, rfl, rfl⟩
  · have hmod : ∀ i, (encPs (updL (fun p => (p.1, IntKind.i64.wrap (0 - p.2))) l i)).length = (encPs l).length := fun i => by rw [encPs_len, encPs_len, updL_len]
    (repeat' (first | refine EvOps.nil ?_ | (apply R.move; exact rfl) | (apply R.assign; exact rfl) | refine Ev.seq ?_ | refine Ev.region ?_ | refine thenQ.normal ?_ | fail))
    apply R.lenM T6 (o := ⟨.m, ep, 5, encPs l⟩); exact rfl; exact rfl; exact getM_at e1 rfl (by simp); exact (by show 0 + _ ≤ (encPs l).length; omega)
    (repeat' (first | refine EvOps.nil ?_ | (apply R.move; exact rfl) | refine Ev.block ?_ | refine thenQ.normal ?_ | fail))
    refine Ev.loop (I := fun k' st => ∃ (i : Nat) (K : AHeap) (ρ' : Nat → PV), st = ⟨al [(3, .mref id ep 0 (encPs l).length), (8, .int .i64 (encPs l).length), (9, .int .i64 i)] ρ', K⟩ ∧ k' + i = l.length ∧ HV K ∧ K[id]? = some ⟨.m, ep, 5, encPs (updL (fun p => (p.1, IntKind.i64.wrap (0 - p.2))) l i)⟩) l.length ?_ ?_
    · exact ⟨0, K, _, St.keep ⟨rfl, rfl, rfl, trivial⟩, rfl, hK, by rw [updL_zero]; exact e1⟩
    clear e1 hK
    rintro k' _ ⟨i, K, ρ', rfl, hk, hK, e1⟩
    have hmi := hmod i
    (repeat' (first | refine EvOps.nil ?_ | (apply R.move; exact rfl) | (apply R.assign; exact rfl) | (apply R.cmp; exact rfl; exact rfl; exact rfl; all_goals intro hc) | refine Ev.seq ?_ | refine Ev.region ?_ | (apply Ev.condB; exact rfl) | refine Ev.ret ?_ | refine Ev.skip ?_ | refine Ev.exit ?_ | refine Ev.block ?_ | refine thenQ.normal ?_ | refine thenQ.exit ?_ | refine blockQ.hit ?_ | refine loopQ.exit ?_ | (apply bodyQ.ret; exact rfl) | fail))
    · obtain ⟨k1, s1, o1, l1, n1, hmem, hat, hd, hil, hget⟩ := encPs_at hc
      have hidl := lt_of_some e1
      have hat2 : (encPs (updL (fun p => (p.1, IntKind.i64.wrap (0 - p.2))) l i))[0 + i]? = some (.agg [.int .i64 k1, .str s1, .int .i64 o1, .snap false (encs l1), .int .i64 n1]) := by
        rw [Nat.zero_add, encPs, List.getElem?_map, updL_at hget]; rfl
      have hpc : pcells K (.ptr id ep (0 + i) (0 + 4)) = some [.int .i64 n1] := by
        simp only [pcells, getM_at e1 rfl (by simp), hat2]; rfl
      refine R.indexM T6 (o := ⟨.m, ep, 5, encPs (updL (fun p => (p.1, IntKind.i64.wrap (0 - p.2))) l i)⟩) rfl rfl rfl (getM_at e1 rfl (by simp)) rfl (by omega) (by show 0 + (encPs l).length ≤ (encPs _).length; omega) ?_
      (repeat' (first | (apply R.fieldAddr T6; exact rfl; exact rfl; exact rfl; exact rfl) | fail))
      refine R.load1 T6 rfl rfl rfl hpc ?_
      refine R.neg rfl rfl ?_
      refine R.indexM T6 (o := ⟨.m, ep, 5, encPs (updL (fun p => (p.1, IntKind.i64.wrap (0 - p.2))) l i)⟩) rfl rfl rfl (getM_at e1 rfl (by simp)) rfl (by omega) (by show 0 + (encPs l).length ≤ (encPs _).length; omega) ?_
      (repeat' (first | (apply R.fieldAddr T6; exact rfl; exact rfl; exact rfl; exact rfl) | fail))
      refine R.storeH T6 (n := 0) (o := ⟨.m, ep, 5, encPs (updL (fun p => (p.1, IntKind.i64.wrap (0 - p.2))) l i)⟩) (i := 0 + i) rfl rfl rfl (getM_at e1 rfl (by simp)) rfl hat2 rfl rfl (Nat.le_refl 5) ?_
      obtain ⟨H2, hH2⟩ : ∃ x, x = K.set id ⟨.m, ep, 5, encPs (updL (fun p => (p.1, IntKind.i64.wrap (0 - p.2))) l (i + 1))⟩ := ⟨_, rfl⟩
      have hset : K.set id { (⟨.m, ep, 5, encPs (updL (fun p => (p.1, IntKind.i64.wrap (0 - p.2))) l i)⟩ : AObj) with es := (encPs (updL (fun p => (p.1, IntKind.i64.wrap (0 - p.2))) l i)).set (0 + i) (recell (0 + 4) 1 (.agg [.int .i64 k1, .str s1, .int .i64 o1, .snap false (encs l1), .int .i64 n1]) (.int .i64 (IntKind.i64.wrap (0 - n1)))) } = H2 := by
        rw [hH2, Nat.zero_add, ← updL_set hget]
        congr 2
        unfold encPs
        rw [List.map_set]
        rfl
      refine EvOps.heap hset ?_
      have e2 : H2[id]? = some ⟨.m, ep, 5, encPs (updL (fun p => (p.1, IntKind.i64.wrap (0 - p.2))) l (i + 1))⟩ := by rw [hH2]; exact List.getElem?_set_self hidl
      have v2 : HV H2 := by rw [hH2]; exact hK.set id (by simp) (encPs_vals _)
      (repeat' (first | refine EvOps.nil ?_ | (apply R.move; exact rfl) | (apply R.arith; exact rfl; exact rfl; exact rfl; exact (wrapI (by omega) (by omega))) | refine Ev.region ?_ | refine thenQ.normal ?_ | refine blockQ.normal ?_ | refine loopQ.normal ?_ | fail))
      exact ⟨k' - 1, by omega, i + 1, H2, _, St.keep ⟨rfl, rfl, rfl, trivial⟩, by omega, v2, e2⟩
    · rw [updL_all _ _ (by omega)] at e1
      have ho : Out 5 K (.mref id ep 0 (encPs l).length) (encPs (invP l)) := .inr ⟨id, ep, by rw [encPs_len, encPs_len, invP_len], e1⟩
      obtain ⟨r1, f1, f2⟩ := ho.rbA (encPs_vals _)
      rw [nrms_encPs] at f2
      exact ⟨r1, f1, f2⟩
end Go.Pm
end
