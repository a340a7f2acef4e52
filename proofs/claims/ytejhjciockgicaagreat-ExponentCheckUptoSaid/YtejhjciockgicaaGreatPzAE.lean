/-
  A part of the library Pm and its contracts (joined by program): PmTCmp PmRef2 PmAdd PmBin PmClone PmIns PmRef3 PmCheck PmColl PmOf. Conditions: none.
-/
import Derived.Test.YtejhjciockgicaaGreatPzAD
import Derived.Test.YtejhjciockgicaaGreatPzAC
/-
  CHAPTER 6, PART 12: the program's Compare. Conditions: none.
-/
section
set_option linter.unusedVariables false
set_option linter.unusedSimpArgs false
set_option linter.unusedVariables false
set_option linter.unusedSimpArgs false
set_option maxRecDepth 4000
set_option maxHeartbeats 4000000
namespace Go.Pm
open Go.Proofs
attribute [local irreducible] thenQ blockQ loopQ bodyQ Ev EvOps CallEv FnEv EvD

theorem cmpstr_fun (a b : ByteArray) : Fun C 108 [.str a, .str b] (.int .i64 (cmpS a b)) := by
  have e : cmpS a b = Lib.compareBytes a.data.toList b.data.toList := by unfold cmpS cmpBs; rw [ByteArray.toList_eq, ByteArray.toList_eq]
  rw [e]
  refine Fun.of (FnEv.bodyL Tryz.func108 rfl ?_)
  (repeat' (first | refine EvOps.nil ?_ | (apply R.move; exact rfl) | (apply R.assign; exact rfl) | refine Ev.seq ?_ | refine Ev.region ?_ | refine thenQ.normal ?_ | fail))
  refine R.call rfl rfl (CallEv.ext rfl rfl rfl ?_)
  (repeat' (first | refine EvOps.nil ?_ | (apply R.assign; exact rfl) | refine Ev.ret ?_ | refine thenQ.normal ?_ | (apply bodyQ.ret; exact rfl) | fail))
  exact ⟨_, rfl, rfl⟩
theorem scmp_fun (a b : ByteArray) : Fun C 80 [.str a, .str b] (.int .i64 (cmpS a b)) := by
  refine Fun.of (FnEv.bodyL Tryz.func80 rfl ?_)
  (repeat' (first | refine EvOps.nil ?_ | (apply R.move; exact rfl) | (apply R.assign; exact rfl) | refine Ev.seq ?_ | refine Ev.region ?_ | refine thenQ.normal ?_ | fail))
  refine R.call rfl rfl (CallEv.pure rfl rfl (cmpstr_fun a b) ?_)
  (repeat' (first | refine EvOps.nil ?_ | (apply R.assign; exact rfl) | refine Ev.ret ?_ | refine thenQ.normal ?_ | (apply bodyQ.ret; exact rfl) | fail))
  exact ⟨_, rfl, rfl⟩

theorem tcmp_ev (k s o l k' s' o' l') (hb : bulk (.mk k s o l) < 1000000000) (hb' : bulk (.mk k' s' o' l') < 1000000000)
    (ih : ∀ t ∈ l, ∀ t' ∈ l', Fun C 40 [enc t, enc t'] (.int .i64 (cmpT t t'))) : Fun C 40 [enc (.mk k s o l), enc (.mk k' s' o' l')] (.int .i64 (cmpT (.mk k s o l) (.mk k' s' o' l'))) := by
  refine Fun.of (FnEv.bodyL Tryz.func40 rfl ?_)
  have hlex := cmpT_lex k s o l k' s' o' l'
  have z1 := tsize_fun _ hb
  have z2 := tsize_fun _ hb'
  rw [enc_mk] at z1 z2
  rw [enc_mk, enc_mk]
  generalize cmpT (.mk k s o l) (.mk k' s' o' l') = R0 at hlex ⊢
  have e1 := encs_len l
  have e2 := encs_len l'
  have b1 : l.length < 1000000000 := by have := len_bulks l; simp only [bulk] at hb; omega
  have b2 : l'.length < 1000000000 := by have := len_bulks l'; simp only [bulk] at hb'; omega
  have hll : cmpN (encs l).length (encs l').length = 0 → l.length = l'.length := fun h => by have := cmpN_zero h; omega
  rw [← e1, ← e2] at hlex
  (repeat' (first | refine EvOps.nil ?_ | (apply R.assign; exact rfl) | (apply R.box; exact rfl; exact rfl; exact rfl; exact .nil) | (apply R.box; exact rfl; exact rfl; exact rfl; exact (.cons .nil)) | refine Ev.seq ?_ | refine Ev.region ?_ | refine Ev.regionD ?_ | (apply D.loadA T6; exact (by first | exact rfl | assumption); exact rfl; exact rfl; exact rfl; exact rfl; exact rfl; exact (by repeat constructor)) | refine thenQ.normal ?_ | fail))
  refine D.callP rfl rfl rfl rfl (by simp [isVals, isVal]) rfl rfl (by simpa [nrms, nrm, nrms_encs] using z1) ?_
  (repeat' (first | (apply D.loadA T6; exact (by first | exact rfl | assumption); exact rfl; exact rfl; exact rfl; exact rfl; exact rfl; exact (by repeat constructor)) | fail))
  refine D.callP rfl rfl rfl rfl (by simp [isVals, isVal]) rfl rfl (by simpa [nrms, nrm, nrms_encs] using z2) ?_
  refine D.callP rfl rfl rfl rfl rfl rfl rfl (sign_fun _ _) ?_
  generalize cmpN (size (.mk k s o l)) (size (.mk k' s' o' l')) = X1 at hlex ⊢
  (repeat' (first | refine EvOps.nil ?_ | (apply R.move; exact rfl) | (apply R.assign; exact rfl) | (apply R.load1 T6; exact rfl; exact rfl; exact rfl; exact rfl) | (apply R.fieldAddr T6; exact rfl; exact rfl; exact rfl; exact rfl) | (apply R.cmp; exact rfl; exact rfl; exact rfl; all_goals intro hc; all_goals (try (exfalso; omega))) | refine Ev.seq ?_ | refine Ev.region ?_ | refine EvD.nil ?_ | (apply D.assign; exact rfl) | (apply Ev.condB; exact rfl) | refine Ev.skip ?_ | refine Ev.block ?_ | refine thenQ.normal ?_ | fail))
  all_goals try (refine R.call rfl rfl (CallEv.pure rfl rfl (sign_fun k k') ?_); generalize cmpN k k' = X2 at hlex ⊢; (repeat' (first | refine EvOps.nil ?_ | (apply R.move; exact rfl) | (apply R.assign; exact rfl) | (apply R.load1 T6; exact rfl; exact rfl; exact rfl; exact rfl) | (apply R.fieldAddr T6; exact rfl; exact rfl; exact rfl; exact rfl) | (apply R.cmp; exact rfl; exact rfl; exact rfl; all_goals intro hc; all_goals (try (exfalso; omega))) | refine Ev.seq ?_ | refine Ev.region ?_ | (apply Ev.condB; exact rfl) | refine Ev.skip ?_ | refine Ev.block ?_ | refine thenQ.normal ?_ | fail)))
  all_goals try (refine R.call rfl rfl (CallEv.pure rfl rfl (scmp_fun s s') ?_); generalize cmpS s s' = X3 at hlex ⊢; (repeat' (first | refine EvOps.nil ?_ | (apply R.move; exact rfl) | (apply R.assign; exact rfl) | (apply R.load1 T6; exact rfl; exact rfl; exact rfl; exact rfl) | (apply R.fieldAddr T6; exact rfl; exact rfl; exact rfl; exact rfl) | (apply R.cmp; exact rfl; exact rfl; exact rfl; all_goals intro hc; all_goals (try (exfalso; omega))) | refine Ev.seq ?_ | refine Ev.region ?_ | (apply Ev.condB; exact rfl) | refine Ev.skip ?_ | refine Ev.block ?_ | refine thenQ.normal ?_ | fail)))
  all_goals try (refine R.call rfl rfl (CallEv.pure rfl rfl (sign_fun o o') ?_); generalize cmpN o o' = X4 at hlex ⊢; (repeat' (first | refine EvOps.nil ?_ | (apply R.move; exact rfl) | (apply R.assign; exact rfl) | (apply R.load1 T6; exact rfl; exact rfl; exact rfl; exact rfl) | (apply R.fieldAddr T6; exact rfl; exact rfl; exact rfl; exact rfl) | (apply R.cmp; exact rfl; exact rfl; exact rfl; all_goals intro hc; all_goals (try (exfalso; omega))) | (apply R.lenS T6; exact rfl; exact rfl) | refine Ev.seq ?_ | refine Ev.region ?_ | (apply Ev.condB; exact rfl) | refine Ev.skip ?_ | refine Ev.block ?_ | refine thenQ.normal ?_ | fail)))
  all_goals try (refine R.call rfl rfl (CallEv.pure rfl rfl (sign_fun (encs l).length (encs l').length) ?_); generalize cmpN (encs l).length (encs l').length = X5 at hlex hll ⊢; (repeat' (first | refine EvOps.nil ?_ | (apply R.assign; exact rfl) | refine Ev.seq ?_ | refine Ev.region ?_ | refine Ev.block ?_ | refine thenQ.normal ?_ | fail)))
  all_goals (
    refine Ev.loop (I := fun k'' st => ∃ (i : Nat) (c : Int) (ρ' : Nat → PV), st = ⟨al [(2, .ptr 0 0 0 0), (3, .ptr 1 0 0 0), (5, .int .i64 c), (6, .int .i64 i)] ρ', [⟨.m, 0, 4, [.agg [.int .i64 k, .str s, .int .i64 o, .snap false (encs l)]]⟩, ⟨.m, 0, 4, [.agg [.int .i64 k', .str s', .int .i64 o', .snap false (encs l')]]⟩]⟩ ∧ k'' + i = l.length ∧ R0 = lexI c (cmps (l.drop i) (l'.drop i)) ∧ (c = 0 → l.length = l'.length)) l.length ?_ ?_
    · refine ⟨0, _, _, St.keep ⟨rfl, rfl, rfl, rfl, trivial⟩, rfl, ?_, ?_⟩
      · rw [hlex]; unfold lexI; simp only [List.drop_zero]; (repeat' split) <;> first | rfl | omega
      · first | exact hll | (intro h; exfalso; omega)
    · clear hlex hll
      rintro k'' _ ⟨i, c, ρ', rfl, hk, hb2, hll⟩
      (repeat' (first | refine EvOps.nil ?_ | (apply R.gOn; exact rfl; exact rfl; exact rfl) | (apply R.gOff; exact rfl; exact rfl; exact rfl) | (apply R.move; exact rfl) | (apply R.assign; exact rfl) | (apply R.pickT; exact rfl; exact rfl) | (apply R.pickF; exact rfl; exact rfl) | (apply R.load1 T6; exact rfl; exact rfl; exact rfl; exact rfl) | (apply R.fieldAddr T6; exact rfl; exact rfl; exact rfl; exact rfl) | (apply R.cmp; exact rfl; exact rfl; exact rfl; all_goals intro hc; all_goals (try (exfalso; omega))) | (apply R.lenS T6; exact rfl; exact rfl) | refine Ev.seq ?_ | refine Ev.region ?_ | refine Ev.regionD ?_ | (apply D.move; exact rfl) | (apply D.fieldAddr T6; exact rfl; exact rfl; exact rfl; exact rfl) | (apply D.load1 T6; exact (by first | exact rfl | assumption); exact rfl; exact rfl; exact rfl; exact rfl; exact rfl) | (apply Ev.condB; exact rfl) | refine Ev.ret ?_ | refine Ev.skip ?_ | refine Ev.exit ?_ | refine Ev.block ?_ | refine thenQ.normal ?_ | refine thenQ.exit ?_ | refine blockQ.hit ?_ | refine loopQ.exit ?_ | (apply bodyQ.ret; exact rfl) | fail))
      · have hll := hll (by assumption)
        obtain ⟨k1, s1, o1, l1, hmem, hat, hd, hil, _⟩ := encs_at' hc
        obtain ⟨k2, s2, o2, l2, hmem', hat', hd', hil', _⟩ := encs_at' (l := l') (i := i) (by omega)
        have hih := ih _ hmem _ hmem'
        rw [enc_mk, enc_mk] at hih
        refine D.indexS T6 rfl rfl rfl rfl rfl hat rfl rfl ?_
        (repeat' (first | (apply D.move; exact rfl) | (apply D.fieldAddr T6; exact rfl; exact rfl; exact rfl; exact rfl) | (apply D.load1 T6; exact (by first | exact rfl | assumption); exact rfl; exact rfl; exact rfl; exact rfl; exact rfl) | (apply D.loadA T6; exact (by first | exact rfl | assumption); exact rfl; exact rfl; exact rfl; exact rfl; exact rfl; exact (by repeat constructor)) | fail))
        refine D.indexS T6 rfl rfl rfl rfl rfl hat' rfl rfl ?_
        (repeat' (first | (apply D.loadA T6; exact (by first | exact rfl | assumption); exact rfl; exact rfl; exact rfl; exact rfl; exact rfl; exact (by repeat constructor)) | fail))
        refine D.callP rfl rfl rfl rfl (by simp [isVals, isVal]) rfl rfl (by simpa [nrms, nrm, nrms_encs] using hih) ?_
        (repeat' (first | refine EvOps.nil ?_ | (apply R.move; exact rfl) | (apply R.assign; exact rfl) | (apply R.arith; exact rfl; exact rfl; exact rfl; exact (wrapI (by omega) (by omega))) | refine Ev.region ?_ | refine EvD.nil ?_ | (apply D.assign; exact rfl) | refine thenQ.normal ?_ | refine blockQ.normal ?_ | refine loopQ.normal ?_ | fail))
        refine ⟨k'' - 1, by omega, i + 1, _, _, St.keep ⟨rfl, rfl, rfl, rfl, trivial⟩, by omega, ?_, fun _ => hll⟩
        have hc0 : c = 0 := by assumption
        rw [hb2, hc0, hd, hd', cmps_lex]; rfl
      · refine ⟨_, rfl, congrArg (PV.int .i64) ?_⟩
        have hc0 : c = 0 := by assumption
        rw [hb2, hc0, encs_end hc, cmps]; rfl
      · refine ⟨_, rfl, congrArg (PV.int .i64) ?_⟩
        rw [hb2, lexI, if_pos (by assumption)])

theorem tcmp_fun (t t' : Tm) (hb : bulk t < 1000000000) (hb' : bulk t' < 1000000000) : Fun C 40 [enc t, enc t'] (.int .i64 (cmpT t t')) := by
  induction t using Tm.ind generalizing t' with
  | h k s o l ih =>
    obtain ⟨k', s', o', l'⟩ := t'
    refine tcmp_ev k s o l k' s' o' l' hb hb' (fun t ht t' ht' => ih t ht t' ?_ ?_)
    · have := bulk_mem ht; simp only [bulk] at hb; omega
    · have := bulk_mem ht'; simp only [bulk] at hb'; omega

end Go.Pm
end

/-
  CHAPTER 6, PART 8: the reference: arity, add, collect, Of, Same. Conditions: none.
-/
section
set_option linter.unusedVariables false
set_option linter.unusedSimpArgs false
set_option linter.unusedVariables false
set_option linter.unusedSimpArgs false
set_option maxRecDepth 4000
set_option maxHeartbeats 4000000
namespace Go.Pm
open Go.Proofs
attribute [local irreducible] thenQ blockQ loopQ bodyQ Ev EvOps CallEv FnEv EvD

theorem names {k s o l} (h : special (.mk k s o l) = true) : k = 3 ∧
    ((s.toList = (ByteArray.mk #[109, 117, 108]).toList ∧ ¬ s.toList = (ByteArray.mk #[105, 110, 118]).toList ∧ ¬ s.toList = (ByteArray.mk #[111, 110, 101]).toList) ∨
     (¬ s.toList = (ByteArray.mk #[109, 117, 108]).toList ∧ s.toList = (ByteArray.mk #[105, 110, 118]).toList ∧ ¬ s.toList = (ByteArray.mk #[111, 110, 101]).toList) ∨
     (¬ s.toList = (ByteArray.mk #[109, 117, 108]).toList ∧ ¬ s.toList = (ByteArray.mk #[105, 110, 118]).toList ∧ s.toList = (ByteArray.mk #[111, 110, 101]).toList)) := by
  rw [special_eq] at h
  obtain ⟨h1, h2⟩ := of_decide_eq_true h
  refine ⟨h1, ?_⟩
  rw [cMul_l, cInv_l, cOne_l]
  rcases h2 with h2 | h2 | h2 <;> rw [h2] <;> decide

end Go.Pm
end

/-
  CHAPTER 6, PART 9: the reference: add. Conditions: none.
-/
section
set_option linter.unusedVariables false
set_option linter.unusedSimpArgs false
set_option linter.unusedVariables false
set_option linter.unusedSimpArgs false
set_option maxRecDepth 4000
set_option maxHeartbeats 4000000
namespace Go.Pm
open Go.Proofs
attribute [local irreducible] thenQ blockQ loopQ bodyQ Ev EvOps CallEv FnEv EvD

theorem encP_mk (k s o l n) : encP (.mk k s o l, n) = .agg [.int .i64 k, .str s, .int .i64 o, .snap false (encs l), .int .i64 n] := rfl
theorem encPs_len (l : List Pw) : (encPs l).length = l.length := by simp [encPs]
theorem encPs_at {l : List Pw} {i : Nat} (hc : (i : Int) < ((encPs l).length : Int)) : ∃ k s o l' n, (.mk k s o l', n) ∈ l ∧ (encPs l)[i]? = some (.agg [.int .i64 k, .str s, .int .i64 o, .snap false (encs l'), .int .i64 n]) ∧ l.drop i = (.mk k s o l', n) :: l.drop (i + 1) ∧ i < l.length ∧ l[i]? = some (.mk k s o l', n) := by
  have hil : i < l.length := by have := encPs_len l; omega
  rcases hp : l[i] with ⟨⟨k, s, o, l'⟩, n⟩
  refine ⟨k, s, o, l', n, hp ▸ List.getElem_mem hil, ?_, ?_, hil, ?_⟩
  · unfold encPs
    rw [List.getElem?_map, List.getElem?_eq_getElem hil, hp]; rfl
  · rw [List.drop_eq_getElem_cons hil, hp]
  · rw [List.getElem?_eq_getElem hil, hp]
theorem encPs_end {l : List Pw} {i : Nat} (hc : ¬ (i : Int) < ((encPs l).length : Int)) : l.drop i = [] := List.drop_eq_nil_of_le (by have := encPs_len l; omega)
theorem encPs_vals (l : List Pw) : isVals (encPs l) = true := by
  induction l with
  | nil => rfl
  | cons p l ih =>
    obtain ⟨⟨k, s, o, l'⟩, n⟩ := p
    simp only [encPs, List.map_cons, isVals] at *
    rw [ih]; rfl
theorem nrms_encPs (l : List Pw) : nrms (encPs l) = encPs l := by
  induction l with
  | nil => rfl
  | cons p l ih =>
    obtain ⟨⟨k, s, o, l'⟩, n⟩ := p
    simp only [encPs, List.map_cons, nrms] at *
    rw [ih, encP_mk]; simp [nrm, nrms, nrms_encs]
/-- the terms are not too large -/
def Sm (l : List Pw) : Prop := (∀ p ∈ l, bulk p.1 < 1000000000) ∧ l.length < 100000000

set_option maxHeartbeats 8000000 in
theorem radd_fun (l : List Pw) (t : Tm) (n : Int) (hl : Sm l) (ht : bulk t < 1000000000) (hB : Bd 1000000000 l) (hn : -1000000000 ≤ n ∧ n ≤ 1000000000) :
    Fun C 59 [.snap false (encPs l), enc t, .int .i64 n] (.snap false (encPs (addP t n false l))) := by
  obtain ⟨hl1, hl2⟩ := hl
  have hcmp : ∀ p ∈ l, Fun C 74 [enc t, enc p.1] (.int .i64 (cmpT t p.1)) := fun p hp => rcmp_fun t p.1 ht (hl1 p hp)
  obtain ⟨tk, ts, to, tl⟩ := t
  refine Fun.of (FnEv.bodyL Tryz.func59 rfl ?_)
  rw [enc_mk]
  have hel := encPs_len l
  (repeat' (first | refine EvOps.nil ?_ | (apply R.assign; exact rfl) | (apply R.box; exact rfl; exact rfl; exact rfl; exact .nil) | refine Ev.seq ?_ | refine Ev.region ?_ | refine Ev.block ?_ | refine thenQ.normal ?_ | fail))
  refine Ev.loop (I := fun k' st => ∃ (i : Nat) (dn : Bool) (acc : List Pw) (v : PV) (J : AHeap) (ρ' : Nat → PV), st = ⟨al [(0, .snap false (encPs l)), (2, .int .i64 n), (4, .ptr 0 0 0 0), (7, v), (8, .bool dn), (9, .int .i64 i)] ρ', ⟨.m, 0, 4, [.agg [.int .i64 tk, .str ts, .int .i64 to, .snap false (encs tl)]]⟩ :: J⟩ ∧ k' + i = l.length ∧ HV J ∧ acc.length ≤ 2 * i ∧
      OutA 5 [⟨.m, 0, 4, [.agg [.int .i64 tk, .str ts, .int .i64 to, .snap false (encs tl)]]⟩] J v (encPs acc) ∧ addP (.mk tk ts to tl) n false l = acc ++ addP (.mk tk ts to tl) n dn (l.drop i)) l.length ?_ ?_
  · exact ⟨0, false, [], _, [], _, St.keep ⟨rfl, rfl, rfl, rfl, rfl, rfl, trivial⟩, rfl, HV.nil, by simp, OutA.nil _ _ _, rfl⟩
  · rintro k' _ ⟨i, dn, acc, v, J, ρ', rfl, hk, hJ, hacc, hout, hb'⟩
    have hcl : closedH (⟨.m, 0, 4, [.agg [.int .i64 tk, .str ts, .int .i64 to, .snap false (encs tl)]]⟩ :: J) = true := HV.closed (HV.app (h := [⟨.m, 0, 4, [.agg [.int .i64 tk, .str ts, .int .i64 to, .snap false (encs tl)]]⟩]) (HV.one rfl) hJ)
    have hal := encPs_len acc
    (repeat' (first | refine EvOps.nil ?_ | (apply R.move; exact rfl) | (apply R.cmp; exact rfl; exact rfl; exact rfl; all_goals intro hc) | (apply R.not; exact rfl; exact rfl) | (apply R.lenS T6; exact rfl; exact rfl) | refine Ev.seq ?_ | refine Ev.region ?_ | refine Ev.regionD ?_ | (apply D.move; exact rfl) | (apply D.loadA T6; exact (by first | exact rfl | assumption); exact rfl; exact rfl; exact rfl; exact rfl; exact rfl; exact (by repeat constructor)) | (apply Ev.condB; exact rfl) | refine Ev.skip ?_ | refine Ev.exit ?_ | refine Ev.block ?_ | refine thenQ.normal ?_ | refine thenQ.exit ?_ | refine blockQ.hit ?_ | refine loopQ.exit ?_ | fail))
    · obtain ⟨k1, s1, o1, l1, n1, hmem, hat, hd, hil, _⟩ := encPs_at hc
      have hcm := hcmp _ hmem
      have hbd := hB _ hmem
      simp only [enc_mk] at hcm
      refine D.indexS T6 hcl rfl rfl rfl rfl hat rfl rfl ?_
      (repeat' (first | (apply D.fieldAddrS T6; exact rfl; exact rfl; exact rfl; exact rfl; exact rfl) | (apply D.loadA T6; exact (by first | exact rfl | assumption); exact rfl; exact rfl; exact rfl; exact rfl; exact rfl; exact (by repeat constructor)) | fail))
      refine D.callP hcl rfl rfl rfl (by simp [isVals, isVal]) rfl rfl (by simpa [nrms, nrm, nrms_encs] using hcm) ?_
      rw [hd, addP] at hb'
      simp only at hb' hbd
      generalize hcv : cmpT (.mk tk ts to tl) (.mk k1 s1 o1 l1) = cv at hb'
      clear hc hcm hcmp
      have tl0 : ∀ (X : Int) (acc1 : List Pw) (dnx : Bool), acc1.length ≤ 2 * i + 1 → addP (.mk tk ts to tl) n false l = acc1 ++ ((if X ≠ 0 then [(.mk k1 s1 o1 l1, X)] else []) ++ addP (.mk tk ts to tl) n (dnx || decide (cv ≤ 0)) (l.drop (i + 1))) →
        ∀ (acc2 : List Pw) (dny : Bool), acc2 = acc1 ++ (if X ≠ 0 then [(.mk k1 s1 o1 l1, X)] else []) → dny = (dnx || decide (cv ≤ 0)) → acc2.length ≤ 2 * (i + 1) ∧ addP (.mk tk ts to tl) n false l = acc2 ++ addP (.mk tk ts to tl) n dny (l.drop (i + 1)) := by
        rintro X acc1 dnx hle hsp _ _ rfl rfl
        refine ⟨?_, by rw [hsp, List.append_assoc]⟩
        rw [List.length_append]
        have : (if X ≠ 0 then [((.mk k1 s1 o1 l1 : Tm), X)] else []).length ≤ 1 := by by_cases hX : X = 0 <;> simp [hX]
        omega
      cases dn
      · by_cases hlt : cv < 0
        · rw [if_pos ⟨rfl, hlt⟩, ← List.append_assoc, if_neg (show ¬ cv = 0 by omega)] at hb'
          (repeat' (first | refine EvOps.nil ?_ | (apply R.gOn; exact rfl; exact rfl; exact rfl) | (apply R.move; exact rfl) | (apply R.pickT; exact rfl; exact rfl) | (apply R.loadA T6; exact rfl; exact rfl; exact rfl; exact rfl; exact (by repeat constructor)) | (apply R.cmp; exact rfl; exact rfl; exact rfl; all_goals intro hc; all_goals (try (exfalso; omega))) | (apply R.build T6; exact rfl; exact rfl; exact rfl; exact rfl; exact rfl; exact rfl) | (apply R.buildSlice T6; exact rfl; exact rfl; exact rfl; exact rfl; exact (by decide); exact rfl; exact rfl; exact rfl; exact rfl; exact rfl) | (apply R.not; exact rfl; exact rfl) | refine Ev.seq ?_ | refine Ev.region ?_ | refine EvD.nil ?_ | (apply D.assign; exact rfl) | (apply Ev.condB; exact rfl) | refine thenQ.normal ?_ | fail))
          refine R.append T6 (ts := []) (A := [_]) (J := J) (es := encPs acc) rfl rfl rfl rfl rfl rfl rfl (by decide) rfl rfl rfl rfl hout (show (encPs acc).length + 1 < _ by omega) (by rw [isVals_eq, List.all_append, ← isVals_eq, encPs_vals]; rfl) hJ ?_
          intro v1 J1 ho1 hJ1
          have ho1 : OutA 5 [⟨.m, 0, 4, [.agg [.int .i64 tk, .str ts, .int .i64 to, .snap false (encs tl)]]⟩] J1 v1 (encPs (acc ++ [(.mk tk ts to tl, n)])) := by unfold encPs; rw [List.map_append]; exact ho1
          have hle1 : (acc ++ [((.mk tk ts to tl : Tm), n)]).length ≤ 2 * i + 1 := by simp; omega
          generalize acc ++ [((.mk tk ts to tl : Tm), n)] = acc1 at *
          have hal1 := encPs_len acc1
          have fin := tl0 n1 acc1 false hle1 hb'
          (repeat' (first | refine EvOps.nil ?_ | (apply R.move; exact rfl) | (apply R.assign; exact rfl) | refine Ev.seq ?_ | refine Ev.region ?_ | refine thenQ.normal ?_ | fail))
          refine R.indexS T6 rfl rfl rfl rfl hat rfl rfl ?_
          (repeat' (first | refine EvOps.nil ?_ | (apply R.move; exact rfl) | (apply R.assign; exact rfl) | (apply R.loadA T6; exact rfl; exact rfl; exact rfl; exact rfl; exact (by repeat constructor)) | (apply R.fieldAddr T6; exact rfl; exact rfl; exact rfl; exact rfl) | (apply R.cmp; exact rfl; exact rfl; exact rfl; all_goals intro hc; all_goals (try (exfalso; omega))) | (apply R.arith; exact rfl; exact rfl; exact rfl; exact (wrapI (by omega) (by omega))) | (apply R.buildSlice T6; exact rfl; exact rfl; exact rfl; exact rfl; exact (by decide); exact rfl; exact rfl; exact rfl; exact rfl; exact rfl) | (apply R.allocN T6; exact rfl; exact rfl; exact rfl) | (apply R.storeN T6; exact rfl; exact rfl; exact rfl; exact rfl; exact rfl; exact rfl) | (apply R.load1No T6; exact rfl; exact rfl; exact rfl; exact rfl) | (apply R.loadAN T6; exact rfl; exact rfl; exact rfl; exact (by repeat constructor)) | refine Ev.seq ?_ | refine Ev.region ?_ | (apply Ev.condB; exact rfl) | refine Ev.skip ?_ | refine thenQ.normal ?_ | refine blockQ.normal ?_ | refine loopQ.normal ?_ | fail))
          · refine R.append T6 (ts := []) (A := [_]) (J := J1 ++ _) (es := encPs acc1) rfl rfl rfl rfl rfl rfl rfl (by decide) rfl rfl rfl rfl (ho1.app _) (show (encPs acc1).length + 1 < _ by omega) (by rw [isVals_eq, List.all_append, ← isVals_eq, encPs_vals]; rfl) (hJ1.app (HV.one rfl)) ?_
            intro v2 J2 ho2 hJ2
            have ho2 : OutA 5 [⟨.m, 0, 4, [.agg [.int .i64 tk, .str ts, .int .i64 to, .snap false (encs tl)]]⟩] J2 v2 (encPs (acc1 ++ [(.mk k1 s1 o1 l1, n1)])) := by unfold encPs; rw [List.map_append]; exact ho2
            (repeat' (first | refine EvOps.nil ?_ | (apply R.move; exact rfl) | (apply R.assign; exact rfl) | (apply R.arith; exact rfl; exact rfl; exact rfl; exact (wrapI (by omega) (by omega))) | refine Ev.region ?_ | refine thenQ.normal ?_ | refine blockQ.normal ?_ | refine loopQ.normal ?_ | fail))
            obtain ⟨f1, f2⟩ := fin (acc1 ++ [(.mk k1 s1 o1 l1, n1)]) true (by rw [if_pos (by omega)]) (by rw [decide_eq_true (show cv ≤ 0 by omega)]; rfl)
            exact ⟨k' - 1, by omega, i + 1, true, _, v2, J2, _, St.keep ⟨rfl, rfl, rfl, rfl, rfl, rfl, trivial⟩, by omega, hJ2, f1, ho2, f2⟩
          · obtain ⟨f1, f2⟩ := fin acc1 true (by rw [if_neg (by omega)]; simp) (by rw [decide_eq_true (show cv ≤ 0 by omega)]; rfl)
            exact ⟨k' - 1, by omega, i + 1, true, _, v1, J1 ++ _, _, St.keep ⟨rfl, rfl, rfl, rfl, rfl, rfl, trivial⟩, by omega, hJ1.app (HV.one rfl), f1, ho1.app _, f2⟩
        · rw [if_neg (fun h => hlt h.2), List.nil_append] at hb'
          by_cases heq : cv = 0
          · rw [if_pos heq] at hb'
            have fin := tl0 (n1 + n) acc false (by omega) hb'
            (repeat' (first | refine EvOps.nil ?_ | (apply R.gOn; exact rfl; exact rfl; exact rfl) | (apply R.move; exact rfl) | (apply R.pickT; exact rfl; exact rfl) | (apply R.cmp; exact rfl; exact rfl; exact rfl; all_goals intro hc; all_goals (try (exfalso; omega))) | (apply R.not; exact rfl; exact rfl) | refine Ev.seq ?_ | refine Ev.region ?_ | refine EvD.nil ?_ | (apply D.assign; exact rfl) | (apply Ev.condB; exact rfl) | refine Ev.skip ?_ | refine thenQ.normal ?_ | fail))
            refine R.indexS T6 rfl rfl rfl rfl hat rfl rfl ?_
            (repeat' (first | refine EvOps.nil ?_ | (apply R.move; exact rfl) | (apply R.loadA T6; exact rfl; exact rfl; exact rfl; exact rfl; exact (by repeat constructor)) | (apply R.fieldAddr T6; exact rfl; exact rfl; exact rfl; exact rfl) | (apply R.cmp; exact rfl; exact rfl; exact rfl; all_goals intro hc; all_goals (try (exfalso; omega))) | (apply R.arith; exact rfl; exact rfl; exact rfl; exact (wrapI (by omega) (by omega))) | (apply R.allocN T6; exact rfl; exact rfl; exact rfl) | (apply R.storeN T6; exact rfl; exact rfl; exact rfl; exact rfl; exact rfl; exact rfl) | (apply R.load1No T6; exact rfl; exact rfl; exact rfl; exact rfl) | refine Ev.seq ?_ | refine Ev.region ?_ | (apply Ev.condB; exact rfl) | refine thenQ.normal ?_ | fail))
            refine R.storeNo T6 (e' := .agg [.int .i64 k1, .str s1, .int .i64 o1, .snap false (encs l1), .int .i64 (n1 + n)]) rfl rfl rfl rfl rfl rfl rfl ?_
            (repeat' (first | refine EvOps.nil ?_ | (apply R.move; exact rfl) | (apply R.assign; exact rfl) | (apply R.fieldAddr T6; exact rfl; exact rfl; exact rfl; exact rfl) | (apply R.cmp; exact rfl; exact rfl; exact rfl; all_goals intro hc; all_goals (try (exfalso; omega))) | (apply R.arith; exact rfl; exact rfl; exact rfl; exact (wrapI (by omega) (by omega))) | (apply R.buildSlice T6; exact rfl; exact rfl; exact rfl; exact rfl; exact (by decide); exact rfl; exact rfl; exact rfl; exact rfl; exact rfl) | (apply R.load1No T6; exact rfl; exact rfl; exact rfl; exact rfl) | (apply R.loadAN T6; exact rfl; exact rfl; exact rfl; exact (by repeat constructor)) | refine Ev.seq ?_ | refine Ev.region ?_ | (apply Ev.condB; exact rfl) | refine Ev.skip ?_ | refine thenQ.normal ?_ | refine blockQ.normal ?_ | refine loopQ.normal ?_ | fail))
            · refine R.append T6 (ts := []) (A := [_]) (J := J ++ _) (es := encPs acc) rfl rfl rfl rfl rfl rfl rfl (by decide) rfl rfl rfl rfl (hout.app _) (show (encPs acc).length + 1 < _ by omega) (by rw [isVals_eq, List.all_append, ← isVals_eq, encPs_vals]; rfl) (hJ.app (HV.one rfl)) ?_
              intro v2 J2 ho2 hJ2
              have ho2 : OutA 5 [⟨.m, 0, 4, [.agg [.int .i64 tk, .str ts, .int .i64 to, .snap false (encs tl)]]⟩] J2 v2 (encPs (acc ++ [(.mk k1 s1 o1 l1, (n1 + n))])) := by unfold encPs; rw [List.map_append]; exact ho2
              (repeat' (first | refine EvOps.nil ?_ | (apply R.move; exact rfl) | (apply R.assign; exact rfl) | (apply R.arith; exact rfl; exact rfl; exact rfl; exact (wrapI (by omega) (by omega))) | refine Ev.region ?_ | refine thenQ.normal ?_ | refine blockQ.normal ?_ | refine loopQ.normal ?_ | fail))
              obtain ⟨f1, f2⟩ := fin (acc ++ [(.mk k1 s1 o1 l1, (n1 + n))]) true (by rw [if_pos (by omega)]) (by rw [decide_eq_true (show cv ≤ 0 by omega)]; rfl)
              exact ⟨k' - 1, by omega, i + 1, true, _, v2, J2, _, St.keep ⟨rfl, rfl, rfl, rfl, rfl, rfl, trivial⟩, by omega, hJ2, f1, ho2, f2⟩
            · obtain ⟨f1, f2⟩ := fin acc true (by rw [if_neg (by omega)]; simp) (by rw [decide_eq_true (show cv ≤ 0 by omega)]; rfl)
              exact ⟨k' - 1, by omega, i + 1, true, _, v, J ++ _, _, St.keep ⟨rfl, rfl, rfl, rfl, rfl, rfl, trivial⟩, by omega, hJ.app (HV.one rfl), f1, hout.app _, f2⟩
          · rw [if_neg heq] at hb'
            have fin := tl0 n1 acc false (by omega) hb'
            (repeat' (first | refine EvOps.nil ?_ | (apply R.gOn; exact rfl; exact rfl; exact rfl) | (apply R.move; exact rfl) | (apply R.pickT; exact rfl; exact rfl) | (apply R.cmp; exact rfl; exact rfl; exact rfl; all_goals intro hc; all_goals (try (exfalso; omega))) | (apply R.not; exact rfl; exact rfl) | refine Ev.seq ?_ | refine Ev.region ?_ | refine EvD.nil ?_ | (apply D.assign; exact rfl) | (apply Ev.condB; exact rfl) | refine Ev.skip ?_ | refine thenQ.normal ?_ | fail))
            refine R.indexS T6 rfl rfl rfl rfl hat rfl rfl ?_
            (repeat' (first | refine EvOps.nil ?_ | (apply R.move; exact rfl) | (apply R.assign; exact rfl) | (apply R.loadA T6; exact rfl; exact rfl; exact rfl; exact rfl; exact (by repeat constructor)) | (apply R.fieldAddr T6; exact rfl; exact rfl; exact rfl; exact rfl) | (apply R.cmp; exact rfl; exact rfl; exact rfl; all_goals intro hc; all_goals (try (exfalso; omega))) | (apply R.arith; exact rfl; exact rfl; exact rfl; exact (wrapI (by omega) (by omega))) | (apply R.buildSlice T6; exact rfl; exact rfl; exact rfl; exact rfl; exact (by decide); exact rfl; exact rfl; exact rfl; exact rfl; exact rfl) | (apply R.allocN T6; exact rfl; exact rfl; exact rfl) | (apply R.storeN T6; exact rfl; exact rfl; exact rfl; exact rfl; exact rfl; exact rfl) | (apply R.load1No T6; exact rfl; exact rfl; exact rfl; exact rfl) | (apply R.loadAN T6; exact rfl; exact rfl; exact rfl; exact (by repeat constructor)) | refine Ev.seq ?_ | refine Ev.region ?_ | (apply Ev.condB; exact rfl) | refine Ev.skip ?_ | refine thenQ.normal ?_ | refine blockQ.normal ?_ | refine loopQ.normal ?_ | fail))
            · refine R.append T6 (ts := []) (A := [_]) (J := J ++ _) (es := encPs acc) rfl rfl rfl rfl rfl rfl rfl (by decide) rfl rfl rfl rfl (hout.app _) (show (encPs acc).length + 1 < _ by omega) (by rw [isVals_eq, List.all_append, ← isVals_eq, encPs_vals]; rfl) (hJ.app (HV.one rfl)) ?_
              intro v2 J2 ho2 hJ2
              have ho2 : OutA 5 [⟨.m, 0, 4, [.agg [.int .i64 tk, .str ts, .int .i64 to, .snap false (encs tl)]]⟩] J2 v2 (encPs (acc ++ [(.mk k1 s1 o1 l1, n1)])) := by unfold encPs; rw [List.map_append]; exact ho2
              (repeat' (first | refine EvOps.nil ?_ | (apply R.move; exact rfl) | (apply R.assign; exact rfl) | (apply R.arith; exact rfl; exact rfl; exact rfl; exact (wrapI (by omega) (by omega))) | refine Ev.region ?_ | refine thenQ.normal ?_ | refine blockQ.normal ?_ | refine loopQ.normal ?_ | fail))
              obtain ⟨f1, f2⟩ := fin (acc ++ [(.mk k1 s1 o1 l1, n1)]) false (by rw [if_pos (by omega)]) (by rw [decide_eq_false (show ¬ cv ≤ 0 by omega)]; rfl)
              exact ⟨k' - 1, by omega, i + 1, false, _, v2, J2, _, St.keep ⟨rfl, rfl, rfl, rfl, rfl, rfl, trivial⟩, by omega, hJ2, f1, ho2, f2⟩
            · obtain ⟨f1, f2⟩ := fin acc false (by rw [if_neg (by omega)]; simp) (by rw [decide_eq_false (show ¬ cv ≤ 0 by omega)]; rfl)
              exact ⟨k' - 1, by omega, i + 1, false, _, v, J ++ _, _, St.keep ⟨rfl, rfl, rfl, rfl, rfl, rfl, trivial⟩, by omega, hJ.app (HV.one rfl), f1, hout.app _, f2⟩
      · rw [if_neg (fun h => Bool.noConfusion h.1), List.nil_append] at hb'
        by_cases heq : cv = 0
        · rw [if_pos heq] at hb'
          have fin := tl0 (n1 + n) acc true (by omega) hb'
          (repeat' (first | refine EvOps.nil ?_ | (apply R.gOff; exact rfl; exact rfl; exact rfl) | (apply R.move; exact rfl) | (apply R.pickF; exact rfl; exact rfl) | (apply R.not; exact rfl; exact rfl) | refine Ev.seq ?_ | refine Ev.region ?_ | refine EvD.nil ?_ | (apply D.assign; exact rfl) | (apply Ev.condB; exact rfl) | refine Ev.skip ?_ | refine thenQ.normal ?_ | fail))
          refine R.indexS T6 rfl rfl rfl rfl hat rfl rfl ?_
          (repeat' (first | refine EvOps.nil ?_ | (apply R.move; exact rfl) | (apply R.loadA T6; exact rfl; exact rfl; exact rfl; exact rfl; exact (by repeat constructor)) | (apply R.fieldAddr T6; exact rfl; exact rfl; exact rfl; exact rfl) | (apply R.cmp; exact rfl; exact rfl; exact rfl; all_goals intro hc; all_goals (try (exfalso; omega))) | (apply R.arith; exact rfl; exact rfl; exact rfl; exact (wrapI (by omega) (by omega))) | (apply R.allocN T6; exact rfl; exact rfl; exact rfl) | (apply R.storeN T6; exact rfl; exact rfl; exact rfl; exact rfl; exact rfl; exact rfl) | (apply R.load1No T6; exact rfl; exact rfl; exact rfl; exact rfl) | refine Ev.seq ?_ | refine Ev.region ?_ | (apply Ev.condB; exact rfl) | refine thenQ.normal ?_ | fail))
          refine R.storeNo T6 (e' := .agg [.int .i64 k1, .str s1, .int .i64 o1, .snap false (encs l1), .int .i64 (n1 + n)]) rfl rfl rfl rfl rfl rfl rfl ?_
          (repeat' (first | refine EvOps.nil ?_ | (apply R.move; exact rfl) | (apply R.assign; exact rfl) | (apply R.fieldAddr T6; exact rfl; exact rfl; exact rfl; exact rfl) | (apply R.cmp; exact rfl; exact rfl; exact rfl; all_goals intro hc; all_goals (try (exfalso; omega))) | (apply R.arith; exact rfl; exact rfl; exact rfl; exact (wrapI (by omega) (by omega))) | (apply R.buildSlice T6; exact rfl; exact rfl; exact rfl; exact rfl; exact (by decide); exact rfl; exact rfl; exact rfl; exact rfl; exact rfl) | (apply R.load1No T6; exact rfl; exact rfl; exact rfl; exact rfl) | (apply R.loadAN T6; exact rfl; exact rfl; exact rfl; exact (by repeat constructor)) | refine Ev.seq ?_ | refine Ev.region ?_ | (apply Ev.condB; exact rfl) | refine Ev.skip ?_ | refine thenQ.normal ?_ | refine blockQ.normal ?_ | refine loopQ.normal ?_ | fail))
          · refine R.append T6 (ts := []) (A := [_]) (J := J ++ _) (es := encPs acc) rfl rfl rfl rfl rfl rfl rfl (by decide) rfl rfl rfl rfl (hout.app _) (show (encPs acc).length + 1 < _ by omega) (by rw [isVals_eq, List.all_append, ← isVals_eq, encPs_vals]; rfl) (hJ.app (HV.one rfl)) ?_
            intro v2 J2 ho2 hJ2
            have ho2 : OutA 5 [⟨.m, 0, 4, [.agg [.int .i64 tk, .str ts, .int .i64 to, .snap false (encs tl)]]⟩] J2 v2 (encPs (acc ++ [(.mk k1 s1 o1 l1, (n1 + n))])) := by unfold encPs; rw [List.map_append]; exact ho2
            (repeat' (first | refine EvOps.nil ?_ | (apply R.move; exact rfl) | (apply R.assign; exact rfl) | (apply R.arith; exact rfl; exact rfl; exact rfl; exact (wrapI (by omega) (by omega))) | refine Ev.region ?_ | refine thenQ.normal ?_ | refine blockQ.normal ?_ | refine loopQ.normal ?_ | fail))
            obtain ⟨f1, f2⟩ := fin (acc ++ [(.mk k1 s1 o1 l1, (n1 + n))]) true (by rw [if_pos (by omega)]) rfl
            exact ⟨k' - 1, by omega, i + 1, true, _, v2, J2, _, St.keep ⟨rfl, rfl, rfl, rfl, rfl, rfl, trivial⟩, by omega, hJ2, f1, ho2, f2⟩
          · obtain ⟨f1, f2⟩ := fin acc true (by rw [if_neg (by omega)]; simp) rfl
            exact ⟨k' - 1, by omega, i + 1, true, _, v, J ++ _, _, St.keep ⟨rfl, rfl, rfl, rfl, rfl, rfl, trivial⟩, by omega, hJ.app (HV.one rfl), f1, hout.app _, f2⟩
        · rw [if_neg heq] at hb'
          have fin := tl0 n1 acc true (by omega) hb'
          (repeat' (first | refine EvOps.nil ?_ | (apply R.gOff; exact rfl; exact rfl; exact rfl) | (apply R.move; exact rfl) | (apply R.pickF; exact rfl; exact rfl) | (apply R.not; exact rfl; exact rfl) | refine Ev.seq ?_ | refine Ev.region ?_ | refine EvD.nil ?_ | (apply D.assign; exact rfl) | (apply Ev.condB; exact rfl) | refine Ev.skip ?_ | refine thenQ.normal ?_ | fail))
          refine R.indexS T6 rfl rfl rfl rfl hat rfl rfl ?_
          (repeat' (first | refine EvOps.nil ?_ | (apply R.move; exact rfl) | (apply R.assign; exact rfl) | (apply R.loadA T6; exact rfl; exact rfl; exact rfl; exact rfl; exact (by repeat constructor)) | (apply R.fieldAddr T6; exact rfl; exact rfl; exact rfl; exact rfl) | (apply R.cmp; exact rfl; exact rfl; exact rfl; all_goals intro hc; all_goals (try (exfalso; omega))) | (apply R.arith; exact rfl; exact rfl; exact rfl; exact (wrapI (by omega) (by omega))) | (apply R.buildSlice T6; exact rfl; exact rfl; exact rfl; exact rfl; exact (by decide); exact rfl; exact rfl; exact rfl; exact rfl; exact rfl) | (apply R.allocN T6; exact rfl; exact rfl; exact rfl) | (apply R.storeN T6; exact rfl; exact rfl; exact rfl; exact rfl; exact rfl; exact rfl) | (apply R.load1No T6; exact rfl; exact rfl; exact rfl; exact rfl) | (apply R.loadAN T6; exact rfl; exact rfl; exact rfl; exact (by repeat constructor)) | refine Ev.seq ?_ | refine Ev.region ?_ | (apply Ev.condB; exact rfl) | refine Ev.skip ?_ | refine thenQ.normal ?_ | refine blockQ.normal ?_ | refine loopQ.normal ?_ | fail))
          · refine R.append T6 (ts := []) (A := [_]) (J := J ++ _) (es := encPs acc) rfl rfl rfl rfl rfl rfl rfl (by decide) rfl rfl rfl rfl (hout.app _) (show (encPs acc).length + 1 < _ by omega) (by rw [isVals_eq, List.all_append, ← isVals_eq, encPs_vals]; rfl) (hJ.app (HV.one rfl)) ?_
            intro v2 J2 ho2 hJ2
            have ho2 : OutA 5 [⟨.m, 0, 4, [.agg [.int .i64 tk, .str ts, .int .i64 to, .snap false (encs tl)]]⟩] J2 v2 (encPs (acc ++ [(.mk k1 s1 o1 l1, n1)])) := by unfold encPs; rw [List.map_append]; exact ho2
            (repeat' (first | refine EvOps.nil ?_ | (apply R.move; exact rfl) | (apply R.assign; exact rfl) | (apply R.arith; exact rfl; exact rfl; exact rfl; exact (wrapI (by omega) (by omega))) | refine Ev.region ?_ | refine thenQ.normal ?_ | refine blockQ.normal ?_ | refine loopQ.normal ?_ | fail))
            obtain ⟨f1, f2⟩ := fin (acc ++ [(.mk k1 s1 o1 l1, n1)]) true (by rw [if_pos (by omega)]) rfl
            exact ⟨k' - 1, by omega, i + 1, true, _, v2, J2, _, St.keep ⟨rfl, rfl, rfl, rfl, rfl, rfl, trivial⟩, by omega, hJ2, f1, ho2, f2⟩
          · obtain ⟨f1, f2⟩ := fin acc true (by rw [if_neg (by omega)]; simp) rfl
            exact ⟨k' - 1, by omega, i + 1, true, _, v, J ++ _, _, St.keep ⟨rfl, rfl, rfl, rfl, rfl, rfl, trivial⟩, by omega, hJ.app (HV.one rfl), f1, hout.app _, f2⟩
    · rw [encPs_end hc] at hb'
      cases dn
      · (repeat' (first | (apply R.move; exact rfl) | (apply R.loadA T6; exact rfl; exact rfl; exact rfl; exact rfl; exact (by repeat constructor)) | (apply R.build T6; exact rfl; exact rfl; exact rfl; exact rfl; exact rfl; exact rfl) | (apply R.buildSlice T6; exact rfl; exact rfl; exact rfl; exact rfl; exact (by decide); exact rfl; exact rfl; exact rfl; exact rfl; exact rfl) | refine Ev.region ?_ | fail))
        refine R.append T6 (ts := []) (A := [_]) (J := J) (es := encPs acc) rfl rfl rfl rfl rfl rfl rfl (by decide) rfl rfl rfl rfl hout (show (encPs acc).length + 1 < _ by omega) (by rw [isVals_eq, List.all_append, ← isVals_eq, encPs_vals]; rfl) hJ ?_
        intro v1 J1 ho1 hJ1
        have ho1 : OutA 5 [⟨.m, 0, 4, [.agg [.int .i64 tk, .str ts, .int .i64 to, .snap false (encs tl)]]⟩] J1 v1 (encPs (acc ++ [(.mk tk ts to tl, n)])) := by unfold encPs; rw [List.map_append]; exact ho1
        (repeat' (first | refine EvOps.nil ?_ | (apply R.move; exact rfl) | (apply R.assign; exact rfl) | refine Ev.seq ?_ | refine Ev.region ?_ | refine Ev.ret ?_ | refine thenQ.normal ?_ | (apply bodyQ.ret; exact rfl) | fail))
        obtain ⟨r1, e1, e2⟩ := ho1.rb (encPs_vals _)
        refine ⟨r1, e1, ?_⟩
        rw [e2, nrms_encPs, hb']; rfl
      · (repeat' (first | refine EvOps.nil ?_ | (apply R.move; exact rfl) | (apply R.assign; exact rfl) | refine Ev.seq ?_ | refine Ev.region ?_ | refine Ev.ret ?_ | refine Ev.skip ?_ | refine thenQ.normal ?_ | (apply bodyQ.ret; exact rfl) | fail))
        obtain ⟨r1, e1, e2⟩ := hout.rb (encPs_vals _)
        refine ⟨r1, e1, ?_⟩
        rw [e2, nrms_encPs, hb', addP]; simp

end Go.Pm
end

/-
  CHAPTER 6, PART 15: the binary search in a product. Conditions: none.
-/
section
set_option linter.unusedVariables false
set_option linter.unusedSimpArgs false
set_option linter.unusedVariables false
set_option linter.unusedSimpArgs false
set_option maxRecDepth 4000
set_option maxHeartbeats 4000000
namespace Go.Pm
open Go.Proofs
attribute [local irreducible] thenQ blockQ loopQ bodyQ Ev EvOps CallEv FnEv EvD

/-- how many factors lie before a term -/
def lbP (t : Tm) : List Pw → Nat
  | [] => 0
  | p :: l => if cmpT p.1 t < 0 then lbP t l + 1 else 0
theorem lbP_le (t : Tm) : ∀ l : List Pw, lbP t l ≤ l.length
  | [] => by simp [lbP]
  | p :: l => by
    have := lbP_le t l
    rw [lbP]
    split <;> simp <;> omega
theorem lbP_iff (t : Tm) : ∀ (l : List Pw), Srt l → ∀ (m : Nat) (p : Pw), l[m]? = some p → (cmpT p.1 t < 0 ↔ m < lbP t l)
  | [], _, m, p, h => by simp at h
  | q :: l, s, m, p, h => by
    obtain ⟨s1, s2⟩ := List.pairwise_cons.1 s
    rw [lbP]
    cases m with
    | zero =>
      simp at h
      subst h
      split
      · simp; assumption
      · simp; omega
    | succ m =>
      have h' : l[m]? = some p := by simpa using h
      have ih := lbP_iff t l s2 m p h'
      have hm := s1 p (List.mem_of_getElem? h')
      split
      · rw [ih]; omega
      · rename_i hq
        constructor
        · intro hp
          exact absurd (cmpT_trans hm hp) hq
        · intro hh; omega
/-- is a term a factor -/
def fdP (t : Tm) (l : List Pw) : Bool := match l[lbP t l]? with | some p => decide (cmpT p.1 t = 0) | none => false
theorem insP_no (t : Tm) (n : Int) : ∀ l : List Pw, fdP t l = false → insP t n l = l.take (lbP t l) ++ [(t, n)] ++ l.drop (lbP t l)
  | [], _ => by simp [insP, lbP]
  | p :: l, h => by
    rw [insP, lbP]
    by_cases hc : cmpT p.1 t < 0
    · have h' : fdP t l = false := by
        unfold fdP at h ⊢
        rw [lbP, if_pos hc] at h
        simpa using h
      rw [if_pos hc, if_pos hc, insP_no t n l h']
      simp
    · have h0 : ¬ cmpT p.1 t = 0 := by
        unfold fdP at h
        rw [lbP, if_neg hc] at h
        simpa using h
      rw [if_neg hc, if_neg hc, if_neg h0]
      simp
theorem insP_yes (t : Tm) (n : Int) : ∀ (l : List Pw) (p : Pw), l[lbP t l]? = some p → cmpT p.1 t = 0 →
    insP t n l = if p.2 + n = 0 then l.take (lbP t l) ++ l.drop (lbP t l + 1) else l.set (lbP t l) (p.1, p.2 + n)
  | [], p, h, _ => by simp at h
  | q :: l, p, h, h0 => by
    rw [insP, lbP]
    by_cases hc : cmpT q.1 t < 0
    · have h' : l[lbP t l]? = some p := by
        rw [lbP, if_pos hc] at h
        simpa using h
      rw [if_pos hc, if_pos hc, insP_yes t n l p h' h0]
      split <;> simp
    · have h' : q = p := by
        rw [lbP, if_neg hc] at h
        simpa using h
      subst h'
      rw [if_neg hc, if_neg hc, if_pos h0]
      split <;> simp

theorem R.convI {C : Cfg} (T : Tab C.P) {ops : Array Oper} {d : Nat} {ty : TypeId} {pos : String} {af : Array Edge} {r : List Oper} {ρ : Nat → PV} {L : List (Nat × PV)} {h : AHeap} {Q : St → Prop} {s t : TypeId} {x : Operand} {k k' : IntKind} {ks : Kd} {n n' : Int}
    (hx : evL L x = some (.int k n)) (hs : T.kd s = some ks) (ht : T.kd t = some (.int k')) (hw : k'.wrap n = n') (kk : EvOps C ops r ⟨al ((d, .int k' n') :: L) ρ, h⟩ Q) : EvOps C ops (⟨some d, .convert s t x, ty, pos, af, none⟩ :: r) ⟨al L ρ, h⟩ Q := by
  obtain ⟨u, hu, _⟩ := kd_inv (T.hkd _ _ hs)
  exact EvOps.valL (fun run => by simp [opVal, stepOp, evL_ev hx, convP, hu, kd_int (T.hkd _ _ ht), hw]) kk
theorem R.shr1 {C : Cfg} {ops : Array Oper} {d : Nat} {ty : TypeId} {pos : String} {af : Array Edge} {r : List Oper} {ρ : Nat → PV} {L : List (Nat × PV)} {h : AHeap} {Q : St → Prop} {t yt : TypeId} {x y : Operand} {k k' : IntKind} {n n' : Int}
    (hx : evL L x = some (.int k n)) (hy : evL L y = some (.int k' 1)) (hb : Nat.ble 1 k.bits = true) (hn : n / 2 = n') (kk : EvOps C ops r ⟨al ((d, .int k n') :: L) ρ, h⟩ Q) : EvOps C ops (⟨some d, .binOp .shr t x y yt, ty, pos, af, none⟩ :: r) ⟨al L ρ, h⟩ Q := by
  refine EvOps.valL (fun run => ?_) kk
  have hb' := Nat.le_of_ble_eq_true hb
  have e1 : min (1 : Int).toNat k.bits = 1 := by simp; omega
  simp only [opVal, stepOp, evL_ev hx, evL_ev hy, binP, shiftOp]
  rw [if_neg (by decide)]
  simp only [e1]
  rw [← hn, Int.fdiv_eq_ediv_of_nonneg _ (by decide)]
  rfl
theorem wrapU {n : Int} (h1 : 0 ≤ n) (h2 : n ≤ 9223372036854775807) : IntKind.u64.wrap n = n := by
  have : IntKind.u64.wrap n = n % 18446744073709551616 := by simp [IntKind.wrap, IntKind.bits, IntKind.signed]
  rw [this]; omega

theorem ins1_fun (p : Pw) (t : Tm) (hp : bulk p.1 < 1000000000) (ht : bulk t < 1000000000) : Fun C 90 [encP p, enc t] (.int .i64 (cmpT p.1 t)) := by
  have h1 := tcmp_fun p.1 t hp ht
  obtain ⟨⟨k, s, o, l⟩, n⟩ := p
  obtain ⟨k', s', o', l'⟩ := t
  refine Fun.of (FnEv.bodyL Tryz.func90 rfl ?_)
  simp only [encP_mk, enc_mk] at h1 ⊢
  (repeat' (first | refine EvOps.nil ?_ | (apply R.assign; exact rfl) | (apply R.loadA T6; exact rfl; exact rfl; exact rfl; exact rfl; exact (by repeat constructor)) | (apply R.fieldAddr T6; exact rfl; exact rfl; exact rfl; exact rfl) | (apply R.box; exact rfl; exact rfl; exact rfl; exact .nil) | (apply R.box; exact rfl; exact rfl; exact rfl; exact (.cons .nil)) | refine Ev.seq ?_ | refine Ev.region ?_ | refine thenQ.normal ?_ | fail))
  refine R.call rfl rfl (CallEv.pure rfl (by simp [isVals, isVal]) (by simpa [nrms, nrm, nrms_encs] using h1) ?_)
  (repeat' (first | refine EvOps.nil ?_ | (apply R.assign; exact rfl) | refine Ev.ret ?_ | refine thenQ.normal ?_ | (apply bodyQ.ret; exact rfl) | fail))
  exact ⟨_, rfl, rfl⟩

theorem bin_fun (l : List Pw) (t : Tm) (hs : Srt l) (hl : Sm l) (ht : bulk t < 1000000000) :
    Fun C 42 [.snap false (encPs l), enc t, .fn 90 []] (.tup [.int .i64 (lbP t l), .bool (fdP t l)]) := by
  obtain ⟨hl1, hl2⟩ := hl
  have hcf : ∀ p ∈ l, Fun C 90 [encP p, enc t] (.int .i64 (cmpT p.1 t)) := fun p hp => ins1_fun p t (hl1 p hp) ht
  have hle := lbP_le t l
  have hif := lbP_iff t l hs
  have hfd : fdP t l = match l[lbP t l]? with | some p => decide (cmpT p.1 t = 0) | none => false := rfl
  obtain ⟨tk, ts, to, tl⟩ := t
  rw [enc_mk]
  simp only [enc_mk] at hcf
  generalize fdP (.mk tk ts to tl) l = FD at hfd ⊢
  generalize lbP (.mk tk ts to tl) l = LB at hle hif hfd ⊢
  refine Fun.of (FnEv.bodyL Tryz.func42 rfl ?_)
  have hel := encPs_len l
  (repeat' (first | refine EvOps.nil ?_ | (apply R.move; exact rfl) | (apply R.assign; exact rfl) | (apply R.lenS T6; exact rfl; exact rfl) | (apply R.box; exact rfl; exact rfl; exact rfl; exact .nil) | refine Ev.seq ?_ | refine Ev.region ?_ | refine Ev.block ?_ | refine thenQ.normal ?_ | fail))
  refine Ev.loop (I := fun k' st => ∃ (i j : Nat) (ρ' : Nat → PV), st = ⟨al [(0, .snap false (encPs l)), (2, .fn 90 []), (4, .ptr 0 0 0 0), (8, .int .i64 (encPs l).length), (9, .int .i64 i), (10, .int .i64 j)] ρ', [⟨.m, 0, 4, [.agg [.int .i64 tk, .str ts, .int .i64 to, .snap false (encs tl)]]⟩]⟩ ∧ k' = j - i ∧ i ≤ LB ∧ LB ≤ j ∧ j ≤ l.length) l.length ?_ ?_
  · exact ⟨0, (encPs l).length, _, St.keep ⟨rfl, rfl, rfl, rfl, rfl, rfl, trivial⟩, by omega, by omega, by omega, by omega⟩
  · rintro k' _ ⟨i, j, ρ', rfl, hk, i1, i2, i3⟩
    (repeat' (first | refine EvOps.nil ?_ | (apply R.move; exact rfl) | (apply R.cmp; exact rfl; exact rfl; exact rfl; all_goals intro hc) | (apply R.arith; exact rfl; exact rfl; exact rfl; exact (wrapI (by omega) (by omega))) | refine Ev.seq ?_ | refine Ev.region ?_ | refine Ev.regionD ?_ | refine EvD.nil ?_ | (apply D.move; exact rfl) | (apply D.assign; exact rfl) | (apply D.gOn; exact rfl; exact rfl; exact rfl; exact rfl) | (apply D.gOff; exact rfl; exact rfl; exact rfl) | (apply D.pickF; exact rfl; exact rfl) | (apply D.cmp; exact rfl; exact rfl; exact rfl; all_goals intro hc) | (apply Ev.condB; exact rfl) | refine Ev.ret ?_ | refine Ev.skip ?_ | refine Ev.exit ?_ | refine Ev.block ?_ | refine thenQ.normal ?_ | refine thenQ.exit ?_ | refine blockQ.hit ?_ | refine loopQ.exit ?_ | (apply bodyQ.ret; exact rfl) | fail))
    · refine R.convI T6 rfl rfl rfl (wrapU (by omega) (by omega)) ?_
      refine R.shr1 rfl rfl rfl rfl ?_
      refine R.convI T6 rfl rfl rfl (wrapI (by omega) (by omega)) ?_
      obtain ⟨m, hm⟩ : ∃ m : Nat, ((i : Int) + j) / 2 = m := ⟨(i + j) / 2, by omega⟩
      rw [hm]
      (repeat' (first | refine EvOps.nil ?_ | (apply R.assign; exact rfl) | refine Ev.seq ?_ | refine Ev.regionD ?_ | (apply D.move; exact rfl) | refine thenQ.normal ?_ | fail))
      obtain ⟨k1, s1, o1, l1, n1, hmem, hat, hd, hil, hget⟩ := encPs_at (l := l) (i := m) (by omega)
      have hcm := hcf _ hmem
      have hiff := hif m _ hget
      simp only [encP_mk] at hcm hiff
      refine D.indexS T6 rfl rfl rfl rfl rfl hat rfl rfl ?_
      (repeat' (first | (apply D.loadA T6; exact (by first | exact rfl | assumption); exact rfl; exact rfl; exact rfl; exact rfl; exact rfl; exact (by repeat constructor)) | fail))
      refine D.callP rfl rfl rfl rfl rfl rfl rfl (by simpa [nrms, nrm, nrms_encs] using hcm) ?_
      (repeat' (first | refine EvOps.nil ?_ | (apply R.move; exact rfl) | (apply R.assign; exact rfl) | (apply R.arith; exact rfl; exact rfl; exact rfl; exact (wrapI (by omega) (by omega))) | refine Ev.region ?_ | refine EvD.nil ?_ | (apply D.cmp; exact rfl; exact rfl; exact rfl; all_goals intro hc) | (apply Ev.condB; exact rfl) | refine thenQ.normal ?_ | refine blockQ.normal ?_ | refine loopQ.normal ?_ | fail))
      · exact ⟨j - (m + 1), by omega, m + 1, j, _, St.keep ⟨rfl, rfl, rfl, rfl, rfl, rfl, trivial⟩, rfl, by omega, by omega, by omega⟩
      · exact ⟨m - i, by omega, i, m, _, St.keep ⟨rfl, rfl, rfl, rfl, rfl, rfl, trivial⟩, rfl, by omega, by omega, by omega⟩
    · have hi : i = LB := by omega
      subst hi
      · obtain ⟨k1, s1, o1, l1, n1, hmem, hat, hd, hil, hget⟩ := encPs_at (l := l) (i := i) (by omega)
        have hcm := hcf _ hmem
        rw [hget] at hfd
        simp only [encP_mk] at hcm
        refine D.indexS T6 rfl rfl rfl rfl rfl hat rfl rfl ?_
        (repeat' (first | (apply D.gOn; exact rfl; exact rfl; exact rfl; exact rfl) | (apply D.loadA T6; exact (by first | exact rfl | assumption); exact rfl; exact rfl; exact rfl; exact rfl; exact rfl; exact (by repeat constructor)) | fail))
        refine D.callP rfl rfl rfl rfl rfl rfl rfl (by simpa [nrms, nrm, nrms_encs] using hcm) ?_
        (repeat' (first | refine EvD.nil ?_ | (apply D.assign; exact rfl) | (apply D.gOn; exact rfl; exact rfl; exact rfl; exact rfl) | (apply D.pickT; exact rfl; exact rfl) | (apply D.cmp; exact rfl; exact rfl; exact rfl; all_goals intro hc) | refine Ev.ret ?_ | refine thenQ.normal ?_ | (apply bodyQ.ret; exact rfl) | fail))
        · refine ⟨_, rfl, ?_⟩
          rw [hfd]
          simp only [tupOf, nrm, nrms]
          rw [decide_eq_true (by assumption)]
        · refine ⟨_, rfl, ?_⟩
          rw [hfd]
          simp only [tupOf, nrm, nrms]
          rw [decide_eq_false (by assumption)]
    · have hi : i = LB := by omega
      subst hi
      refine ⟨_, rfl, ?_⟩
      rw [hfd, List.getElem?_eq_none (by omega)]
      rfl

end Go.Pm
end

/-
  CHAPTER 6, PART 14: clone. Conditions: none.
-/
section
set_option linter.unusedVariables false
set_option linter.unusedSimpArgs false
set_option linter.unusedVariables false
set_option linter.unusedSimpArgs false
set_option maxRecDepth 4000
set_option maxHeartbeats 4000000
namespace Go.Pm
open Go.Proofs
attribute [local irreducible] thenQ blockQ loopQ bodyQ Ev EvOps CallEv FnEv EvD

theorem encs_ok (l : List Tm) : ((encs l).all fun v => decide ((cells v).length = 4) && (cells v).all oneC) = true := by
  rw [List.all_eq_true]
  intro v hv
  rw [encs_eq] at hv
  obtain ⟨⟨k, s, o, l'⟩, _, rfl⟩ := List.mem_map.1 hv
  rw [enc_mk]; rfl

theorem clone_ev (k s o l) (hb : bulk (.mk k s o l) < 1000000000) (ih : ∀ t ∈ l, Fun C 71 [enc t] (enc t)) : Fun C 71 [enc (.mk k s o l)] (enc (.mk k s o l)) := by
  refine Fun.of (FnEv.bodyL Tryz.func71 rfl ?_)
  rw [enc_mk]
  have hel := encs_len l
  have hlen := len_bulks l
  simp only [bulk] at hb
  (repeat' (first | refine EvOps.nil ?_ | (apply R.load1 T6; exact rfl; exact rfl; exact rfl; exact rfl) | (apply R.fieldAddr T6; exact rfl; exact rfl; exact rfl; exact rfl) | (apply R.box; exact rfl; exact rfl; exact rfl; exact .nil) | (apply R.alloc T6; exact rfl; exact rfl; exact rfl; exact (.cons .nil)) | refine Ev.seq ?_ | refine Ev.region ?_ | refine thenQ.normal ?_ | fail))
  refine EvOps.heap (h' := [⟨.m, 0, 4, [.agg [.int .i64 k, .str s, .int .i64 o, .snap false (encs l)]]⟩, ⟨.m, 0, 4, [.agg [.int .i64 0, .str ByteArray.empty, .int .i64 0, .snap true []]]⟩]) rfl ?_
  rcases hl : l with _ | ⟨t0, l0⟩
  · refine R.call rfl rfl (CallEv.primL (rv := .snap true []) (h' := [⟨.m, 0, 4, [.agg [.int .i64 k, .str s, .int .i64 o, .snap false (encs [])]]⟩, ⟨.m, 0, 4, [.agg [.int .i64 0, .str ByteArray.empty, .int .i64 0, .snap true []]]⟩]) rfl rfl ?_)
    (repeat' (first | (apply R.fieldAddr T6; exact rfl; exact rfl; exact rfl; exact rfl) | fail))
    refine R.storeH T6 (n := 0) (o := ⟨.m, 0, 4, [.agg [.int .i64 k, .str s, .int .i64 o, .snap false (encs [])]]⟩) (i := 0) (e := .agg [.int .i64 k, .str s, .int .i64 o, .snap false (encs [])]) rfl rfl rfl rfl rfl rfl rfl rfl (Nat.le_refl 4) ?_
    refine EvOps.heap (h' := [⟨.m, 0, 4, [.agg [.int .i64 k, .str s, .int .i64 o, .snap true []]]⟩, ⟨.m, 0, 4, [.agg [.int .i64 0, .str ByteArray.empty, .int .i64 0, .snap true []]]⟩]) rfl ?_
    (repeat' (first | refine EvOps.nil ?_ | (apply R.move; exact rfl) | (apply R.load1 T6; exact rfl; exact rfl; exact rfl; exact rfl) | (apply R.fieldAddr T6; exact rfl; exact rfl; exact rfl; exact rfl) | (apply R.lenS T6; exact rfl; exact rfl) | refine Ev.seq ?_ | refine Ev.region ?_ | refine Ev.block ?_ | refine thenQ.normal ?_ | fail))
    refine Ev.loop (I := fun k' st => ∃ ρ', st = ⟨al [(1, .ptr 0 0 0 0), (2, .ptr 1 0 0 0), (11, .int .i64 0), (12, .int .i64 0)] ρ', [⟨.m, 0, 4, [.agg [.int .i64 k, .str s, .int .i64 o, .snap true []]]⟩, ⟨.m, 0, 4, [.agg [.int .i64 0, .str ByteArray.empty, .int .i64 0, .snap true []]]⟩]⟩) 0 ⟨_, St.keep ⟨rfl, rfl, rfl, rfl, trivial⟩⟩ ?_
    rintro _ _ ⟨ρ', rfl⟩
    (repeat' (first | refine EvOps.nil ?_ | (apply R.loadA T6; exact rfl; exact rfl; exact rfl; exact rfl; exact (by repeat constructor)) | (apply R.cmp; exact rfl; exact rfl; exact rfl; all_goals intro hc; all_goals (try (exfalso; omega))) | refine Ev.seq ?_ | refine Ev.region ?_ | (apply Ev.condB; exact rfl) | refine Ev.exit ?_ | refine thenQ.normal ?_ | refine thenQ.exit ?_ | refine blockQ.hit ?_ | refine loopQ.exit ?_ | fail))
    refine R.storeH T6 (n := 0) (o := ⟨.m, 0, 4, [.agg [.int .i64 0, .str ByteArray.empty, .int .i64 0, .snap true []]]⟩) (i := 0) (e := .agg [.int .i64 0, .str ByteArray.empty, .int .i64 0, .snap true []]) rfl rfl rfl rfl rfl rfl rfl rfl (Nat.le_refl 4) ?_
    (repeat' (first | refine EvOps.nil ?_ | refine Ev.ret ?_ | refine thenQ.normal ?_ | (apply bodyQ.retC T6; exact rfl) | fail))
    exact ⟨_, rfl, rfl⟩
  · rw [← hl]
    refine R.call rfl rfl (CallEv.primL (rv := .mref 2 0 0 (encs l).length) (h' := [⟨.m, 0, 4, [.agg [.int .i64 k, .str s, .int .i64 o, .snap false (encs l)]]⟩, ⟨.m, 0, 4, [.agg [.int .i64 0, .str ByteArray.empty, .int .i64 0, .snap true []]]⟩, ⟨.m, 0, 4, encs l⟩]) rfl ?_ ?_)
    · show clonePrim 4 [.snap false (encs l)] _ = _
      have hne : (encs l).isEmpty = false := by rw [hl]; rfl
      simp only [clonePrim, hne, Bool.false_eq_true, if_false, newObj]
      rw [if_pos ⟨encs_ok l, by omega⟩]
      rfl
    rw [hel]
    (repeat' (first | (apply R.fieldAddr T6; exact rfl; exact rfl; exact rfl; exact rfl) | fail))
    refine R.storeH T6 (n := 0) (o := ⟨.m, 0, 4, [.agg [.int .i64 k, .str s, .int .i64 o, .snap false (encs l)]]⟩) (i := 0) (e := .agg [.int .i64 k, .str s, .int .i64 o, .snap false (encs l)]) rfl rfl rfl rfl rfl rfl rfl rfl (Nat.le_refl 4) ?_
    refine EvOps.heap (h' := [⟨.m, 0, 4, [.agg [.int .i64 k, .str s, .int .i64 o, .mref 2 0 0 l.length]]⟩, ⟨.m, 0, 4, [.agg [.int .i64 0, .str ByteArray.empty, .int .i64 0, .snap true []]]⟩, ⟨.m, 0, 4, encs l⟩]) rfl ?_
    (repeat' (first | refine EvOps.nil ?_ | (apply R.load1 T6; exact rfl; exact rfl; exact rfl; exact rfl) | (apply R.fieldAddr T6; exact rfl; exact rfl; exact rfl; exact rfl) | refine Ev.seq ?_ | refine Ev.region ?_ | refine thenQ.normal ?_ | fail))
    refine R.lenM T6 (o := ⟨.m, 0, 4, encs l⟩) rfl rfl rfl (by show 0 + l.length ≤ (encs l).length; omega) ?_
    (repeat' (first | refine EvOps.nil ?_ | (apply R.move; exact rfl) | refine Ev.block ?_ | refine thenQ.normal ?_ | fail))
    refine Ev.loop (I := fun k' st => ∃ (i : Nat) (J : AHeap) (ρ' : Nat → PV), st = ⟨al [(1, .ptr 0 0 0 0), (2, .ptr 1 0 0 0), (10, .mref 2 0 0 l.length), (11, .int .i64 l.length), (12, .int .i64 i)] ρ', ⟨.m, 0, 4, [.agg [.int .i64 k, .str s, .int .i64 o, .mref 2 0 0 l.length]]⟩ :: ⟨.m, 0, 4, [.agg [.int .i64 0, .str ByteArray.empty, .int .i64 0, .snap true []]]⟩ :: ⟨.m, 0, 4, encs l⟩ :: J⟩ ∧ k' + i = l.length ∧ HV J) l.length ?_ ?_
    · exact ⟨0, [], _, St.keep ⟨rfl, rfl, rfl, rfl, rfl, trivial⟩, rfl, HV.nil⟩
    · rintro k' _ ⟨i, J, ρ', rfl, hk, hJ⟩
      (repeat' (first | refine EvOps.nil ?_ | (apply R.move; exact rfl) | (apply R.loadA T6; exact rfl; exact rfl; exact rfl; exact rfl; exact (by repeat constructor)) | (apply R.cmp; exact rfl; exact rfl; exact rfl; all_goals intro hc) | refine Ev.seq ?_ | refine Ev.region ?_ | (apply Ev.condB; exact rfl) | refine Ev.skip ?_ | refine Ev.exit ?_ | refine Ev.block ?_ | refine thenQ.normal ?_ | refine thenQ.exit ?_ | refine blockQ.hit ?_ | refine loopQ.exit ?_ | fail))
      · obtain ⟨k1, s1, o1, l1, hmem, hat, hd, hil, _⟩ := encs_at' (l := l) (i := i) (by omega)
        have hih := ih _ hmem
        rw [enc_mk] at hih
        refine R.indexM T6 (o := ⟨.m, 0, 4, encs l⟩) rfl rfl rfl rfl rfl (by omega) (by show 0 + l.length ≤ (encs l).length; omega) ?_
        have hat0 : (encs l)[0 + i]? = some (.agg [.int .i64 k1, .str s1, .int .i64 o1, .snap false (encs l1)]) := by rw [Nat.zero_add]; exact hat
        refine R.loadA T6 (cs := [.int .i64 k1, .str s1, .int .i64 o1, .snap false (encs l1)]) rfl rfl rfl ?_ (by repeat constructor) ?_
        · simp [pcells, getM, hat, cells]
        have hJ2 := hJ.app (HV.one (ep := 0) (n := 4) (es := [.agg [.int .i64 k1, .str s1, .int .i64 o1, .snap false (encs l1)]]) rfl)
        have hcl : closedH ([⟨.m, 0, 4, [.agg [.int .i64 k, .str s, .int .i64 o, .mref 2 0 0 l.length]]⟩, ⟨.m, 0, 4, [.agg [.int .i64 0, .str ByteArray.empty, .int .i64 0, .snap true []]]⟩, ⟨.m, 0, 4, encs l⟩] ++ (J ++ [⟨.m, 0, 4, [.agg [.int .i64 k1, .str s1, .int .i64 o1, .snap false (encs l1)]]⟩])) = true := closed_app (by simp [visRs, visR, visible, vis_vals _ _ (isVals_encs l)]) hJ2
        (repeat' (first | refine EvOps.nil ?_ | (apply R.assign; exact rfl) | (apply R.allocN T6; exact rfl; exact rfl; exact rfl) | (apply R.storeN T6; exact rfl; exact rfl; exact rfl; exact rfl; exact rfl; exact rfl) | refine Ev.regionD ?_ | (apply D.move; exact rfl) | (apply D.fieldAddr T6; exact rfl; exact rfl; exact rfl; exact rfl) | (apply D.load1 T6; exact (by first | exact rfl | assumption); exact rfl; exact rfl; exact rfl; exact rfl; exact rfl) | refine thenQ.normal ?_ | (apply D.loadAN T6; exact (by first | exact rfl | assumption); exact rfl; exact rfl; exact rfl; exact (by repeat constructor)) | fail))
        refine D.callP (by assumption) rfl rfl rfl rfl rfl rfl (by simpa [nrms, nrm, nrms_encs] using hih) ?_
        refine D.indexM T6 (o := ⟨.m, 0, 4, encs l⟩) (by assumption) rfl rfl rfl rfl rfl (by omega) (by show 0 + l.length ≤ (encs l).length; omega) ?_
        refine D.storeH T6 (o := ⟨.m, 0, 4, encs l⟩) (j := 0 + i) rfl rfl rfl rfl rfl rfl hat0 rfl rfl (Nat.le_refl 4) ?_
        have hset : ((⟨.m, 0, 4, [.agg [.int .i64 k, .str s, .int .i64 o, .mref 2 0 0 l.length]]⟩ :: ⟨.m, 0, 4, [.agg [.int .i64 0, .str ByteArray.empty, .int .i64 0, .snap true []]]⟩ :: ⟨.m, 0, 4, encs l⟩ :: J) ++ [⟨.m, 0, 4, [.agg [.int .i64 k1, .str s1, .int .i64 o1, .snap false (encs l1)]]⟩] : AHeap).set 2 { (⟨.m, 0, 4, encs l⟩ : AObj) with es := (⟨.m, 0, 4, encs l⟩ : AObj).es.set (0 + i) (recell 0 4 (.agg [.int .i64 k1, .str s1, .int .i64 o1, .snap false (encs l1)]) (.agg [.int .i64 k1, .str s1, .int .i64 o1, .snap false (encs l1)])) } = ⟨.m, 0, 4, [.agg [.int .i64 k, .str s, .int .i64 o, .mref 2 0 0 l.length]]⟩ :: ⟨.m, 0, 4, [.agg [.int .i64 0, .str ByteArray.empty, .int .i64 0, .snap true []]]⟩ :: ⟨.m, 0, 4, encs l⟩ :: (J ++ [⟨.m, 0, 4, [.agg [.int .i64 k1, .str s1, .int .i64 o1, .snap false (encs l1)]]⟩]) := by
          have : (encs l).set (0 + i) (.agg [.int .i64 k1, .str s1, .int .i64 o1, .snap false (encs l1)]) = encs l := by
            have hlt := lt_of_some hat0
            rw [List.getElem?_eq_getElem hlt] at hat0
            rw [← Option.some.inj hat0]
            exact List.set_getElem_self hlt
          show ⟨.m, 0, 4, [.agg [.int .i64 k, .str s, .int .i64 o, .mref 2 0 0 l.length]]⟩ :: ⟨.m, 0, 4, [.agg [.int .i64 0, .str ByteArray.empty, .int .i64 0, .snap true []]]⟩ :: ({ (⟨.m, 0, 4, encs l⟩ : AObj) with es := (encs l).set (0 + i) (.agg [.int .i64 k1, .str s1, .int .i64 o1, .snap false (encs l1)]) } : AObj) :: (J ++ [_]) = _
          rw [this]
        refine EvD.heap hset ?_
        (repeat' (first | refine EvOps.nil ?_ | (apply R.move; exact rfl) | (apply R.arith; exact rfl; exact rfl; exact rfl; exact (wrapI (by omega) (by omega))) | refine Ev.region ?_ | refine EvD.nil ?_ | refine thenQ.normal ?_ | refine blockQ.normal ?_ | refine loopQ.normal ?_ | fail))
        exact ⟨k' - 1, by omega, i + 1, _, _, St.keep ⟨rfl, rfl, rfl, rfl, rfl, trivial⟩, by omega, hJ2⟩
      · refine R.storeH T6 (n := 0) (o := ⟨.m, 0, 4, [.agg [.int .i64 0, .str ByteArray.empty, .int .i64 0, .snap true []]]⟩) (i := 0) (e := .agg [.int .i64 0, .str ByteArray.empty, .int .i64 0, .snap true []]) rfl rfl rfl rfl rfl rfl rfl rfl (Nat.le_refl 4) ?_
        refine EvOps.heap (h' := ⟨.m, 0, 4, [.agg [.int .i64 k, .str s, .int .i64 o, .mref 2 0 0 l.length]]⟩ :: ⟨.m, 0, 4, [.agg [.int .i64 k, .str s, .int .i64 o, .mref 2 0 0 l.length]]⟩ :: ⟨.m, 0, 4, encs l⟩ :: J) rfl ?_
        (repeat' (first | refine EvOps.nil ?_ | refine Ev.ret ?_ | refine thenQ.normal ?_ | (apply bodyQ.retC T6; exact rfl) | fail))
        refine ⟨.agg [.int .i64 k, .str s, .int .i64 o, .snap false (encs l)], ?_, by simp [nrm, nrms, nrms_encs]⟩
        have ht : (encs l).take l.length = encs l := by rw [← hel]; exact List.take_length
        simp [rb, rbA, cells, tupOf]
        simp [rb1s, rb1, getM, isVals_encs, isVal, ht, hel]

theorem clone_fun (t : Tm) (hb : bulk t < 1000000000) : Fun C 71 [enc t] (enc t) := by
  induction t using Tm.ind with
  | h k s o l ih => exact clone_ev k s o l hb (fun t ht => ih t ht (by have := bulk_mem ht; simp only [bulk] at hb; omega))

end Go.Pm
end

/-
  CHAPTER 6, PART 16: the program's insert. Conditions: none.
-/
section
set_option linter.unusedVariables false
set_option linter.unusedSimpArgs false
set_option linter.unusedVariables false
set_option linter.unusedSimpArgs false
set_option maxRecDepth 4000
set_option maxHeartbeats 4000000
namespace Go.Pm
open Go.Proofs
attribute [local irreducible] thenQ blockQ loopQ bodyQ Ev EvOps CallEv FnEv EvD

theorem encPs_ok (l : List Pw) : (encPs l).all (okV 5) = true := by
  rw [List.all_eq_true]
  intro v hv
  obtain ⟨⟨⟨k, s, o, l'⟩, n⟩, _, rfl⟩ := List.mem_map.1 hv
  rfl
theorem encPs_cut (l : List Pw) (j : Nat) (p : Pw) : (encPs l).take j ++ [encP p] ++ (encPs l).drop j = encPs (l.take j ++ [p] ++ l.drop j) := by simp [encPs]
theorem encPs_del (l : List Pw) (j : Nat) : (encPs l).take j ++ (encPs l).drop (j + 1) = encPs (l.take j ++ l.drop (j + 1)) := by simp [encPs]

theorem insert_ev (l : List Pw) (t : Tm) (n : Int) (H : AHeap) (v : PV) (hH : HV H) (ho : Out 5 H v (encPs l)) (hs : Srt l) (hl : Sm l) (ht : bulk t < 1000000000) (hB : Bd 1000000000 l) (hn : -1000000000 ≤ n ∧ n ≤ 1000000000) :
    FnEv C 57 [v, encP (t, n)] H (fun r h' => LP H v 5 (encPs (insP t n l)) r h') := by
  have hbin := bin_fun l t hs hl ht
  have hcl := clone_fun t ht
  have hle := lbP_le t l
  have hno := insP_no t n l
  have hyes := insP_yes t n l
  have hfd : fdP t l = match l[lbP t l]? with | some p => decide (cmpT p.1 t = 0) | none => false := rfl
  have hel := encPs_len l
  have hl2 := hl.2
  obtain ⟨k, s, o, tl⟩ := t
  refine FnEv.bodyL Tryz.func57 rfl ?_
  rw [encP_mk]
  rw [enc_mk] at hbin hcl
  generalize hLB : lbP (.mk k s o tl) l = LB at hbin hle hno hyes hfd
  (repeat' (first | refine EvOps.nil ?_ | (apply R.move; exact rfl) | (apply R.assign; exact rfl) | (apply R.fieldAddr T6; exact rfl; exact rfl; exact rfl; exact rfl) | (apply R.boxN; exact rfl; exact rfl; exact rfl) | (apply R.loadAN T6; exact rfl; exact rfl; exact rfl; exact (by repeat constructor)) | refine Ev.seq ?_ | refine Ev.region ?_ | refine thenQ.normal ?_ | fail))
  obtain ⟨H1, hH1⟩ : ∃ x, x = H ++ [⟨.m, 0, 5, [.agg [.int .i64 k, .str s, .int .i64 o, .snap false (encs tl), .int .i64 n]]⟩] := ⟨_, rfl⟩
  have v1 : HV H1 := by rw [hH1]; exact hH.app (HV.one rfl)
  have b1 : H1[H.length]? = some ⟨.m, 0, 5, [.agg [.int .i64 k, .str s, .int .i64 o, .snap false (encs tl), .int .i64 n]]⟩ := by rw [hH1]; simp
  have g1 : H1.length = H.length + 1 := by rw [hH1]; simp
  have p1 : ∀ j, j < H.length → H1[j]? = H[j]? := fun j hj => by rw [hH1, List.getElem?_append_left hj]
  have o1 : Out 5 H1 v (encPs l) := by rw [hH1]; exact ho.app _
  have nv : ∀ ep n, v ≠ .mref H.length ep 0 n := by
    rcases ho with ⟨rfl, _⟩ | ⟨id, ep, rfl, e2⟩
    · intro ep n hh; cases hh
    · intro ep' n' hh
      have := lt_of_some e2
      cases hh; omega
  refine EvOps.heap hH1.symm ?_
  clear hH1
  skip
  refine R.call rfl rfl (CallEv.out rfl o1 (encPs_vals l) (by simp [isVals, isVal]) (by simpa [nrms, nrm, nrms_encs, nrms_encPs] using hbin) rfl ?_)
  have fin : ∀ {r : PV} {h' : AHeap} {es : List PV}, LP H1 v 5 es r h' → LP H v 5 es r h' := fun {r h' es} a => ⟨a.out, a.hv, by have := a.len; omega, fun j hj hne => by rw [a.fr j (by omega) hne, p1 j hj], fun j ep n hh => (a.ref j ep n hh).elim .inl (fun hh => .inr (by omega))⟩
  cases hf : fdP (.mk k s o tl) l
  · rw [hno hf]
    (repeat' (first | refine EvOps.nil ?_ | (apply R.move; exact rfl) | (apply R.assign; exact rfl) | (apply R.not; exact rfl; exact rfl) | (apply R.extract; exact rfl; exact rfl) | refine Ev.seq ?_ | refine Ev.region ?_ | refine Ev.regionD ?_ | (apply D.move; exact rfl) | (apply D.fieldAddr T6; exact rfl; exact rfl; exact rfl; exact rfl) | (apply Ev.condB; exact rfl) | refine thenQ.normal ?_ | (apply D.loadAH T6; exact (by assumption); exact rfl; exact rfl; exact rfl; exact (by assumption); exact (by repeat constructor)) | fail))
    refine D.callP v1.closed rfl rfl rfl rfl rfl rfl (by simpa [nrms, nrm, nrms_encs] using hcl) ?_
    (repeat' (first | (apply D.build T6; exact rfl; exact rfl; exact rfl; exact rfl; exact rfl; exact rfl) | (apply D.fieldAddr T6; exact rfl; exact rfl; exact rfl; exact rfl) | (apply D.load1H T6; exact (by assumption); exact rfl; exact rfl; exact rfl; exact (by assumption); exact rfl) | fail))
    refine D.buildSlice T6 v1.closed rfl rfl rfl rfl rfl (by decide) rfl rfl rfl rfl rfl ?_
    obtain ⟨rv, h', e1, e2⟩ := insertPrim_out (full := true) (e := .agg [.int .i64 k, .str s, .int .i64 o, .snap false (encs tl), .int .i64 n]) (j := LB) o1 v1 (by omega) (by omega) (encPs_ok l) rfl
    refine D.call rfl rfl rfl (CallEv.primL rfl e1 ?_)
    (repeat' (first | refine EvD.nil ?_ | (apply D.assign; exact rfl) | refine Ev.ret ?_ | refine thenQ.normal ?_ | refine thenQ.ret ?_ | (apply bodyQ.ret; exact rfl) | fail))
    rw [← encP_mk, encPs_cut] at e2
    exact fin e2
  · rw [hf] at hfd
    obtain ⟨p, hp, hp0⟩ : ∃ p, l[LB]? = some p ∧ cmpT p.1 (.mk k s o tl) = 0 := by
      cases hg : l[LB]? with
      | none => rw [hg] at hfd; cases hfd
      | some p => rw [hg] at hfd; exact ⟨p, rfl, of_decide_eq_true hfd.symm⟩
    have hlt := lt_of_some hp
    have hmem := List.mem_of_getElem? hp
    have hbd := hB _ hmem
    rw [hyes p hp hp0]
    obtain ⟨⟨k1, s1, o1', l1⟩, n1⟩ := p
    simp only at hbd
    have hat : (encPs l)[0 + LB]? = some (.agg [.int .i64 k1, .str s1, .int .i64 o1', .snap false (encs l1), .int .i64 n1]) := by
      rw [Nat.zero_add, encPs, List.getElem?_map, hp]; rfl
    rcases o1 with ⟨_, e1⟩ | ⟨id, ep, rfl, e1⟩
    · rw [e1] at hel; simp at hel; omega
    have hid : id ≠ H.length := fun hh => nv ep (encPs l).length (by rw [hh])
    have hidl := lt_of_some e1
    have hcl1 := v1.closed
    have hvis := v1.vis hidl
    have hpc : pcells H1 (.ptr id ep (0 + LB) (0 + 4)) = some [.int .i64 n1] := by
      simp only [pcells, getM_at e1 rfl (by simp), hat]; rfl
    (repeat' (first | refine EvOps.nil ?_ | (apply R.move; exact rfl) | (apply R.assign; exact rfl) | (apply R.not; exact rfl; exact rfl) | (apply R.extract; exact rfl; exact rfl) | refine Ev.seq ?_ | refine Ev.region ?_ | refine Ev.regionD ?_ | (apply D.move; exact rfl) | (apply Ev.condB; exact rfl) | refine Ev.skip ?_ | refine thenQ.normal ?_ | fail))
    refine D.indexM T6 (o := ⟨.m, ep, 5, encPs l⟩) hcl1 rfl rfl rfl (getM_at e1 rfl (by simp)) rfl (by omega) (by show 0 + (encPs l).length ≤ (encPs l).length; omega) ?_
    (repeat' (first | (apply D.fieldAddr T6; exact rfl; exact rfl; exact rfl; exact rfl) | fail))
    refine D.load1 T6 hcl1 rfl hvis rfl rfl hpc ?_
    (repeat' (first | (apply D.arith; exact rfl; exact rfl; exact rfl; exact (wrapI (by omega) (by omega))) | (apply D.fieldAddr T6; exact rfl; exact rfl; exact rfl; exact rfl) | (apply D.load1H T6; exact (by assumption); exact rfl; exact rfl; exact rfl; exact (by assumption); exact rfl) | fail))
    refine D.indexM T6 (o := ⟨.m, ep, 5, encPs l⟩) hcl1 rfl rfl rfl (getM_at e1 rfl (by simp)) rfl (by omega) (by show 0 + (encPs l).length ≤ (encPs l).length; omega) ?_
    (repeat' (first | (apply D.fieldAddr T6; exact rfl; exact rfl; exact rfl; exact rfl) | fail))
    refine D.storeH T6 (o := ⟨.m, ep, 5, encPs l⟩) (j := 0 + LB) rfl rfl rfl rfl (getM_at e1 rfl (by simp)) rfl hat rfl rfl (Nat.le_refl 5) ?_
    obtain ⟨H2, hH2⟩ : ∃ x, x = H1.set id ⟨.m, ep, 5, encPs (l.set LB (.mk k1 s1 o1' l1, n1 + n))⟩ := ⟨_, rfl⟩
    have hset : H1.set id { (⟨.m, ep, 5, encPs l⟩ : AObj) with es := (encPs l).set (0 + LB) (recell (0 + 4) 1 (.agg [.int .i64 k1, .str s1, .int .i64 o1', .snap false (encs l1), .int .i64 n1]) (.int .i64 (n1 + n))) } = H2 := by
      rw [hH2, Nat.zero_add]
      congr 2
      unfold encPs
      rw [List.map_set]
      rfl
    refine EvD.heap hset ?_
    have e2 : H2[id]? = some ⟨.m, ep, 5, encPs (l.set LB (.mk k1 s1 o1' l1, n1 + n))⟩ := by rw [hH2]; exact List.getElem?_set_self hidl
    have v2 : HV H2 := by rw [hH2]; exact v1.set id (by simp) (encPs_vals _)
    have g2 : H2.length = H.length + 1 := by rw [hH2]; simp [g1]
    have p2 : ∀ j, j ≠ id → j < H1.length → H2[j]? = H1[j]? := fun j hj _ => by rw [hH2]; exact List.getElem?_set_ne (Ne.symm hj)
    have hel2 : (encPs (l.set LB (.mk k1 s1 o1' l1, n1 + n))).length = (encPs l).length := by rw [encPs_len, encPs_len]; simp
    have hat2 : (encPs (l.set LB (.mk k1 s1 o1' l1, n1 + n)))[0 + LB]? = some (.agg [.int .i64 k1, .str s1, .int .i64 o1', .snap false (encs l1), .int .i64 (n1 + n)]) := by
      rw [Nat.zero_add, encPs, List.getElem?_map, List.getElem?_set_self hlt]; rfl
    have hpc2 : pcells H2 (.ptr id ep (0 + LB) (0 + 4)) = some [.int .i64 (n1 + n)] := by
      simp only [pcells, getM_at e2 rfl (by simp), hat2]; rfl
    clear hset hH2
    (repeat' (first | (apply R.move; exact rfl) | refine Ev.seq ?_ | refine Ev.region ?_ | refine EvD.nil ?_ | refine thenQ.normal ?_ | fail))
    refine R.indexM T6 (o := ⟨.m, ep, 5, encPs (l.set LB (.mk k1 s1 o1' l1, n1 + n))⟩) rfl rfl rfl (getM_at e2 rfl (by simp)) rfl (by omega) (by show 0 + (encPs l).length ≤ (encPs _).length; omega) ?_
    (repeat' (first | (apply R.fieldAddr T6; exact rfl; exact rfl; exact rfl; exact rfl) | fail))
    refine R.load1 T6 rfl rfl rfl hpc2 ?_
    (repeat' (first | refine EvOps.nil ?_ | (apply R.move; exact rfl) | (apply R.assign; exact rfl) | (apply R.cmp; exact rfl; exact rfl; exact rfl; all_goals intro hc) | (apply R.arith; exact rfl; exact rfl; exact rfl; exact (wrapI (by omega) (by omega))) | refine Ev.seq ?_ | refine Ev.region ?_ | (apply Ev.condB; exact rfl) | refine Ev.ret ?_ | refine Ev.skip ?_ | refine thenQ.normal ?_ | (apply bodyQ.ret; exact rfl) | fail))
    · rw [if_pos (by assumption)]
      obtain ⟨rv, h', e3, e4⟩ := deletePrim_out (j := LB) e2 v2 (by rw [hel2]; omega) (by rw [hel2]; omega) (encPs_ok _)
      rw [hel2] at e3 e4
      refine R.call rfl rfl (CallEv.primL rfl e3 ?_)
      (repeat' (first | refine EvOps.nil ?_ | (apply R.assign; exact rfl) | refine Ev.ret ?_ | refine thenQ.normal ?_ | refine thenQ.ret ?_ | (apply bodyQ.ret; exact rfl) | fail))
      have hdel : encPs ((l.set LB (.mk k1 s1 o1' l1, n1 + n)).take LB ++ (l.set LB (.mk k1 s1 o1' l1, n1 + n)).drop (LB + 1)) = encPs (l.take LB ++ l.drop (LB + 1)) := by
        rw [List.take_set_of_le (Nat.le_refl LB), List.drop_set_of_lt (by omega)]
      rw [encPs_del, hdel] at e4
      exact fin ⟨e4.out, e4.hv, by have := e4.len; omega, fun j hj hne => by rw [e4.fr j (by omega) hne, p2 j (fun hh => hne ep (encPs l).length (by rw [hh])) hj], fun j ep n hh => (e4.ref j ep n hh).elim .inl (fun hh => .inr (by omega))⟩
    · rw [if_neg (by assumption)]
      refine fin ⟨.inr ⟨id, ep, by rw [hel2]; rfl, e2⟩, v2, by omega, fun j hj hne => p2 j (fun hh => hne ep (encPs l).length (by rw [hh])) hj, fun j ep' n' hh => .inl ⟨ep', n', hh⟩⟩

end Go.Pm
end

/-
  CHAPTER 6, PART 10: the reference: collect, Of, Same. Conditions: none.
-/
section
set_option linter.unusedVariables false
set_option linter.unusedSimpArgs false
set_option linter.unusedVariables false
set_option linter.unusedSimpArgs false
set_option maxRecDepth 4000
set_option maxHeartbeats 4000000
namespace Go.Pm
open Go.Proofs
attribute [local irreducible] thenQ blockQ loopQ bodyQ Ev EvOps CallEv FnEv EvD

/-- a list that may be gathered on, with room for N more nodes -/
structure CI (a : List Pw) (N : Int) : Prop where
  srt : Srt a
  nz : Nz a
  sm : ∀ p ∈ a, bulk p.1 < 1000000000
  len : (a.length : Int) + N ≤ 10000000
  bd : ∃ B : Int, 0 ≤ B ∧ B + N ≤ 10000000 ∧ Bd B a
theorem CI.Sm {a : List Pw} {N : Int} (c : CI a N) (h : 0 ≤ N) : Sm a := ⟨c.sm, by have := c.len; omega⟩
theorem CI.Bd {a : List Pw} {N : Int} (c : CI a N) (h : 0 ≤ N) : Bd 1000000000 a := by
  obtain ⟨B, h1, h2, h3⟩ := c.bd
  intro p hp
  have := h3 p hp
  omega
theorem CI.le {a : List Pw} {N M : Int} (c : CI a N) (h : M ≤ N) : CI a M := by
  obtain ⟨B, h1, h2, h3⟩ := c.bd
  exact ⟨c.srt, c.nz, c.sm, by have := c.len; omega, B, h1, by omega, h3⟩
theorem CI.coll {a : List Pw} {N : Int} {t : Tm} {n : Int} (c : CI a (size t + N)) (hb : bulk t < 1000000000) (hn : n = 1 ∨ n = -1) : CI (coll a t n) N := by
  obtain ⟨B, h1, h2, h3⟩ := c.bd
  obtain ⟨g1, g2, _⟩ := coll_ok t a n c.srt c.nz (by omega)
  have hs := size_bulk t
  refine ⟨g1, g2, ?_, ?_, B + size t, by omega, by omega, coll_bd t a n B (by omega) (by omega) h1 h3⟩
  · refine coll_all (Q := fun t => bulk t < 1000000000) (P := fun t => bulk t < 1000000000) (fun _ _ _ _ h _ => h) ?_ t a n hb c.sm
    intro k s o l h u hu
    have := bulk_mem hu
    simp only [bulk] at h; omega
  · have := coll_len t a n
    have := c.len
    omega
theorem CI.nil : CI [] 10000000 := ⟨by simp [Srt], (fun p hp => by cases hp), (fun p hp => by cases hp), by simp, 0, by omega, by omega, (fun p hp => by cases hp)⟩

/-- the product of a term, or its error -/
def ofT (t : Tm) : List Pw × Int := if valid t ≠ 0 then ([], valid t) else if arity t = false then ([], 6) else if 200 < (coll [] t 1).length then ([], 3) else (coll [] t 1, 0)
end Go.Pm
end

/-
  CHAPTER 6, PART 13: the program's Valid. Conditions: none.
-/
section
set_option linter.unusedVariables false
set_option linter.unusedSimpArgs false
set_option linter.unusedVariables false
set_option linter.unusedSimpArgs false
set_option maxRecDepth 4000
set_option maxHeartbeats 4000000
namespace Go.Pm
open Go.Proofs
attribute [local irreducible] thenQ blockQ loopQ bodyQ Ev EvOps CallEv FnEv EvD

structure CkH (H : AHeap) (n d : Int) : Prop where
  f1 : H[1]? = some ⟨.m, 0, 1, [.int .i64 n]⟩
  f2 : H[2]? = some ⟨.m, 0, 1, [.int .i64 d]⟩
  hv : HV H
  len : 3 ≤ H.length
def CkP (H : AHeap) (t : Tm) (lvl n d : Int) (r : PV) (h' : AHeap) : Prop := r = .int .i64 (nodes t) ∧ ∃ n' d', CkH h' n' d' ∧ H.length ≤ h'.length ∧ (∀ j, j ≠ 1 → j ≠ 2 → j < H.length → h'[j]? = H[j]?) ∧ (nodes t = 0 → n' = n + size t ∧ d' = max d (lvl - 1 + depth t))
theorem CkH.app {H : AHeap} {n d : Int} (c : CkH H n d) {K : AHeap} (hK : HV K) : CkH (H ++ K) n d := by
  have := c.len
  exact ⟨by rw [List.getElem?_append_left (by omega)]; exact c.f1, by rw [List.getElem?_append_left (by omega)]; exact c.f2, c.hv.app hK, by simp; omega⟩
theorem CkH.set1 {H : AHeap} {n d : Int} (c : CkH H n d) (n' : Int) : CkH (H.set 1 ⟨.m, 0, 1, [.int .i64 n']⟩) n' d := by
  have := c.len
  exact ⟨List.getElem?_set_self (by omega), by rw [List.getElem?_set_ne (by omega)]; exact c.f2, c.hv.set 1 (by simp) rfl, by simp; omega⟩
theorem CkH.set2 {H : AHeap} {n d : Int} (c : CkH H n d) (d' : Int) : CkH (H.set 2 ⟨.m, 0, 1, [.int .i64 d']⟩) n d' := by
  have := c.len
  exact ⟨by rw [List.getElem?_set_ne (by omega)]; exact c.f1, List.getElem?_set_self (by omega), c.hv.set 2 (by simp) rfl, by simp; omega⟩
theorem CkH.take {H : AHeap} {n d : Int} (c : CkH H n d) (m : Nat) (hm : 3 ≤ m) : CkH (H.take m) n d := by
  have := c.len
  exact ⟨by rw [List.getElem?_take_of_lt (by omega)]; exact c.f1, by rw [List.getElem?_take_of_lt (by omega)]; exact c.f2, fun o ho => c.hv o (List.mem_of_mem_take ho), by simp; omega⟩

theorem check_ev (k s o l) (hb : bulk (.mk k s o l) < 1000000000)
    (ih : ∀ t ∈ l, ∀ (H : AHeap) (lvl n d : Int), CkH H n d → 0 ≤ n → n + size t ≤ 1000000000 → 0 ≤ d → d ≤ 1000000000 → 0 ≤ lvl → lvl + depth t ≤ 1000000000 → FnEv C 77 [enc t, .int .i64 lvl, .ptr 1 0 0 0, .ptr 2 0 0 0] H (CkP H t lvl n d))
    (H : AHeap) (lvl n d : Int) (hH : CkH H n d) (n0 : 0 ≤ n) (n1 : n + size (.mk k s o l) ≤ 1000000000) (d0 : 0 ≤ d) (d1 : d ≤ 1000000000) (l0 : 0 ≤ lvl) (l1 : lvl + depth (.mk k s o l) ≤ 1000000000) :
    FnEv C 77 [enc (.mk k s o l), .int .i64 lvl, .ptr 1 0 0 0, .ptr 2 0 0 0] H (CkP H (.mk k s o l) lvl n d) := by
  refine FnEv.bodyL Tryz.func77 rfl ?_
  rw [enc_mk]
  have hlen := len_bulks l
  have hel := encs_len l
  have hsz := sizes_bulk l
  have hds := depths_sizes l
  have hbs : s.size < 1000000000 := by simp only [bulk] at hb; omega
  have hbl : bulks l < 1000000000 := by simp only [bulk] at hb; omega
  simp only [size] at n1
  simp only [depth] at l1
  have hHl := hH.len
  (repeat' (first | refine EvOps.nil ?_ | (apply R.move; exact rfl) | (apply R.assign; exact rfl) | (apply R.boxN; exact rfl; exact rfl; exact rfl) | (apply R.nilCheck; exact rfl) | refine Ev.seq ?_ | refine Ev.region ?_ | refine thenQ.normal ?_ | fail))
  obtain ⟨H1, hH1⟩ : ∃ x, x = H ++ [⟨.m, 0, 4, [.agg [.int .i64 k, .str s, .int .i64 o, .snap false (encs l)]]⟩] := ⟨_, rfl⟩
  have c1 : CkH H1 n d := by rw [hH1]; exact hH.app (HV.one rfl)
  have b1 : H1[H.length]? = some ⟨.m, 0, 4, [.agg [.int .i64 k, .str s, .int .i64 o, .snap false (encs l)]]⟩ := by rw [hH1]; simp
  have g1 : H1.length = H.length + 1 := by rw [hH1]; simp
  have p1 : ∀ j, j < H.length → H1[j]? = H[j]? := fun j hj => by rw [hH1, List.getElem?_append_left hj]
  refine EvOps.heap hH1.symm ?_
  clear hH1
  have u1 := c1.f1
  have u2 := c1.f2
  (repeat' (first | (apply R.arith; exact rfl; exact rfl; exact rfl; exact (wrapI (by omega) (by omega))) | (apply R.load1H T6; exact rfl; exact rfl; exact rfl; exact (by assumption); exact rfl) | (apply R.nilCheck; exact rfl) | fail))
  refine R.storeH T6 (n := 0) (o := ⟨.m, 0, 1, [.int .i64 n]⟩) (i := 0) (e := .int .i64 n) rfl rfl rfl (getM_at u1 rfl (by simp)) rfl rfl rfl rfl (Nat.le_refl 1) ?_
  obtain ⟨H2, hH2⟩ : ∃ x, x = H1.set 1 ⟨.m, 0, 1, [.int .i64 (n + 1)]⟩ := ⟨_, rfl⟩
  have c2 : CkH H2 (n + 1) d := by rw [hH2]; exact c1.set1 _
  have b2 : H2[H.length]? = some ⟨.m, 0, 4, [.agg [.int .i64 k, .str s, .int .i64 o, .snap false (encs l)]]⟩ := by rw [hH2, List.getElem?_set_ne (by omega)]; exact b1
  have g2 : H2.length = H.length + 1 := by rw [hH2]; simp [g1]
  have p2 : ∀ j, j ≠ 1 → j < H.length → H2[j]? = H[j]? := fun j h1 hj => by rw [hH2, List.getElem?_set_ne (by omega)]; exact p1 j hj
  refine EvOps.heap hH2.symm ?_
  clear hH2 c1 b1 g1 p1 u1 u2
  have u1 := c2.f1
  have u2 := c2.f2
  (repeat' (first | refine EvOps.nil ?_ | (apply R.move; exact rfl) | (apply R.max; exact rfl; exact rfl) | (apply R.load1H T6; exact rfl; exact rfl; exact rfl; exact (by assumption); exact rfl) | (apply R.nilCheck; exact rfl) | refine Ev.seq ?_ | refine Ev.region ?_ | refine thenQ.normal ?_ | fail))
  refine R.storeH T6 (n := 0) (o := ⟨.m, 0, 1, [.int .i64 d]⟩) (i := 0) (e := .int .i64 d) rfl rfl rfl (getM_at u2 rfl (by simp)) rfl rfl rfl rfl (Nat.le_refl 1) ?_
  obtain ⟨H3, hH3⟩ : ∃ x, x = H2.set 2 ⟨.m, 0, 1, [.int .i64 (max d lvl)]⟩ := ⟨_, rfl⟩
  have c3 : CkH H3 (n + 1) (max d lvl) := by rw [hH3]; exact c2.set2 _
  have b3 : H3[H.length]? = some ⟨.m, 0, 4, [.agg [.int .i64 k, .str s, .int .i64 o, .snap false (encs l)]]⟩ := by rw [hH3, List.getElem?_set_ne (by omega)]; exact b2
  have g3 : H3.length = H.length + 1 := by rw [hH3]; simp [g2]
  have p3 : ∀ j, j ≠ 1 → j ≠ 2 → j < H.length → H3[j]? = H[j]? := fun j h1 h2 hj => by rw [hH3, List.getElem?_set_ne (by omega)]; exact p2 j h1 hj
  refine EvOps.heap hH3.symm ?_
  clear hH3 c2 b2 g2 p2 u1 u2
  have bad : ∀ e : Int, node (.mk k s o l) = e → e ≠ 0 → CkP H (.mk k s o l) lvl n d (.int .i64 e) H3 := fun e h1 h2 => by
    have : nodes (.mk k s o l) = e := by rw [nodes, if_pos (by rw [h1]; exact h2), h1]
    exact ⟨by rw [this], _, _, c3, by omega, p3, fun h => absurd (this ▸ h) h2⟩
  (repeat' (first | refine EvOps.nil ?_ | (apply R.gOn; exact rfl; exact rfl; exact rfl) | (apply R.gOff; exact rfl; exact rfl; exact rfl) | (apply R.move; exact rfl) | (apply R.assign; exact rfl) | (apply R.pickT; exact rfl; exact rfl) | (apply R.pickF; exact rfl; exact rfl) | (apply R.fieldAddr T6; exact rfl; exact rfl; exact rfl; exact rfl) | (apply R.cmp; exact rfl; exact rfl; exact rfl; all_goals intro hc; all_goals (try (exfalso; omega))) | (apply R.lenS T6; exact rfl; exact rfl) | (apply R.load1H T6; exact rfl; exact rfl; exact rfl; exact (by assumption); exact rfl) | refine Ev.seq ?_ | refine Ev.region ?_ | (apply Ev.condB; exact rfl) | refine Ev.ret ?_ | refine Ev.skip ?_ | refine Ev.block ?_ | refine thenQ.normal ?_ | refine thenQ.ret ?_ | refine blockQ.normal ?_ | refine blockQ.ret ?_ | (apply bodyQ.ret; exact rfl) | fail))
  all_goals try (refine bad 1 ?_ (by decide); rw [node, if_pos (by omega)])
  all_goals (refine R.call rfl rfl (CallEv.pure rfl rfl (isName_fun s hbs) ?_); cases hN : isName s <;> (repeat' (first | refine EvOps.nil ?_ | (apply R.move; exact rfl) | (apply R.assign; exact rfl) | (apply R.fieldAddr T6; exact rfl; exact rfl; exact rfl; exact rfl) | (apply R.cmp; exact rfl; exact rfl; exact rfl; all_goals intro hc; all_goals (try (exfalso; omega))) | (apply R.not; exact rfl; exact rfl) | (apply R.lenS T6; exact rfl; exact rfl) | (apply R.load1H T6; exact rfl; exact rfl; exact rfl; exact (by assumption); exact rfl) | refine Ev.seq ?_ | refine Ev.region ?_ | (apply Ev.condB; exact rfl) | refine Ev.ret ?_ | refine Ev.skip ?_ | refine Ev.block ?_ | refine thenQ.normal ?_ | refine thenQ.ret ?_ | (apply bodyQ.ret; exact rfl) | fail)))
  all_goals try (refine bad 2 ?_ (by decide); rw [node, if_neg (by omega), if_pos hN])
  all_goals try (refine bad 3 ?_ (by decide); rw [node, if_neg (by omega), if_neg (by rw [hN]; simp), if_pos (by omega)])
  all_goals (
    have hno : node (.mk k s o l) = 0 := by rw [node, if_neg (by omega), if_neg (by rw [hN]; simp), if_neg (by omega)]
    have h0 : nodes (.mk k s o l) = nodess l := by rw [nodes, if_neg (by rw [hno]; simp)]
    clear bad hc
    refine Ev.loop (I := fun k' st => ∃ (i : Nat) (Hc : AHeap) (nc dc : Int) (ρ' : Nat → PV), st = ⟨al [(1, .int .i64 lvl), (2, .ptr 1 0 0 0), (3, .ptr 2 0 0 0), (4, .ptr H.length 0 0 0), (57, .snap false (encs l)), (58, .int .i64 (encs l).length), (59, .int .i64 i)] ρ', Hc⟩ ∧ k' + i = l.length ∧
      CkH Hc nc dc ∧ Hc[H.length]? = some ⟨.m, 0, 4, [.agg [.int .i64 k, .str s, .int .i64 o, .snap false (encs l)]]⟩ ∧ H.length < Hc.length ∧ (∀ j, j ≠ 1 → j ≠ 2 → j < H.length → Hc[j]? = H[j]?) ∧ 0 ≤ nc ∧ nc + sizes (l.drop i) = n + 1 + sizes l ∧ lvl ≤ dc ∧ dc ≤ 1000000000 ∧ max dc (lvl + depths (l.drop i)) = max d (lvl + depths l) ∧ nodess l = nodess (l.drop i)) l.length ?_ ?_
    · exact ⟨0, H3, _, _, _, St.keep ⟨rfl, rfl, rfl, rfl, rfl, rfl, rfl, trivial⟩, rfl, c3, b3, by omega, p3, by omega, rfl, by omega, by omega, by simp only [List.drop_zero]; omega, rfl⟩
    · clear c3 b3 g3 p3
      rintro k' _ ⟨i, Hc, nc, dc, ρ', rfl, hk, c4, b4, g4, p4, m0, m1, m2, m3, m4, hb'⟩
      (repeat' (first | refine EvOps.nil ?_ | (apply R.assign; exact rfl) | (apply R.cmp; exact rfl; exact rfl; exact rfl; all_goals intro hc) | refine Ev.seq ?_ | refine Ev.region ?_ | (apply Ev.condB; exact rfl) | refine Ev.ret ?_ | refine Ev.skip ?_ | refine Ev.exit ?_ | refine Ev.block ?_ | refine thenQ.normal ?_ | refine thenQ.exit ?_ | refine blockQ.hit ?_ | refine loopQ.exit ?_ | (apply bodyQ.ret; exact rfl) | fail))
      · obtain ⟨k1, s1, o1, l1', hmem, hat, hd, hil, _⟩ := encs_at' hc
        refine R.indexS T6 rfl rfl rfl rfl hat rfl rfl ?_
        have hdr := sizes_bulk (l.drop (i + 1))
        have hddr := depths_sizes (l.drop (i + 1))
        have hdm := depths_mem _ hmem
        have hs1 := size_bulk (.mk k1 s1 o1 l1')
        have hp1 := depth_size (.mk k1 s1 o1 l1')
        rw [hd, sizes] at m1
        rw [hd, depths] at m4
        rw [hd, nodess] at hb'
        (repeat' (first | refine EvOps.nil ?_ | (apply R.move; exact rfl) | (apply R.loadA T6; exact rfl; exact rfl; exact rfl; exact rfl; exact (by repeat constructor)) | (apply R.arith; exact rfl; exact rfl; exact rfl; exact (wrapI (by omega) (by omega))) | (apply R.allocN T6; exact rfl; exact rfl; exact rfl) | (apply R.storeN T6; exact rfl; exact rfl; exact rfl; exact rfl; exact rfl; exact rfl) | (apply R.loadAN T6; exact rfl; exact rfl; exact rfl; exact (by repeat constructor)) | refine Ev.seq ?_ | refine Ev.region ?_ | refine thenQ.normal ?_ | fail))
        obtain ⟨H5, hH5⟩ : ∃ x, x = Hc ++ [⟨.m, 0, 4, [.agg [.int .i64 k1, .str s1, .int .i64 o1, .snap false (encs l1')]]⟩] := ⟨_, rfl⟩
        have c5 : CkH H5 nc dc := by rw [hH5]; exact c4.app (HV.one rfl)
        have b5 : H5[H.length]? = some ⟨.m, 0, 4, [.agg [.int .i64 k, .str s, .int .i64 o, .snap false (encs l)]]⟩ := by rw [hH5, List.getElem?_append_left (by omega)]; exact b4
        have g5 : H5.length = Hc.length + 1 := by rw [hH5]; simp
        have p5 : ∀ j, j ≠ 1 → j ≠ 2 → j < H.length → H5[j]? = H[j]? := fun j h1 h2 hj => by rw [hH5, List.getElem?_append_left (by omega)]; exact p4 j h1 h2 hj
        have hih := ih _ hmem H5 (lvl + 1) nc dc c5 m0 (by omega) (by omega) m3 (by omega) (by omega)
        rw [enc_mk] at hih
        refine R.call rfl rfl (CallEv.openedV rfl hH5.symm rfl rfl hih ?_)
        rintro r h' ⟨rfl, n', d', c6, g6, p6, e6⟩
        refine ⟨c6.hv, fun _ => ?_, fun hf => Bool.noConfusion hf⟩
        have c7 := c6.take H5.length (by omega)
        have b7 : (h'.take H5.length)[H.length]? = some ⟨.m, 0, 4, [.agg [.int .i64 k, .str s, .int .i64 o, .snap false (encs l)]]⟩ := by rw [List.getElem?_take_of_lt (by omega), p6 _ (by omega) (by omega) (by omega)]; exact b5
        have g7 : (h'.take H5.length).length = H5.length := by simp; omega
        have p7 : ∀ j, j ≠ 1 → j ≠ 2 → j < H.length → (h'.take H5.length)[j]? = H[j]? := fun j h1 h2 hj => by rw [List.getElem?_take_of_lt (by omega), p6 j h1 h2 (by omega)]; exact p5 j h1 h2 hj
        generalize h'.take H5.length = H7 at c7 b7 g7 p7 ⊢
        clear c6 p6
        (repeat' (first | refine EvOps.nil ?_ | (apply R.move; exact rfl) | (apply R.assign; exact rfl) | (apply R.cmp; exact rfl; exact rfl; exact rfl; all_goals intro hc) | (apply R.arith; exact rfl; exact rfl; exact rfl; exact (wrapI (by omega) (by omega))) | refine Ev.seq ?_ | refine Ev.region ?_ | (apply Ev.condB; exact rfl) | refine Ev.ret ?_ | refine Ev.skip ?_ | refine thenQ.normal ?_ | refine thenQ.ret ?_ | refine blockQ.normal ?_ | refine blockQ.ret ?_ | refine loopQ.normal ?_ | refine loopQ.ret ?_ | (apply bodyQ.ret; exact rfl) | fail))
        · have hne := hc
          rw [if_pos hne] at hb'
          exact ⟨by rw [h0, hb']; rfl, _, _, c7, by omega, p7, fun h => absurd (by rw [← hb', ← h0]; exact h) hne⟩
        · rw [if_neg (by assumption)] at hb'
          obtain ⟨e7, e8⟩ := e6 (by omega)
          exact ⟨k' - 1, by omega, i + 1, H7, n', d', _, St.keep ⟨rfl, rfl, rfl, rfl, rfl, rfl, rfl, trivial⟩, by omega, c7, b7, by omega, p7, by omega, by omega, by omega, by omega, by omega, hb'⟩
      · rw [encs_end hc] at hb' m1 m4
        simp only [sizes, depths, nodess] at hb' m1 m4
        refine ⟨by rw [h0, hb']; rfl, _, _, c4, by omega, p4, fun _ => ⟨?_, ?_⟩⟩
        · simp only [size]; omega
        · simp only [depth]; omega)

theorem check_fun (t : Tm) (hb : bulk t < 1000000000) : ∀ (H : AHeap) (lvl n d : Int), CkH H n d → 0 ≤ n → n + size t ≤ 1000000000 → 0 ≤ d → d ≤ 1000000000 → 0 ≤ lvl → lvl + depth t ≤ 1000000000 → FnEv C 77 [enc t, .int .i64 lvl, .ptr 1 0 0 0, .ptr 2 0 0 0] H (CkP H t lvl n d) := by
  induction t using Tm.ind with
  | h k s o l ih => exact check_ev k s o l hb (fun t ht => ih t ht (by have := bulk_mem ht; simp only [bulk] at hb; omega))

theorem valid_fun (t : Tm) (hb : bulk t < 100000000) : Fun C 37 [enc t] (.int .i64 (valid t)) := by
  have hck := check_fun t (by omega)
  have hsz := size_bulk t
  have hdp := depth_size t
  obtain ⟨k, s, o, l⟩ := t
  refine Fun.of (FnEv.bodyL Tryz.func37 rfl ?_)
  rw [enc_mk] at hck ⊢
  (repeat' (first | refine EvOps.nil ?_ | (apply R.assign; exact rfl) | (apply R.box; exact rfl; exact rfl; exact rfl; exact .nil) | (apply R.alloc T6; exact rfl; exact rfl; exact rfl; exact (.cons .nil)) | (apply R.alloc T6; exact rfl; exact rfl; exact rfl; exact (.cons (.cons .nil))) | refine Ev.seq ?_ | refine Ev.region ?_ | refine thenQ.normal ?_ | fail))
  refine R.storeH T6 (n := 0) (o := ⟨.m, 0, 1, [.int .i64 0]⟩) (i := 0) (e := .int .i64 0) rfl rfl rfl rfl rfl rfl rfl rfl (Nat.le_refl 1) ?_
  skip
  refine R.storeH T6 (n := 0) (o := ⟨.m, 0, 1, [.int .i64 0]⟩) (i := 0) (e := .int .i64 0) rfl rfl rfl rfl rfl rfl rfl rfl (Nat.le_refl 1) ?_
  refine EvOps.heap (h' := [⟨.m, 0, 4, [.agg [.int .i64 k, .str s, .int .i64 o, .snap false (encs l)]]⟩, ⟨.m, 0, 1, [.int .i64 0]⟩, ⟨.m, 0, 1, [.int .i64 0]⟩]) rfl ?_
  (repeat' (first | refine EvOps.nil ?_ | (apply R.loadA T6; exact rfl; exact rfl; exact rfl; exact rfl; exact (by repeat constructor)) | refine Ev.seq ?_ | refine Ev.region ?_ | refine thenQ.normal ?_ | fail))
  have c0 : CkH [⟨.m, 0, 4, [.agg [.int .i64 k, .str s, .int .i64 o, .snap false (encs l)]]⟩, ⟨.m, 0, 1, [.int .i64 0]⟩, ⟨.m, 0, 1, [.int .i64 0]⟩] 0 0 := ⟨rfl, rfl, fun o ho => by
    simp at ho
    rcases ho with rfl | rfl <;> exact ⟨by simp, rfl⟩, by simp⟩
  refine R.call rfl rfl (CallEv.openedV rfl rfl rfl rfl (hck _ 1 0 0 c0 (by omega) (by omega) (by omega) (by omega) (by omega) (by omega)) ?_)
  rintro r h' ⟨rfl, n', d', c6, g6, p6, e6⟩
  refine ⟨c6.hv, fun _ => ?_, fun hf => Bool.noConfusion hf⟩
  have c7 := c6.take 3 (Nat.le_refl 3)
  refine EvOps.heap (h' := h'.take 3) rfl ?_
  generalize h'.take 3 = H7 at c7 ⊢
  have u1 := c7.f1
  have u2 := c7.f2
  clear c6 p6 g6 hck
  have hv : nodes (.mk k s o l) ≠ 0 → valid (.mk k s o l) = nodes (.mk k s o l) := fun h => by rw [valid, if_pos h]
  have hv2 : nodes (.mk k s o l) = 0 → valid (.mk k s o l) = if 400 < size (.mk k s o l) ∨ 40 < depth (.mk k s o l) then 3 else 0 := fun h => by rw [valid, if_neg (by omega)]
  (repeat' (first | refine EvOps.nil ?_ | (apply R.gOn; exact rfl; exact rfl; exact rfl) | (apply R.gOff; exact rfl; exact rfl; exact rfl) | (apply R.move; exact rfl) | (apply R.assign; exact rfl) | (apply R.pickT; exact rfl; exact rfl) | (apply R.pickF; exact rfl; exact rfl) | (apply R.cmp; exact rfl; exact rfl; exact rfl; all_goals intro hc) | (apply R.load1H T6; exact rfl; exact rfl; exact rfl; exact (by assumption); exact rfl) | refine Ev.seq ?_ | refine Ev.region ?_ | (apply Ev.condB; exact rfl) | refine Ev.ret ?_ | refine Ev.skip ?_ | refine thenQ.normal ?_ | refine thenQ.ret ?_ | (apply bodyQ.ret; exact rfl) | fail))
  · exact ⟨_, rfl, by rw [hv (by assumption)]; rfl⟩
  · have h0 : nodes (.mk k s o l) = 0 := by omega
    obtain ⟨e7, e8⟩ := e6 h0
    exact ⟨_, rfl, by rw [hv2 h0, if_pos (by omega)]; rfl⟩
  · have h0 : nodes (.mk k s o l) = 0 := by omega
    obtain ⟨e7, e8⟩ := e6 h0
    exact ⟨_, rfl, by rw [hv2 h0, if_pos (by omega)]; rfl⟩
  · have h0 : nodes (.mk k s o l) = 0 := by omega
    obtain ⟨e7, e8⟩ := e6 h0
    exact ⟨_, rfl, by rw [hv2 h0, if_neg (by omega)]; rfl⟩

end Go.Pm
end

/-
  CHAPTER 6, PART 17: the program's collect and Of. Conditions: none.
-/
section
set_option linter.unusedVariables false
set_option linter.unusedSimpArgs false
set_option linter.unusedVariables false
set_option linter.unusedSimpArgs false
set_option maxRecDepth 4000
set_option maxHeartbeats 4000000
namespace Go.Pm
open Go.Proofs
attribute [local irreducible] thenQ blockQ loopQ bodyQ Ev EvOps CallEv FnEv EvD

theorem LP.take {H : AHeap} {v : PV} {sz : Nat} {es : List PV} {r : PV} {h' : AHeap} (a : LP H v sz es r h') {N : Nat} (hN : H.length ≤ N) (hr : belowA N r = true) : LP H v sz es r (h'.take N) := by
  refine ⟨?_, a.hv.take N, by have := a.len; simp; omega, fun j hj hne => by rw [List.getElem?_take_of_lt (by omega)]; exact a.fr j hj hne, a.ref⟩
  rcases a.out with ⟨rfl, e⟩ | ⟨id, ep, rfl, e⟩
  · exact .inl ⟨rfl, e⟩
  · have : id < N := by simpa [belowA, below1] using hr
    exact .inr ⟨id, ep, rfl, by rw [List.getElem?_take_of_lt this]; exact e⟩
theorem LP.start {H X : AHeap} {v : PV} {sz : Nat} {es : List PV} (o : Out sz H v es) (hH : HV H) (hX : HV X) : LP H v sz es v (H ++ X) :=
  ⟨o.app X, hH.app hX, by simp, fun j hj _ => List.getElem?_append_left hj, fun j ep n hh => .inl ⟨ep, n, hh⟩⟩
theorem LP.trans {H Hc X K : AHeap} {v vc rv : PV} {sz : Nat} {es es' : List PV} (a : LP H v sz es vc Hc) (b : LP (Hc ++ X) vc sz es' rv K) : LP H v sz es' rv K := by
  have h1 := a.len
  have h2 := b.len
  simp at h2
  refine ⟨b.out, b.hv, by omega, fun j hj hne => ?_, fun j ep n hh => ?_⟩
  · rw [b.fr j (by simp; omega) (fun ep n hh => ?_), List.getElem?_append_left (by omega), a.fr j hj hne]
    rcases a.ref j ep n hh with ⟨ep', n', h3⟩ | h3
    · exact hne ep' n' h3
    · omega
  · rcases b.ref j ep n hh with ⟨ep', n', h3⟩ | h3
    · exact a.ref j ep' n' h3
    · simp at h3; exact .inr (by omega)

def CollP (H : AHeap) (v : PV) (a : List Pw) (t : Tm) (n : Int) (r : PV) (h' : AHeap) : Prop :=
  if arity t = true then ∃ rv, r = .tup [rv, .bool true] ∧ LP H v 5 (encPs (coll a t n)) rv h' else r = .tup [.snap true [], .bool false] ∧ HV h'

theorem collect_ev (k s o l) (hb : bulk (.mk k s o l) < 1000000000)
    (ih : ∀ t ∈ l, ∀ (H : AHeap) (v : PV) (a : List Pw) (n : Int), HV H → Out 5 H v (encPs a) → CI a (size t) → (n = 1 ∨ n = -1) → FnEv C 70 [v, enc t, .int .i64 n] H (CollP H v a t n))
    (H : AHeap) (v : PV) (a : List Pw) (n : Int) (hH : HV H) (ho : Out 5 H v (encPs a)) (hc : CI a (size (.mk k s o l))) (hn : n = 1 ∨ n = -1) :
    FnEv C 70 [v, enc (.mk k s o l), .int .i64 n] H (CollP H v a (.mk k s o l) n) := by
  have hsf := symbol_fun k s o l
  have hsz := size_bulk (.mk k s o l)
  have hszs := sizes_bulk l
  have hlen := len_bulks l
  have hel := encs_len l
  have hbl : bulks l < 1000000000 := by simp only [bulk] at hb; omega
  have hci := hc
  have okP : arity (.mk k s o l) = true → ∀ rv h', LP H v 5 (encPs (coll a (.mk k s o l) n)) rv h' → CollP H v a (.mk k s o l) n (.tup [rv, .bool true]) h' := fun h rv h' hh => by
    unfold CollP; rw [if_pos h]; exact ⟨rv, rfl, hh⟩
  have noP : arity (.mk k s o l) = false → ∀ h', HV h' → CollP H v a (.mk k s o l) n (.tup [.snap true [], .bool false]) h' := fun h h' hh => by
    unfold CollP; rw [if_neg (by rw [h]; simp)]; exact ⟨rfl, hh⟩
  generalize CollP H v a (.mk k s o l) n = PP at okP noP ⊢
  refine FnEv.bodyL Tryz.func70 rfl ?_
  rw [enc_mk] at hsf ⊢
  (repeat' (first | refine EvOps.nil ?_ | (apply R.assign; exact rfl) | (apply R.boxN; exact rfl; exact rfl; exact rfl) | (apply R.loadAN T6; exact rfl; exact rfl; exact rfl; exact (by repeat constructor)) | refine Ev.seq ?_ | refine Ev.region ?_ | refine thenQ.normal ?_ | fail))
  obtain ⟨H1, hH1⟩ : ∃ x, x = H ++ [⟨.m, 0, 4, [.agg [.int .i64 k, .str s, .int .i64 o, .snap false (encs l)]]⟩] := ⟨_, rfl⟩
  have lp1 : LP H v 5 (encPs a) v H1 := by rw [hH1]; exact LP.start ho hH (HV.one rfl)
  have b1 : H1[H.length]? = some ⟨.m, 0, 4, [.agg [.int .i64 k, .str s, .int .i64 o, .snap false (encs l)]]⟩ := by rw [hH1]; simp
  have g1 : H1.length = H.length + 1 := by rw [hH1]; simp
  refine EvOps.heap hH1.symm ?_
  skip
  refine R.call rfl rfl (CallEv.pure rfl (by simp [isVals, isVal]) (by simpa [nrms, nrm, nrms_encs] using hsf) ?_)
  cases hsp : special (.mk k s o l)
  · have har : arity (.mk k s o l) = true := arity_plain hsp
    have hco : coll a (.mk k s o l) n = insP (.mk k s o l) n a := coll_plain hsp a n
    have hin := insert_ev a (.mk k s o l) n H1 v lp1.hv lp1.out hci.srt (hci.Sm (by omega)) hb (hci.Bd (by omega)) (by omega)
    rw [encP_mk] at hin
    rw [hco] at okP
    have lp0 : LP H v 5 (encPs a) v H := by simpa using LP.start (X := []) ho hH HV.nil
    (repeat' (first | refine EvOps.nil ?_ | (apply R.move; exact rfl) | (apply R.build T6; exact rfl; exact rfl; exact rfl; exact rfl; exact rfl; exact rfl) | (apply R.not; exact rfl; exact rfl) | (apply R.loadAH T6; exact rfl; exact rfl; exact rfl; exact (by assumption); exact (by repeat constructor)) | refine Ev.seq ?_ | refine Ev.region ?_ | (apply Ev.condB; exact rfl) | refine thenQ.normal ?_ | fail))
    refine R.call rfl rfl (CallEv.openedV rfl rfl rfl rfl hin ?_)
    intro r kk hr
    refine ⟨hr.hv, fun hb => ?_, fun hb => ?_⟩
    · have hA : belowA H1.length r = true := by
        rcases hr.out with ⟨rfl, _⟩ | ⟨id, ep, rfl, _⟩
        · rfl
        · exact hb
      have := hr.take (Nat.le_refl _) hA
      rw [hH1] at this
      rw [hH1]
      have := lp0.trans this
      (repeat' (first | refine EvOps.nil ?_ | (apply R.assign; exact rfl) | refine Ev.ret ?_ | refine thenQ.normal ?_ | refine thenQ.ret ?_ | (apply bodyQ.ret; exact rfl) | fail))
      exact okP har _ _ this
    · rw [hH1] at hr
      have := lp0.trans hr
      (repeat' (first | refine EvOps.nil ?_ | (apply R.assign; exact rfl) | refine Ev.ret ?_ | refine thenQ.normal ?_ | refine thenQ.ret ?_ | (apply bodyQ.ret; exact rfl) | fail))
      exact okP har _ _ this
  · have hun : arity (.mk k s o l) = if (s.toList = nmMul ∧ l.length < 2) ∨ (s.toList = nmInv ∧ l.length ≠ 1) ∨ (s.toList = nmOne ∧ l.length ≠ 0) then false else arities l := by
      rw [arity, if_neg (by rw [hsp]; simp)]
    have h0 : coll a (.mk k s o l) n = colls a l (if s.toList = nmInv then -n else n) := by rw [coll, if_neg (by rw [hsp]; simp)]
    rw [← cMul_l, ← cInv_l, ← cOne_l] at hun
    obtain ⟨hk, hnm⟩ := names hsp
    generalize coll a (.mk k s o l) n = R0 at h0 okP
    rcases hnm with ⟨n1, n2, n3⟩ | ⟨n1, n2, n3⟩ | ⟨n1, n2, n3⟩ <;> (repeat' (first | refine EvOps.nil ?_ | (apply R.gOn; exact rfl; exact rfl; exact rfl) | (apply R.gOff; exact rfl; exact rfl; exact rfl) | (apply R.move; exact rfl) | (apply R.assign; exact rfl) | (apply R.pickT; exact rfl; exact rfl) | (apply R.pickF; exact rfl; exact rfl) | (apply R.fieldAddr T6; exact rfl; exact rfl; exact rfl; exact rfl) | (apply R.cmp; exact rfl; exact rfl; exact rfl; all_goals intro hc) | (apply R.neg; exact rfl; exact (wrapI (by omega) (by omega))) | (apply R.streqT; exact rfl; exact rfl; exact (by assumption)) | (apply R.streqF; exact rfl; exact rfl; exact (by assumption)) | (apply R.not; exact rfl; exact rfl) | (apply R.lenS T6; exact rfl; exact rfl) | (apply R.load1H T6; exact rfl; exact rfl; exact rfl; exact (by assumption); exact rfl) | refine Ev.seq ?_ | refine Ev.region ?_ | (apply Ev.condB; exact rfl) | refine Ev.ret ?_ | refine Ev.skip ?_ | refine Ev.block ?_ | refine thenQ.normal ?_ | refine thenQ.ret ?_ | refine blockQ.normal ?_ | refine blockQ.ret ?_ | (apply bodyQ.ret; exact rfl) | fail))
    all_goals try (
      have har : arity (.mk k s o l) = false := by
        rw [hun, if_pos]; first | exact .inl ⟨n1, by omega⟩ | exact .inr (.inl ⟨n2, by omega⟩) | exact .inr (.inr ⟨n3, by omega⟩)
      exact noP har _ lp1.hv)
    all_goals (
      have har : arity (.mk k s o l) = arities l := by
        rw [hun, if_neg]
        rintro (⟨a, b⟩ | ⟨a, b⟩ | ⟨a, b⟩) <;> first | omega | contradiction
      obtain ⟨n', hn'e, hn', hco⟩ : ∃ n', n' = (if s.toList = nmInv then -n else n) ∧ (n' = 1 ∨ n' = -1) ∧ R0 = colls a l n' := ⟨_, rfl, by split <;> omega, h0⟩
      first
        | rw [if_neg (by rw [← cInv_l]; exact n2)] at hn'e
        | (rw [if_pos (by rw [← cInv_l]; exact n2)] at hn'e; rw [← Int.zero_sub] at hn'e)
      rw [← hn'e]
      refine Ev.loop (I := fun k' st => ∃ (i : Nat) (Hc : AHeap) (vc : PV) (acc : List Pw) (ρ' : Nat → PV), st = ⟨al [(0, vc), (2, .int .i64 n'), (52, .snap false (encs l)), (53, .int .i64 (encs l).length), (54, .int .i64 i)] ρ', Hc⟩ ∧ k' + i = l.length ∧ LP H v 5 (encPs acc) vc Hc ∧ CI acc (sizes (l.drop i)) ∧ R0 = colls acc (l.drop i) n' ∧ arities l = arities (l.drop i)) l.length ?_ ?_
      · exact ⟨0, H1, v, a, _, St.keep ⟨rfl, rfl, rfl, rfl, rfl, trivial⟩, rfl, lp1, hci.le (by simp only [size, List.drop_zero]; omega), hco, rfl⟩
      · clear hn'e h0 hco hsf hun
        rintro k' _ ⟨i, Hc, vc, acc, ρ', rfl, hki, lp, hci, hb', ha'⟩
        (repeat' (first | refine EvOps.nil ?_ | (apply R.move; exact rfl) | (apply R.assign; exact rfl) | (apply R.cmp; exact rfl; exact rfl; exact rfl; all_goals intro hc) | refine Ev.seq ?_ | refine Ev.region ?_ | (apply Ev.condB; exact rfl) | refine Ev.ret ?_ | refine Ev.skip ?_ | refine Ev.exit ?_ | refine Ev.block ?_ | refine thenQ.normal ?_ | refine thenQ.exit ?_ | refine blockQ.hit ?_ | refine loopQ.exit ?_ | (apply bodyQ.ret; exact rfl) | fail))
        · obtain ⟨k1, s1, o1, l1, hmem, hat, hd, hil, _⟩ := encs_at' hc
          refine R.indexS T6 rfl rfl rfl rfl hat rfl rfl ?_
          rw [hd, sizes] at hci
          rw [hd, colls] at hb'
          rw [hd, arities] at ha'
          have hdr := sizes_bulk (l.drop (i + 1))
          have hbm := bulk_mem hmem
          have hci' := hci.coll (n := n') (by omega) hn'
          have hih := ih _ hmem (Hc ++ [⟨.m, 0, 4, [.agg [.int .i64 k1, .str s1, .int .i64 o1, .snap false (encs l1)]]⟩]) vc acc n' (lp.hv.app (HV.one rfl)) (lp.out.app _) (hci.le (by omega)) hn'
          rw [enc_mk] at hih
          (repeat' (first | refine EvOps.nil ?_ | (apply R.move; exact rfl) | (apply R.loadA T6; exact rfl; exact rfl; exact rfl; exact rfl; exact (by repeat constructor)) | (apply R.allocN T6; exact rfl; exact rfl; exact rfl) | (apply R.storeN T6; exact rfl; exact rfl; exact rfl; exact rfl; exact rfl; exact rfl) | (apply R.loadAN T6; exact rfl; exact rfl; exact rfl; exact (by repeat constructor)) | refine Ev.seq ?_ | refine Ev.region ?_ | refine thenQ.normal ?_ | fail))
          refine R.call rfl rfl (CallEv.openedV rfl rfl rfl rfl hih ?_)
          intro r kk hr
          unfold CollP at hr
          split at hr
          · rename_i har1
            obtain ⟨rv, rfl, hr⟩ := hr
            rw [if_neg (by rw [har1]; simp)] at ha'
            refine ⟨hr.hv, fun hb => ?_, fun hb => ?_⟩
            · have hA : belowA (Hc ++ [(⟨.m, 0, 4, [.agg [.int .i64 k1, .str s1, .int .i64 o1, .snap false (encs l1)]]⟩ : AObj)]).length rv = true := by
                simp only [belowR, List.all_cons, Bool.and_eq_true] at hb; exact hb.1
              have lp2 := lp.trans (hr.take (Nat.le_refl _) hA)
              (repeat' (first | refine EvOps.nil ?_ | (apply R.move; exact rfl) | (apply R.assign; exact rfl) | (apply R.arith; exact rfl; exact rfl; exact rfl; exact (wrapI (by omega) (by omega))) | (apply R.not; exact rfl; exact rfl) | (apply R.extract; exact rfl; exact rfl) | refine Ev.seq ?_ | refine Ev.region ?_ | (apply Ev.condB; exact rfl) | refine Ev.skip ?_ | refine thenQ.normal ?_ | refine blockQ.normal ?_ | refine loopQ.normal ?_ | fail))
              exact ⟨k' - 1, by omega, i + 1, _, rv, _, _, St.keep ⟨rfl, rfl, rfl, rfl, rfl, trivial⟩, by omega, lp2, hci', hb', ha'⟩
            · have lp2 := lp.trans hr
              (repeat' (first | refine EvOps.nil ?_ | (apply R.move; exact rfl) | (apply R.assign; exact rfl) | (apply R.arith; exact rfl; exact rfl; exact rfl; exact (wrapI (by omega) (by omega))) | (apply R.not; exact rfl; exact rfl) | (apply R.extract; exact rfl; exact rfl) | refine Ev.seq ?_ | refine Ev.region ?_ | (apply Ev.condB; exact rfl) | refine Ev.skip ?_ | refine thenQ.normal ?_ | refine blockQ.normal ?_ | refine loopQ.normal ?_ | fail))
              exact ⟨k' - 1, by omega, i + 1, _, rv, _, _, St.keep ⟨rfl, rfl, rfl, rfl, rfl, trivial⟩, by omega, lp2, hci', hb', ha'⟩
          · rename_i har1
            obtain ⟨rfl, hr⟩ := hr
            rw [if_pos (by simpa using har1)] at ha'
            refine ⟨hr, fun hb => ?_, fun hb => Bool.noConfusion hb⟩
            (repeat' (first | refine EvOps.nil ?_ | (apply R.move; exact rfl) | (apply R.assign; exact rfl) | (apply R.not; exact rfl; exact rfl) | (apply R.extract; exact rfl; exact rfl) | refine Ev.seq ?_ | refine Ev.region ?_ | (apply Ev.condB; exact rfl) | refine Ev.ret ?_ | refine thenQ.normal ?_ | refine thenQ.ret ?_ | refine blockQ.ret ?_ | refine loopQ.ret ?_ | (apply bodyQ.ret; exact rfl) | fail))
            exact noP (by rw [har, ha']) _ (hr.take _)
        · rw [encs_end hc] at ha' hb'
          rw [hb', colls] at okP
          exact okP (by rw [har, ha', arities]) _ _ lp)
theorem collect_fun (t : Tm) (hb : bulk t < 1000000000) : ∀ (H : AHeap) (v : PV) (a : List Pw) (n : Int), HV H → Out 5 H v (encPs a) → CI a (size t) → (n = 1 ∨ n = -1) → FnEv C 70 [v, enc t, .int .i64 n] H (CollP H v a t n) := by
  induction t using Tm.ind with
  | h k s o l ih => exact collect_ev k s o l hb (fun t ht => ih t ht (by have := bulk_mem ht; simp only [bulk] at hb; omega))

end Go.Pm
end

/-
  CHAPTER 6, PART 18: the program's Of. Conditions: none.
-/
section
set_option linter.unusedVariables false
set_option linter.unusedSimpArgs false
set_option linter.unusedVariables false
set_option linter.unusedSimpArgs false
set_option maxRecDepth 4000
set_option maxHeartbeats 4000000
namespace Go.Pm
open Go.Proofs
attribute [local irreducible] thenQ blockQ loopQ bodyQ Ev EvOps CallEv FnEv EvD

theorem Out.rbA {sz : Nat} {h : AHeap} {v : PV} {es : List PV} (o : Out sz h v es) (hv : isVals es = true) : ∃ r1, rbA h v = some r1 ∧ nrm r1 = .snap false (nrms es) := by
  rcases o with ⟨rfl, rfl⟩ | ⟨id, ep, rfl, e2⟩
  · exact ⟨_, rfl, rfl⟩
  · exact ⟨.snap false es, by simp [Pm.rbA, rb1, getM, e2, hv], by simp [nrm]⟩
theorem R.lenOut {C : Cfg} (T : Tab C.P) {ops : Array Oper} {d : Nat} {ty : TypeId} {pos : String} {af : Array Edge} {r : List Oper} {ρ : Nat → PV} {L : List (Nat × PV)} {h : AHeap} {Q : St → Prop} {t el : TypeId} {x : Operand} {v : PV} {es : List PV} {sz : Nat}
    (hx : evL L x = some v) (hk : T.kd t = some (.sl el)) (o : Out sz h v es) (k : EvOps C ops r ⟨al ((d, (.int .i64 es.length)) :: L) ρ, h⟩ Q) :
    EvOps C ops (⟨some d, .call ⟨.builtin .len, #[x], #[t]⟩, ty, pos, af, none⟩ :: r) ⟨al L ρ, h⟩ Q := by
  rcases o with ⟨rfl, rfl⟩ | ⟨id, ep, rfl, e2⟩
  · exact R.lenS T (xs := []) (ts := []) hx hk k
  · exact R.lenM T (xs := []) (ts := []) (o := ⟨.m, ep, sz, es⟩) hx hk (getM_at e2 rfl (by simp)) (by show 0 + es.length ≤ es.length; omega) k

theorem of_fun (t : Tm) (hb : bulk t < 100000000) : Fun C 28 [enc t] (.tup [.snap false (encPs (ofT t).1), .int .i64 (ofT t).2]) := by
  have h1 := valid_fun t hb
  have hco := collect_fun t (by omega)
  have hcn : valid t = 0 → CI [] (size t) := fun hv => CI.nil.le (by have := (valid_zero.1 hv).2.1; omega)
  have hl : valid t = 0 → (encPs (coll [] t 1)).length < 1000000000 := fun hv => by
    have := coll_len t [] 1
    have := (valid_zero.1 hv).2.1
    rw [encPs_len]; simp at *; omega
  have hel := encPs_len (coll [] t 1)
  have r1 : valid t ≠ 0 → ofT t = ([], valid t) := fun h => by rw [ofT, if_pos h]
  have r2 : valid t = 0 → arity t = false → ofT t = ([], 6) := fun h h' => by rw [ofT, if_neg (by omega), if_pos h']
  have r3 : valid t = 0 → arity t = true → 200 < (coll [] t 1).length → ofT t = ([], 3) := fun h h' h2 => by rw [ofT, if_neg (by omega), if_neg (by rw [h']; simp), if_pos h2]
  have r4 : valid t = 0 → arity t = true → ¬ 200 < (coll [] t 1).length → ofT t = (coll [] t 1, 0) := fun h h' h2 => by rw [ofT, if_neg (by omega), if_neg (by rw [h']; simp), if_neg h2]
  obtain ⟨k, s, o, l⟩ := t
  refine Fun.of (FnEv.bodyL Tryz.func28 rfl ?_)
  rw [enc_mk] at h1 hco ⊢
  (repeat' (first | refine EvOps.nil ?_ | (apply R.assign; exact rfl) | (apply R.loadA T6; exact rfl; exact rfl; exact rfl; exact rfl; exact (by repeat constructor)) | (apply R.box; exact rfl; exact rfl; exact rfl; exact .nil) | refine Ev.seq ?_ | refine Ev.region ?_ | refine thenQ.normal ?_ | fail))
  refine R.call rfl rfl (CallEv.pure rfl (by simp [isVals, isVal]) (by simpa [nrms, nrm, nrms_encs] using h1) ?_)
  (repeat' (first | refine EvOps.nil ?_ | (apply R.move; exact rfl) | (apply R.assign; exact rfl) | (apply R.loadA T6; exact rfl; exact rfl; exact rfl; exact rfl; exact (by repeat constructor)) | (apply R.cmp; exact rfl; exact rfl; exact rfl; all_goals intro hc) | refine Ev.seq ?_ | refine Ev.region ?_ | (apply Ev.condB; exact rfl) | refine Ev.ret ?_ | refine Ev.skip ?_ | refine thenQ.normal ?_ | refine thenQ.ret ?_ | (apply bodyQ.ret; exact rfl) | fail))
  · refine ⟨_, rfl, ?_⟩
    rw [r1 (by assumption)]; rfl
  · have h0 := Decidable.not_not.1 hc
    clear hc
    have hl := hl h0
    refine R.call rfl rfl (CallEv.openedV rfl rfl rfl rfl (hco [⟨.m, 0, 4, [.agg [.int .i64 k, .str s, .int .i64 o, .snap false (encs l)]]⟩] (.snap true []) [] 1 (HV.one rfl) (Out.nil _ _) (hcn h0) (.inl rfl)) ?_)
    intro r kk hr
    unfold CollP at hr
    split at hr
    · rename_i har
      obtain ⟨rv, rfl, hr⟩ := hr
      have fin : ∀ K : AHeap, LP [⟨.m, 0, 4, [.agg [.int .i64 k, .str s, .int .i64 o, .snap false (encs l)]]⟩] (.snap true []) 5 (encPs (coll [] (.mk k s o l) 1)) rv K → ¬ 200 < (coll [] (.mk k s o l) 1).length → ∃ r1, rb K (tupOf [rv, .int .i64 0]) = some r1 ∧ nrm r1 = PV.tup [PV.snap false (encPs (ofT (.mk k s o l)).1), PV.int .i64 (ofT (.mk k s o l)).2] := by
        intro K hK h200
        obtain ⟨r1, e1, e2⟩ := hK.out.rbA (encPs_vals _)
        refine ⟨.tup [r1, .int .i64 0], ?_, ?_⟩
        · simp only [tupOf, rb, rbAs, e1]; rfl
        · rw [r4 h0 har h200]
          simp only [nrm, nrms, e2, nrms_encPs]
      refine ⟨hr.hv, fun hb => ?_, fun hb => ?_⟩
      · have hA : belowA [(⟨.m, 0, 4, [.agg [.int .i64 k, .str s, .int .i64 o, .snap false (encs l)]]⟩ : AObj)].length rv = true := by
          simp only [belowR, List.all_cons, Bool.and_eq_true] at hb; exact hb.1
        have hr := hr.take (Nat.le_refl _) hA
        (repeat' (first | refine EvOps.nil ?_ | (apply R.move; exact rfl) | (apply R.assign; exact rfl) | (apply R.not; exact rfl; exact rfl) | (apply R.extract; exact rfl; exact rfl) | refine Ev.seq ?_ | refine Ev.region ?_ | (apply Ev.condB; exact rfl) | refine Ev.block ?_ | refine thenQ.normal ?_ | fail))
        refine R.lenOut T6 rfl rfl hr.out ?_
        (repeat' (first | refine EvOps.nil ?_ | (apply R.move; exact rfl) | (apply R.assign; exact rfl) | (apply R.cmp; exact rfl; exact rfl; exact rfl; all_goals intro hc) | refine Ev.seq ?_ | refine Ev.region ?_ | (apply Ev.condB; exact rfl) | refine Ev.ret ?_ | refine Ev.skip ?_ | refine thenQ.normal ?_ | refine thenQ.ret ?_ | refine blockQ.normal ?_ | refine blockQ.ret ?_ | (apply bodyQ.ret; exact rfl) | fail))
        · refine ⟨_, rfl, ?_⟩
          rw [r3 h0 har (by omega)]; rfl
        · exact fin _ hr (by omega)
      · (repeat' (first | refine EvOps.nil ?_ | (apply R.move; exact rfl) | (apply R.assign; exact rfl) | (apply R.not; exact rfl; exact rfl) | (apply R.extract; exact rfl; exact rfl) | refine Ev.seq ?_ | refine Ev.region ?_ | (apply Ev.condB; exact rfl) | refine Ev.block ?_ | refine thenQ.normal ?_ | fail))
        refine R.lenOut T6 rfl rfl hr.out ?_
        (repeat' (first | refine EvOps.nil ?_ | (apply R.move; exact rfl) | (apply R.assign; exact rfl) | (apply R.cmp; exact rfl; exact rfl; exact rfl; all_goals intro hc) | refine Ev.seq ?_ | refine Ev.region ?_ | (apply Ev.condB; exact rfl) | refine Ev.ret ?_ | refine Ev.skip ?_ | refine thenQ.normal ?_ | refine thenQ.ret ?_ | refine blockQ.normal ?_ | refine blockQ.ret ?_ | (apply bodyQ.ret; exact rfl) | fail))
        · refine ⟨_, rfl, ?_⟩
          rw [r3 h0 har (by omega)]; rfl
        · exact fin _ hr (by omega)
    · rename_i har
      obtain ⟨rfl, hr⟩ := hr
      refine ⟨hr, fun hb => ?_, fun hb => Bool.noConfusion hb⟩
      (repeat' (first | refine EvOps.nil ?_ | (apply R.move; exact rfl) | (apply R.assign; exact rfl) | (apply R.not; exact rfl; exact rfl) | (apply R.extract; exact rfl; exact rfl) | refine Ev.seq ?_ | refine Ev.region ?_ | (apply Ev.condB; exact rfl) | refine Ev.ret ?_ | refine Ev.block ?_ | refine thenQ.normal ?_ | refine thenQ.ret ?_ | refine blockQ.ret ?_ | (apply bodyQ.ret; exact rfl) | fail))
      refine ⟨_, rfl, ?_⟩
      rw [r2 h0 (by simpa using har)]; rfl

end Go.Pm
end
