/-
  A part of the library Pm and its contracts (joined by program): PmColl PmOf PmPVal PmCat PmTm PmTm2 PmSame. Conditions: none.
-/
import Derived.Test.YtejhjciockgicaaPzAE
/-
  CHAPTER 6, PART 17: the program's collect and Of. Conditions: none.
-/
section
set_option linter.unusedVariables false
set_option linter.unusedSimpArgs false
set_option linter.unusedVariables false
set_option linter.unusedSimpArgs false
set_option maxRecDepth 4000
set_option maxHeartbeats 4000000
namespace Go.Pm
open Go.Proofs
attribute [local irreducible] thenQ blockQ loopQ bodyQ Ev EvOps CallEv FnEv EvD

theorem LP.take {H : AHeap} {v : PV} {sz : Nat} {es : List PV} {r : PV} {h' : AHeap} (a : LP H v sz es r h') {N : Nat} (hN : H.length ≤ N) (hr : belowA N r = true) : LP H v sz es r (h'.take N) := by
  refine ⟨?_, a.hv.take N, by have := a.len; simp; omega, fun j hj hne => by rw [List.getElem?_take_of_lt (by omega)]; exact a.fr j hj hne, a.ref⟩
  rcases a.out with ⟨rfl, e⟩ | ⟨id, ep, rfl, e⟩
  · exact .inl ⟨rfl, e⟩
  · have : id < N := by simpa [belowA, below1] using hr
    exact .inr ⟨id, ep, rfl, by rw [List.getElem?_take_of_lt this]; exact e⟩
theorem LP.start {H X : AHeap} {v : PV} {sz : Nat} {es : List PV} (o : Out sz H v es) (hH : HV H) (hX : HV X) : LP H v sz es v (H ++ X) :=
  ⟨o.app X, hH.app hX, by simp, fun j hj _ => List.getElem?_append_left hj, fun j ep n hh => .inl ⟨ep, n, hh⟩⟩
theorem LP.trans {H Hc X K : AHeap} {v vc rv : PV} {sz : Nat} {es es' : List PV} (a : LP H v sz es vc Hc) (b : LP (Hc ++ X) vc sz es' rv K) : LP H v sz es' rv K := by
  have h1 := a.len
  have h2 := b.len
  simp at h2
  refine ⟨b.out, b.hv, by omega, fun j hj hne => ?_, fun j ep n hh => ?_⟩
  · rw [b.fr j (by simp; omega) (fun ep n hh => ?_), List.getElem?_append_left (by omega), a.fr j hj hne]
    rcases a.ref j ep n hh with ⟨ep', n', h3⟩ | h3
    · exact hne ep' n' h3
    · omega
  · rcases b.ref j ep n hh with ⟨ep', n', h3⟩ | h3
    · exact a.ref j ep' n' h3
    · simp at h3; exact .inr (by omega)

def CollP (H : AHeap) (v : PV) (a : List Pw) (t : Tm) (n : Int) (r : PV) (h' : AHeap) : Prop :=
  if arity t = true then ∃ rv, r = .tup [rv, .bool true] ∧ LP H v 5 (encPs (coll a t n)) rv h' else r = .tup [.snap true [], .bool false] ∧ HV h'

theorem collect_ev (k s o l) (hb : bulk (.mk k s o l) < 1000000000)
    (ih : ∀ t ∈ l, ∀ (H : AHeap) (v : PV) (a : List Pw) (n : Int), HV H → Out 5 H v (encPs a) → CI a (size t) → (n = 1 ∨ n = -1) → FnEv C 29 [v, enc t, .int .i64 n] H (CollP H v a t n))
    (H : AHeap) (v : PV) (a : List Pw) (n : Int) (hH : HV H) (ho : Out 5 H v (encPs a)) (hc : CI a (size (.mk k s o l))) (hn : n = 1 ∨ n = -1) :
    FnEv C 29 [v, enc (.mk k s o l), .int .i64 n] H (CollP H v a (.mk k s o l) n) := by
  have hsf := symbol_fun k s o l
  have hsz := size_bulk (.mk k s o l)
  have hszs := sizes_bulk l
  have hlen := len_bulks l
  have hel := encs_len l
  have hbl : bulks l < 1000000000 := by simp only [bulk] at hb; omega
  have hci := hc
  have okP : arity (.mk k s o l) = true → ∀ rv h', LP H v 5 (encPs (coll a (.mk k s o l) n)) rv h' → CollP H v a (.mk k s o l) n (.tup [rv, .bool true]) h' := fun h rv h' hh => by
    unfold CollP; rw [if_pos h]; exact ⟨rv, rfl, hh⟩
  have noP : arity (.mk k s o l) = false → ∀ h', HV h' → CollP H v a (.mk k s o l) n (.tup [.snap true [], .bool false]) h' := fun h h' hh => by
    unfold CollP; rw [if_neg (by rw [h]; simp)]; exact ⟨rfl, hh⟩
  generalize CollP H v a (.mk k s o l) n = PP at okP noP ⊢
  refine FnEv.bodyL Try.func29 rfl ?_
  rw [enc_mk] at hsf ⊢
  (repeat' (first | refine EvOps.nil ?_ | (apply R.assign; exact rfl) | (apply R.boxN; exact rfl; exact rfl; exact rfl) | (apply R.loadAN T6; exact rfl; exact rfl; exact rfl; exact (by repeat constructor)) | refine Ev.seq ?_ | refine Ev.region ?_ | refine thenQ.normal ?_ | fail))
  obtain ⟨H1, hH1⟩ : ∃ x, x = H ++ [⟨.m, 0, 4, [.agg [.int .i64 k, .str s, .int .i64 o, .snap false (encs l)]]⟩] := ⟨_, rfl⟩
  have lp1 : LP H v 5 (encPs a) v H1 := by rw [hH1]; exact LP.start ho hH (HV.one rfl)
  have b1 : H1[H.length]? = some ⟨.m, 0, 4, [.agg [.int .i64 k, .str s, .int .i64 o, .snap false (encs l)]]⟩ := by rw [hH1]; simp
  have g1 : H1.length = H.length + 1 := by rw [hH1]; simp
  refine EvOps.heap hH1.symm ?_
  skip
  refine R.call rfl rfl (CallEv.pure rfl (by simp [isVals, isVal]) (by simpa [nrms, nrm, nrms_encs] using hsf) ?_)
  cases hsp : special (.mk k s o l)
  · have har : arity (.mk k s o l) = true := arity_plain hsp
    have hco : coll a (.mk k s o l) n = insP (.mk k s o l) n a := coll_plain hsp a n
    have hin := insert_ev a (.mk k s o l) n H1 v lp1.hv lp1.out hci.srt (hci.Sm (by omega)) hb (hci.Bd (by omega)) (by omega)
    rw [encP_mk] at hin
    rw [hco] at okP
    have lp0 : LP H v 5 (encPs a) v H := by simpa using LP.start (X := []) ho hH HV.nil
    (repeat' (first | refine EvOps.nil ?_ | (apply R.move; exact rfl) | (apply R.build T6; exact rfl; exact rfl; exact rfl; exact rfl; exact rfl; exact rfl) | (apply R.not; exact rfl; exact rfl) | (apply R.loadAH T6; exact rfl; exact rfl; exact rfl; exact (by assumption); exact (by repeat constructor)) | refine Ev.seq ?_ | refine Ev.region ?_ | (apply Ev.condB; exact rfl) | refine thenQ.normal ?_ | fail))
    refine R.call rfl rfl (CallEv.openedV rfl rfl rfl rfl hin ?_)
    intro r kk hr
    refine ⟨hr.hv, fun hb => ?_, fun hb => ?_⟩
    · have hA : belowA H1.length r = true := by
        rcases hr.out with ⟨rfl, _⟩ | ⟨id, ep, rfl, _⟩
        · rfl
        · exact hb
      have := hr.take (Nat.le_refl _) hA
      rw [hH1] at this
      rw [hH1]
      have := lp0.trans this
      (repeat' (first | refine EvOps.nil ?_ | (apply R.assign; exact rfl) | refine Ev.ret ?_ | refine thenQ.normal ?_ | refine thenQ.ret ?_ | (apply bodyQ.ret; exact rfl) | fail))
      exact okP har _ _ this
    · rw [hH1] at hr
      have := lp0.trans hr
      (repeat' (first | refine EvOps.nil ?_ | (apply R.assign; exact rfl) | refine Ev.ret ?_ | refine thenQ.normal ?_ | refine thenQ.ret ?_ | (apply bodyQ.ret; exact rfl) | fail))
      exact okP har _ _ this
  · have hun : arity (.mk k s o l) = if (s.toList = nmMul ∧ l.length < 2) ∨ (s.toList = nmInv ∧ l.length ≠ 1) ∨ (s.toList = nmOne ∧ l.length ≠ 0) then false else arities l := by
      rw [arity, if_neg (by rw [hsp]; simp)]
    have h0 : coll a (.mk k s o l) n = colls a l (if s.toList = nmInv then -n else n) := by rw [coll, if_neg (by rw [hsp]; simp)]
    rw [← cMul_l, ← cInv_l, ← cOne_l] at hun
    obtain ⟨hk, hnm⟩ := names hsp
    generalize coll a (.mk k s o l) n = R0 at h0 okP
    rcases hnm with ⟨n1, n2, n3⟩ | ⟨n1, n2, n3⟩ | ⟨n1, n2, n3⟩ <;> (repeat' (first | refine EvOps.nil ?_ | (apply R.gOn; exact rfl; exact rfl; exact rfl) | (apply R.gOff; exact rfl; exact rfl; exact rfl) | (apply R.move; exact rfl) | (apply R.assign; exact rfl) | (apply R.pickT; exact rfl; exact rfl) | (apply R.pickF; exact rfl; exact rfl) | (apply R.fieldAddr T6; exact rfl; exact rfl; exact rfl; exact rfl) | (apply R.cmp; exact rfl; exact rfl; exact rfl; all_goals intro hc) | (apply R.neg; exact rfl; exact (wrapI (by omega) (by omega))) | (apply R.streqT; exact rfl; exact rfl; exact (by assumption)) | (apply R.streqF; exact rfl; exact rfl; exact (by assumption)) | (apply R.not; exact rfl; exact rfl) | (apply R.lenS T6; exact rfl; exact rfl) | (apply R.load1H T6; exact rfl; exact rfl; exact rfl; exact (by assumption); exact rfl) | refine Ev.seq ?_ | refine Ev.region ?_ | (apply Ev.condB; exact rfl) | refine Ev.ret ?_ | refine Ev.skip ?_ | refine Ev.block ?_ | refine thenQ.normal ?_ | refine thenQ.ret ?_ | refine blockQ.normal ?_ | refine blockQ.ret ?_ | (apply bodyQ.ret; exact rfl) | fail))
    all_goals try (
      have har : arity (.mk k s o l) = false := by
        rw [hun, if_pos]; first | exact .inl ⟨n1, by omega⟩ | exact .inr (.inl ⟨n2, by omega⟩) | exact .inr (.inr ⟨n3, by omega⟩)
      exact noP har _ lp1.hv)
    all_goals (
      have har : arity (.mk k s o l) = arities l := by
        rw [hun, if_neg]
        rintro (⟨a, b⟩ | ⟨a, b⟩ | ⟨a, b⟩) <;> first | omega | contradiction
      obtain ⟨n', hn'e, hn', hco⟩ : ∃ n', n' = (if s.toList = nmInv then -n else n) ∧ (n' = 1 ∨ n' = -1) ∧ R0 = colls a l n' := ⟨_, rfl, by split <;> omega, h0⟩
      first
        | rw [if_neg (by rw [← cInv_l]; exact n2)] at hn'e
        | (rw [if_pos (by rw [← cInv_l]; exact n2)] at hn'e; rw [← Int.zero_sub] at hn'e)
      rw [← hn'e]
      refine Ev.loop (I := fun k' st => ∃ (i : Nat) (Hc : AHeap) (vc : PV) (acc : List Pw) (ρ' : Nat → PV), st = ⟨al [(0, vc), (2, .int .i64 n'), (52, .snap false (encs l)), (53, .int .i64 (encs l).length), (54, .int .i64 i)] ρ', Hc⟩ ∧ k' + i = l.length ∧ LP H v 5 (encPs acc) vc Hc ∧ CI acc (sizes (l.drop i)) ∧ R0 = colls acc (l.drop i) n' ∧ arities l = arities (l.drop i)) l.length ?_ ?_
      · exact ⟨0, H1, v, a, _, St.keep ⟨rfl, rfl, rfl, rfl, rfl, trivial⟩, rfl, lp1, hci.le (by simp only [size, List.drop_zero]; omega), hco, rfl⟩
      · clear hn'e h0 hco hsf hun
        rintro k' _ ⟨i, Hc, vc, acc, ρ', rfl, hki, lp, hci, hb', ha'⟩
        (repeat' (first | refine EvOps.nil ?_ | (apply R.move; exact rfl) | (apply R.assign; exact rfl) | (apply R.cmp; exact rfl; exact rfl; exact rfl; all_goals intro hc) | refine Ev.seq ?_ | refine Ev.region ?_ | (apply Ev.condB; exact rfl) | refine Ev.ret ?_ | refine Ev.skip ?_ | refine Ev.exit ?_ | refine Ev.block ?_ | refine thenQ.normal ?_ | refine thenQ.exit ?_ | refine blockQ.hit ?_ | refine loopQ.exit ?_ | (apply bodyQ.ret; exact rfl) | fail))
        · obtain ⟨k1, s1, o1, l1, hmem, hat, hd, hil, _⟩ := encs_at' hc
          refine R.indexS T6 rfl rfl rfl rfl hat rfl rfl ?_
          rw [hd, sizes] at hci
          rw [hd, colls] at hb'
          rw [hd, arities] at ha'
          have hdr := sizes_bulk (l.drop (i + 1))
          have hbm := bulk_mem hmem
          have hci' := hci.coll (n := n') (by omega) hn'
          have hih := ih _ hmem (Hc ++ [⟨.m, 0, 4, [.agg [.int .i64 k1, .str s1, .int .i64 o1, .snap false (encs l1)]]⟩]) vc acc n' (lp.hv.app (HV.one rfl)) (lp.out.app _) (hci.le (by omega)) hn'
          rw [enc_mk] at hih
          (repeat' (first | refine EvOps.nil ?_ | (apply R.move; exact rfl) | (apply R.loadA T6; exact rfl; exact rfl; exact rfl; exact rfl; exact (by repeat constructor)) | (apply R.allocN T6; exact rfl; exact rfl; exact rfl) | (apply R.storeN T6; exact rfl; exact rfl; exact rfl; exact rfl; exact rfl; exact rfl) | (apply R.loadAN T6; exact rfl; exact rfl; exact rfl; exact (by repeat constructor)) | refine Ev.seq ?_ | refine Ev.region ?_ | refine thenQ.normal ?_ | fail))
          refine R.call rfl rfl (CallEv.openedV rfl rfl rfl rfl hih ?_)
          intro r kk hr
          unfold CollP at hr
          split at hr
          · rename_i har1
            obtain ⟨rv, rfl, hr⟩ := hr
            rw [if_neg (by rw [har1]; simp)] at ha'
            refine ⟨hr.hv, fun hb => ?_, fun hb => ?_⟩
            · have hA : belowA (Hc ++ [(⟨.m, 0, 4, [.agg [.int .i64 k1, .str s1, .int .i64 o1, .snap false (encs l1)]]⟩ : AObj)]).length rv = true := by
                simp only [belowR, List.all_cons, Bool.and_eq_true] at hb; exact hb.1
              have lp2 := lp.trans (hr.take (Nat.le_refl _) hA)
              (repeat' (first | refine EvOps.nil ?_ | (apply R.move; exact rfl) | (apply R.assign; exact rfl) | (apply R.arith; exact rfl; exact rfl; exact rfl; exact (wrapI (by omega) (by omega))) | (apply R.not; exact rfl; exact rfl) | (apply R.extract; exact rfl; exact rfl) | refine Ev.seq ?_ | refine Ev.region ?_ | (apply Ev.condB; exact rfl) | refine Ev.skip ?_ | refine thenQ.normal ?_ | refine blockQ.normal ?_ | refine loopQ.normal ?_ | fail))
              exact ⟨k' - 1, by omega, i + 1, _, rv, _, _, St.keep ⟨rfl, rfl, rfl, rfl, rfl, trivial⟩, by omega, lp2, hci', hb', ha'⟩
            · have lp2 := lp.trans hr
              (repeat' (first | refine EvOps.nil ?_ | (apply R.move; exact rfl) | (apply R.assign; exact rfl) | (apply R.arith; exact rfl; exact rfl; exact rfl; exact (wrapI (by omega) (by omega))) | (apply R.not; exact rfl; exact rfl) | (apply R.extract; exact rfl; exact rfl) | refine Ev.seq ?_ | refine Ev.region ?_ | (apply Ev.condB; exact rfl) | refine Ev.skip ?_ | refine thenQ.normal ?_ | refine blockQ.normal ?_ | refine loopQ.normal ?_ | fail))
              exact ⟨k' - 1, by omega, i + 1, _, rv, _, _, St.keep ⟨rfl, rfl, rfl, rfl, rfl, trivial⟩, by omega, lp2, hci', hb', ha'⟩
          · rename_i har1
            obtain ⟨rfl, hr⟩ := hr
            rw [if_pos (by simpa using har1)] at ha'
            refine ⟨hr, fun hb => ?_, fun hb => Bool.noConfusion hb⟩
            (repeat' (first | refine EvOps.nil ?_ | (apply R.move; exact rfl) | (apply R.assign; exact rfl) | (apply R.not; exact rfl; exact rfl) | (apply R.extract; exact rfl; exact rfl) | refine Ev.seq ?_ | refine Ev.region ?_ | (apply Ev.condB; exact rfl) | refine Ev.ret ?_ | refine thenQ.normal ?_ | refine thenQ.ret ?_ | refine blockQ.ret ?_ | refine loopQ.ret ?_ | (apply bodyQ.ret; exact rfl) | fail))
            exact noP (by rw [har, ha']) _ (hr.take _)
        · rw [encs_end hc] at ha' hb'
          rw [hb', colls] at okP
          exact okP (by rw [har, ha', arities]) _ _ lp)
theorem collect_fun (t : Tm) (hb : bulk t < 1000000000) : ∀ (H : AHeap) (v : PV) (a : List Pw) (n : Int), HV H → Out 5 H v (encPs a) → CI a (size t) → (n = 1 ∨ n = -1) → FnEv C 29 [v, enc t, .int .i64 n] H (CollP H v a t n) := by
  induction t using Tm.ind with
  | h k s o l ih => exact collect_ev k s o l hb (fun t ht => ih t ht (by have := bulk_mem ht; simp only [bulk] at hb; omega))

end Go.Pm
end

/-
  CHAPTER 6, PART 18: the program's Of. Conditions: none.
-/
section
set_option linter.unusedVariables false
set_option linter.unusedSimpArgs false
set_option linter.unusedVariables false
set_option linter.unusedSimpArgs false
set_option maxRecDepth 4000
set_option maxHeartbeats 4000000
namespace Go.Pm
open Go.Proofs
attribute [local irreducible] thenQ blockQ loopQ bodyQ Ev EvOps CallEv FnEv EvD

theorem Out.rbA {sz : Nat} {h : AHeap} {v : PV} {es : List PV} (o : Out sz h v es) (hv : isVals es = true) : ∃ r1, rbA h v = some r1 ∧ nrm r1 = .snap false (nrms es) := by
  rcases o with ⟨rfl, rfl⟩ | ⟨id, ep, rfl, e2⟩
  · exact ⟨_, rfl, rfl⟩
  · exact ⟨.snap false es, by simp [Pm.rbA, rb1, getM, e2, hv], by simp [nrm]⟩
theorem R.lenOut {C : Cfg} (T : Tab C.P) {ops : Array Oper} {d : Nat} {ty : TypeId} {pos : String} {af : Array Edge} {r : List Oper} {ρ : Nat → PV} {L : List (Nat × PV)} {h : AHeap} {Q : St → Prop} {t el : TypeId} {x : Operand} {v : PV} {es : List PV} {sz : Nat}
    (hx : evL L x = some v) (hk : T.kd t = some (.sl el)) (o : Out sz h v es) (k : EvOps C ops r ⟨al ((d, (.int .i64 es.length)) :: L) ρ, h⟩ Q) :
    EvOps C ops (⟨some d, .call ⟨.builtin .len, #[x], #[t]⟩, ty, pos, af, none⟩ :: r) ⟨al L ρ, h⟩ Q := by
  rcases o with ⟨rfl, rfl⟩ | ⟨id, ep, rfl, e2⟩
  · exact R.lenS T (xs := []) (ts := []) hx hk k
  · exact R.lenM T (xs := []) (ts := []) (o := ⟨.m, ep, sz, es⟩) hx hk (getM_at e2 rfl (by simp)) (by show 0 + es.length ≤ es.length; omega) k

theorem of_fun (t : Tm) (hb : bulk t < 100000000) : Fun C 8 [enc t] (.tup [.snap false (encPs (ofT t).1), .int .i64 (ofT t).2]) := by
  have h1 := valid_fun t hb
  have hco := collect_fun t (by omega)
  have hcn : valid t = 0 → CI [] (size t) := fun hv => CI.nil.le (by have := (valid_zero.1 hv).2.1; omega)
  have hl : valid t = 0 → (encPs (coll [] t 1)).length < 1000000000 := fun hv => by
    have := coll_len t [] 1
    have := (valid_zero.1 hv).2.1
    rw [encPs_len]; simp at *; omega
  have hel := encPs_len (coll [] t 1)
  have r1 : valid t ≠ 0 → ofT t = ([], valid t) := fun h => by rw [ofT, if_pos h]
  have r2 : valid t = 0 → arity t = false → ofT t = ([], 6) := fun h h' => by rw [ofT, if_neg (by omega), if_pos h']
  have r3 : valid t = 0 → arity t = true → 200 < (coll [] t 1).length → ofT t = ([], 3) := fun h h' h2 => by rw [ofT, if_neg (by omega), if_neg (by rw [h']; simp), if_pos h2]
  have r4 : valid t = 0 → arity t = true → ¬ 200 < (coll [] t 1).length → ofT t = (coll [] t 1, 0) := fun h h' h2 => by rw [ofT, if_neg (by omega), if_neg (by rw [h']; simp), if_neg h2]
  obtain ⟨k, s, o, l⟩ := t
  refine Fun.of (FnEv.bodyL Try.func8 rfl ?_)
  rw [enc_mk] at h1 hco ⊢
  (repeat' (first | refine EvOps.nil ?_ | (apply R.assign; exact rfl) | (apply R.loadA T6; exact rfl; exact rfl; exact rfl; exact rfl; exact (by repeat constructor)) | (apply R.box; exact rfl; exact rfl; exact rfl; exact .nil) | refine Ev.seq ?_ | refine Ev.region ?_ | refine thenQ.normal ?_ | fail))
  refine R.call rfl rfl (CallEv.pure rfl (by simp [isVals, isVal]) (by simpa [nrms, nrm, nrms_encs] using h1) ?_)
  (repeat' (first | refine EvOps.nil ?_ | (apply R.move; exact rfl) | (apply R.assign; exact rfl) | (apply R.loadA T6; exact rfl; exact rfl; exact rfl; exact rfl; exact (by repeat constructor)) | (apply R.cmp; exact rfl; exact rfl; exact rfl; all_goals intro hc) | refine Ev.seq ?_ | refine Ev.region ?_ | (apply Ev.condB; exact rfl) | refine Ev.ret ?_ | refine Ev.skip ?_ | refine thenQ.normal ?_ | refine thenQ.ret ?_ | (apply bodyQ.ret; exact rfl) | fail))
  · refine ⟨_, rfl, ?_⟩
    rw [r1 (by assumption)]; rfl
  · have h0 := Decidable.not_not.1 hc
    clear hc
    have hl := hl h0
    refine R.call rfl rfl (CallEv.openedV rfl rfl rfl rfl (hco [⟨.m, 0, 4, [.agg [.int .i64 k, .str s, .int .i64 o, .snap false (encs l)]]⟩] (.snap true []) [] 1 (HV.one rfl) (Out.nil _ _) (hcn h0) (.inl rfl)) ?_)
    intro r kk hr
    unfold CollP at hr
    split at hr
    · rename_i har
      obtain ⟨rv, rfl, hr⟩ := hr
      have fin : ∀ K : AHeap, LP [⟨.m, 0, 4, [.agg [.int .i64 k, .str s, .int .i64 o, .snap false (encs l)]]⟩] (.snap true []) 5 (encPs (coll [] (.mk k s o l) 1)) rv K → ¬ 200 < (coll [] (.mk k s o l) 1).length → ∃ r1, rb K (tupOf [rv, .int .i64 0]) = some r1 ∧ nrm r1 = PV.tup [PV.snap false (encPs (ofT (.mk k s o l)).1), PV.int .i64 (ofT (.mk k s o l)).2] := by
        intro K hK h200
        obtain ⟨r1, e1, e2⟩ := hK.out.rbA (encPs_vals _)
        refine ⟨.tup [r1, .int .i64 0], ?_, ?_⟩
        · simp only [tupOf, rb, rbAs, e1]; rfl
        · rw [r4 h0 har h200]
          simp only [nrm, nrms, e2, nrms_encPs]
      refine ⟨hr.hv, fun hb => ?_, fun hb => ?_⟩
      · have hA : belowA [(⟨.m, 0, 4, [.agg [.int .i64 k, .str s, .int .i64 o, .snap false (encs l)]]⟩ : AObj)].length rv = true := by
          simp only [belowR, List.all_cons, Bool.and_eq_true] at hb; exact hb.1
        have hr := hr.take (Nat.le_refl _) hA
        (repeat' (first | refine EvOps.nil ?_ | (apply R.move; exact rfl) | (apply R.assign; exact rfl) | (apply R.not; exact rfl; exact rfl) | (apply R.extract; exact rfl; exact rfl) | refine Ev.seq ?_ | refine Ev.region ?_ | (apply Ev.condB; exact rfl) | refine Ev.block ?_ | refine thenQ.normal ?_ | fail))
        refine R.lenOut T6 rfl rfl hr.out ?_
        (repeat' (first | refine EvOps.nil ?_ | (apply R.move; exact rfl) | (apply R.assign; exact rfl) | (apply R.cmp; exact rfl; exact rfl; exact rfl; all_goals intro hc) | refine Ev.seq ?_ | refine Ev.region ?_ | (apply Ev.condB; exact rfl) | refine Ev.ret ?_ | refine Ev.skip ?_ | refine thenQ.normal ?_ | refine thenQ.ret ?_ | refine blockQ.normal ?_ | refine blockQ.ret ?_ | (apply bodyQ.ret; exact rfl) | fail))
        · refine ⟨_, rfl, ?_⟩
          rw [r3 h0 har (by omega)]; rfl
        · exact fin _ hr (by omega)
      · (repeat' (first | refine EvOps.nil ?_ | (apply R.move; exact rfl) | (apply R.assign; exact rfl) | (apply R.not; exact rfl; exact rfl) | (apply R.extract; exact rfl; exact rfl) | refine Ev.seq ?_ | refine Ev.region ?_ | (apply Ev.condB; exact rfl) | refine Ev.block ?_ | refine thenQ.normal ?_ | fail))
        refine R.lenOut T6 rfl rfl hr.out ?_
        (repeat' (first | refine EvOps.nil ?_ | (apply R.move; exact rfl) | (apply R.assign; exact rfl) | (apply R.cmp; exact rfl; exact rfl; exact rfl; all_goals intro hc) | refine Ev.seq ?_ | refine Ev.region ?_ | (apply Ev.condB; exact rfl) | refine Ev.ret ?_ | refine Ev.skip ?_ | refine thenQ.normal ?_ | refine thenQ.ret ?_ | refine blockQ.normal ?_ | refine blockQ.ret ?_ | (apply bodyQ.ret; exact rfl) | fail))
        · refine ⟨_, rfl, ?_⟩
          rw [r3 h0 har (by omega)]; rfl
        · exact fin _ hr (by omega)
    · rename_i har
      obtain ⟨rfl, hr⟩ := hr
      refine ⟨hr, fun hb => ?_, fun hb => Bool.noConfusion hb⟩
      (repeat' (first | refine EvOps.nil ?_ | (apply R.move; exact rfl) | (apply R.assign; exact rfl) | (apply R.not; exact rfl; exact rfl) | (apply R.extract; exact rfl; exact rfl) | refine Ev.seq ?_ | refine Ev.region ?_ | (apply Ev.condB; exact rfl) | refine Ev.ret ?_ | refine Ev.block ?_ | refine thenQ.normal ?_ | refine thenQ.ret ?_ | refine blockQ.ret ?_ | (apply bodyQ.ret; exact rfl) | fail))
      refine ⟨_, rfl, ?_⟩
      rw [r2 h0 (by simpa using har)]; rfl

end Go.Pm
end

/-
  CHAPTER 6, PART 19: the program's valid and app. Conditions: none.
-/
section
set_option linter.unusedVariables false
set_option linter.unusedSimpArgs false
set_option linter.unusedVariables false
set_option linter.unusedSimpArgs false
set_option maxRecDepth 4000
set_option maxHeartbeats 4000000
namespace Go.Pm
open Go.Proofs
attribute [local irreducible] thenQ blockQ loopQ bodyQ Ev EvOps CallEv FnEv EvD

def validGo : Option Tm → List Pw → Int
  | _, [] => 0
  | pr, p :: l => if valid p.1 ≠ 0 then valid p.1 else if special p.1 = true then 1 else if p.2 = 0 ∨ p.2 < -1000 ∨ 1000 < p.2 then 7 else
    if (match pr with | some q => decide (0 ≤ cmpT q p.1) | none => false) = true then 5 else validGo (some p.1) l
theorem validGo_cons (pr : Option Tm) (p : Pw) (l : List Pw) : validGo pr (p :: l) = if valid p.1 ≠ 0 then valid p.1 else if special p.1 = true then 1 else if p.2 = 0 ∨ p.2 < -1000 ∨ 1000 < p.2 then 7 else
    if (match pr with | some q => decide (0 ≤ cmpT q p.1) | none => false) = true then 5 else validGo (some p.1) l := by
  cases pr <;> rfl
theorem validGo_nil (pr : Option Tm) : validGo pr [] = 0 := by cases pr <;> rfl
def validP (l : List Pw) : Int := if 200 < l.length then 3 else validGo none l
def prv (l : List Pw) (i : Nat) : Option Tm := match i with | 0 => none | i + 1 => (l[i]?).map (·.1)

set_option maxHeartbeats 8000000 in
theorem pvalid_fun (l : List Pw) (hb : ∀ p ∈ l, bulk p.1 < 100000000) (hl : l.length < 100000000) : Fun C 33 [.snap false (encPs l)] (.int .i64 (validP l)) := by
  have hel := encPs_len l
  have r1 : 200 < l.length → validP l = 3 := fun h => by rw [validP, if_pos h]
  have r2 : ¬ 200 < l.length → validP l = validGo none l := fun h => by rw [validP, if_neg h]
  refine Fun.of (FnEv.bodyL Try.func33 rfl ?_)
  generalize validP l = R0 at r1 r2 ⊢
  (repeat' (first | refine EvOps.nil ?_ | (apply R.move; exact rfl) | (apply R.assign; exact rfl) | (apply R.cmp; exact rfl; exact rfl; exact rfl; all_goals intro hc) | (apply R.lenS T6; exact rfl; exact rfl) | refine Ev.seq ?_ | refine Ev.region ?_ | (apply Ev.condB; exact rfl) | refine Ev.ret ?_ | refine Ev.skip ?_ | refine Ev.block ?_ | refine thenQ.normal ?_ | refine thenQ.ret ?_ | (apply bodyQ.ret; exact rfl) | fail))
  · exact ⟨_, rfl, by rw [r1 (by omega)]; rfl⟩
  · have r2 := r2 (by omega)
    clear r1
    refine Ev.loop (I := fun k' st => ∃ (i : Nat) (J : AHeap) (ρ' : Nat → PV), st = ⟨al [(0, .snap false (encPs l)), (9, .snap false (encPs l)), (10, .int .i64 (encPs l).length), (11, .int .i64 i)] ρ', J⟩ ∧ k' + i = l.length ∧ HV J ∧ R0 = validGo (prv l i) (l.drop i)) l.length ?_ ?_
    · exact ⟨0, [], _, St.keep ⟨rfl, rfl, rfl, rfl, trivial⟩, rfl, HV.nil, r2⟩
    · clear r2
      rintro k' _ ⟨i, J, ρ', rfl, hk, hJ, hb'⟩
      (repeat' (first | refine EvOps.nil ?_ | (apply R.move; exact rfl) | (apply R.assign; exact rfl) | (apply R.cmp; exact rfl; exact rfl; exact rfl; all_goals intro hc) | refine Ev.seq ?_ | refine Ev.region ?_ | (apply Ev.condB; exact rfl) | refine Ev.ret ?_ | refine Ev.skip ?_ | refine Ev.exit ?_ | refine Ev.block ?_ | refine thenQ.normal ?_ | refine thenQ.exit ?_ | refine blockQ.hit ?_ | refine loopQ.exit ?_ | (apply bodyQ.ret; exact rfl) | fail))
      · obtain ⟨k1, s1, o1, l1, n1, hmem, hat, hd, hil, hget⟩ := encPs_at hc
        have hva := valid_fun _ (hb _ hmem)
        have hsy := symbol_fun k1 s1 o1 l1
        rw [hd, validGo_cons] at hb'
        simp only at hva hb'
        rw [enc_mk] at hva hsy
        have hJ2 := hJ.app (HV.one (ep := 0) (n := 5) (es := [.agg [.int .i64 k1, .str s1, .int .i64 o1, .snap false (encs l1), .int .i64 n1]]) rfl)
        have hcl := hJ2.closed
        clear hc
        refine R.indexS T6 rfl rfl rfl rfl hat rfl rfl ?_
        (repeat' (first | refine EvOps.nil ?_ | (apply R.assign; exact rfl) | (apply R.loadA T6; exact rfl; exact rfl; exact rfl; exact rfl; exact (by repeat constructor)) | (apply R.fieldAddr T6; exact rfl; exact rfl; exact rfl; exact rfl) | (apply R.allocN T6; exact rfl; exact rfl; exact rfl) | (apply R.storeN T6; exact rfl; exact rfl; exact rfl; exact rfl; exact rfl; exact rfl) | (apply R.loadAN T6; exact rfl; exact rfl; exact rfl; exact (by repeat constructor)) | refine Ev.seq ?_ | refine Ev.region ?_ | refine thenQ.normal ?_ | fail))
        refine R.call rfl rfl (CallEv.pure rfl (by simp [isVals, isVal]) (by simpa [nrms, nrm, nrms_encs] using hva) ?_)
        (repeat' (first | refine EvOps.nil ?_ | (apply R.move; exact rfl) | (apply R.assign; exact rfl) | (apply R.fieldAddr T6; exact rfl; exact rfl; exact rfl; exact rfl) | (apply R.cmp; exact rfl; exact rfl; exact rfl; all_goals intro hc) | (apply R.loadAN T6; exact rfl; exact rfl; exact rfl; exact (by repeat constructor)) | refine Ev.seq ?_ | refine Ev.region ?_ | (apply Ev.condB; exact rfl) | refine Ev.ret ?_ | refine Ev.skip ?_ | refine Ev.block ?_ | refine thenQ.normal ?_ | refine thenQ.ret ?_ | refine blockQ.ret ?_ | refine loopQ.ret ?_ | (apply bodyQ.ret; exact rfl) | fail))
        · rw [if_pos (by assumption)] at hb'
          exact ⟨_, rfl, by rw [hb']; rfl⟩
        · rw [if_neg (by assumption)] at hb'
          refine R.call rfl rfl (CallEv.pure rfl (by simp [isVals, isVal]) (by simpa [nrms, nrm, nrms_encs] using hsy) ?_)
          cases hsp : special (.mk k1 s1 o1 l1)
          · rw [if_neg (by rw [hsp]; simp)] at hb'
            (repeat' (first | refine EvOps.nil ?_ | (apply R.gOn; exact rfl; exact rfl; exact rfl) | (apply R.gOff; exact rfl; exact rfl; exact rfl) | (apply R.move; exact rfl) | (apply R.assign; exact rfl) | (apply R.pickT; exact rfl; exact rfl) | (apply R.pickF; exact rfl; exact rfl) | (apply R.fieldAddr T6; exact rfl; exact rfl; exact rfl; exact rfl) | (apply R.cmp; exact rfl; exact rfl; exact rfl; all_goals intro hc; all_goals (try (exfalso; omega))) | (apply R.arith; exact rfl; exact rfl; exact rfl; exact (wrapI (by omega) (by omega))) | (apply R.load1No T6; exact rfl; exact rfl; exact rfl; exact rfl) | refine Ev.seq ?_ | refine Ev.region ?_ | refine Ev.regionD ?_ | refine EvD.nil ?_ | (apply D.move; exact rfl) | (apply D.assign; exact rfl) | (apply D.gOn; exact rfl; exact rfl; exact rfl; exact rfl) | (apply D.gOff; exact rfl; exact rfl; exact rfl) | (apply D.pickF; exact rfl; exact rfl) | (apply D.cmp; exact rfl; exact rfl; exact rfl; all_goals intro hc; all_goals (try (exfalso; omega))) | (apply D.arith; exact rfl; exact rfl; exact rfl; exact (wrapI (by omega) (by omega))) | (apply Ev.condB; exact rfl) | refine Ev.ret ?_ | refine Ev.skip ?_ | refine thenQ.normal ?_ | refine thenQ.ret ?_ | refine blockQ.normal ?_ | refine blockQ.ret ?_ | refine loopQ.normal ?_ | refine loopQ.ret ?_ | (apply bodyQ.ret; exact rfl) | fail))
            all_goals try (rw [if_pos (by omega)] at hb'; exact ⟨_, rfl, by rw [hb']; rfl⟩)
            · -- a factor before it
              rw [if_neg (by omega)] at hb'
              obtain ⟨i', rfl⟩ : ∃ i', i = i' + 1 := ⟨i - 1, by omega⟩
              obtain ⟨k2, s2, o2, l2, n2, hmem2, hat2, hd2, hil2, hget2⟩ := encPs_at (l := l) (i := i') (by omega)
              have hcm := tcmp_fun _ _ (by have := hb _ hmem2; simp only at this; omega : bulk (.mk k2 s2 o2 l2) < 1000000000) (by have := hb _ hmem; simp only at this; omega : bulk (.mk k1 s1 o1 l1) < 1000000000)
              rw [enc_mk, enc_mk] at hcm
              have hpr : prv l (i' + 1) = some (.mk k2 s2 o2 l2) := by simp only [prv, hget2]; rfl
              rw [hpr] at hb'
              simp only at hb'
              refine D.indexS T6 (by assumption) rfl (congrArg (fun z => some (PV.int .i64 z)) (show ((i' + 1 : Nat) : Int) - 1 = (i' : Int) by omega)) rfl rfl hat2 rfl rfl ?_
              (repeat' (first | (apply D.gOn; exact rfl; exact rfl; exact rfl; exact rfl) | (apply D.fieldAddrS T6; exact rfl; exact rfl; exact rfl; exact rfl; exact rfl) | (apply D.fieldAddr T6; exact rfl; exact rfl; exact rfl; exact rfl) | (apply D.loadA T6; exact (by first | exact rfl | assumption); exact rfl; exact rfl; exact rfl; exact rfl; exact rfl; exact (by repeat constructor)) | (apply D.loadAN T6; exact (by first | exact rfl | assumption); exact rfl; exact rfl; exact rfl; exact (by repeat constructor)) | fail))
              refine D.callP (by assumption) rfl rfl rfl rfl rfl rfl (by simpa [nrms, nrm, nrms_encs] using hcm) ?_
              (repeat' (first | refine EvOps.nil ?_ | (apply R.move; exact rfl) | (apply R.assign; exact rfl) | (apply R.arith; exact rfl; exact rfl; exact rfl; exact (wrapI (by omega) (by omega))) | refine Ev.seq ?_ | refine Ev.region ?_ | refine EvD.nil ?_ | (apply D.assign; exact rfl) | (apply D.gOn; exact rfl; exact rfl; exact rfl; exact rfl) | (apply D.pickT; exact rfl; exact rfl) | (apply D.cmp; exact rfl; exact rfl; exact rfl; all_goals intro hc) | (apply Ev.condB; exact rfl) | refine Ev.ret ?_ | refine Ev.skip ?_ | refine thenQ.normal ?_ | refine thenQ.ret ?_ | refine blockQ.normal ?_ | refine blockQ.ret ?_ | refine loopQ.normal ?_ | refine loopQ.ret ?_ | (apply bodyQ.ret; exact rfl) | fail))
              · rw [if_pos (decide_eq_true (by assumption))] at hb'
                exact ⟨_, rfl, by rw [hb']; rfl⟩
              · rw [if_neg (by rw [decide_eq_false (by assumption)]; simp)] at hb'
                refine ⟨k' - 1, by omega, i' + 1 + 1, _, _, St.keep ⟨rfl, rfl, rfl, rfl, trivial⟩, by omega, hJ2, ?_⟩
                have : prv l (i' + 1 + 1) = some (.mk k1 s1 o1 l1) := by simp only [prv, hget]; rfl
                rw [this]; exact hb'
            · rw [if_neg (by omega)] at hb'
              obtain rfl : i = 0 := by omega
              simp only [prv, Bool.false_eq_true, if_false] at hb'
              refine ⟨k' - 1, by omega, 0 + 1, _, _, St.keep ⟨rfl, rfl, rfl, rfl, trivial⟩, by omega, hJ2, ?_⟩
              have : prv l (0 + 1) = some (.mk k1 s1 o1 l1) := by simp only [prv, hget]; rfl
              rw [this]; exact hb'
          · rw [if_pos hsp] at hb'
            (repeat' (first | refine EvOps.nil ?_ | (apply R.assign; exact rfl) | refine Ev.seq ?_ | refine Ev.region ?_ | (apply Ev.condB; exact rfl) | refine Ev.ret ?_ | refine thenQ.normal ?_ | refine thenQ.ret ?_ | refine blockQ.ret ?_ | refine loopQ.ret ?_ | (apply bodyQ.ret; exact rfl) | fail))
            exact ⟨_, rfl, by rw [hb']; rfl⟩
      · rw [encPs_end hc, validGo_nil] at hb'
        exact ⟨_, rfl, by rw [hb']; rfl⟩

theorem app_fun (s : ByteArray) (l : List Tm) : Fun C 35 [.str s, .snap false (encs l)] (enc (.mk 3 s 0 l)) := by
  refine Fun.of (FnEv.bodyL Try.func35 rfl ?_)
  rw [enc_mk]
  (repeat' (first | refine EvOps.nil ?_ | (apply R.move; exact rfl) | (apply R.build T6; exact rfl; exact rfl; exact rfl; exact rfl; exact rfl; exact rfl) | (apply R.alloc T6; exact rfl; exact rfl; exact rfl; exact .nil) | refine Ev.seq ?_ | refine Ev.region ?_ | refine thenQ.normal ?_ | fail))
  refine R.storeH T6 (n := 0) (o := ⟨.m, 0, 4, [.agg [.int .i64 0, .str ByteArray.empty, .int .i64 0, .snap true []]]⟩) (i := 0) (e := .agg [.int .i64 0, .str ByteArray.empty, .int .i64 0, .snap true []]) rfl rfl rfl rfl rfl rfl rfl rfl (Nat.le_refl 4) ?_
  (repeat' (first | refine EvOps.nil ?_ | refine Ev.ret ?_ | refine thenQ.normal ?_ | (apply bodyQ.retC T6; exact rfl) | fail))
  refine ⟨.agg [.int .i64 3, .str s, .int .i64 0, .snap false (encs l)], ?_, by simp [nrm, nrms, nrms_encs]⟩
  rfl

end Go.Pm
end

/-
  CHAPTER 6, PART 20: slices.Grow and slices.Concat. Conditions: none.
-/
section
set_option linter.unusedVariables false
set_option linter.unusedSimpArgs false
set_option linter.unusedVariables false
set_option linter.unusedSimpArgs false
set_option maxRecDepth 4000
set_option maxHeartbeats 4000000
namespace Go.Pm
open Go.Proofs

section
variable {C : Cfg} (T : Tab C.P)
variable {ops : Array Oper} {d : Nat} {ty : TypeId} {pos : String} {af : Array Edge} {r : List Oper} {ρ : Nat → PV} {L : List (Nat × PV)} {h : AHeap} {Q : St → Prop}

theorem Ev.unroll {c : Code} {s : St} {Q : Ex → St → Prop} (k : Ev C c s (loopQ (fun s' => Ev C (.loop c) s' Q) Q)) : Ev C (.loop c) s Q := by
  obtain ⟨ex, s', q, n0, hn⟩ := k
  cases ex with
  | normal =>
    obtain ⟨ex2, s2, q2, n1, hn1⟩ := q
    refine ⟨ex2, s2, q2, max n0 n1 + 1, fun n m h1 h2 => ?_⟩
    obtain ⟨m, rfl⟩ : ∃ i', m = i' + 1 := ⟨m - 1, by omega⟩
    have e1 := hn n (m + 1) (by omega) (by omega)
    have e2 := hn1 n m (by omega) (by omega)
    simp only [evalC] at e2 ⊢
    simp only [iter, e1]
    exact iter_mono (fun s x hh => evalC_mono (fun _ _ _ _ hh => hh) (Nat.le_succ m) c hh) (Nat.le_refl m) e2
  | exit id =>
    refine ⟨_, _, q, n0 + 1, fun n m h1 h2 => ?_⟩
    obtain ⟨m, rfl⟩ : ∃ i', m = i' + 1 := ⟨m - 1, by omega⟩
    simp only [evalC, iter, hn n (m + 1) (by omega) (by omega)]
  | ret =>
    refine ⟨_, _, q, n0 + 1, fun n m h1 h2 => ?_⟩
    obtain ⟨m, rfl⟩ : ∃ i', m = i' + 1 := ⟨m - 1, by omega⟩
    simp only [evalC, iter, hn n (m + 1) (by omega) (by omega)]

theorem R.capNil {t el : TypeId} {x : Operand} (hx : evL L x = some (.snap true [])) (hk : T.kd t = some (.sl el)) (k : EvOps C ops r ⟨al ((d, .int .i64 0) :: L) ρ, h⟩ Q) :
    EvOps C ops (⟨some d, .call ⟨.builtin .cap, #[x], #[t]⟩, ty, pos, af, none⟩ :: r) ⟨al L ρ, h⟩ Q :=
  EvOps.valL (fun run => by simp [opVal, evL_ev hx, builtinP, capP, kd_sl (T.hkd _ _ hk)]) k
theorem R.sliceNil {t el : TypeId} {x y : Operand} {k : IntKind} {sz : Nat} (hx : evL L x = some (.snap true [])) (hy : evL L y = some (.int k 0)) (hk : T.kd t = some (.sl el)) (hs : T.ts el = some sz) (kk : EvOps C ops r ⟨al ((d, .snap true []) :: L) ρ, h⟩ Q) :
    EvOps C ops (⟨some d, .slice t x none (some y) none, ty, pos, af, none⟩ :: r) ⟨al L ρ, h⟩ Q :=
  EvOps.valL (fun run => by simp [opVal, stepOp, evL_ev hx, evL_ev hy, sliceP, kd_sl (T.hkd _ _ hk), T.hts _ _ hs, boundP]) kk
theorem R.sliceM0 {t el : TypeId} {x y : Operand} {k : IntKind} {id ep len : Nat} {o : AObj} (hx : evL L x = some (.mref id ep 0 len)) (hy : evL L y = some (.int k 0)) (hk : T.kd t = some (.sl el)) (hg : getM h id ep = some o) (hs : T.ts el = some o.esz) (hle : len ≤ o.es.length) (kk : EvOps C ops r ⟨al ((d, .mref id ep 0 0) :: L) ρ, h⟩ Q) :
    EvOps C ops (⟨some d, .slice t x none (some y) none, ty, pos, af, none⟩ :: r) ⟨al L ρ, h⟩ Q :=
  EvOps.valL (fun run => by
    have h1 : ¬ ((len : Int) < 0) := by omega
    simp [opVal, stepOp, evL_ev hx, evL_ev hy, sliceP, kd_sl (T.hkd _ _ hk), T.hts _ _ hs, beyond, h1, boundP, hg, hle]) kk
theorem R.appendZ {st xt el : TypeId} {sz by' n : Nat} {z : PV} {ki : IntKind} {x y : Operand} (hx : evL L x = some (.snap true [])) (hy : evL L y = some (.int ki (n : Int))) (hk : T.kd st = some (.sl el)) (hk' : T.kd xt = some (.int ki)) (hs : T.ts el = some (sz + 1)) (hb : T.tb el = some by') (hz : T.tz el = some z) (hby : by' ≤ 1000) (hl : (cells z).length = sz + 1) (ho : (cells z).all oneC = true)
    (hn0 : 0 < n) (hn : n < 1000000000) (kk : EvOps C ops r ⟨al ((d, .mref h.length 0 0 n) :: L) ρ, h ++ [⟨.m, 0, sz + 1, List.replicate n z⟩]⟩ Q) :
    EvOps C ops (⟨some d, .call ⟨.builtin .append, #[x, y], #[st, xt]⟩, ty, pos, af, none⟩ :: r) ⟨al L ρ, h⟩ Q := by
  refine EvOps.valL (fun run => ?_) kk
  have hne : (List.replicate n z).isEmpty = false := by cases n with | zero => omega | succ n => rfl
  have hall : (List.replicate n z).all (fun v => decide ((cells v).length = sz + 1) && (cells v).all oneC) = true := by
    rw [List.all_eq_true]; intro v hv; rw [(List.mem_replicate.1 hv).2, hl, ho]; simp
  have hap : appendP C.P 2 h st xt (.snap true []) (.int ki (n : Int)) = some (.mref h.length 0 0 n, h ++ [⟨.m, 0, sz + 1, List.replicate n z⟩]) := by
    unfold appendP
    rw [kd_sl (T.hkd _ _ hk)]
    simp only [T.hts _ _ hs, T.htb _ _ hb, T.htz _ _ hz, appendee, kd_int (T.hkd _ _ hk')]
    rw [if_pos ⟨by omega, by omega⟩]
    simp only [Int.toNat_natCast]
    rw [if_pos ⟨by omega, by omega, ⟨hl, ho⟩, hall⟩]
    simp only [hne, Bool.false_eq_true, if_false, List.length_nil, Nat.zero_add, List.all_nil, List.nil_append, newObj, List.length_replicate]
    rw [if_pos ⟨trivial, by omega, roomy_of hn hby, trivial⟩]
  simp only [opVal, builtinP, List.map_cons, List.map_nil, evL_ev hx, evL_ev hy, hap]

/-- a list with room behind it, in the newest object -/
def Gr (H : AHeap) (sz : Nat) (h : AHeap) (v : PV) (es : List PV) : Prop := (v = .snap true [] ∧ es = [] ∧ h = H) ∨ ∃ ep o, v = .mref H.length ep 0 es.length ∧ h = H ++ [⟨.m, ep, sz, o⟩] ∧ o.take es.length = es ∧ es.length ≤ o.length
theorem Out.elems {sz : Nat} {h : AHeap} {v : PV} {es : List PV} (o : Out sz h v es) : elems h v = some es := by
  rcases o with ⟨rfl, rfl⟩ | ⟨id, ep, rfl, e2⟩
  · rfl
  · simp [Pm.elems, getM, e2]
/-- what is given is appended -/
theorem R.appendG {H : AHeap} {st xt el el' : TypeId} {sz by' : Nat} {z : PV} {es ys : List PV} {x y : Operand} {v u : PV} {ep : Nat} {o : List PV} (hx : evL L x = some (.mref H.length ep 0 es.length)) (hy : evL L y = some u) (hk : T.kd st = some (.sl el)) (hk' : T.kd xt = some (.sl el')) (hs : T.ts el = some (sz + 1)) (hb : T.tb el = some by') (hz : T.tz el = some z)
    (hby : by' ≤ 1000) (hl : (cells z).length = sz + 1) (ho : (cells z).all oneC = true) (hyo : esOk (sz + 1) ys) (hu : Out (sz + 1) H u ys) (hn : es.length + ys.length < 1000000000) (g1 : o.take es.length = es) (g2 : es.length ≤ o.length)
    (kk : ∀ ep' o', o'.take (es ++ ys).length = es ++ ys → (es ++ ys).length ≤ o'.length → (ys ≠ [] → o' = es ++ ys) → (ys = [] → o' = o) → EvOps C ops r ⟨al ((d, .mref H.length ep' 0 (es ++ ys).length) :: L) ρ, H ++ [⟨.m, ep', sz + 1, o'⟩]⟩ Q) :
    EvOps C ops (⟨some d, .call ⟨.builtin .append, #[x, y], #[st, xt]⟩, ty, pos, af, none⟩ :: r) ⟨al L ρ, H ++ [⟨.m, ep, sz + 1, o⟩]⟩ Q := by
  have hel := (hu.app [⟨.m, ep, sz + 1, o⟩]).elems
  have hg : getM (H ++ [(⟨.m, ep, sz + 1, o⟩ : AObj)]) H.length ep = some ⟨.m, ep, sz + 1, o⟩ := by simp [getM]
  unfold esOk at hyo
  cases hys : ys with
  | nil =>
    subst hys
    refine EvOps.valL (fun run => ?_) (kk ep o (by simpa using g1) (by simpa using g2) (fun h => absurd rfl h) (fun _ => rfl))
    have hap : appendP C.P 2 (H ++ [⟨.m, ep, sz + 1, o⟩]) st xt (.mref H.length ep 0 es.length) u = some (.mref H.length ep 0 (es ++ []).length, H ++ [⟨.m, ep, sz + 1, o⟩]) := by
      unfold appendP
      rw [kd_sl (T.hkd _ _ hk)]
      simp only [T.hts _ _ hs, T.htb _ _ hb, T.htz _ _ hz, appendee, kd_sl (T.hkd _ _ hk'), hel]
      rw [if_pos ⟨by omega, by omega, ⟨hl, ho⟩, hyo⟩]
      simp only [hg]
      rw [if_pos ⟨by omega, trivial⟩]
      simp
    simp only [opVal, builtinP, List.map_cons, List.map_nil, evL_ev hx, evL_ev hy, hap]
  | cons y0 ys0 =>
    have hne : ys.isEmpty = false := by rw [hys]; rfl
    refine EvOps.valL (fun run => ?_) (kk (ep + 1) (es ++ ys) List.take_length (Nat.le_refl _) (fun _ => rfl) (fun h => by rw [h] at hne; cases hne))
    have hap : appendP C.P 2 (H ++ [⟨.m, ep, sz + 1, o⟩]) st xt (.mref H.length ep 0 es.length) u = some (.mref H.length (ep + 1) 0 (es ++ ys).length, H ++ [⟨.m, ep + 1, sz + 1, es ++ ys⟩]) := by
      unfold appendP
      rw [kd_sl (T.hkd _ _ hk)]
      simp only [T.hts _ _ hs, T.htb _ _ hb, T.htz _ _ hz, appendee, kd_sl (T.hkd _ _ hk'), hel]
      rw [if_pos ⟨by omega, by omega, ⟨hl, ho⟩, hyo⟩]
      simp only [hg]
      rw [if_pos ⟨by omega, trivial⟩]
      simp only [hne, Bool.false_eq_true, if_false]
      have hso : sameObj H.length u = false := by
        rcases hu with ⟨rfl, _⟩ | ⟨id, ep', rfl, e2⟩
        · rfl
        · have := lt_of_some e2
          simp [sameObj]; omega
      rw [if_neg (by rw [hso]; simp), if_pos ⟨trivial, by omega, trivial, roomy_of hn hby⟩, g1]
      have : (H ++ [(⟨.m, ep, sz + 1, o⟩ : AObj)]).set H.length ⟨.m, ep + 1, sz + 1, es ++ ys⟩ = H ++ [⟨.m, ep + 1, sz + 1, es ++ ys⟩] := by
        refine (List.set_append_right H.length _ (Nat.le_refl _)).trans ?_
        simp
      rw [this, List.length_append]
    simp only [opVal, builtinP, List.map_cons, List.map_nil, evL_ev hx, evL_ev hy, hap]
/-- nothing is appended to nothing -/
theorem R.appendN {st xt el el' : TypeId} {sz by' : Nat} {z : PV} {x y : Operand} {u : PV} (hx : evL L x = some (.snap true [])) (hy : evL L y = some u) (hk : T.kd st = some (.sl el)) (hk' : T.kd xt = some (.sl el')) (hs : T.ts el = some (sz + 1)) (hb : T.tb el = some by') (hz : T.tz el = some z)
    (hby : by' ≤ 1000) (hl : (cells z).length = sz + 1) (ho : (cells z).all oneC = true) (hu : Out (sz + 1) h u []) (kk : EvOps C ops r ⟨al ((d, .snap true []) :: L) ρ, h⟩ Q) :
    EvOps C ops (⟨some d, .call ⟨.builtin .append, #[x, y], #[st, xt]⟩, ty, pos, af, none⟩ :: r) ⟨al L ρ, h⟩ Q := by
  refine EvOps.valL (fun run => ?_) kk
  have hel := hu.elems
  have hap : appendP C.P 2 h st xt (.snap true []) u = some (.snap true [], h) := by
    unfold appendP
    rw [kd_sl (T.hkd _ _ hk)]
    simp only [T.hts _ _ hs, T.htb _ _ hb, T.htz _ _ hz, appendee, kd_sl (T.hkd _ _ hk'), hel]
    rw [if_pos ⟨by omega, by omega, ⟨hl, ho⟩, rfl⟩]
    rfl
  simp only [opVal, builtinP, List.map_cons, List.map_nil, evL_ev hx, evL_ev hy, hap]
end

section
variable {C : Cfg} (T : Tab C.P)
/-- two slices, handed on as a slice of slices -/
def X2 (H : AHeap) (x v1 v2 : PV) : Prop := x = .snap true [v1, v2] ∨ ∃ id, x = .mref id 0 0 2 ∧ H[id]? = some ⟨.m, 0, 1, [v1, v2]⟩
theorem X2.app {H : AHeap} {x v1 v2 : PV} (a : X2 H x v1 v2) (J : AHeap) : X2 (H ++ J) x v1 v2 := by
  rcases a with a | ⟨id, e1, e2⟩
  · exact .inl a
  · exact .inr ⟨id, e1, by rw [List.getElem?_append_left (lt_of_some e2)]; exact e2⟩
theorem Out.cells {sz : Nat} {h : AHeap} {v : PV} {es : List PV} (o : Out sz h v es) : cells v = [v] := by
  rcases o with ⟨rfl, rfl⟩ | ⟨id, ep, rfl, e2⟩ <;> rfl
theorem R.lenX {ops : Array Oper} {d : Nat} {ty : TypeId} {pos : String} {af : Array Edge} {r : List Oper} {ρ : Nat → PV} {L : List (Nat × PV)} {h : AHeap} {Q : St → Prop} {t el : TypeId} {x : Operand} {u v1 v2 : PV}
    (hx : evL L x = some u) (hk : T.kd t = some (.sl el)) (a : X2 h u v1 v2) (k : EvOps C ops r ⟨al ((d, (.int .i64 2)) :: L) ρ, h⟩ Q) :
    EvOps C ops (⟨some d, .call ⟨.builtin .len, #[x], #[t]⟩, ty, pos, af, none⟩ :: r) ⟨al L ρ, h⟩ Q := by
  rcases a with rfl | ⟨id, rfl, e2⟩
  · exact R.lenS T (xs := []) (ts := []) hx hk k
  · exact R.lenM T (xs := []) (ts := []) (o := ⟨.m, 0, 1, [v1, v2]⟩) hx hk (getM_at e2 rfl (by simp)) (by show 0 + 2 ≤ 2; omega) k
theorem R.idxX {ops : Array Oper} {d d2 : Nat} {ty ty2 : TypeId} {pos pos2 : String} {af af2 : Array Edge} {r : List Oper} {ρ : Nat → PV} {L : List (Nat × PV)} {h : AHeap} {Q : St → Prop} {t t2 el : TypeId} {x ix : Operand} {u v1 v2 v : PV} {i : Nat} {k : IntKind}
    (hx : evL L x = some u) (hi : evL L ix = some (.int k (i : Int))) (hk : T.kd t = some (.sl el)) (hs : T.ts el = some 1) (hs2 : T.ts t2 = some 1) (ht2 : T.ta t2 = some false) (a : X2 h u v1 v2) (hv : [v1, v2][i]? = some v) (hc : cells v = [v])
    (kk : ∀ p, EvOps C ops r ⟨al ((d2, v) :: (d, p) :: L) ρ, h⟩ Q) :
    EvOps C ops (⟨some d, .indexAddr t x ix, ty, pos, af, none⟩ :: ⟨some d2, .load t2 (.tmp d), ty2, pos2, af2, none⟩ :: r) ⟨al L ρ, h⟩ Q := by
  have hlk : ∀ p, evL ((d, p) :: L) (.tmp d) = some p := fun p => by simp [evL, lk]
  rcases a with rfl | ⟨id, rfl, e2⟩
  · refine R.indexS T hx hi hk (sz := 0) hs hv hc rfl ?_
    exact R.load1 T (hlk _) hs2 ht2 (cs := []) rfl (kk _)
  · have hlt : i < 2 := by have := lt_of_some hv; simpa using this
    refine R.indexM T (o := ⟨.m, 0, 1, [v1, v2]⟩) hx hi hk (getM_at e2 rfl (by simp)) hs hlt (by show 0 + 2 ≤ 2; omega) ?_
    refine R.load1 T (hlk _) hs2 ht2 (c := v) (cs := []) ?_ (kk _)
    simp only [pcells, getM_at e2 rfl (show Mu.m ≠ .x by simp), Nat.zero_add, hv, hc, List.drop_zero]
end

attribute [local irreducible] thenQ blockQ loopQ bodyQ Ev EvOps CallEv FnEv EvD
theorem grow_ev (n : Nat) (hn : n < 1000000000) (H : AHeap) : FnEv C 60 [.snap true [], .int .i64 n] H (fun r h' => Gr H 4 h' r [] ∧ (n = 0 → r = .snap true []) ∧ (r = .snap true [] → n = 0)) := by
  refine FnEv.bodyL Try.func60 rfl ?_
  (repeat' (first | refine EvOps.nil ?_ | (apply R.move; exact rfl) | (apply R.assign; exact rfl) | (apply R.cmp; exact rfl; exact rfl; exact rfl; all_goals intro hc; all_goals (try (exfalso; omega))) | refine Ev.seq ?_ | refine Ev.region ?_ | (apply Ev.condB; exact rfl) | refine Ev.skip ?_ | refine thenQ.normal ?_ | fail))
  apply R.capNil T6; exact rfl; exact rfl
  (repeat' (first | (apply R.move; exact rfl) | (apply R.lenS T6; exact rfl; exact rfl) | fail))
  refine R.arith (c' := 0) rfl rfl rfl (by decide) ?_
  (repeat' (first | refine EvOps.nil ?_ | (apply R.move; exact rfl) | (apply R.assign; exact rfl) | (apply R.cmp; exact rfl; exact rfl; exact rfl; all_goals intro hc; all_goals (try (exfalso; omega))) | (apply R.arith; exact rfl; exact rfl; exact rfl; exact (wrapI (by omega) (by omega))) | refine Ev.seq ?_ | refine Ev.region ?_ | (apply Ev.condB; exact rfl) | refine Ev.ret ?_ | refine Ev.skip ?_ | refine thenQ.normal ?_ | (apply bodyQ.ret; exact rfl) | fail))
  · apply R.capNil T6; exact rfl; exact rfl
    skip
    apply R.sliceNil T6; exact rfl; exact rfl; exact rfl; exact rfl
    (repeat' (first | (apply R.move; exact rfl) | fail))
    apply R.appendZ T6 (n := n)
    · exact rfl
    · exact (congrArg (fun z => some (PV.int .i64 z)) (by simp))
    all_goals first | exact rfl | exact (by decide : (_ : Nat) ≤ 1000) | omega | skip
    (repeat' (first | (apply R.move; exact rfl) | (apply R.lenS T6; exact rfl; exact rfl) | fail))
    apply R.sliceM0 T6 (o := ⟨.m, 0, 4, List.replicate n (.agg [.int .i64 0, .str ByteArray.empty, .int .i64 0, .snap true []])⟩)
    · exact rfl
    · exact rfl
    · exact rfl
    · exact getM_new
    · exact rfl
    · simp
    (repeat' (first | refine EvOps.nil ?_ | (apply R.move; exact rfl) | (apply R.assign; exact rfl) | refine Ev.seq ?_ | refine Ev.region ?_ | refine Ev.ret ?_ | refine thenQ.normal ?_ | (apply bodyQ.ret; exact rfl) | fail))
    exact ⟨.inr ⟨0, List.replicate n (.agg [.int .i64 0, .str ByteArray.empty, .int .i64 0, .snap true []]), rfl, rfl, rfl, by simp⟩, fun h => by omega, fun h => by cases h⟩
  · exact ⟨.inl ⟨rfl, rfl, rfl⟩, fun _ => rfl, fun _ => by omega⟩

theorem encs_app (a b : List Tm) : encs (a ++ b) = encs a ++ encs b := by rw [encs_eq, encs_eq, encs_eq, List.map_append]
def CatP (H : AHeap) (l : List Tm) (r : PV) (h' : AHeap) : Prop := (l = [] ∧ r = .snap true [] ∧ h' = H) ∨ ∃ ep, r = .mref H.length ep 0 (encs l).length ∧ h' = H ++ [⟨.m, ep, 4, encs l⟩]
set_option maxHeartbeats 8000000 in
theorem concat_ev (a b : List Tm) (H : AHeap) (x v1 v2 : PV) (hx : X2 H x v1 v2) (h1 : Out 4 H v1 (encs a)) (h2 : Out 4 H v2 (encs b)) (hl : a.length + b.length < 100000000) :
    FnEv C 36 [x] H (CatP H (a ++ b)) := by
  refine FnEv.bodyL Try.func36 rfl ?_
  have e1 := encs_len a
  have e2 := encs_len b
  (repeat' (first | refine EvOps.nil ?_ | (apply R.move; exact rfl) | (apply R.assign; exact rfl) | refine Ev.seq ?_ | refine Ev.region ?_ | refine thenQ.normal ?_ | fail))
  apply R.lenX T6; exact rfl; exact rfl; exact hx
  (repeat' (first | refine EvOps.nil ?_ | (apply R.move; exact rfl) | refine Ev.block ?_ | refine thenQ.normal ?_ | fail))
  apply Ev.unroll
  (repeat' (first | refine EvOps.nil ?_ | (apply R.cmp; exact rfl; exact rfl; exact rfl; all_goals intro hc; all_goals (try (exfalso; omega))) | refine Ev.seq ?_ | refine Ev.region ?_ | (apply Ev.condB; exact rfl) | refine Ev.skip ?_ | refine Ev.block ?_ | refine thenQ.normal ?_ | fail))
  apply R.idxX T6 (i := 0); exact rfl; exact rfl; exact rfl; exact rfl; exact rfl; exact rfl; exact hx; exact rfl; exact h1.cells
  intro p1
  (repeat' (first | refine EvOps.nil ?_ | (apply R.move; exact rfl) | (apply R.assign; exact rfl) | refine Ev.seq ?_ | refine Ev.region ?_ | refine thenQ.normal ?_ | fail))
  apply R.lenOut T6; exact rfl; exact rfl; exact h1
  (repeat' (first | refine EvOps.nil ?_ | (apply R.move; exact rfl) | (apply R.assign; exact rfl) | (apply R.cmp; exact rfl; exact rfl; exact rfl; all_goals intro hc; all_goals (try (exfalso; omega))) | (apply R.arith; exact rfl; exact rfl; exact rfl; exact (wrapI (by omega) (by omega))) | refine Ev.seq ?_ | refine Ev.region ?_ | (apply Ev.condB; exact rfl) | refine Ev.skip ?_ | refine thenQ.normal ?_ | refine blockQ.normal ?_ | refine loopQ.normal ?_ | fail))
  apply Ev.unroll
  (repeat' (first | refine EvOps.nil ?_ | (apply R.cmp; exact rfl; exact rfl; exact rfl; all_goals intro hc; all_goals (try (exfalso; omega))) | refine Ev.seq ?_ | refine Ev.region ?_ | (apply Ev.condB; exact rfl) | refine Ev.skip ?_ | refine Ev.block ?_ | refine thenQ.normal ?_ | fail))
  apply R.idxX T6 (i := 1); exact rfl; exact rfl; exact rfl; exact rfl; exact rfl; exact rfl; exact hx; exact rfl; exact h2.cells
  intro p2
  (repeat' (first | refine EvOps.nil ?_ | (apply R.move; exact rfl) | (apply R.assign; exact rfl) | refine Ev.seq ?_ | refine Ev.region ?_ | refine thenQ.normal ?_ | fail))
  apply R.lenOut T6; exact rfl; exact rfl; exact h2
  (repeat' (first | refine EvOps.nil ?_ | (apply R.move; exact rfl) | (apply R.assign; exact rfl) | (apply R.cmp; exact rfl; exact rfl; exact rfl; all_goals intro hc; all_goals (try (exfalso; omega))) | (apply R.arith; exact rfl; exact rfl; exact rfl; exact (wrapI (by omega) (by omega))) | refine Ev.seq ?_ | refine Ev.region ?_ | (apply Ev.condB; exact rfl) | refine Ev.skip ?_ | refine thenQ.normal ?_ | refine blockQ.normal ?_ | refine loopQ.normal ?_ | fail))
  apply Ev.unroll
  (repeat' (first | refine EvOps.nil ?_ | (apply R.move; exact rfl) | (apply R.cmp; exact rfl; exact rfl; exact rfl; all_goals intro hc; all_goals (try (exfalso; omega))) | refine Ev.seq ?_ | refine Ev.region ?_ | (apply Ev.condB; exact rfl) | refine Ev.exit ?_ | refine thenQ.normal ?_ | refine thenQ.exit ?_ | refine blockQ.hit ?_ | refine loopQ.exit ?_ | fail))
  refine R.call rfl rfl (CallEv.opened rfl ?_)
  refine FnEv.heap (args' := [.snap true [], .int .i64 ((a.length + b.length : Nat) : Int)]) rfl (by simp [e1, e2]) ((grow_ev (a.length + b.length) (by omega) H).mono ?_)
  rintro r h' ⟨hg, hz, hz'⟩
  have key : (if (belowR H.length r && (h'.take H.length).all fun o => o.es.all (belowA H.length)) = true then h'.take H.length else h') = h' := by
    rcases hg with ⟨_, _, rfl⟩ | ⟨ep, o, rfl, rfl, _, _⟩
    · simp
    · rw [if_neg (by simp [belowR, belowA, below1])]
  rw [key]
  have hx' : X2 h' x v1 v2 := by
    rcases hg with ⟨_, _, rfl⟩ | ⟨ep, o, rfl, rfl, _, _⟩
    · exact hx
    · exact hx.app _
  by_cases hab : a.length + b.length = 0
  · have hr := hz hab
    subst hr
    have ha : a = [] := List.eq_nil_of_length_eq_zero (by omega)
    have hb : b = [] := List.eq_nil_of_length_eq_zero (by omega)
    subst ha; subst hb
    rcases hg with ⟨_, _, rfl⟩ | ⟨ep, o, hh, _⟩
    · (repeat' (first | refine EvOps.nil ?_ | (apply R.move; exact rfl) | (apply R.assign; exact rfl) | refine Ev.seq ?_ | refine Ev.region ?_ | refine thenQ.normal ?_ | fail))
      apply R.lenX T6; exact rfl; exact rfl; exact hx'
      (repeat' (first | refine EvOps.nil ?_ | (apply R.move; exact rfl) | refine Ev.block ?_ | refine thenQ.normal ?_ | fail))
      apply Ev.unroll
      (repeat' (first | refine EvOps.nil ?_ | (apply R.cmp; exact rfl; exact rfl; exact rfl; all_goals intro hc; all_goals (try (exfalso; omega))) | refine Ev.seq ?_ | refine Ev.region ?_ | (apply Ev.condB; exact rfl) | refine Ev.skip ?_ | refine Ev.block ?_ | refine thenQ.normal ?_ | fail))
      apply R.idxX T6 (i := 0); exact rfl; exact rfl; exact rfl; exact rfl; exact rfl; exact rfl; exact hx'; exact rfl; exact h1.cells
      intro p3
      (repeat' (first | refine EvOps.nil ?_ | (apply R.move; exact rfl) | (apply R.assign; exact rfl) | refine Ev.region ?_ | refine thenQ.normal ?_ | fail))
      refine R.appendN T6 rfl rfl rfl rfl rfl rfl rfl (by decide) rfl rfl h1 ?_
      (repeat' (first | refine EvOps.nil ?_ | (apply R.move; exact rfl) | (apply R.assign; exact rfl) | (apply R.arith; exact rfl; exact rfl; exact rfl; exact (wrapI (by omega) (by omega))) | refine Ev.region ?_ | refine thenQ.normal ?_ | refine blockQ.normal ?_ | refine loopQ.normal ?_ | fail))
      apply Ev.unroll
      (repeat' (first | refine EvOps.nil ?_ | (apply R.cmp; exact rfl; exact rfl; exact rfl; all_goals intro hc; all_goals (try (exfalso; omega))) | refine Ev.seq ?_ | refine Ev.region ?_ | (apply Ev.condB; exact rfl) | refine Ev.skip ?_ | refine Ev.block ?_ | refine thenQ.normal ?_ | fail))
      apply R.idxX T6 (i := 1); exact rfl; exact rfl; exact rfl; exact rfl; exact rfl; exact rfl; exact hx'; exact rfl; exact h2.cells
      intro p4
      (repeat' (first | refine EvOps.nil ?_ | (apply R.move; exact rfl) | (apply R.assign; exact rfl) | refine Ev.region ?_ | refine thenQ.normal ?_ | fail))
      refine R.appendN T6 rfl rfl rfl rfl rfl rfl rfl (by decide) rfl rfl h2 ?_
      (repeat' (first | refine EvOps.nil ?_ | (apply R.move; exact rfl) | (apply R.assign; exact rfl) | (apply R.arith; exact rfl; exact rfl; exact rfl; exact (wrapI (by omega) (by omega))) | refine Ev.region ?_ | refine thenQ.normal ?_ | refine blockQ.normal ?_ | refine loopQ.normal ?_ | fail))
      apply Ev.unroll
      (repeat' (first | refine EvOps.nil ?_ | (apply R.move; exact rfl) | (apply R.assign; exact rfl) | (apply R.cmp; exact rfl; exact rfl; exact rfl; all_goals intro hc; all_goals (try (exfalso; omega))) | refine Ev.seq ?_ | refine Ev.region ?_ | (apply Ev.condB; exact rfl) | refine Ev.ret ?_ | refine Ev.exit ?_ | refine thenQ.normal ?_ | refine thenQ.exit ?_ | refine blockQ.hit ?_ | refine loopQ.exit ?_ | (apply bodyQ.ret; exact rfl) | fail))
      exact .inl ⟨rfl, rfl, rfl⟩
    · cases hh
  · rcases hg with ⟨hr, _, _⟩ | ⟨ep, o, rfl, rfl, g1, g2⟩
    · exact absurd (hz' hr) hab
    · (repeat' (first | refine EvOps.nil ?_ | (apply R.move; exact rfl) | (apply R.assign; exact rfl) | refine Ev.seq ?_ | refine Ev.region ?_ | refine thenQ.normal ?_ | fail))
      apply R.lenX T6; exact rfl; exact rfl; exact hx'
      (repeat' (first | refine EvOps.nil ?_ | (apply R.move; exact rfl) | refine Ev.block ?_ | refine thenQ.normal ?_ | fail))
      apply Ev.unroll
      (repeat' (first | refine EvOps.nil ?_ | (apply R.cmp; exact rfl; exact rfl; exact rfl; all_goals intro hc; all_goals (try (exfalso; omega))) | refine Ev.seq ?_ | refine Ev.region ?_ | (apply Ev.condB; exact rfl) | refine Ev.skip ?_ | refine Ev.block ?_ | refine thenQ.normal ?_ | fail))
      apply R.idxX T6 (i := 0); exact rfl; exact rfl; exact rfl; exact rfl; exact rfl; exact rfl; exact hx'; exact rfl; exact h1.cells
      intro p3
      (repeat' (first | refine EvOps.nil ?_ | (apply R.move; exact rfl) | (apply R.assign; exact rfl) | refine Ev.region ?_ | refine thenQ.normal ?_ | fail))
      refine R.appendG T6 (es := []) (ys := encs a) (v := .nilp) rfl rfl rfl rfl rfl rfl rfl (by decide) rfl rfl (encs_ok a) h1 (by simp; omega) g1 g2 ?_
      intro ep1 o1 t1 t2 t3 t4
      (repeat' (first | refine EvOps.nil ?_ | (apply R.move; exact rfl) | (apply R.assign; exact rfl) | (apply R.arith; exact rfl; exact rfl; exact rfl; exact (wrapI (by omega) (by omega))) | refine Ev.region ?_ | refine thenQ.normal ?_ | refine blockQ.normal ?_ | refine loopQ.normal ?_ | fail))
      apply Ev.unroll
      (repeat' (first | refine EvOps.nil ?_ | (apply R.cmp; exact rfl; exact rfl; exact rfl; all_goals intro hc; all_goals (try (exfalso; omega))) | refine Ev.seq ?_ | refine Ev.region ?_ | (apply Ev.condB; exact rfl) | refine Ev.skip ?_ | refine Ev.block ?_ | refine thenQ.normal ?_ | fail))
      apply R.idxX T6 (i := 1); exact rfl; exact rfl; exact rfl; exact rfl; exact rfl; exact rfl; exact (hx.app _); exact rfl; exact h2.cells
      intro p4
      (repeat' (first | refine EvOps.nil ?_ | (apply R.move; exact rfl) | (apply R.assign; exact rfl) | refine Ev.region ?_ | refine thenQ.normal ?_ | fail))
      refine R.appendG T6 (es := encs a) (ys := encs b) (v := .nilp) rfl rfl rfl rfl rfl rfl rfl (by decide) rfl rfl (encs_ok b) h2 (by omega) t1 t2 ?_
      intro ep2 o2 u1 u2 u3 u4
      (repeat' (first | refine EvOps.nil ?_ | (apply R.move; exact rfl) | (apply R.assign; exact rfl) | (apply R.arith; exact rfl; exact rfl; exact rfl; exact (wrapI (by omega) (by omega))) | refine Ev.region ?_ | refine thenQ.normal ?_ | refine blockQ.normal ?_ | refine loopQ.normal ?_ | fail))
      apply Ev.unroll
      (repeat' (first | refine EvOps.nil ?_ | (apply R.move; exact rfl) | (apply R.assign; exact rfl) | (apply R.cmp; exact rfl; exact rfl; exact rfl; all_goals intro hc; all_goals (try (exfalso; omega))) | refine Ev.seq ?_ | refine Ev.region ?_ | (apply Ev.condB; exact rfl) | refine Ev.ret ?_ | refine Ev.exit ?_ | refine thenQ.normal ?_ | refine thenQ.exit ?_ | refine blockQ.hit ?_ | refine loopQ.exit ?_ | (apply bodyQ.ret; exact rfl) | fail))
      have ho : o2 = encs (a ++ b) := by
        rw [encs_app]
        by_cases hb : encs b = []
        · rw [u4 hb, hb, List.append_nil]
          refine t3 (fun ha => ?_)
          rw [ha] at e1; rw [hb] at e2
          simp at e1 e2
          omega
        · exact u3 hb
      refine .inr ⟨ep2, ?_, by rw [ho]⟩
      rw [encs_app]; rfl

end Go.Pm
end

/-
  CHAPTER 6, PART 21: the program's Term: rules. Conditions: none.
-/
section
set_option linter.unusedVariables false
set_option linter.unusedSimpArgs false
set_option linter.unusedVariables false
set_option linter.unusedSimpArgs false
set_option maxRecDepth 4000
set_option maxHeartbeats 4000000
namespace Go.Pm
open Go.Proofs
section
variable {C : Cfg} (T : Tab C.P)
variable {ops : Array Oper} {d : Nat} {ty : TypeId} {pos : String} {af : Array Edge} {r : List Oper} {ρ : Nat → PV} {L : List (Nat × PV)} {h : AHeap} {Q : St → Prop}

/-- append to a list, whatever else there is -/
theorem R.appendLP {st xt el el' : TypeId} {sz by' : Nat} {z : PV} {full : Bool} {es ys : List PV} {x y : Operand} {v : PV} (hx : evL L x = some v) (hy : evL L y = some (.snap full ys)) (hk : T.kd st = some (.sl el)) (hk' : T.kd xt = some (.sl el')) (hs : T.ts el = some (sz + 1)) (hb : T.tb el = some by') (hz : T.tz el = some z)
    (hby : by' ≤ 1000) (hl : (cells z).length = sz + 1) (ho : (cells z).all oneC = true) (hyo : esOk (sz + 1) ys) (hne : ys.isEmpty = false) (o : Out (sz + 1) h v es) (hn : es.length + ys.length < 1000000000)
    (hvs : isVals (es ++ ys) = true) (hH : HV h) (kk : ∀ v' h', LP h v (sz + 1) (es ++ ys) v' h' → EvOps C ops r ⟨al ((d, v') :: L) ρ, h'⟩ Q) :
    EvOps C ops (⟨some d, .call ⟨.builtin .append, #[x, y], #[st, xt]⟩, ty, pos, af, none⟩ :: r) ⟨al L ρ, h⟩ Q := by
  rcases o with ⟨rfl, rfl⟩ | ⟨id, ep, rfl, e2⟩
  · refine EvOps.valL (fun run => ?_) (kk (.mref h.length 0 0 ys.length) (h ++ [⟨.m, 0, sz + 1, ys⟩]) ⟨.inr ⟨h.length, 0, by simp, by simp⟩, hH.app (HV.one (by simpa using hvs)), by simp, fun j hj _ => List.getElem?_append_left hj, fun j ep n hh => ?_⟩)
    · have := appendP_new T (h := h) (lv := 2) (full := full) (by omega) hk hk' hs hb hz hby hl ho hyo hne (by simpa using hn)
      simp only [opVal, builtinP, List.map_cons, List.map_nil, evL_ev hx, evL_ev hy, this]
    · cases hh; exact .inr (Nat.le_refl _)
  · have hlt := lt_of_some e2
    refine EvOps.valL (fun run => ?_) (kk (.mref id (ep + 1) 0 (es.length + ys.length)) (h.set id ⟨.m, ep + 1, sz + 1, es ++ ys⟩) ⟨.inr ⟨id, ep + 1, by simp, List.getElem?_set_self hlt⟩, hH.set id (by simp) hvs, by simp, fun j hj hne => List.getElem?_set_ne (fun hh => hne ep es.length (by rw [hh])), fun j ep' n hh => ?_⟩)
    · have := appendP_m T (h := h) (full := full) (len := es.length) hk hk' hs hb hz hby hl ho hyo hne hn (getM_at e2 rfl (by simp)) rfl rfl (Nat.le_refl _)
      simp only [opVal, builtinP, List.map_cons, List.map_nil, evL_ev hx, evL_ev hy, this, List.take_length]
    · cases hh; exact .inl ⟨ep, es.length, rfl⟩
/-- two slices as a slice -/
theorem R.buildPair {t el : TypeId} {z : PV} {x y : Operand} {u v : PV} {a b : List PV} {sz : Nat} (hx : evL L x = some u) (hy : evL L y = some v) (hk : T.kd t = some (.sl el)) (hs : T.ts el = some 1) (hz : T.tz el = some z) (hl : (cells z).length = 1) (h1 : (cells z).all oneC = true)
    (ou : Out sz h u a) (ov : Out sz h v b) (kk : ∀ w h', X2 h' w u v → (h' = h ∨ h' = h ++ [⟨.m, 0, 1, [u, v]⟩]) → EvOps C ops r ⟨al ((d, w) :: L) ρ, h'⟩ Q) :
    EvOps C ops (⟨some d, .buildSlice t 2 #[(0, x), (1, y)], ty, pos, af, none⟩ :: r) ⟨al L ρ, h⟩ Q := by
  have cu := ou.cells
  have cv := ov.cells
  have ou1 : oneC u = true := by rcases ou with ⟨rfl, _⟩ | ⟨id, ep, rfl, _⟩ <;> rfl
  have ov1 : oneC v = true := by rcases ov with ⟨rfl, _⟩ | ⟨id, ep, rfl, _⟩ <;> rfl
  have hlit : litP z 2 [(0, u), (1, v)] = [u, v] := rfl
  by_cases hv : isVals [u, v] = true
  · refine EvOps.valL (v := .snap true [u, v]) (h' := h) (fun run => ?_) (kk _ h (.inl rfl) (.inl rfl))
    simp only [opVal, stepOp, List.map_cons, List.map_nil, evL_ev hx, evL_ev hy, buildSliceP, kd_sl (T.hkd _ _ hk), T.hts _ _ hs, T.htz _ _ hz, hlit, hv, if_true]
    rw [if_pos ⟨by omega, by omega, hl, h1, by simp [cu, cv, ou1, ov1]⟩]
  · refine EvOps.valL (v := .mref h.length 0 0 2) (h' := newObj h 1 [u, v]) (fun run => ?_) (kk _ _ (.inr ⟨h.length, rfl, by simp [newObj]⟩) (.inr rfl))
    simp only [opVal, stepOp, List.map_cons, List.map_nil, evL_ev hx, evL_ev hy, buildSliceP, kd_sl (T.hkd _ _ hk), T.hts _ _ hs, T.htz _ _ hz, hlit]
    rw [if_pos ⟨by omega, by omega, hl, h1, by simp [cu, cv, ou1, ov1]⟩, if_neg hv, if_pos (Nat.le_refl _)]

/-- a list that may be frozen -/
def OutF (sz : Nat) (h : AHeap) (v : PV) (es : List PV) : Prop := (v = .snap true [] ∧ es = []) ∨ ∃ id ep mu, v = .mref id ep 0 es.length ∧ h[id]? = some ⟨mu, ep, sz, es⟩ ∧ (mu = .m ∨ mu = .f)
theorem OutF.app {sz : Nat} {h : AHeap} {v : PV} {es : List PV} (o : OutF sz h v es) (J : AHeap) : OutF sz (h ++ J) v es := by
  rcases o with o | ⟨id, ep, mu, e1, e2, e3⟩
  · exact .inl o
  · exact .inr ⟨id, ep, mu, e1, by rw [List.getElem?_append_left (lt_of_some e2)]; exact e2, e3⟩
theorem R.lenOutF {t el : TypeId} {x : Operand} {v : PV} {es : List PV} {sz : Nat} (hx : evL L x = some v) (hk : T.kd t = some (.sl el)) (o : OutF sz h v es) (k : EvOps C ops r ⟨al ((d, (.int .i64 es.length)) :: L) ρ, h⟩ Q) :
    EvOps C ops (⟨some d, .call ⟨.builtin .len, #[x], #[t]⟩, ty, pos, af, none⟩ :: r) ⟨al L ρ, h⟩ Q := by
  rcases o with ⟨rfl, rfl⟩ | ⟨id, ep, mu, rfl, e2, e3⟩
  · exact R.lenS T (xs := []) (ts := []) hx hk k
  · exact R.lenM T (xs := []) (ts := []) (o := ⟨mu, ep, sz, es⟩) hx hk (getM_at e2 rfl (by rcases e3 with rfl | rfl <;> simp)) (by show 0 + es.length ≤ es.length; omega) k
/-- a pure call that is given a string and a list, and returns something with a slice in it: the list is frozen -/
theorem CallEv.outF {f : FuncId} {sz : Nat} {s : ByteArray} {v : PV} {es : List PV} {rv : PV} {Q : PV → AHeap → Prop} (hm : C.mode f = .pure) (o : Out sz h v es) (hv : isVals es = true) (a : Fun C f [.str s, .snap false (nrms es)] rv) (hs : scal rv = false)
    (q : ∀ h', OutF sz h' v es → h'.length = h.length → (∀ j, (∀ ep n, v ≠ .mref j ep 0 n) → h'[j]? = h[j]?) → Q rv h') : CallEv C 2 f [.str s, v] h Q := by
  rcases o with ⟨rfl, rfl⟩ | ⟨id, ep, rfl, e2⟩
  · exact CallEv.pure hm rfl (by simpa [nrms, nrm] using a) (q h (.inl ⟨rfl, rfl⟩) rfl (fun _ _ => rfl))
  · obtain ⟨n0, hn⟩ := a
    have hlt := lt_of_some e2
    refine ⟨rv, h.set id ⟨.f, ep, sz, es⟩, q _ (.inr ⟨id, ep, .f, rfl, List.getElem?_set_self hlt, .inr rfl⟩) (by simp) (fun j hj => List.getElem?_set_ne (fun hh => hj ep es.length (by rw [hh]))), n0, fun n h1 => ?_⟩
    obtain ⟨r0, hc, r1, e1, e3, e4⟩ := hn n h1
    have hsc : scal r1 = false := by
      have := scal_nrm' r1
      rw [e4] at this
      rw [← this]; exact hs
    have hb : rbAs h [.str s, .mref id ep 0 es.length] = some [.str s, .snap false es] := by
      simp [rbAs, rbA, rb1, isVal, getM, e2, hv]
    have hnr : nrms [PV.str s, .snap false es] = [.str s, .snap false (nrms es)] := rfl
    have hids : idsOf [PV.str s, .mref id ep 0 es.length] = [id] := rfl
    have hfz : frozenAll h [id] = false := by simp [frozenAll, e2]
    have hfr : freezes h [id] = some (h.set id ⟨.f, ep, sz, es⟩) := by simp [freezes, freeze1, e2, hv]
    unfold callF
    rw [hm]
    have hvv : isVals [PV.str s, .mref id ep 0 es.length] = false := rfl
    simp only [callPure, hvv, Bool.false_eq_true, if_false, hb, hnr, e1, e3, hids, hsc, hfz, Bool.or_self, Nat.le_refl, if_true, hfr, Option.map_some, e4]
theorem resC_cell {a b c n : Nat} {t : TypeId} {cs : List PV} {v : PV} {sz : Nat} (ha : lk L a = some (.ptr b 0 0 0)) (hb : h[b]? = some ⟨.m, 0, n, [.agg cs]⟩) (hs : T.ts t = some (sz + 1)) (ht : T.ta t = some true) (hl : cs.length = sz + 1) (hc : lk L c = some v) : resC T L h [.cell a t, .tmp c] = some [.agg cs, v] := by
  have hp : pcells h (.ptr b 0 0 0) = some cs := (pcOf hb).trans rfl
  have hld : loadT T h t (.ptr b 0 0 0) = some (.agg cs) := by
    unfold loadT
    rw [hs, ht, hp]
    have : Nat.ble (sz + 1) cs.length = true := Nat.ble_eq_true_of_le (by omega)
    simp only [this, if_true]
    rw [List.take_of_length_le (by omega)]
  simp only [resC, ha, hld, hc]
end

theorem posT_snoc (l : List Pw) (p : Pw) : posT (l ++ [p]) = posT l ++ List.replicate p.2.toNat p.1 := by simp [posT]
theorem negT_snoc (l : List Pw) (p : Pw) : negT (l ++ [p]) = negT l ++ List.replicate (-p.2).toNat (invT p.1) := by simp [negT]
theorem take_snoc {l : List Pw} {i : Nat} {p : Pw} (h : l[i]? = some p) : l.take (i + 1) = l.take i ++ [p] := by rw [List.take_add_one, h]; rfl
def zeroT : Tm := .mk 0 ByteArray.empty 0 []
def wide (l : List Pw) : Bool := l.any fun p => decide (8 < p.2 ∨ p.2 < -8)
/-- the term of a product, or its error -/
def termT (l : List Pw) : Tm × Int := if validP l ≠ 0 then (zeroT, validP l) else if wide l = true then (zeroT, 3) else if 8 < (opsT l).length then (zeroT, 3) else if valid (joinT (opsT l)) ≠ 0 then (zeroT, valid (joinT (opsT l))) else (joinT (opsT l), 0)
/-- lists apart from each other -/
def Apart (v u : PV) : Prop := ∀ j ep n ep' n', v = .mref j ep 0 n → u = .mref j ep' 0 n' → False
theorem Out.lt {sz : Nat} {h : AHeap} {v : PV} {es : List PV} (o : Out sz h v es) {j ep n : Nat} (hv : v = .mref j ep 0 n) : j < h.length := by
  rcases o with ⟨rfl, _⟩ | ⟨id, ep', rfl, e2⟩
  · cases hv
  · cases hv; exact lt_of_some e2
/-- what lies apart stays -/
theorem LP.keep {H : AHeap} {v : PV} {sz : Nat} {es : List PV} {r : PV} {h' : AHeap} (a : LP H v sz es r h') {sz2 : Nat} {u : PV} {es2 : List PV} (o : Out sz2 H u es2) (ap : Apart v u) : Out sz2 h' u es2 ∧ Apart r u := by
  refine ⟨?_, ?_⟩
  · rcases o with o | ⟨id, ep, rfl, e2⟩
    · exact .inl o
    · exact .inr ⟨id, ep, rfl, by rw [a.fr id (lt_of_some e2) (fun ep' n hh => ap id ep' n ep es2.length hh rfl)]; exact e2⟩
  · intro j ep n ep' n' h1 h2
    rcases a.ref j ep n h1 with ⟨ep2, n2, h3⟩ | h3
    · exact ap j ep2 n2 ep' n' h3 h2
    · have := o.lt h2; omega
theorem LP.obj {H : AHeap} {v : PV} {sz : Nat} {es : List PV} {r : PV} {h' : AHeap} (a : LP H v sz es r h') {b : Nat} {o : AObj} (e : H[b]? = some o) (hb : ∀ ep n, v ≠ .mref b ep 0 n) : h'[b]? = some o ∧ ∀ ep n, r ≠ .mref b ep 0 n := by
  refine ⟨by rw [a.fr b (lt_of_some e) hb]; exact e, fun ep n hh => ?_⟩
  rcases a.ref b ep n hh with ⟨ep', n', h3⟩ | h3
  · exact hb ep' n' h3
  · have := lt_of_some e; omega

end Go.Pm
end

/-
  CHAPTER 6, PART 22: the program's Term. Conditions: none.
-/
section
set_option linter.unusedVariables false
set_option linter.unusedSimpArgs false
set_option linter.unusedVariables false
set_option linter.unusedSimpArgs false
set_option maxRecDepth 4000
set_option maxHeartbeats 4000000
namespace Go.Pm
open Go.Proofs
attribute [local irreducible] thenQ blockQ loopQ bodyQ Ev EvOps CallEv FnEv EvD

structure TI (H : AHeap) (vp vn : PV) (A B : List Tm) : Prop where
  hv : HV H
  z0 : H[0]? = some ⟨.m, 0, 4, [.agg [.int .i64 0, .str ByteArray.empty, .int .i64 0, .snap true []]]⟩
  op : Out 4 H vp (encs A)
  on : Out 4 H vn (encs B)
  ap : Apart vp vn
  p0 : ∀ ep n, vp ≠ .mref 0 ep 0 n
  n0 : ∀ ep n, vn ≠ .mref 0 ep 0 n
theorem TI.app {H : AHeap} {vp vn : PV} {A B : List Tm} (a : TI H vp vn A B) {K : AHeap} (hK : HV K) : TI (H ++ K) vp vn A B :=
  ⟨a.hv.app hK, by rw [List.getElem?_append_left (lt_of_some a.z0)]; exact a.z0, a.op.app K, a.on.app K, a.ap, a.p0, a.n0⟩
theorem TI.pos {H : AHeap} {vp vn : PV} {A B : List Tm} (a : TI H vp vn A B) {A' : List Tm} {v' : PV} {H' : AHeap} (lp : LP H vp 4 (encs A') v' H') : TI H' v' vn A' B :=
  have k := lp.keep a.on a.ap
  have z := lp.obj a.z0 a.p0
  ⟨lp.hv, z.1, lp.out, k.1, k.2, z.2, a.n0⟩
theorem TI.neg {H : AHeap} {vp vn : PV} {A B : List Tm} (a : TI H vp vn A B) {B' : List Tm} {v' : PV} {H' : AHeap} (lp : LP H vn 4 (encs B') v' H') : TI H' vp v' A B' :=
  have k := lp.keep a.op (fun j ep n ep' n' h1 h2 => a.ap j ep' n' ep n h2 h1)
  have z := lp.obj a.z0 a.n0
  ⟨lp.hv, z.1, k.1, lp.out, fun j ep n ep' n' h1 h2 => k.2 j ep' n' ep n h2 h1, a.p0, z.2⟩
theorem Out.notNew {sz : Nat} {h : AHeap} {v : PV} {es : List PV} (o : Out sz h v es) : ∀ ep n, v ≠ .mref h.length ep 0 n := fun ep n hh => by have := o.lt hh; omega
theorem wide_false {l : List Pw} {i : Nat} (h : wide (l.take i) = false) {p : Pw} (hp : l[i]? = some p) (h1 : ¬ 8 < p.2) (h2 : ¬ p.2 < -8) : wide (l.take (i + 1)) = false := by
  rw [take_snoc hp]
  unfold wide at h ⊢
  rw [List.any_append, h]
  simp; omega
theorem wide_true {l : List Pw} {p : Pw} (hp : p ∈ l) (h : 8 < p.2 ∨ p.2 < -8) : wide l = true := by
  unfold wide
  rw [List.any_eq_true]
  exact ⟨p, hp, decide_eq_true h⟩

theorem posT_len : ∀ {l : List Pw}, wide l = false → (posT l).length ≤ 8 * l.length
  | [], _ => by simp [posT]
  | p :: l, h => by
    have e : posT (p :: l) = List.replicate p.2.toNat p.1 ++ posT l := by simp [posT]
    unfold wide at h
    rw [List.any_cons, Bool.or_eq_false_iff] at h
    have h1 := of_decide_eq_false h.1
    have := posT_len h.2
    rw [e]; simp; omega
theorem negT_len : ∀ {l : List Pw}, wide l = false → (negT l).length ≤ 8 * l.length
  | [], _ => by simp [negT]
  | p :: l, h => by
    have e : negT (p :: l) = List.replicate (-p.2).toNat (invT p.1) ++ negT l := by simp [negT]
    unfold wide at h
    rw [List.any_cons, Bool.or_eq_false_iff] at h
    have h1 := of_decide_eq_false h.1
    have := negT_len h.2
    rw [e]; simp; omega
theorem encs_snoc (l : List Tm) (t : Tm) : encs l ++ [enc t] = encs (l ++ [t]) := by rw [encs_eq, encs_eq]; simp

theorem joinT_many : ∀ {l : List Tm}, 2 ≤ l.length → joinT l = .mk 3 sMul 0 l
  | [], h => by simp at h
  | [_], h => by simp at h
  | _ :: _ :: _, _ => rfl
theorem bulks_le {B : Nat} : ∀ {l : List Tm}, (∀ t ∈ l, bulk t ≤ B) → bulks l ≤ l.length * B
  | [], _ => by simp [bulks]
  | t :: l, h => by
    have h1 := h t (by simp)
    have h2 := bulks_le (l := l) (fun u hu => h u (by simp [hu]))
    simp only [bulks, List.length_cons, Nat.succ_mul]; omega
theorem sMul_sz : sMul.size = 3 := rfl
theorem sInv_sz : sInv.size = 3 := rfl
theorem sOne_sz : sOne.size = 3 := rfl
theorem bulk_join {l : List Pw} (hb : ∀ p ∈ l, bulk p.1 < 10000000) (h8 : ¬ 8 < (opsT l).length) : bulk (joinT (opsT l)) < 100000000 := by
  have h1 : ∀ t ∈ opsT l, bulk t ≤ 10000010 := by
    intro t ht
    unfold opsT posT negT at ht
    rcases List.mem_append.1 ht with ht | ht
    · obtain ⟨p, hp, ht⟩ := List.mem_flatMap.1 ht
      rw [(List.mem_replicate.1 ht).2]; have := hb p hp; omega
    · obtain ⟨p, hp, ht⟩ := List.mem_flatMap.1 ht
      rw [(List.mem_replicate.1 ht).2]
      have := hb p hp
      simp only [invT, bulk, bulks, sInv_sz]; omega
  generalize opsT l = al at h1 h8
  match al, h1, h8 with
  | [], _, _ => simp [joinT, bulk, bulks, sOne_sz]
  | [t], h1, _ => have := h1 t (by simp); simp only [joinT]; omega
  | t :: u :: r, h1, h8 =>
    have := bulks_le h1
    simp only [joinT, bulk, sMul_sz]
    simp only [List.length_cons] at this h8
    have : (r.length + 1 + 1) * 10000010 ≤ 8 * 10000010 := Nat.mul_le_mul_right _ (by omega)
    omega

set_option maxHeartbeats 16000000 in
theorem term_fun (l : List Pw) (hb : ∀ p ∈ l, bulk p.1 < 10000000) (hl : l.length < 1000000) : Fun C 11 [.snap false (encPs l)] (.tup [enc (termT l).1, .int .i64 (termT l).2]) := by
  have hva := pvalid_fun l (fun p hp => by have := hb p hp; omega) (by omega)
  have hel := encPs_len l
  have r1 : validP l ≠ 0 → termT l = (zeroT, validP l) := fun h => by rw [termT, if_pos h]
  have r2 : validP l = 0 → wide l = true → termT l = (zeroT, 3) := fun h h' => by rw [termT, if_neg (by omega), if_pos h']
  have r3 : validP l = 0 → wide l = false → 8 < (opsT l).length → termT l = (zeroT, 3) := fun h h' h2 => by rw [termT, if_neg (by omega), if_neg (by rw [h']; simp), if_pos h2]
  have r4 : validP l = 0 → wide l = false → ¬ 8 < (opsT l).length → valid (joinT (opsT l)) ≠ 0 → termT l = (zeroT, valid (joinT (opsT l))) := fun h h' h2 h3 => by rw [termT, if_neg (by omega), if_neg (by rw [h']; simp), if_neg h2, if_pos h3]
  have r5 : validP l = 0 → wide l = false → ¬ 8 < (opsT l).length → valid (joinT (opsT l)) = 0 → termT l = (joinT (opsT l), 0) := fun h h' h2 h3 => by rw [termT, if_neg (by omega), if_neg (by rw [h']; simp), if_neg h2, if_neg (by omega)]
  refine Fun.of (FnEv.bodyL Try.func11 rfl ?_)
  generalize termT l = R0 at r1 r2 r3 r4 r5 ⊢
  have fin : ∀ (t : Tm) (e : Int), R0 = (t, e) → ∀ (K : AHeap) (cs : List PV), nrm (.agg cs) = enc t → isVals cs = true → ∃ r1, rb K (tupOf [.agg cs, .int .i64 e]) = some r1 ∧ nrm r1 = PV.tup [enc R0.1, .int .i64 R0.2] := by
    intro t e hR K cs h1 h2
    have key : ∀ cs : List PV, isVals cs = true → rb1s K cs = some cs := by
      intro cs
      induction cs with
      | nil => intro _; rfl
      | cons c cs ih =>
        intro hh
        simp only [isVals, Bool.and_eq_true] at hh
        have : rb1 K c = some c := by
          unfold rb1
          split
          · simp [isVal] at hh
          · rw [if_pos hh.1]
        simp only [rb1s, this, ih hh.2]
    refine ⟨.tup [.agg cs, .int .i64 e], ?_, by rw [hR]; simp only [nrm, nrms] at h1 ⊢; rw [h1]⟩
    simp only [tupOf, rb, rbAs, rbA, key cs h2, Option.map_some]
    rfl
  have zz : nrm (.agg [.int .i64 0, .str ByteArray.empty, .int .i64 0, .snap true []]) = enc zeroT := by rw [zeroT, enc_mk]; rfl
  (repeat' (first | refine EvOps.nil ?_ | (apply R.move; exact rfl) | (apply R.assign; exact rfl) | (apply R.alloc T6; exact rfl; exact rfl; exact rfl; exact .nil) | refine Ev.seq ?_ | refine Ev.region ?_ | refine thenQ.normal ?_ | fail))
  refine R.call rfl rfl (CallEv.pure rfl (by simp [isVals, isVal]) (by simpa [nrms, nrm, nrms_encPs] using hva) ?_)
  (repeat' (first | refine EvOps.nil ?_ | (apply R.move; exact rfl) | (apply R.assign; exact rfl) | (apply R.cmp; exact rfl; exact rfl; exact rfl; all_goals intro hc) | (apply R.build T6; exact rfl; exact rfl; exact rfl; exact rfl; exact rfl; exact rfl) | (apply R.lenS T6; exact rfl; exact rfl) | refine Ev.seq ?_ | refine Ev.region ?_ | (apply Ev.condB; exact rfl) | refine Ev.skip ?_ | refine Ev.block ?_ | refine thenQ.normal ?_ | fail))
  · refine R.storeH T6 (n := 0) (o := ⟨.m, 0, 4, [.agg [.int .i64 0, .str ByteArray.empty, .int .i64 0, .snap true []]]⟩) (i := 0) (e := .agg [.int .i64 0, .str ByteArray.empty, .int .i64 0, .snap true []]) rfl rfl rfl rfl rfl rfl rfl rfl (Nat.le_refl 4) ?_
    (repeat' (first | refine EvOps.nil ?_ | (apply R.assign; exact rfl) | refine Ev.ret ?_ | refine thenQ.normal ?_ | refine thenQ.ret ?_ | (apply bodyQ.retC T6; exact rfl) | fail))
    exact fin _ _ (r1 (by assumption)) _ _ zz rfl
  have v0 := Decidable.not_not.1 hc
  clear hc r1
  have r2 := r2 v0
  have r3 := r3 v0
  have r4 := r4 v0
  have r5 := r5 v0
  refine Ev.loop (I := fun k' st => ∃ (i : Nat) (H : AHeap) (vp vn : PV) (ρ' : Nat → PV), st = ⟨al [(2, .ptr 0 0 0 0), (5, vp), (6, vn), (18, .snap false (encPs l)), (19, .int .i64 (encPs l).length), (20, .int .i64 i)] ρ', H⟩ ∧ k' + i = l.length ∧ TI H vp vn (posT (l.take i)) (negT (l.take i)) ∧ wide (l.take i) = false) l.length ?_ ?_
  · exact ⟨0, [⟨.m, 0, 4, [.agg [.int .i64 0, .str ByteArray.empty, .int .i64 0, .snap true []]]⟩], .snap true [], .snap true [], _, St.keep ⟨rfl, rfl, rfl, rfl, rfl, rfl, trivial⟩, rfl, ⟨HV.one rfl, rfl, Out.nil _ _, Out.nil _ _, (fun j ep n ep' n' h1 h2 => by cases h1), (fun ep n hh => by cases hh), (fun ep n hh => by cases hh)⟩, rfl⟩
  · rintro k' _ ⟨i, H, vp, vn, ρ', rfl, hk, ti, hw⟩
    (repeat' (first | refine EvOps.nil ?_ | (apply R.move; exact rfl) | (apply R.cmp; exact rfl; exact rfl; exact rfl; all_goals intro hc) | refine Ev.seq ?_ | refine Ev.region ?_ | (apply Ev.condB; exact rfl) | refine Ev.skip ?_ | refine Ev.exit ?_ | refine Ev.block ?_ | refine thenQ.normal ?_ | refine thenQ.exit ?_ | refine blockQ.hit ?_ | refine loopQ.exit ?_ | fail))
    · obtain ⟨k1, s1, o1, l1, n1, hmem, hat, hd, hil, hget⟩ := encPs_at hc
      have hcl := clone_fun (.mk k1 s1 o1 l1) (by have := hb _ hmem; simp only at this; omega)
      rw [enc_mk] at hcl
      refine R.indexS T6 rfl rfl rfl rfl hat rfl rfl ?_
      clear hc
      have t1 := ti.app (K := [⟨.m, 0, 5, [.agg [.int .i64 k1, .str s1, .int .i64 o1, .snap false (encs l1), .int .i64 n1]]⟩]) (HV.one rfl)
      have b1 : (H ++ [(⟨.m, 0, 5, [.agg [.int .i64 k1, .str s1, .int .i64 o1, .snap false (encs l1), .int .i64 n1]]⟩ : AObj)])[H.length]? = some ⟨.m, 0, 5, [.agg [.int .i64 k1, .str s1, .int .i64 o1, .snap false (encs l1), .int .i64 n1]]⟩ := by simp
      have q1 := ti.op.notNew
      have q2 := ti.on.notNew
      (repeat' (first | refine EvOps.nil ?_ | (apply R.gOn; exact rfl; exact rfl; exact rfl) | (apply R.gOff; exact rfl; exact rfl; exact rfl) | (apply R.move; exact rfl) | (apply R.pickT; exact rfl; exact rfl) | (apply R.pickF; exact rfl; exact rfl) | (apply R.loadA T6; exact rfl; exact rfl; exact rfl; exact rfl; exact (by repeat constructor)) | (apply R.fieldAddr T6; exact rfl; exact rfl; exact rfl; exact rfl) | (apply R.cmp; exact rfl; exact rfl; exact rfl; all_goals intro hc) | (apply R.build T6; exact rfl; exact rfl; exact rfl; exact rfl; exact rfl; exact rfl) | (apply R.allocN T6; exact rfl; exact rfl; exact rfl) | (apply R.storeN T6; exact rfl; exact rfl; exact rfl; exact rfl; exact rfl; exact rfl) | (apply R.load1H T6; exact rfl; exact rfl; exact rfl; exact (by assumption); exact rfl) | refine Ev.seq ?_ | refine Ev.region ?_ | (apply Ev.condB; exact rfl) | refine Ev.skip ?_ | refine Ev.block ?_ | refine thenQ.normal ?_ | fail))
      · refine R.storeH T6 (n := 0) (o := ⟨.m, 0, 4, [.agg [.int .i64 0, .str ByteArray.empty, .int .i64 0, .snap true []]]⟩) (i := 0) (e := .agg [.int .i64 0, .str ByteArray.empty, .int .i64 0, .snap true []]) rfl rfl rfl (getM_at t1.z0 rfl (by simp)) rfl rfl rfl rfl (Nat.le_refl 4) ?_
        (repeat' (first | refine EvOps.nil ?_ | (apply R.assign; exact rfl) | refine Ev.ret ?_ | refine thenQ.normal ?_ | refine thenQ.ret ?_ | refine blockQ.ret ?_ | refine loopQ.ret ?_ | fail))
        refine bodyQ.retC T6 (resC_cell T6 rfl (List.getElem?_set_self (lt_of_some t1.z0)) rfl rfl rfl rfl) ?_
        exact fin _ _ (r2 (wide_true hmem (by simp only; omega))) _ _ zz rfl
      · refine R.storeH T6 (n := 0) (o := ⟨.m, 0, 4, [.agg [.int .i64 0, .str ByteArray.empty, .int .i64 0, .snap true []]]⟩) (i := 0) (e := .agg [.int .i64 0, .str ByteArray.empty, .int .i64 0, .snap true []]) rfl rfl rfl (getM_at t1.z0 rfl (by simp)) rfl rfl rfl rfl (Nat.le_refl 4) ?_
        (repeat' (first | refine EvOps.nil ?_ | (apply R.assign; exact rfl) | refine Ev.ret ?_ | refine thenQ.normal ?_ | refine thenQ.ret ?_ | refine blockQ.ret ?_ | refine loopQ.ret ?_ | fail))
        refine bodyQ.retC T6 (resC_cell T6 rfl (List.getElem?_set_self (lt_of_some t1.z0)) rfl rfl rfl rfl) ?_
        exact fin _ _ (r2 (wide_true hmem (by simp only; omega))) _ _ zz rfl
      · have hn1 : -8 ≤ n1 ∧ n1 ≤ 8 := by omega
        have lenp := posT_len hw
        have lenn := negT_len hw
        rw [List.length_take_of_le (by omega)] at lenp lenn
        have hw' := wide_false hw hget (by simp only; omega) (by simp only; omega)
        clear hc
        refine Ev.loop (I := fun k2 st => ∃ (j : Nat) (H' : AHeap) (vp' : PV) (ρ' : Nat → PV), st = ⟨al [(2, .ptr 0 0 0 0), (5, vp'), (6, vn), (8, .ptr H.length 0 0 0), (18, .snap false (encPs l)), (19, .int .i64 (encPs l).length), (20, .int .i64 i), (34, .int .i64 n1), (35, .int .i64 j)] ρ', H'⟩ ∧ k2 + j = n1.toNat ∧
          TI H' vp' vn (posT (l.take i) ++ List.replicate j (.mk k1 s1 o1 l1)) (negT (l.take i)) ∧ H'[H.length]? = some ⟨.m, 0, 5, [.agg [.int .i64 k1, .str s1, .int .i64 o1, .snap false (encs l1), .int .i64 n1]]⟩ ∧ (∀ ep n, vp' ≠ .mref H.length ep 0 n)) n1.toNat ?_ ?_
        · exact ⟨0, _, vp, _, St.keep ⟨rfl, rfl, rfl, rfl, rfl, rfl, rfl, rfl, rfl, trivial⟩, by omega, by simpa using t1, b1, q1⟩
        · clear t1 b1 q1 ti
          rintro k2 _ ⟨j, H2, vp2, ρ2, rfl, hk2, t2, b2, q3⟩
          (repeat' (first | refine EvOps.nil ?_ | (apply R.move; exact rfl) | (apply R.fieldAddr T6; exact rfl; exact rfl; exact rfl; exact rfl) | (apply R.cmp; exact rfl; exact rfl; exact rfl; all_goals intro hc) | (apply R.neg; exact rfl; exact (wrapI (by omega) (by omega))) | (apply R.load1H T6; exact rfl; exact rfl; exact rfl; exact (by assumption); exact rfl) | (apply R.loadAH T6; exact rfl; exact rfl; exact rfl; exact (by assumption); exact (by repeat constructor)) | refine Ev.seq ?_ | refine Ev.region ?_ | (apply Ev.condB; exact rfl) | refine Ev.skip ?_ | refine Ev.exit ?_ | refine Ev.block ?_ | refine thenQ.normal ?_ | refine thenQ.exit ?_ | refine blockQ.hit ?_ | refine loopQ.exit ?_ | fail))
          · have hjn := hc
            refine R.call rfl rfl (CallEv.pure rfl (by simp [isVals, isVal]) (by simpa [nrms, nrm, nrms_encs] using hcl) ?_)
            (repeat' (first | (apply R.buildSlice T6; exact rfl; exact rfl; exact rfl; exact rfl; exact (by decide); exact rfl; exact rfl; exact rfl; exact rfl; exact rfl) | fail))
            refine R.appendLP T6 rfl rfl rfl rfl rfl rfl rfl (by decide) rfl rfl rfl rfl t2.op (show (encs _).length + 1 < _ by rw [encs_len, List.length_append, List.length_replicate]; omega) (by rw [isVals_eq, List.all_append, ← isVals_eq, isVals_encs]; rfl) t2.hv ?_
            intro v3 H3 lp
            have es : encs (posT (l.take i) ++ List.replicate j (.mk k1 s1 o1 l1)) ++ [.agg [.int .i64 k1, .str s1, .int .i64 o1, .snap false (encs l1)]] = encs (posT (l.take i) ++ List.replicate (j + 1) (.mk k1 s1 o1 l1)) := by
              rw [← enc_mk, encs_snoc, List.append_assoc, ← List.replicate_succ']
            have lp : LP H2 vp2 4 (encs (posT (l.take i) ++ List.replicate (j + 1) (.mk k1 s1 o1 l1))) v3 H3 := by rw [← es]; exact lp
            have ob := lp.obj b2 q3
            (repeat' (first | refine EvOps.nil ?_ | (apply R.move; exact rfl) | (apply R.assign; exact rfl) | (apply R.arith; exact rfl; exact rfl; exact rfl; exact (wrapI (by omega) (by omega))) | refine Ev.region ?_ | refine thenQ.normal ?_ | refine blockQ.normal ?_ | refine loopQ.normal ?_ | fail))
            exact ⟨k2 - 1, by omega, j + 1, H3, v3, _, St.keep ⟨rfl, rfl, rfl, rfl, rfl, rfl, rfl, rfl, rfl, trivial⟩, by omega, t2.pos lp, ob.1, ob.2⟩
          · obtain rfl : j = n1.toNat := by omega
            clear hc
            refine Ev.loop (I := fun k3 st => ∃ (j : Nat) (H' : AHeap) (vn' : PV) (ρ' : Nat → PV), st = ⟨al [(2, .ptr 0 0 0 0), (5, vp2), (6, vn'), (8, .ptr H.length 0 0 0), (18, .snap false (encPs l)), (19, .int .i64 (encPs l).length), (20, .int .i64 i), (46, .int .i64 (0 - n1)), (47, .int .i64 j)] ρ', H'⟩ ∧ k3 + j = (-n1).toNat ∧
              TI H' vp2 vn' (posT (l.take i) ++ List.replicate n1.toNat (.mk k1 s1 o1 l1)) (negT (l.take i) ++ List.replicate j (invT (.mk k1 s1 o1 l1))) ∧ H'[H.length]? = some ⟨.m, 0, 5, [.agg [.int .i64 k1, .str s1, .int .i64 o1, .snap false (encs l1), .int .i64 n1]]⟩ ∧ (∀ ep n, vn' ≠ .mref H.length ep 0 n)) (-n1).toNat ?_ ?_
            · exact ⟨0, _, vn, _, St.keep ⟨rfl, rfl, rfl, rfl, rfl, rfl, rfl, rfl, rfl, trivial⟩, by omega, by simpa using t2, b2, q2⟩
            · clear t2 b2
              rintro k3 _ ⟨j, H3, vn3, ρ3, rfl, hk3, t3, b3, q4⟩
              (repeat' (first | refine EvOps.nil ?_ | (apply R.move; exact rfl) | (apply R.fieldAddr T6; exact rfl; exact rfl; exact rfl; exact rfl) | (apply R.cmp; exact rfl; exact rfl; exact rfl; all_goals intro hc) | (apply R.arith; exact rfl; exact rfl; exact rfl; exact (wrapI (by omega) (by omega))) | (apply R.loadAH T6; exact rfl; exact rfl; exact rfl; exact (by assumption); exact (by repeat constructor)) | refine Ev.seq ?_ | refine Ev.region ?_ | (apply Ev.condB; exact rfl) | refine Ev.skip ?_ | refine Ev.exit ?_ | refine Ev.block ?_ | refine thenQ.normal ?_ | refine thenQ.exit ?_ | refine blockQ.normal ?_ | refine blockQ.hit ?_ | refine loopQ.normal ?_ | refine loopQ.exit ?_ | fail))
              · have hjn := hc
                refine R.call rfl rfl (CallEv.pure rfl (by simp [isVals, isVal]) (by simpa [nrms, nrm, nrms_encs] using hcl) ?_)
                (repeat' (first | (apply R.buildSlice T6; exact rfl; exact rfl; exact rfl; exact rfl; exact (by decide); exact rfl; exact rfl; exact rfl; exact rfl; exact rfl) | fail))
                have hap := app_fun sInv [.mk k1 s1 o1 l1]
                simp only [encs, enc_mk] at hap
                refine R.call rfl rfl (CallEv.pure rfl rfl (by show Fun C _ (nrms [.str sInv, .snap true [.agg [.int .i64 k1, .str s1, .int .i64 o1, .snap false (encs l1)]]]) _; simpa [nrms, nrm, nrms_encs] using hap) ?_)
                (repeat' (first | (apply R.buildSlice T6; exact rfl; exact rfl; exact rfl; exact rfl; exact (by decide); exact rfl; exact rfl; exact rfl; exact rfl; exact rfl) | fail))
                refine R.appendLP T6 rfl rfl rfl rfl rfl rfl rfl (by decide) rfl rfl rfl rfl t3.on (show (encs _).length + 1 < _ by rw [encs_len, List.length_append, List.length_replicate]; omega) (by rw [isVals_eq, List.all_append, ← isVals_eq, isVals_encs]; rfl) t3.hv ?_
                intro v4 H4 lp
                have es : encs (negT (l.take i) ++ List.replicate j (invT (.mk k1 s1 o1 l1))) ++ [.agg [.int .i64 3, .str sInv, .int .i64 0, .snap false [.agg [.int .i64 k1, .str s1, .int .i64 o1, .snap false (encs l1)]]]] = encs (negT (l.take i) ++ List.replicate (j + 1) (invT (.mk k1 s1 o1 l1))) := by
                  have : enc (invT (.mk k1 s1 o1 l1)) = .agg [.int .i64 3, .str sInv, .int .i64 0, .snap false [.agg [.int .i64 k1, .str s1, .int .i64 o1, .snap false (encs l1)]]] := by
                    unfold invT; rw [enc_mk]; simp only [encs, enc_mk]
                  rw [← this, encs_snoc, List.append_assoc, ← List.replicate_succ']
                have lp : LP H3 vn3 4 (encs (negT (l.take i) ++ List.replicate (j + 1) (invT (.mk k1 s1 o1 l1)))) v4 H4 := by rw [← es]; exact lp
                have ob := lp.obj b3 q4
                (repeat' (first | refine EvOps.nil ?_ | (apply R.move; exact rfl) | (apply R.assign; exact rfl) | (apply R.arith; exact rfl; exact rfl; exact rfl; exact (wrapI (by omega) (by omega))) | refine Ev.region ?_ | refine thenQ.normal ?_ | refine blockQ.normal ?_ | refine loopQ.normal ?_ | fail))
                exact ⟨k3 - 1, by omega, j + 1, H4, v4, _, St.keep ⟨rfl, rfl, rfl, rfl, rfl, rfl, rfl, rfl, rfl, trivial⟩, by omega, t3.neg lp, ob.1, ob.2⟩
              · obtain rfl : j = (-n1).toNat := by omega
                refine ⟨k' - 1, by omega, i + 1, H3, vp2, vn3, _, St.keep ⟨rfl, rfl, rfl, rfl, rfl, rfl, trivial⟩, by omega, ?_, hw'⟩
                rw [take_snoc hget, posT_snoc, negT_snoc]
                exact t3
    · have tk : l.take i = l := List.take_of_length_le (by omega)
      rw [tk] at ti hw
      have r2 := hw
      have r3 := r3 hw
      have r4 := r4 hw
      have r5 := r5 hw
      have lenp := posT_len hw
      have lenn := negT_len hw
      have hbj := bulk_join hb
      have hops : opsT l = posT l ++ negT l := rfl
      clear hc hw tk
      apply R.buildPair T6; exact rfl; exact rfl; exact rfl; exact rfl; exact rfl; exact rfl; exact rfl; exact ti.op; exact ti.on
      intro w H1 hx2 hH1
      have op1 : Out 4 H1 vp (encs (posT l)) := by rcases hH1 with rfl | rfl; exact ti.op; exact ti.op.app _
      have on1 : Out 4 H1 vn (encs (negT l)) := by rcases hH1 with rfl | rfl; exact ti.on; exact ti.on.app _
      have z1 : H1[0]? = some ⟨.m, 0, 4, [.agg [.int .i64 0, .str ByteArray.empty, .int .i64 0, .snap true []]]⟩ := by rcases hH1 with rfl | rfl; exact ti.z0; rw [List.getElem?_append_left (lt_of_some ti.z0)]; exact ti.z0
      clear hH1 ti
      skip
      refine R.call rfl rfl (CallEv.opened rfl ((concat_ev (posT l) (negT l) H1 w vp vn hx2 op1 on1 (by omega)).mono ?_))
      rintro r h' hcat
      have key : (if (belowR H1.length r && (h'.take H1.length).all fun o => o.es.all (belowA H1.length)) = true then h'.take H1.length else h') = h' := by
        rcases hcat with ⟨_, rfl, rfl⟩ | ⟨ep, rfl, rfl⟩
        · simp
        · rw [if_neg (by simp [belowR, belowA, below1])]
      rw [key]
      have ho : Out 4 h' r (encs (opsT l)) := by
        rw [hops]
        rcases hcat with ⟨h1, rfl, rfl⟩ | ⟨ep, rfl, rfl⟩
        · rw [h1]; exact .inl ⟨rfl, rfl⟩
        · exact .inr ⟨H1.length, ep, rfl, by simp⟩
      have z2 : h'[0]? = some ⟨.m, 0, 4, [.agg [.int .i64 0, .str ByteArray.empty, .int .i64 0, .snap true []]]⟩ := by
        rcases hcat with ⟨h1, rfl, rfl⟩ | ⟨ep, rfl, rfl⟩
        · exact z1
        · rw [List.getElem?_append_left (lt_of_some z1)]; exact z1
      have q2 : ∀ ep n, r ≠ .mref 0 ep 0 n := by
        intro ep n hh
        rcases hcat with ⟨h1, rfl, rfl⟩ | ⟨ep, rfl, rfl⟩
        · cases hh
        · have h0 := lt_of_some z1
          have := (PV.mref.inj hh).1
          omega
      have hal := encs_len (opsT l)
      clear key hcat z1 op1 on1 hx2
      (repeat' (first | refine EvOps.nil ?_ | (apply R.move; exact rfl) | (apply R.assign; exact rfl) | refine Ev.seq ?_ | refine Ev.region ?_ | refine thenQ.normal ?_ | fail))
      apply R.lenOut T6; exact rfl; exact rfl; exact ho
      (repeat' (first | refine EvOps.nil ?_ | (apply R.move; exact rfl) | (apply R.cmp; exact rfl; exact rfl; exact rfl; all_goals intro hc) | (apply R.build T6; exact rfl; exact rfl; exact rfl; exact rfl; exact rfl; exact rfl) | refine Ev.seq ?_ | refine Ev.region ?_ | (apply Ev.condB; exact rfl) | refine Ev.skip ?_ | refine thenQ.normal ?_ | fail))
      · refine R.storeH T6 (n := 0) (o := ⟨.m, 0, 4, [.agg [.int .i64 0, .str ByteArray.empty, .int .i64 0, .snap true []]]⟩) (i := 0) (e := .agg [.int .i64 0, .str ByteArray.empty, .int .i64 0, .snap true []]) rfl rfl rfl (getM_at z2 rfl (by simp)) rfl rfl rfl rfl (Nat.le_refl 4) ?_
        (repeat' (first | refine EvOps.nil ?_ | (apply R.assign; exact rfl) | refine Ev.ret ?_ | refine thenQ.normal ?_ | refine thenQ.ret ?_ | fail))
        refine bodyQ.retC T6 (resC_cell T6 rfl (List.getElem?_set_self (lt_of_some z2)) rfl rfl rfl rfl) ?_
        exact fin _ _ (r3 (by omega)) _ _ zz rfl
      · have h8 : ¬ 8 < (opsT l).length := by omega
        have hva := valid_fun _ (hbj h8)
        have r4 := r4 h8
        have r5 := r5 h8
        clear hc
        have hap := app_fun sMul (opsT l)
        rw [enc_mk] at hap
        refine R.call rfl rfl (CallEv.outF rfl ho (isVals_encs _) (by rw [nrms_encs]; exact hap) rfl ?_)
        intro H3 of3 len3 fr3
        have z3 : H3[0]? = some ⟨.m, 0, 4, [.agg [.int .i64 0, .str ByteArray.empty, .int .i64 0, .snap true []]]⟩ := by rw [fr3 0 q2]; exact z2
        (repeat' (first | refine EvOps.nil ?_ | (apply R.move; exact rfl) | (apply R.allocN T6; exact rfl; exact rfl; exact rfl) | (apply R.storeN T6; exact rfl; exact rfl; exact rfl; exact rfl; exact rfl; exact rfl) | refine Ev.seq ?_ | refine Ev.region ?_ | refine thenQ.normal ?_ | fail))
        apply R.lenOutF T6; exact rfl; exact rfl; exact of3.app _
        obtain ⟨H4, hH4⟩ : ∃ x, x = H3 ++ [⟨.m, 0, 4, [.agg [.int .i64 3, .str sMul, .int .i64 0, .snap false (encs (opsT l))]]⟩] := ⟨_, rfl⟩
        have z4 : H4[0]? = some ⟨.m, 0, 4, [.agg [.int .i64 0, .str ByteArray.empty, .int .i64 0, .snap true []]]⟩ := by rw [hH4, List.getElem?_append_left (lt_of_some z3)]; exact z3
        have b4 : H4[H3.length]? = some ⟨.m, 0, 4, [.agg [.int .i64 3, .str sMul, .int .i64 0, .snap false (encs (opsT l))]]⟩ := by rw [hH4]; simp
        have of4 : OutF 4 H4 r (encs (opsT l)) := by rw [hH4]; exact of3.app _
        refine EvOps.heap hH4.symm ?_
        have ne0 : H3.length ≠ 0 := by have := lt_of_some z3; omega
        clear hH4 of3 fr3
        (repeat' (first | refine EvOps.nil ?_ | (apply R.move; exact rfl) | (apply R.assign; exact rfl) | (apply R.cmp; exact rfl; exact rfl; exact rfl; all_goals intro hc) | (apply R.loadAH T6; exact rfl; exact rfl; exact rfl; exact (by assumption); exact (by repeat constructor)) | refine Ev.seq ?_ | refine Ev.region ?_ | (apply Ev.condB; exact rfl) | refine Ev.skip ?_ | refine Ev.block ?_ | refine thenQ.normal ?_ | refine blockQ.normal ?_ | fail))
        · -- no operand
          have hnil : opsT l = [] := List.eq_nil_of_length_eq_zero (by omega)
          have hj : joinT (opsT l) = .mk 3 sOne 0 [] := by rw [hnil]; rfl
          have ha1 := app_fun sOne []
          simp only [encs, enc_mk] at ha1
          refine R.call rfl rfl (CallEv.pure rfl rfl (by show Fun C _ (nrms [.str sOne, .snap true []]) _; simpa [nrms, nrm] using ha1) ?_)
          refine R.storeH T6 (n := 0) (o := ⟨.m, 0, 4, [.agg [.int .i64 3, .str sMul, .int .i64 0, .snap false (encs (opsT l))]]⟩) (i := 0) (e := .agg [.int .i64 3, .str sMul, .int .i64 0, .snap false (encs (opsT l))]) rfl rfl rfl (getM_at b4 rfl (by simp)) rfl rfl rfl rfl (Nat.le_refl 4) ?_
          obtain ⟨H5, hH5⟩ : ∃ x, x = H4.set H3.length ⟨.m, 0, 4, [.agg [.int .i64 3, .str sOne, .int .i64 0, .snap false []]]⟩ := ⟨_, rfl⟩
          have z5 : H5[0]? = some ⟨.m, 0, 4, [.agg [.int .i64 0, .str ByteArray.empty, .int .i64 0, .snap true []]]⟩ := by rw [hH5, List.getElem?_set_ne ne0]; exact z4
          have b5 : H5[H3.length]? = some ⟨.m, 0, 4, [.agg [.int .i64 3, .str sOne, .int .i64 0, .snap false []]]⟩ := by rw [hH5]; exact List.getElem?_set_self (lt_of_some b4)
          refine EvOps.heap hH5.symm ?_
          clear b4 hH5
          rw [hj, enc_mk] at hva
          (repeat' (first | refine EvOps.nil ?_ | (apply R.loadAH T6; exact rfl; exact rfl; exact rfl; exact (by assumption); exact (by repeat constructor)) | refine Ev.seq ?_ | refine Ev.region ?_ | refine thenQ.normal ?_ | refine blockQ.normal ?_ | fail))
          refine R.call rfl rfl (CallEv.pure rfl (by simp [isVals, isVal]) (by simpa [nrms, nrm, nrms_encs, encs] using hva) ?_)
          (repeat' (first | refine EvOps.nil ?_ | (apply R.move; exact rfl) | (apply R.assign; exact rfl) | (apply R.cmp; exact rfl; exact rfl; exact rfl; all_goals intro hc) | (apply R.build T6; exact rfl; exact rfl; exact rfl; exact rfl; exact rfl; exact rfl) | (apply R.loadAH T6; exact rfl; exact rfl; exact rfl; exact (by assumption); exact (by repeat constructor)) | refine Ev.seq ?_ | refine Ev.region ?_ | (apply Ev.condB; exact rfl) | refine Ev.skip ?_ | refine thenQ.normal ?_ | fail))
          · have hne := hc
            refine R.storeH T6 (n := 0) (o := ⟨.m, 0, 4, [.agg [.int .i64 0, .str ByteArray.empty, .int .i64 0, .snap true []]]⟩) (i := 0) (e := .agg [.int .i64 0, .str ByteArray.empty, .int .i64 0, .snap true []]) rfl rfl rfl (getM_at z5 rfl (by simp)) rfl rfl rfl rfl (Nat.le_refl 4) ?_
            (repeat' (first | refine EvOps.nil ?_ | (apply R.assign; exact rfl) | refine Ev.ret ?_ | refine thenQ.normal ?_ | refine thenQ.ret ?_ | fail))
            refine bodyQ.retC T6 (resC_cell T6 rfl (List.getElem?_set_self (lt_of_some z5)) rfl rfl rfl rfl) ?_
            exact fin _ _ ((r4 (by rw [hj]; exact hne)).trans (by rw [hj])) _ _ zz rfl
          · have h0 := Decidable.not_not.1 hc
            refine R.storeH T6 (n := 0) (o := ⟨.m, 0, 4, [.agg [.int .i64 0, .str ByteArray.empty, .int .i64 0, .snap true []]]⟩) (i := 0) (e := .agg [.int .i64 0, .str ByteArray.empty, .int .i64 0, .snap true []]) rfl rfl rfl (getM_at z5 rfl (by simp)) rfl rfl rfl rfl (Nat.le_refl 4) ?_
            (repeat' (first | refine EvOps.nil ?_ | (apply R.assign; exact rfl) | refine Ev.ret ?_ | refine thenQ.normal ?_ | fail))
            refine bodyQ.retC T6 (resC_cell T6 rfl (List.getElem?_set_self (lt_of_some z5)) rfl rfl rfl rfl) ?_
            refine fin _ _ (r5 (by rw [hj]; exact h0)) _ [.int .i64 3, .str sOne, .int .i64 0, .snap false []] ?_ rfl
            rw [hj, enc_mk]; simp [nrm, nrms, encs]
        · -- one operand
          have h1 : (opsT l).length = 1 := by omega
          obtain ⟨t, ht⟩ := List.length_eq_one_iff.1 h1
          have hj : joinT (opsT l) = t := by rw [ht]; rfl
          obtain ⟨k1, s1, o1, l1⟩ := t
          have hel : encs (opsT l) = [.agg [.int .i64 k1, .str s1, .int .i64 o1, .snap false (encs l1)]] := by rw [ht]; simp only [encs, enc_mk]
          rcases of4 with ⟨rfl, e0⟩ | ⟨id, ep, mu, rfl, e4, hmu⟩
          · rw [e0] at hel; cases hel
          have hmx : mu ≠ .x := by rcases hmu with rfl | rfl <;> simp
          rw [hel] at e4
          refine R.indexM T6 (i := 0) (o := ⟨mu, ep, 4, [.agg [.int .i64 k1, .str s1, .int .i64 o1, .snap false (encs l1)]]⟩) rfl rfl rfl (getM_at e4 rfl hmx) rfl (by omega) (by rw [hel]; exact Nat.le_refl 1) ?_
          refine R.loadA T6 (cs := [.int .i64 k1, .str s1, .int .i64 o1, .snap false (encs l1)]) rfl rfl rfl ?_ (by repeat constructor) ?_
          · simp only [pcells, getM_at e4 rfl hmx]; rfl
          refine R.storeH T6 (n := 0) (o := ⟨.m, 0, 4, [.agg [.int .i64 3, .str sMul, .int .i64 0, .snap false (encs (opsT l))]]⟩) (i := 0) (e := .agg [.int .i64 3, .str sMul, .int .i64 0, .snap false (encs (opsT l))]) rfl rfl rfl (getM_at b4 rfl (by simp)) rfl rfl rfl rfl (Nat.le_refl 4) ?_
          obtain ⟨H5, hH5⟩ : ∃ x, x = H4.set H3.length ⟨.m, 0, 4, [.agg [.int .i64 k1, .str s1, .int .i64 o1, .snap false (encs l1)]]⟩ := ⟨_, rfl⟩
          have z5 : H5[0]? = some ⟨.m, 0, 4, [.agg [.int .i64 0, .str ByteArray.empty, .int .i64 0, .snap true []]]⟩ := by rw [hH5, List.getElem?_set_ne ne0]; exact z4
          have b5 : H5[H3.length]? = some ⟨.m, 0, 4, [.agg [.int .i64 k1, .str s1, .int .i64 o1, .snap false (encs l1)]]⟩ := by rw [hH5]; exact List.getElem?_set_self (lt_of_some b4)
          refine EvOps.heap hH5.symm ?_
          clear b4 hH5
          rw [hj, enc_mk] at hva
          (repeat' (first | refine EvOps.nil ?_ | (apply R.loadAH T6; exact rfl; exact rfl; exact rfl; exact (by assumption); exact (by repeat constructor)) | refine Ev.seq ?_ | refine Ev.region ?_ | refine thenQ.normal ?_ | refine blockQ.normal ?_ | fail))
          refine R.call rfl rfl (CallEv.pure rfl (by simp [isVals, isVal]) (by simpa [nrms, nrm, nrms_encs, encs] using hva) ?_)
          (repeat' (first | refine EvOps.nil ?_ | (apply R.move; exact rfl) | (apply R.assign; exact rfl) | (apply R.cmp; exact rfl; exact rfl; exact rfl; all_goals intro hc) | (apply R.build T6; exact rfl; exact rfl; exact rfl; exact rfl; exact rfl; exact rfl) | (apply R.loadAH T6; exact rfl; exact rfl; exact rfl; exact (by assumption); exact (by repeat constructor)) | refine Ev.seq ?_ | refine Ev.region ?_ | (apply Ev.condB; exact rfl) | refine Ev.skip ?_ | refine thenQ.normal ?_ | fail))
          · have hne := hc
            refine R.storeH T6 (n := 0) (o := ⟨.m, 0, 4, [.agg [.int .i64 0, .str ByteArray.empty, .int .i64 0, .snap true []]]⟩) (i := 0) (e := .agg [.int .i64 0, .str ByteArray.empty, .int .i64 0, .snap true []]) rfl rfl rfl (getM_at z5 rfl (by simp)) rfl rfl rfl rfl (Nat.le_refl 4) ?_
            (repeat' (first | refine EvOps.nil ?_ | (apply R.assign; exact rfl) | refine Ev.ret ?_ | refine thenQ.normal ?_ | refine thenQ.ret ?_ | fail))
            refine bodyQ.retC T6 (resC_cell T6 rfl (List.getElem?_set_self (lt_of_some z5)) rfl rfl rfl rfl) ?_
            exact fin _ _ ((r4 (by rw [hj]; exact hne)).trans (by rw [hj])) _ _ zz rfl
          · have h0 := Decidable.not_not.1 hc
            refine R.storeH T6 (n := 0) (o := ⟨.m, 0, 4, [.agg [.int .i64 0, .str ByteArray.empty, .int .i64 0, .snap true []]]⟩) (i := 0) (e := .agg [.int .i64 0, .str ByteArray.empty, .int .i64 0, .snap true []]) rfl rfl rfl (getM_at z5 rfl (by simp)) rfl rfl rfl rfl (Nat.le_refl 4) ?_
            (repeat' (first | refine EvOps.nil ?_ | (apply R.assign; exact rfl) | refine Ev.ret ?_ | refine thenQ.normal ?_ | fail))
            refine bodyQ.retC T6 (resC_cell T6 rfl (List.getElem?_set_self (lt_of_some z5)) rfl rfl rfl rfl) ?_
            refine fin _ _ (r5 (by rw [hj]; exact h0)) _ [.int .i64 k1, .str s1, .int .i64 o1, .snap false (encs l1)] ?_ rfl
            rw [hj, enc_mk]; simp [nrm, nrms, nrms_encs]
        · -- two or more
          have hj : joinT (opsT l) = .mk 3 sMul 0 (opsT l) := joinT_many (by omega)
          clear of4
          rw [hj, enc_mk] at hva
          refine R.call rfl rfl (CallEv.pure rfl (by simp [isVals, isVal]) (by simpa [nrms, nrm, nrms_encs, encs] using hva) ?_)
          (repeat' (first | refine EvOps.nil ?_ | (apply R.move; exact rfl) | (apply R.assign; exact rfl) | (apply R.cmp; exact rfl; exact rfl; exact rfl; all_goals intro hc) | (apply R.build T6; exact rfl; exact rfl; exact rfl; exact rfl; exact rfl; exact rfl) | (apply R.loadAH T6; exact rfl; exact rfl; exact rfl; exact (by assumption); exact (by repeat constructor)) | refine Ev.seq ?_ | refine Ev.region ?_ | (apply Ev.condB; exact rfl) | refine Ev.skip ?_ | refine thenQ.normal ?_ | fail))
          · have hne := hc
            refine R.storeH T6 (n := 0) (o := ⟨.m, 0, 4, [.agg [.int .i64 0, .str ByteArray.empty, .int .i64 0, .snap true []]]⟩) (i := 0) (e := .agg [.int .i64 0, .str ByteArray.empty, .int .i64 0, .snap true []]) rfl rfl rfl (getM_at z4 rfl (by simp)) rfl rfl rfl rfl (Nat.le_refl 4) ?_
            (repeat' (first | refine EvOps.nil ?_ | (apply R.assign; exact rfl) | refine Ev.ret ?_ | refine thenQ.normal ?_ | refine thenQ.ret ?_ | fail))
            refine bodyQ.retC T6 (resC_cell T6 rfl (List.getElem?_set_self (lt_of_some z4)) rfl rfl rfl rfl) ?_
            exact fin _ _ ((r4 (by rw [hj]; exact hne)).trans (by rw [hj])) _ _ zz rfl
          · have h0 := Decidable.not_not.1 hc
            refine R.storeH T6 (n := 0) (o := ⟨.m, 0, 4, [.agg [.int .i64 0, .str ByteArray.empty, .int .i64 0, .snap true []]]⟩) (i := 0) (e := .agg [.int .i64 0, .str ByteArray.empty, .int .i64 0, .snap true []]) rfl rfl rfl (getM_at z4 rfl (by simp)) rfl rfl rfl rfl (Nat.le_refl 4) ?_
            (repeat' (first | refine EvOps.nil ?_ | (apply R.assign; exact rfl) | refine Ev.ret ?_ | refine thenQ.normal ?_ | fail))
            refine bodyQ.retC T6 (resC_cell T6 rfl (List.getElem?_set_self (lt_of_some z4)) rfl rfl rfl rfl) ?_
            refine fin _ _ (r5 (by rw [hj]; exact h0)) _ [.int .i64 3, .str sMul, .int .i64 0, .snap false (encs (opsT l))] ?_ rfl
            rw [hj, enc_mk]; simp [nrm, nrms, nrms_encs]

end Go.Pm
end

/-
  CHAPTER 6, PART 11: the reference's Same of products. Conditions: none.
-/
section
set_option linter.unusedVariables false
set_option linter.unusedSimpArgs false
set_option linter.unusedVariables false
set_option linter.unusedSimpArgs false
set_option maxRecDepth 4000
set_option maxHeartbeats 4000000
namespace Go.Pm
open Go.Proofs
attribute [local irreducible] thenQ blockQ loopQ bodyQ Ev EvOps CallEv FnEv EvD

def sameP : List Pw → List Pw → Bool
  | [], [] => true
  | p :: a, q :: b => if p.2 ≠ q.2 then false else if cmpT p.1 q.1 = 0 then sameP a b else false
  | _, _ => false
theorem sameP_len : ∀ {a b : List Pw}, a.length ≠ b.length → sameP a b = false
  | [], [], h => absurd rfl h
  | [], _ :: _, _ => rfl
  | _ :: _, [], _ => rfl
  | p :: a, q :: b, h => by
    rw [sameP, sameP_len (a := a) (b := b) (by simpa using h)]
    simp
theorem sameP_self : ∀ a : List Pw, sameP a a = true
  | [] => rfl
  | p :: a => by rw [sameP, if_neg (by simp), if_pos (cmpT_self _), sameP_self a]
theorem sameP_eq : ∀ {a b : List Pw}, sameP a b = true → a = b
  | [], [], _ => rfl
  | [], _ :: _, h => by cases h
  | _ :: _, [], h => by cases h
  | p :: a, q :: b, h => by
    rw [sameP] at h
    split at h
    · cases h
    · rename_i h1
      split at h
      · rename_i h2
        rw [sameP_eq h, Prod.ext (cmpT_zero h2) (Decidable.not_not.1 h1)]
      · cases h

theorem same6_fun (a b : List Pw) (ha : Sm a) (hb : Sm b) : Fun C 10 [.snap false (encPs a), .snap false (encPs b)] (.bool (sameP a b)) := by
  obtain ⟨ha1, ha2⟩ := ha
  obtain ⟨hb1, hb2⟩ := hb
  refine Fun.of (FnEv.bodyL Try.func10 rfl ?_)
  have e1 := encPs_len a
  have e2 := encPs_len b
  (repeat' (first | refine EvOps.nil ?_ | (apply R.move; exact rfl) | (apply R.assign; exact rfl) | (apply R.cmp; exact rfl; exact rfl; exact rfl; all_goals intro hc) | (apply R.lenS T6; exact rfl; exact rfl) | refine Ev.seq ?_ | refine Ev.region ?_ | (apply Ev.condB; exact rfl) | refine Ev.ret ?_ | refine Ev.skip ?_ | refine Ev.block ?_ | refine thenQ.normal ?_ | refine thenQ.ret ?_ | (apply bodyQ.ret; exact rfl) | fail))
  · exact ⟨_, rfl, congrArg PV.bool (sameP_len (by omega)).symm⟩
  · have hll : a.length = b.length := by omega
    refine Ev.loop (I := fun k' st => ∃ (i : Nat) (ρ' : Nat → PV), st = ⟨al [(0, .snap false (encPs a)), (1, .snap false (encPs b)), (5, .int .i64 i)] ρ', []⟩ ∧ k' + i = a.length ∧ sameP a b = sameP (a.drop i) (b.drop i)) a.length ?_ ?_
    · exact ⟨0, _, St.keep ⟨rfl, rfl, rfl, trivial⟩, rfl, rfl⟩
    · rintro k' _ ⟨i, ρ', rfl, hk, hb'⟩
      (repeat' (first | refine EvOps.nil ?_ | (apply R.move; exact rfl) | (apply R.assign; exact rfl) | (apply R.cmp; exact rfl; exact rfl; exact rfl; all_goals intro hc) | (apply R.lenS T6; exact rfl; exact rfl) | refine Ev.seq ?_ | refine Ev.region ?_ | refine Ev.regionD ?_ | (apply D.move; exact rfl) | (apply Ev.condB; exact rfl) | refine Ev.ret ?_ | refine Ev.skip ?_ | refine Ev.exit ?_ | refine Ev.block ?_ | refine thenQ.normal ?_ | refine thenQ.exit ?_ | refine blockQ.hit ?_ | refine loopQ.exit ?_ | (apply bodyQ.ret; exact rfl) | fail))
      · obtain ⟨k1, s1, o1, l1, n1, hmem, hat, hd, hil, _⟩ := encPs_at hc
        obtain ⟨k2, s2, o2, l2, n2, hmem2, hat2, hd2, hil2, _⟩ := encPs_at (l := b) (i := i) (by omega)
        have hsm := rsame_fun _ _ (ha1 _ hmem) (hb1 _ hmem2)
        rw [hd, hd2, sameP] at hb'
        simp only at hb' hsm
        rw [enc_mk, enc_mk] at hsm
        refine D.indexS T6 rfl rfl rfl rfl rfl hat rfl rfl ?_
        (repeat' (first | (apply D.move; exact rfl) | (apply D.fieldAddrS T6; exact rfl; exact rfl; exact rfl; exact rfl; exact rfl) | (apply D.load1 T6; exact (by first | exact rfl | assumption); exact rfl; exact rfl; exact rfl; exact rfl; exact rfl) | fail))
        refine D.indexS T6 rfl rfl rfl rfl rfl hat2 rfl rfl ?_
        (repeat' (first | refine EvOps.nil ?_ | (apply R.assign; exact rfl) | refine Ev.seq ?_ | refine Ev.region ?_ | refine EvD.nil ?_ | (apply D.move; exact rfl) | (apply D.gOn; exact rfl; exact rfl; exact rfl; exact rfl) | (apply D.gOff; exact rfl; exact rfl; exact rfl) | (apply D.pickT; exact rfl; exact rfl) | (apply D.cmp; exact rfl; exact rfl; exact rfl; all_goals intro hc) | (apply D.fieldAddrS T6; exact rfl; exact rfl; exact rfl; exact rfl; exact rfl) | (apply D.load1 T6; exact (by first | exact rfl | assumption); exact rfl; exact rfl; exact rfl; exact rfl; exact rfl) | (apply Ev.condB; exact rfl) | refine Ev.ret ?_ | refine thenQ.normal ?_ | refine thenQ.ret ?_ | refine blockQ.ret ?_ | refine loopQ.ret ?_ | (apply bodyQ.ret; exact rfl) | fail))
        · refine ⟨_, rfl, ?_⟩
          rw [hb', if_pos (by assumption)]; rfl
        · have hne := hc
          clear hc
          rw [if_neg hne] at hb'
          refine D.indexS T6 rfl rfl rfl rfl rfl hat rfl rfl ?_
          (repeat' (first | (apply D.move; exact rfl) | (apply D.gOn; exact rfl; exact rfl; exact rfl; exact rfl) | (apply D.fieldAddrS T6; exact rfl; exact rfl; exact rfl; exact rfl; exact rfl) | (apply D.loadA T6; exact (by first | exact rfl | assumption); exact rfl; exact rfl; exact rfl; exact rfl; exact rfl; exact (by repeat constructor)) | fail))
          refine D.indexS T6 rfl rfl rfl rfl rfl hat2 rfl rfl ?_
          (repeat' (first | (apply D.gOn; exact rfl; exact rfl; exact rfl; exact rfl) | (apply D.fieldAddrS T6; exact rfl; exact rfl; exact rfl; exact rfl; exact rfl) | (apply D.loadA T6; exact (by first | exact rfl | assumption); exact rfl; exact rfl; exact rfl; exact rfl; exact rfl; exact (by repeat constructor)) | fail))
          refine D.callP rfl rfl rfl rfl (by simp [isVals, isVal]) rfl rfl (by simpa [nrms, nrm, nrms_encs] using hsm) ?_
          by_cases h0 : cmpT (.mk k1 s1 o1 l1) (.mk k2 s2 o2 l2) = 0
          · rw [decide_eq_true h0]
            rw [if_pos h0] at hb'
            (repeat' (first | refine EvOps.nil ?_ | (apply R.move; exact rfl) | (apply R.assign; exact rfl) | (apply R.arith; exact rfl; exact rfl; exact rfl; exact (wrapI (by omega) (by omega))) | refine Ev.region ?_ | refine EvD.nil ?_ | (apply D.gOn; exact rfl; exact rfl; exact rfl; exact rfl) | (apply D.pickF; exact rfl; exact rfl) | (apply D.not; exact rfl; exact rfl) | (apply Ev.condB; exact rfl) | refine Ev.skip ?_ | refine thenQ.normal ?_ | refine blockQ.normal ?_ | refine loopQ.normal ?_ | fail))
            exact ⟨k' - 1, by omega, i + 1, _, St.keep ⟨rfl, rfl, rfl, trivial⟩, by omega, hb'⟩
          · rw [decide_eq_false h0]
            rw [if_neg h0] at hb'
            (repeat' (first | refine EvOps.nil ?_ | (apply R.assign; exact rfl) | refine Ev.seq ?_ | refine Ev.region ?_ | refine EvD.nil ?_ | (apply D.gOn; exact rfl; exact rfl; exact rfl; exact rfl) | (apply D.pickF; exact rfl; exact rfl) | (apply D.not; exact rfl; exact rfl) | (apply Ev.condB; exact rfl) | refine Ev.ret ?_ | refine thenQ.normal ?_ | refine thenQ.ret ?_ | refine blockQ.ret ?_ | refine loopQ.ret ?_ | (apply bodyQ.ret; exact rfl) | fail))
            refine ⟨_, rfl, ?_⟩
            rw [hb']; rfl
      · refine ⟨_, rfl, ?_⟩
        rw [hb', encPs_end hc, List.drop_eq_nil_of_le (by omega)]; rfl

end Go.Pm
end
