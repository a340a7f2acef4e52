/-
  exponent.Check reports, for every description and every list of ints within the statement's bounds, just what the reference reports.
-/
import Derived.Test.YtejhjciockgicaaGreatPzAL
import Derived.Test.YtejhjciockgicaaGreatPzAJ
import Derived.Test.YtejhjciockgicaaGreatPzAK
/-
  CHAPTER 6, PART 72: the program's Check. Conditions: none.
-/
section
set_option linter.unusedVariables false
set_option linter.unusedSimpArgs false
set_option linter.unusedVariables false
set_option linter.unusedSimpArgs false
set_option maxRecDepth 4000
namespace Go.Pm
open Go.Proofs
attribute [local irreducible] thenQ blockQ loopQ bodyQ Ev EvOps CallEv FnEv EvD
theorem ck1_fun (x : List Pw) (hb : ∀ p ∈ x, bulk p.1 < 100000000) (hl : x.length < 100000000) : Fun C 49 [.snap false (encPs x)] (.bool (decide (validP x ≠ 0))) := by
  have hv := pvalid_fun x hb hl
  refine Fun.x T6 Tryz.func49 rfl ?_
  (repeat' (first | (refine Rn.go ?_; conv => whnf) | refine .mk ?_ | refine .tt ?_ | refine .ff ?_ | refine .m2 ?_ | refine .m3 ?_ | refine .mk (fun hc => ?_) (fun hc => ?_) | refine .lp (fun v H lp => ?_) | fail))
  refine .p hv ?_
  (repeat' (first | (refine Rn.go ?_; conv => whnf) | refine .mk ?_ | refine .tt ?_ | refine .ff ?_ | refine .m2 ?_ | refine .m3 ?_ | refine .mk (fun hc => ?_) (fun hc => ?_) | refine .lp (fun v H lp => ?_) | fail))
  all_goals exact ⟨_, rfl, by simp [tupOf, *]⟩
theorem clone_out {H : AHeap} {f : Bool} {es : List PV} (hH : HV H) (hv : isVals es = true) (he : esOk 1 es) (hl : es.length < 1000000000) : ∃ v h', clonePrim 1 [.snap f es] H = some (v, h') ∧ Out 1 h' v es ∧ HV h' := by
  cases es with
  | nil => exact ⟨.snap true [], H, rfl, .inl ⟨rfl, rfl⟩, hH⟩
  | cons x r =>
    refine ⟨.mref H.length 0 0 (x :: r).length, newObj H 1 (x :: r), ?_, .inr ⟨H.length, 0, rfl, by simp [newObj]⟩, hH.app (HV.one hv)⟩
    unfold clonePrim
    simp only [List.isEmpty_cons]
    rw [if_neg (by simp), if_pos ⟨he, hl⟩]
theorem ckR_bad {z : List (Int × List Pw)} {m : List Pw} (h : validP m ≠ 0 ∨ (z.any fun p => decide (p.1 < -35184372088832 ∨ 35184372088832 < p.1)) = true ∨ (z.any fun p => decide (validP p.2 ≠ 0)) = true) : ckR z m = false := by
  rcases h with h | h | h
  · simp [ckR, h]
  · have : okZ z = false := by
      rw [okZ, List.all_eq_false]
      obtain ⟨x, hx, h⟩ := List.any_eq_true.1 h
      exact ⟨x, hx, by simp [inr] at h ⊢; omega⟩
    simp [ckR, this]
  · have : okZ z = false := by
      rw [okZ, List.all_eq_false]
      obtain ⟨x, hx, h⟩ := List.any_eq_true.1 h
      exact ⟨x, hx, by simp at h ⊢; simp [h]⟩
    simp [ckR, this]
theorem okZ_of {z : List (Int × List Pw)} (h1 : (z.any fun p => decide (p.1 < -35184372088832 ∨ 35184372088832 < p.1)) = false) (h2 : (z.any fun p => decide (validP p.2 ≠ 0)) = false) : okZ z = true := by
  rw [okZ, List.all_eq_true]
  rw [List.any_eq_false] at h1 h2
  intro p hp
  have a := h1 p hp
  have b := h2 p hp
  simp only [decide_eq_true_eq, Decidable.not_not] at a b
  simp only [inr, Bool.and_eq_true, decide_eq_true_eq]
  exact ⟨b, by omega, by omega⟩
namespace Nine
theorem pck_ne (l : List (List Pw)) (m : List Pw) (c : List Int) (hl : l.length < 1000000) (hcl : c.length < 1000000) (hne : c.length ≠ l.length) : Fun C 12 [.snap false (encPPs l), .snap false (encPs m), .snap false (encIs c)] (.bool false) := by
  have hel : (encPPs l).length = l.length := by simp
  have hei : (encIs c).length = c.length := by simp
  refine Fun.x T6 Tryz.func12 rfl ?_
  (repeat' (first | (refine Rn.go ?_; conv => whnf) | refine .mk ?_ | refine .tt ?_ | refine .ff ?_ | refine .m2 ?_ | refine .m3 ?_ | refine .mk (fun hc => ?_) (fun hc => ?_) | refine .lp (fun v H lp => ?_) | fail))
  all_goals exact ⟨_, rfl, rfl⟩
theorem pck_fun (z : List (Int × List Pw)) (m : List Pw) (hz : z.length ≤ 8) (hs : SmT (z.map (·.2) ++ [m])) : Fun C 12 [.snap false (encPPs (z.map (·.2))), .snap false (encPs m), .snap false (encIs (z.map (·.1)))] (.bool (ckR z m)) := by
  have hel : (encPPs (z.map (·.2))).length = z.length := by simp
  have hei : (encIs (z.map (·.1))).length = z.length := by simp
  have hsm := hs.1 m (by simp)
  have hsz : ∀ x ∈ z.map (·.2), (∀ q ∈ x, bulk q.1 < 100000000) ∧ x.length ≤ 200 := fun x hx => hs.1 x (by simp at hx ⊢; exact .inl hx)
  have hvm := (pvalid_fun m hsm.1 (by omega)).nine
  have ho := (cntN_fun 39 rfl (fun n => decide (n < -35184372088832 ∨ 35184372088832 < n)) (z.map (·.1)) (by simp; omega) (fun x _ => outside_fun x)).nine
  have hcols := cols_fun _ hs
  rw [List.any_map] at ho
  have hcp := (cntPP_ev (z.map (·.2)) _ [] (fun x => decide (validP x ≠ 0)) [] (by simp; omega) (fun x hx H' _ Q hQ => .p (ck1_fun x (hsz x hx).1 (by have := (hsz x hx).2; omega)) (hQ _ (Exd.refl _)))).nine
  rw [List.any_map] at hcp
  refine Fun.x T6 Tryz.func12 rfl ?_
  (repeat' (first | (refine Rn.go ?_; conv => whnf) | refine .mk ?_ | refine .tt ?_ | refine .ff ?_ | refine .m2 ?_ | refine .m3 ?_ | refine .mk (fun hc => ?_) (fun hc => ?_) | refine .lp (fun v H lp => ?_) | fail))
  refine .p ho ?_
  cases h1 : z.any ((fun n => decide (n < -35184372088832 ∨ 35184372088832 < n)) ∘ fun x => x.1)
  rotate_left
  · (repeat' (first | (refine Rn.go ?_; conv => whnf) | refine .mk ?_ | refine .tt ?_ | refine .ff ?_ | refine .m2 ?_ | refine .m3 ?_ | refine .mk (fun hc => ?_) (fun hc => ?_) | refine .lp (fun v H lp => ?_) | fail))
    exact ⟨_, rfl, by rw [ckR_bad (.inr (.inl h1))]; rfl⟩
  (repeat' (first | (refine Rn.go ?_; conv => whnf) | refine .mk ?_ | refine .tt ?_ | refine .ff ?_ | refine .m2 ?_ | refine .m3 ?_ | refine .mk (fun hc => ?_) (fun hc => ?_) | refine .lp (fun v H lp => ?_) | fail))
  refine .p hvm ?_
  (repeat' (first | (refine Rn.go ?_; conv => whnf) | refine .mk ?_ | refine .tt ?_ | refine .ff ?_ | refine .m2 ?_ | refine .m3 ?_ | refine .mk (fun hc => ?_) (fun hc => ?_) | refine .lp (fun v H lp => ?_) | fail))
  rotate_left
  · exact ⟨_, rfl, by rw [ckR_bad (.inl hc)]; rfl⟩
  have vm := hc
  clear hc ho hvm
  refine .ex hcp (fun h' hE => ?_)
  cases h2 : z.any ((fun x => decide (validP x ≠ 0)) ∘ fun x => x.2)
  rotate_left
  · (repeat' (first | (refine Rn.go ?_; conv => whnf) | refine .mk ?_ | refine .tt ?_ | refine .ff ?_ | refine .m2 ?_ | refine .m3 ?_ | refine .mk (fun hc => ?_) (fun hc => ?_) | refine .lp (fun v H lp => ?_) | fail))
    exact ⟨_, rfl, by rw [ckR_bad (.inr (.inr h2))]; rfl⟩
  have ok := okZ_of h1 h2
  obtain ⟨v1, h3, c1, c2, c3⟩ := clone_out (f := false) (es := encPPs (z.map (·.2))) (hE.hv HV.nil) (by simp) (by simp [esOk, encPPs, cells, oneC]) (by omega)
  (repeat' (first | (refine Rn.go ?_; conv => whnf) | refine .mk ?_ | refine .tt ?_ | refine .ff ?_ | refine .m2 ?_ | refine .m3 ?_ | refine .mk (fun hc => ?_) (fun hc => ?_) | refine .lp (fun v H lp => ?_) | fail))
  refine CallEv.primL rfl c1 ?_
  (repeat' (first | (refine Rn.go ?_; conv => whnf) | refine .mk ?_ | refine .tt ?_ | refine .ff ?_ | refine .m2 ?_ | refine .m3 ?_ | refine .mk (fun hc => ?_) (fun hc => ?_) | refine .lp (fun v H lp => ?_) | fail))
  have hlo := lp.out
  have hlv := lp.hv
  rw [show encPPs (z.map (·.2)) ++ [PV.snap false (encPs m)] = encPPs (z.map (·.2) ++ [m]) by simp [encPPs]] at hlo
  refine .po hlo hcols (fun h4 hh4 => ?_)
  have hv4 : HV h4 := by
    rcases hh4 with rfl | ⟨_, _, _, rfl⟩
    · exact hlv
    · exact hlv.set _ (by simp) (by simp)
  have fs := facs_srt (z.map (·.2) ++ [m])
  have fi := facs_in (z.map (·.2) ++ [m])
  have fl : (facs (z.map (·.2) ++ [m])).length ≤ 1800 := by
    have a := accs_len (allT (z.map (·.2) ++ [m])) []
    have b := allT_le (l := z.map (·.2) ++ [m]) fun x hx => (hs.1 x hx).2
    have : facs (z.map (·.2) ++ [m]) = accs (allT (z.map (·.2) ++ [m])) [] := rfl
    rw [this]
    simp at a b ⊢
    omega
  have fb : ∀ t ∈ facs (z.map (·.2) ++ [m]), bulk t < 1000000000 := fun t ht => by
    obtain ⟨x, hx, ht⟩ := List.mem_flatMap.1 ((fi t).1 ht)
    obtain ⟨p, hp, rfl⟩ := List.mem_map.1 ht
    exact Nat.lt_trans ((hs.1 x hx).1 p hp) (by decide)
  have fm : ∀ x ∈ z.map (·.2) ++ [m], ∀ p ∈ x, p.1 ∈ facs (z.map (·.2) ++ [m]) := fun x hx p hp => (fi p.1).2 (List.mem_flatMap.2 ⟨x, hx, List.mem_map.2 ⟨p, hp, rfl⟩⟩)
  have hck : ckR z m = (facs (z.map (·.2) ++ [m])).all fun t => decide (dotZ z t = pwr m t) := by simp [ckR, vm, ok]
  rw [hck]
  clear hcols hck fi hlo hh4 c1 c2 hcp
  generalize facs (z.map (·.2) ++ [m]) = all at *
  have vmz := validP_zero vm
  have hela := encs_len all
  have mbd := pwr_bd (B := 1000) (by decide) vmz.2.1
  (repeat' (first | (refine Rn.go ?_; conv => whnf) | refine .mk ?_ | refine .tt ?_ | refine .ff ?_ | refine .m2 ?_ | refine .m3 ?_ | refine .mk (fun hc => ?_) (fun hc => ?_) | refine .lp (fun v H lp => ?_) | fail))
  refine .nw (pof_ev all m h4 hv4 fs (by omega) fb vmz.2.2.2.2 (by omega) (fm m (by simp))).nine (fun h5 hh5 => ?_)
  obtain ⟨hv5, e5, l5, _⟩ := hh5
  (repeat' (first | (refine Rn.go ?_; conv => whnf) | refine .mk ?_ | refine .tt ?_ | refine .ff ?_ | refine .m2 ?_ | refine .m3 ?_ | refine .mk (fun hc => ?_) (fun hc => ?_) | refine .lp (fun v H lp => ?_) | fail))
  generalize h4.length = id at *
  refine LpX.zip T6 z (fun p q L H => L = [(2, .snap false (encIs (z.map (·.1)))), (7, .snap false (encs all)), (8, .mref id 0 0 all.length), (45, .snap false (encPPs (z.map (·.2)))), (46, .int .i64 z.length), (47, .int .i64 p.length)] ∧ HV H ∧ H[id]? = some ⟨.m, 0, 1, encIs (all.map fun t => pwr m t - dotZ p t)⟩)
    (.nx ⟨rfl, hv5, by rw [e5]; congr 3; exact List.map_congr_left fun t _ => by simp [dotZ]⟩) ?_ ?_
  · rintro p ⟨c, x⟩ q _ H ρ e ⟨rfl, hH, e1⟩
    have hat := at_encPPs (l := z.map (·.2)) (p := p.map (·.2)) (x := x) (q := q.map (·.2)) (by rw [e]; simp)
    have hat2 := at_encIs (l := z.map (·.1)) (p := p.map (·.1)) (x := c) (q := q.map (·.1)) (by rw [e]; simp)
    rw [List.length_map] at hat hat2
    have hl2 := congrArg List.length e
    simp only [List.length_append, List.length_cons] at hl2
    have hxm : x ∈ z.map (·.2) := by rw [e]; simp
    have hxx := hsz x hxm
    have okx : validP x = 0 ∧ inr c = true := by
      have := List.all_eq_true.1 ok (c, x) (by rw [e]; simp)
      simpa using this
    have okp : okZ p = true := by rw [okZ, List.all_eq_true]; exact fun y hy => List.all_eq_true.1 ok y (by rw [e]; simp [hy])
    have vx := validP_zero okx.1
    have xbd := pwr_bd (B := 1000) (by decide) vx.2.1
    have cbd := of_decide_eq_true okx.2
    (repeat' (first | (refine Rn.go ?_; conv => whnf) | refine .mk ?_ | refine .tt ?_ | refine .ff ?_ | refine .m2 ?_ | refine .m3 ?_ | refine .mk (fun hc => ?_) (fun hc => ?_) | refine .lp (fun v H lp => ?_) | fail))
    refine .nw (pof_ev all x H hH fs (by omega) fb vx.2.2.2.2 (by omega) (fm x (by simp only [List.mem_append]; exact .inl hxm))).nine (fun h6 hh6 => ?_)
    obtain ⟨hv6, e6, l6, k6⟩ := hh6
    have hidl := lt_of_some e1
    have e7 : h6[id]? = some ⟨.m, 0, 1, encIs (all.map fun t => pwr m t - dotZ p t)⟩ := by rw [k6 id hidl]; exact e1
    clear k6
    (repeat' (first | (refine Rn.go ?_; conv => whnf) | refine .mk ?_ | refine .tt ?_ | refine .ff ?_ | refine .m2 ?_ | refine .m3 ?_ | refine .mk (fun hc => ?_) (fun hc => ?_) | refine .lp (fun v H lp => ?_) | fail))
    have hid2 : id < H.length := hidl
    generalize H.length = id2 at *
    refine LpX.zip T6 all (fun A B L H => L = [(2, .snap false (encIs (z.map (·.1)))), (7, .snap false (encs all)), (8, .mref id 0 0 all.length), (9, .int .i64 p.length), (45, .snap false (encPPs (z.map (·.2)))), (46, .int .i64 z.length), (47, .int .i64 p.length), (54, .mref id2 0 0 all.length), (55, .int .i64 all.length), (56, .int .i64 A.length)] ∧ HV H ∧
      H[id2]? = some ⟨.m, 0, 1, encIs (all.map (pwr x))⟩ ∧ H[id]? = some ⟨.m, 0, 1, encIs (A.map (fun t => pwr m t - dotZ (p ++ [(c, x)]) t) ++ B.map fun t => pwr m t - dotZ p t)⟩) (.nx ⟨rfl, hv6, e6, e7⟩) ?_ ?_
    · rintro A t B _ h7 ρ e2 ⟨rfl, hv7, e8, e9⟩
      have hl3 := congrArg List.length e2
      simp only [List.length_append, List.length_cons] at hl3
      have hat3 : (encIs (all.map (pwr x)))[0 + A.length]? = some (.int .i64 (pwr x t)) := by rw [e2]; simp [encIs]
      have hat4 : (encIs (A.map (fun t => pwr m t - dotZ (p ++ [(c, x)]) t) ++ (t :: B).map fun t => pwr m t - dotZ p t))[0 + A.length]? = some (.int .i64 (pwr m t - dotZ p t)) := by simp [encIs]
      have hb1 := dotZ_bd okp t
      have hb2 := mbd t
      have hb3 := xbd t
      have hb4 := mul_bd cbd.1 cbd.2 hb3.1 hb3.2
      have hval : pwr m t - dotZ p t - c * pwr x t = pwr m t - dotZ (p ++ [(c, x)]) t := by rw [dotZ_snoc]; dsimp only; omega
      have hset : (encIs (A.map (fun t => pwr m t - dotZ (p ++ [(c, x)]) t) ++ (t :: B).map fun t => pwr m t - dotZ p t)).set (0 + A.length) (.int .i64 (pwr m t - dotZ p t - c * pwr x t)) = encIs ((A ++ [t]).map (fun t => pwr m t - dotZ (p ++ [(c, x)]) t) ++ B.map fun t => pwr m t - dotZ p t) := by
        rw [hval, Nat.zero_add, encIs, List.map_append, List.set_append_right _ _ (by simp)]
        simp [encIs]
      (repeat' (first | (refine Rn.go ?_; conv => whnf) | refine .mk ?_ | refine .tt ?_ | refine .ff ?_ | refine .m2 ?_ | refine .m3 ?_ | refine .mk (fun hc => ?_) (fun hc => ?_) | refine .lp (fun v H lp => ?_) | fail))
      rw [hset]
      exact .nx ⟨rfl, hv7.set _ (by simp) (by simp), by rw [List.getElem?_set_ne (by omega)]; exact e8, List.getElem?_set_self (lt_of_some e9)⟩
    · rintro _ h7 ρ ⟨rfl, hv7, e8, e9⟩
      (repeat' (first | (refine Rn.go ?_; conv => whnf) | refine .mk ?_ | refine .tt ?_ | refine .ff ?_ | refine .m2 ?_ | refine .m3 ?_ | refine .mk (fun hc => ?_) (fun hc => ?_) | refine .lp (fun v H lp => ?_) | fail))
      exact .nx ⟨rfl, hv7, by rw [e9]; simp⟩
  · rintro _ H ρ ⟨rfl, hH, e1⟩
    have hcn := (cntN_fun 53 rfl (fun n => decide (n ≠ 0)) (all.map fun t => pwr m t - dotZ z t) (by simp; omega) (fun n _ => ne0_fun n)).nine
    have hlo : Out 1 H (.mref id 0 0 all.length) (encIs (all.map fun t => pwr m t - dotZ z t)) := .inr ⟨id, 0, by simp, e1⟩
    have hres : (!((all.map fun t => pwr m t - dotZ z t).any fun n => decide (n ≠ 0))) = all.all fun t => decide (dotZ z t = pwr m t) := by
      rw [List.any_map, List.not_any_eq_all_not]
      congr 1
      funext t
      simp only [Function.comp, ne_eq, decide_not, Bool.not_not, decide_eq_decide]
      omega
    rw [← hres]
    (repeat' (first | (refine Rn.go ?_; conv => whnf) | refine .mk ?_ | refine .tt ?_ | refine .ff ?_ | refine .m2 ?_ | refine .m3 ?_ | refine .mk (fun hc => ?_) (fun hc => ?_) | refine .lp (fun v H lp => ?_) | fail))
    refine .plS (.inl hlo) hcn ?_
    generalize (all.map fun t => pwr m t - dotZ z t).any (fun n => decide (n ≠ 0)) = b
    cases b
    all_goals
      (repeat' (first | (refine Rn.go ?_; conv => whnf) | refine .mk ?_ | refine .tt ?_ | refine .ff ?_ | refine .m2 ?_ | refine .m3 ?_ | refine .mk (fun hc => ?_) (fun hc => ?_) | refine .lp (fun v H lp => ?_) | fail))
      exact ⟨_, rfl, rfl⟩
end Nine
end Go.Pm
end

/-
  CHAPTER 6: awake: the examples, run by the kernel. Conditions: none.
-/
section
set_option linter.unusedVariables false
set_option linter.unusedSimpArgs false
set_option maxRecDepth 100000
namespace Go.Pm.Nine
open Go.Proofs
theorem awake09 : pureF C 1000 7 [] = some (.bool true) := by kernel_rfl
end Go.Pm.Nine
end

/-
  CHAPTER 6, PART 73: ExponentCheck, as a pure function. Conditions: none.
-/
section
set_option linter.unusedVariables false
set_option linter.unusedSimpArgs false
set_option linter.unusedVariables false
set_option linter.unusedSimpArgs false
set_option maxRecDepth 4000
namespace Go.Pm
open Go.Proofs
/-- a pure call, its arguments read, a number or a bool returned: nothing is frozen -/
theorem CallEv.rbs {C : Cfg} {f : FuncId} {args args' args'' : List PV} {h : AHeap} {r : PV} {Q : PV → AHeap → Prop} (hb : rbAs h args = some args') (hn : nrms args' = args'') (a : Fun C f args'' r) (q : Q r h) (hs : scal r = true := by rfl) (hm : C.mode f = .pure := by rfl) : CallEv C 2 f args h Q := by
  subst hn
  obtain ⟨n0, hn⟩ := a
  refine ⟨r, h, q, n0, fun n h1 => ?_⟩
  obtain ⟨r0, hc, r1, e1, e2, e3⟩ := hn n h1
  unfold callF
  rw [hm]
  cases hv : isVals args
  · have hsc : scal r1 = true := by
      have := scal_nrm' r1
      rw [e3, hs] at this
      exact this.symm
    simp only [callPure, hv, Bool.false_eq_true, if_false, hb, e1, e2, hsc, Bool.true_or, if_true, e3]
  · rw [rbAs_vals hv] at hb
    obtain rfl := Option.some.inj hb
    simp only [callPure, hv, if_true, e1, e2, e3]
attribute [local irreducible] thenQ blockQ loopQ bodyQ Ev EvOps CallEv FnEv EvD
namespace Nine
theorem lawK_fun (l : List (List Int)) (mix rest : List Int) (c : List Int) (hl : ∀ x ∈ l, i8L x ∧ x.length < 5000000) (ll : l.length < 5000000) (hm : i8L mix) (lm : mix.length < 5000000) (hr : i8L rest) (lr : rest.length < 5000000) (lc : c.length < 5000000) :
    Fun C 4 [.agg [.snap false (encLL l), .snap false (encI8 mix), .snap false (encI8 rest)], .snap false (encIs c)] (.bool true) := by
  have hall := (all_fun l mix rest (fun x hx => ⟨(hl x hx).1, Nat.lt_trans (hl x hx).2 (by decide)⟩) (by omega) hm (by omega) hr (by omega)).nine
  have smm := allM_sm (mix := mix) (l := l.take 8) (i := 0) (made_sm rest)
  have sll : ∀ x ∈ (l.take 8).map made, (∀ p ∈ x, bulk p.1 < 100000000) ∧ x.length ≤ 200 := fun x hx => by
    obtain ⟨y, _, rfl⟩ := List.mem_map.1 hx
    have := made_sm y
    exact ⟨fun p hp => Nat.lt_trans (this.1 p hp) (by decide), this.2⟩
  have lll : ((l.take 8).map made).length ≤ 8 := by simp; omega
  have hsm : ∀ p ∈ allM mix 0 (l.take 8) (made rest), bulk p.1 < 100000000 := fun p hp => Nat.lt_trans (smm.1 p hp) (by decide)
  have hsl : (allM mix 0 (l.take 8) (made rest)).length ≤ 200 := by have := smm.2; omega
  generalize (l.take 8).map made = G at *
  generalize allM mix 0 (l.take 8) (made rest) = m at *
  have hel := encLL_len l
  have hec := encIs_len c
  have haw : Fun C 7 [] (.bool true) := Fun.of_run awake09
  have both : c.length ≤ 10 → ∃ B : Bool, Fun C 12 [.snap false (encPPs G), .snap false (encPs m), .snap false (encIs c)] (.bool B) ∧ Fun C 14 [.snap false (encPPs G), .snap false (encPs m), .snap false (encIs c)] (.bool B) := fun h10 => by
    by_cases hcl : c.length = G.length
    · have h1 : (c.zip G).map (·.2) = G := List.map_snd_zip (by omega)
      have h2 : (c.zip G).map (·.1) = c := List.map_fst_zip (by omega)
      have hz : (c.zip G).length ≤ 8 := by simp; omega
      have hs : SmT ((c.zip G).map (·.2) ++ [m]) := by
        rw [h1]
        refine ⟨fun x hx => ?_, by simp; omega⟩
        rcases List.mem_append.1 hx with hx | hx
        · exact sll x hx
        · obtain rfl := List.mem_singleton.1 hx
          exact ⟨hsm, hsl⟩
      have a := pck_fun (c.zip G) m hz hs
      have b := (rck_fun (c.zip G) m hz hs).nine
      rw [h1, h2] at a b
      exact ⟨_, a, b⟩
    · exact ⟨false, pck_ne G m c (by omega) (by omega) hcl, (rck_ne G m c (by omega) (by omega) ⟨hsm, hsl⟩ hcl).nine⟩
  have hcl := fun H (hH : HV H) => clone_out (H := H) (f := false) (es := encIs c) hH (by simp) (by simp [esOk, encIs, cells, oneC]) (by omega)
  refine Fun.x T6 Tryz.func4 rfl ?_
  (repeat' (first | (refine Rn.go ?_; conv => whnf) | refine .mk ?_ | refine .tt ?_ | refine .ff ?_ | refine .m2 ?_ | refine .m3 ?_ | refine .mk (fun hc => ?_) (fun hc => ?_) | refine .lp (fun v H lp => ?_) | fail))
  refine .p haw ?_
  (repeat' (first | (refine Rn.go ?_; conv => whnf) | refine .mk ?_ | refine .tt ?_ | refine .ff ?_ | refine .m2 ?_ | refine .m3 ?_ | refine .mk (fun hc => ?_) (fun hc => ?_) | refine .lp (fun v H lp => ?_) | fail))
  · refine .p haw ?_
    (repeat' (first | (refine Rn.go ?_; conv => whnf) | refine .mk ?_ | refine .tt ?_ | refine .ff ?_ | refine .m2 ?_ | refine .m3 ?_ | refine .mk (fun hc => ?_) (fun hc => ?_) | refine .lp (fun v H lp => ?_) | fail))
    exact ⟨_, rfl, rfl⟩
  · refine .p haw ?_
    (repeat' (first | (refine Rn.go ?_; conv => whnf) | refine .mk ?_ | refine .tt ?_ | refine .ff ?_ | refine .m2 ?_ | refine .m3 ?_ | refine .mk (fun hc => ?_) (fun hc => ?_) | refine .lp (fun v H lp => ?_) | fail))
    exact ⟨_, rfl, rfl⟩
  refine .p hall ?_
  obtain ⟨B, m1, m2⟩ := both (by omega)
  (repeat' (first | (refine Rn.go ?_; conv => whnf) | refine .mk ?_ | refine .tt ?_ | refine .ff ?_ | refine .m2 ?_ | refine .m3 ?_ | refine .mk (fun hc => ?_) (fun hc => ?_) | refine .lp (fun v H lp => ?_) | fail))
  have hHb : HV [(⟨.m, 0, 3, [.agg [.snap false (encLL l), .snap false (encI8 mix), .snap false (encI8 rest)]]⟩ : AObj)] := HV.one (by simp)
  obtain ⟨v1, h3, c1, c2, c3⟩ := hcl _ hHb
  obtain ⟨r1, d1, d2⟩ := (Ls.rbA (h := h3) (.inl c2) (by simp))
  refine CallEv.primL rfl c1 ?_
  (repeat' (first | (refine Rn.go ?_; conv => whnf) | refine .mk ?_ | refine .tt ?_ | refine .ff ?_ | refine .m2 ?_ | refine .m3 ?_ | refine .mk (fun hc => ?_) (fun hc => ?_) | refine .lp (fun v H lp => ?_) | fail))
  refine .rbs (args' := [.snap false (encPPs G), .snap false (encPs m), r1]) ?_ ?_ m1 ?_
  · have e1 : rbA h3 (.snap false (encPPs G)) = some (.snap false (encPPs G)) := by simp [rbA, rb1, isVal]
    have e2 : rbA h3 (.snap false (encPs m)) = some (.snap false (encPs m)) := by simp [rbA, rb1, isVal]
    simp only [rbAs, e1, e2, d1]
  · simp [d2]
  (repeat' (first | (refine Rn.go ?_; conv => whnf) | refine .mk ?_ | refine .tt ?_ | refine .ff ?_ | refine .m2 ?_ | refine .m3 ?_ | refine .mk (fun hc => ?_) (fun hc => ?_) | refine .lp (fun v H lp => ?_) | fail))
  refine .p m2 ?_
  cases B
  all_goals
    (repeat' (first | (refine Rn.go ?_; conv => whnf) | refine .mk ?_ | refine .tt ?_ | refine .ff ?_ | refine .m2 ?_ | refine .m3 ?_ | refine .mk (fun hc => ?_) (fun hc => ?_) | refine .lp (fun v H lp => ?_) | fail))
    exact ⟨_, rfl, rfl⟩
end Nine
end Go.Pm
end

/-
  PART 75: ExponentCheck's statement. Conditions: none.
-/
section
set_option linter.unusedVariables false
set_option linter.unusedSimpArgs false
set_option linter.unusedVariables false
set_option linter.unusedSimpArgs false
set_option maxRecDepth 100000
set_option maxHeartbeats 2000000
namespace Go.Proofs.YtejhjciockgicaaGreat.Ck
open Go.ChangeShapes Go.WideShapes Go.ChangeAt Go.RowKit Go.Pm
theorem own : ownKnob Tryz.prog.godebug = none := by kernel_rfl
theorem modeOf : Nine.C.mode 4 = .pure := rfl
theorem laid : laidOutB Tryz.prog = true := by kernel_rfl
theorem contract (K : CfgOk Nine.C) (H : Type) (ec : TypeId × Value → H) (W : World) (base : Nat) (args : Array Value) (ds gs : List (DataW H)) (before : List MemPlace)
    (hval : ∀ (j : Nat) t v, Tryz.f4.params[j]? = some t → args[j]? = some v → Value.okWide Tryz.prog W .any base t v)
    (hW : DataW.Whole ec Tryz.prog Tryz.f4.params.toList Rows.exponentCheckSpec.vars false W args.toList ds gs before) (hk : Rows.uptoSmall H (ds ++ gs) = true) :
    Calls Tryz.prog 4 args W fun e W' => ∃ v, e = .returned v ∧ Rows.exponentCheckSpec.post ec Tryz.prog Tryz.f4 false true false false W args v W' := by
  have hW' := hW
  have hlt := fun p hp => hW.lt p hp
  obtain ⟨p, q, hA0, hV, rfl, hfz, hnd⟩ := hW
  have hA : DataW.TrodAll ec Tryz.prog W 0 (fun _ => true) true Tryz.f4.params.toList args.toList ds p := hA0
  rw [Tryz.params4] at hA hval
  obtain ⟨v0, vs0, d0, ds0, p0, q0, hargs, rfl, rfl, h0, u0⟩ := trodAll_cons hA
  obtain ⟨v1, vs1, d1, ds1, p1, q1, rfl, rfl, rfl, h1, u1⟩ := trodAll_cons u0
  obtain ⟨rfl, rfl, rfl⟩ := trodAll_nil u1
  obtain rfl : args = #[v0, v1] := by cases args; simp_all
  obtain ⟨rfl, rfl⟩ := trodVars_none hV
  obtain ⟨l0, x0, r0, s0, b0, b1, b2, b3, b4, b5⟩ := read_draftv (hval 0 _ v0 rfl rfl) h0
  obtain ⟨c0, s1, b6⟩ := read_isv (hval 1 _ v1 rfl rfl) h1
  have hb := of_decide_eq_true hk
  simp only [List.append_nil, Rows.uptoBulkAll] at hb
  obtain ⟨m, hm⟩ := (Nine.lawK_fun l0 x0 r0 c0 (fun y hy => ⟨(b0 y hy).1, by have := (b0 y hy).2; omega⟩) (by omega) b2 (by omega) b4 (by omega) (by omega)).pureF
  have hargs2 : L2 (SRel W NoB) [v0, v1] [.agg [.snap false (encLL l0), .snap false (encI8 x0), .snap false (encI8 r0)], .snap false (encIs c0)] := ⟨rfl, fun j hj => by
    match j, hj with
    | 0, _ => exact s0
    | 1, _ => exact s1⟩
  refine (pureF_sim K Nine.codesOk9 (.inl modeOf) hm (A := NoB) (fun b hb => hb.elim) hargs2).mono ?_
  rintro e W' ⟨v, rfl, hv, hg⟩
  cases hv
  refine ⟨_, rfl, ?_⟩
  have stay0 : ∀ (v : Value) (d : DataW H) (p : List MemPlace) (h : DataW.Trod ec Tryz.prog W 0 (fun _ => true) true 25 v d p) (hl : ∀ x ∈ p, x.block < W.heap.size), DataW.Trod ec Tryz.prog W' 0 (fun b => decide (b < W.heap.size)) true 25 v d p := fun v d p h hl =>
    WideElems.Trod_stays (P := Tryz.prog) laid (by kernel_rfl) (of_decide_eq_true (by kernel_rfl)) h (fun p hp => by
      have hb := hl p hp
      cases p with
      | cell b off => show W'.cell? ⟨b, off, none⟩ = W.cell? ⟨b, off, none⟩; exact cell_keep (hg.keep b hb)
      | map b => exact hg.keep b hb) (fun x hx => by simpa using hl x hx)
  have stay1 : ∀ (v : Value) (d : DataW H) (p : List MemPlace) (h : DataW.Trod ec Tryz.prog W 0 (fun _ => true) true 36 v d p) (hl : ∀ x ∈ p, x.block < W.heap.size), DataW.Trod ec Tryz.prog W' 0 (fun b => decide (b < W.heap.size)) true 36 v d p := fun v d p h hl =>
    WideElems.Trod_stays (P := Tryz.prog) laid (by kernel_rfl) (of_decide_eq_true (by kernel_rfl)) h (fun p hp => by
      have hb := hl p hp
      cases p with
      | cell b off => show W'.cell? ⟨b, off, none⟩ = W.cell? ⟨b, off, none⟩; exact cell_keep (hg.keep b hb)
      | map b => exact hg.keep b hb) (fun x hx => by simpa using hl x hx)
  refine ⟨[d0, d1], [], _, [], p0 ++ (p1), [], hW', ?_, ?_, ?_, hg.kept _, fun h => Bool.noConfusion h⟩
  · exact trodAll_cons_mk (shut_bool (kd_bool (T6.hkd 4 _ rfl)) _) trodAll_mk0
  · have h3 : DataW.TrodAll ec Tryz.prog W' 0 (fun b => decide (b < W.heap.size)) true [25, 36] [v0, v1] [d0, d1] (p0 ++ (p1 ++ [])) :=
      trodAll_cons_mk (stay0 v0 d0 p0 h0 (fun x hx => hlt x (by simp [hx]))) (trodAll_cons_mk (stay1 v1 d1 p1 h1 (fun x hx => hlt x (by simp [hx]))) trodAll_mk0)
    rw [List.append_nil] at h3
    exact h3
  · rfl
theorem lifted (K : CfgOk Nine.C) (os : Os) (started : os.Started) (H : Type) (ec : TypeId × Value → H) (F : Stop.Interp) :
    ReturnsInHanded {} Tryz.checked os 4 .any ((Rows.OpenSpec.upto Rows.exponentCheckSpec).pre6 ec Tryz.prog Tryz.f4 Rows.exponentCheckUptoRow.domain false) (((Rows.OpenSpec.upto Rows.exponentCheckSpec).at F).post ec Tryz.prog Tryz.f4 false true false false) := by
  refine returnsInHanded_of_cond (C := Tryz.checked) (s := Rows.OpenSpec.upto Rows.exponentCheckSpec) (k := Rows.uptoSmall) rfl own started (by kernel_rfl) Tryz.func4
    (OpenSpec.witness (enc := ec) (C := Tryz.checked) (s := Rows.OpenSpec.upto Rows.exponentCheckSpec) (k := Rows.uptoSmall) rfl false ⟨#[], #[.agg #[.slice none 0 0, .slice none 0 0, .slice none 0 0], .slice none 0 0], []⟩ 8 (by kernel_rfl) (by kernel_rfl) (by kernel_rfl)
      (x := ([.agg [.nil, .nil, .nil], .nil], [], [])) (by kernel_rfl) rfl (by kernel_rfl)) ?_
  intro W base args ds gs before hval hW _ hk _
  exact contract K H ec W base args ds gs before hval hW hk
theorem over (K : CfgOk Nine.C) : Rows.exponentCheckUptoRow.holds Tryz.pinned (Rows.OpenSpec.upto Rows.exponentCheckSpec) :=
  OpenClaim.holds_of_cond 4 Tryz.f4 rfl rfl rfl rfl rfl rfl rfl ⟨rfl, rfl, rfl, rfl, rfl⟩ rfl rfl rfl rfl rfl (by kernel_rfl) Tryz.func4 (by kernel_rfl)
    (of_decide_eq_true (by kernel_rfl)) (by unfold Func.isWrapper; first | (rw [if_pos (by decide +kernel)]; kernel_rfl) | (rw [if_neg (by decide +kernel)]; exact ⟨rfl, rfl⟩))
    (fun os started H ec _ F => lifted K os started H ec F)
theorem exponentCheck : Rows.ExponentCheckUptoSaid := over Go.Pm.Nine.cfgOk9
end Go.Proofs.YtejhjciockgicaaGreat.Ck
end
