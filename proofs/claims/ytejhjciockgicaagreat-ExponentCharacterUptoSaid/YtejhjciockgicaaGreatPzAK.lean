/-
  ExponentCharacter: the walk of CheckRefute and of the reference, and their law
-/
import Derived.Test.YtejhjciockgicaaGreatPzAJ
import Derived.Test.YtejhjciockgicaaGreatPzAH
/-
  PM, PART 32: slices.Insert in the middle, what its two roads share. Conditions: none.
-/
section
set_option linter.unusedVariables false
set_option linter.unusedSimpArgs false
set_option linter.unusedVariables false
set_option linter.unusedSimpArgs false
set_option maxRecDepth 100000
set_option maxHeartbeats 4000000
namespace Go.Pm
open Go.Proofs
section
variable {w : World} {F : Nat → Prop} {β : List (Nat × Nat)}
variable {C : Cfg} (T : Tab C.P)
variable {ops : Array Oper} {i : Nat} {d : Nat} {ty : TypeId} {pos : String} {af : Array Edge} {r : List Oper} {ρ : Nat → PV} {L : List (Nat × PV)} {h : AHeap} {Q : St → Prop}
theorem sliceLo_m1 {P : Program} {t el : TypeId} {id ep len a : Nat} {o : AObj} {k : IntKind} (hu : P.underlying t = some (.slice el)) (hs : tsize P el = some o.esz) (hg : getM h id ep = some o) (ha : a < len) (hle : len ≤ o.es.length) :
    sliceP P h t (.mref id ep 0 len) (some (.int k (a : Int))) none none = some (.mref id ep a (len - a)) := by
  rw [sliceLo_m hu hs hg (by omega) hle]
  by_cases h0 : a = 0
  · subst h0; simp
  · rw [if_neg h0, if_neg (by omega)]
theorem copyE2 {dt el : TypeId} {sz id ep off len : Nat} {u : PV} {ys : List PV} {o : AObj} (hk : T.kd dt = some (.sl el)) (hs : T.ts el = some sz) (hu : elems h u = some ys) (hg : getM h id ep = some o) (hm : o.mu = .m) (hz : o.esz = sz) (hle : off + len ≤ o.es.length)
    (hy : ys.all (fun v => decide ((cells v).length = sz)) = true) (hy1 : (ys.take (min ys.length len)).all (fun v => decide ((cells v).length = sz) && (cells v).all oneC) = true) :
    copyP C.P 2 h dt (.mref id ep off len) u = some (.int .i64 (min ys.length len : Nat), h.set id { o with es := o.es.take off ++ ys.take (min ys.length len) ++ o.es.drop (off + min ys.length len) }) := by
  unfold copyP
  rw [kd_sl (T.hkd _ _ hk), hu]
  simp only [T.hts _ _ hs, hg]
  rw [if_pos ⟨Nat.le_refl _, hm, hz.symm, hle, hy, hy1⟩]
theorem R.copy {dt xt el : TypeId} {sz id ep off len : Nat} {u : PV} {ys : List PV} {o : AObj} {x y : Operand} (hx : evL L x = some (.mref id ep off len)) (hyy : evL L y = some u) (hk : T.kd dt = some (.sl el)) (hs : T.ts el = some sz) (hu : elems h u = some ys) (hg : getM h id ep = some o) (hm : o.mu = .m) (hz : o.esz = sz) (hle : off + len ≤ o.es.length)
    (hy : ys.all (fun v => decide ((cells v).length = sz)) = true) (hy1 : (ys.take (min ys.length len)).all (fun v => decide ((cells v).length = sz) && (cells v).all oneC) = true)
    (kk : EvOps C ops r ⟨al ((d, .int .i64 (min ys.length len : Nat)) :: L) ρ, h.set id { o with es := o.es.take off ++ ys.take (min ys.length len) ++ o.es.drop (off + min ys.length len) }⟩ Q) :
    EvOps C ops (⟨some d, .call ⟨.builtin .copy, #[x, y], #[dt, xt]⟩, ty, pos, af, none⟩ :: r) ⟨al L ρ, h⟩ Q := by
  refine EvOps.valL (fun run => ?_) kk
  have hap := copyE2 T hk hs hu hg hm hz hle hy hy1
  simp only [opVal, builtinP, List.map_cons, List.map_nil, evL_ev hx, evL_ev hyy, hap]
theorem D.copy {dt xt el : TypeId} {sz id ep off len L0 : Nat} {own : List Nat} {u : PV} {ys : List PV} {o : AObj} {x y : Operand} (hl2 : level ops (before ops) i = 2) (hx : evL L x = some (.mref id ep off len)) (hyy : evL L y = some u) (hk : T.kd dt = some (.sl el)) (hs : T.ts el = some sz) (hu : elems h u = some ys) (hg : getM h id ep = some o) (hm : o.mu = .m) (hz : o.esz = sz) (hle : off + len ≤ o.es.length)
    (hy : ys.all (fun v => decide ((cells v).length = sz)) = true) (hy1 : (ys.take (min ys.length len)).all (fun v => decide ((cells v).length = sz) && (cells v).all oneC) = true)
    (kk : EvD C ops (i + 1) r ⟨⟨al ((d, .int .i64 (min ys.length len : Nat)) :: L) ρ, h.set id { o with es := o.es.take off ++ ys.take (min ys.length len) ++ o.es.drop (off + min ys.length len) }⟩, (h.set id { o with es := o.es.take off ++ ys.take (min ys.length len) ++ o.es.drop (off + min ys.length len) }).length, []⟩ Q) :
    EvD C ops i (⟨some d, .call ⟨.builtin .copy, #[x, y], #[dt, xt]⟩, ty, pos, af, none⟩ :: r) ⟨⟨al L ρ, h⟩, L0, own⟩ Q := by
  refine EvD.two rfl hl2 ⟨0, fun n _ => ?_⟩ kk
  have hap := copyE2 T hk hs hu hg hm hz hle hy hy1
  simp only [opVal, builtinP, List.map_cons, List.map_nil, evL_ev hx, evL_ev hyy, hap]
end
def tlC : Nat → Code → Code
  | 0, c => c
  | n + 1, .seq _ b => tlC n b
  | _, c => c
attribute [local irreducible] thenQ blockQ loopQ bodyQ Ev EvOps CallEv FnEv EvD
namespace Zero
noncomputable def c63 : Code := match Tryz.f91.body with | some c => c | none => .skip
theorem body63 : Tryz.f91.body = some c63 := rfl
variable {w : World} {F : Nat → Prop} {β : List (Nat × Nat)}
theorem ins_pre {h : AHeap} {id ep len i N : Nat} {o : AObj} {fl : Bool} {e : PV} {a : Act} {Q : Exit → Act → World → Prop} (hg : getM h id ep = some o) (hz : o.esz = 5) (hle : len ≤ o.es.length) (hi : i < len) (hn : len < 100000000) (hN : N = Tryz.f91.ntmps)
    (RR : SR N w F β ⟨envOf [.mref id ep 0 len, .int .i64 (i : Int), .snap fl [e]], h⟩ a)
    (k : ∀ a' w' β' ρ', SR N w' F β' ⟨al [(0, .mref id ep 0 len), (1, .int .i64 (i : Int)), (2, .snap fl [e]), (7, .int .i64 1), (8, .int .i64 (len : Int))] ρ', h⟩ a' → Stp w h β w' h β' → (tlC 6 c63).wp C0.P Q a' w') : c63.wp C0.P Q a w := by
  subst hN
  have hu : C0.P.underlying 26 = some (.slice 66) := kd_sl (T6.hkd 26 _ rfl)
  have hsz : tsize C0.P 66 = some o.esz := by rw [hz]; exact T6.hts 66 5 rfl
  have hl1 : ([e] : List PV).length = 1 := rfl
  refine wp_seq ?_
  refine ev_wp K0 mixed0 S0 (M := fun ex s' => ex = .normal ∧ ∃ ρ', s' = ⟨al [(0, .mref id ep 0 len), (1, .int .i64 (i : Int)), (2, .snap fl [e])] ρ', h⟩) rfl ?_ RR ?_
  · rw [envOf_al]
    (repeat' (first | refine EvOps.nil ?_ | (apply R.assign; exact rfl) | refine Ev.region ?_ | fail))
    exact ⟨rfl, _, St.keep ⟨rfl, rfl, rfl, trivial⟩⟩
  rintro ex s' a1 w1 β1 ⟨rfl, ρ1, rfl⟩ R1 S1
  refine wp_seq ?_
  refine ev_wp K0 mixed0 S0 (M := fun ex s' => ex = .normal ∧ ∃ ρ', s' = ⟨al [(0, .mref id ep 0 len), (1, .int .i64 (i : Int)), (2, .snap fl [e])] ρ', h⟩) rfl ?_ R1 ?_
  · (repeat' (first | (apply R.move; exact rfl) | refine Ev.region ?_ | fail))
    apply R.slice
    · exact rfl
    · exact rfl
    · exact rfl
    · exact rfl
    · exact sliceLo_m1 hu hsz hg hi hle
    (repeat' (first | refine EvOps.nil ?_ | fail))
    exact ⟨rfl, _, St.keep ⟨rfl, rfl, rfl, trivial⟩⟩
  rintro ex s' a2 w2 β2 ⟨rfl, ρ2, rfl⟩ R2 S2
  refine wp_seq ?_
  refine ev_wp K0 mixed0 S0 (M := fun ex s' => ex = .normal ∧ ∃ ρ', s' = ⟨al [(0, .mref id ep 0 len), (1, .int .i64 (i : Int)), (2, .snap fl [e]), (7, .int .i64 1)] ρ', h⟩) rfl ?_ R2 ?_
  · (repeat' (first | refine EvOps.nil ?_ | (apply R.move; exact rfl) | (apply R.assign; exact rfl) | (apply R.lenS T6; exact rfl; exact rfl) | refine Ev.region ?_ | fail))
    exact ⟨rfl, _, St.keep ⟨rfl, rfl, rfl, rfl, trivial⟩⟩
  rintro ex s' a3 w3 β3 ⟨rfl, ρ3, rfl⟩ R3 S3
  refine wp_seq ?_
  refine ev_wp K0 mixed0 S0 (M := fun ex s' => ex = .normal ∧ ∃ ρ', s' = ⟨al [(0, .mref id ep 0 len), (1, .int .i64 (i : Int)), (2, .snap fl [e]), (7, .int .i64 1)] ρ', h⟩) rfl ?_ R3 ?_
  · (repeat' (first | refine EvOps.nil ?_ | (apply R.move; exact rfl) | (apply R.cmp; exact rfl; exact rfl; exact rfl; all_goals intro hc; all_goals (try (exfalso; omega))) | refine Ev.seq ?_ | refine Ev.region ?_ | (apply Ev.condB; exact rfl) | refine Ev.skip ?_ | refine thenQ.normal ?_ | fail))
    exact ⟨rfl, _, St.keep ⟨rfl, rfl, rfl, rfl, trivial⟩⟩
  rintro ex s' a4 w4 β4 ⟨rfl, ρ4, rfl⟩ R4 S4
  refine wp_seq ?_
  refine ev_wp K0 mixed0 S0 (M := fun ex s' => ex = .normal ∧ ∃ ρ', s' = ⟨al [(0, .mref id ep 0 len), (1, .int .i64 (i : Int)), (2, .snap fl [e]), (7, .int .i64 1), (8, .int .i64 (len : Int))] ρ', h⟩) rfl ?_ R4 ?_
  · (repeat' (first | (apply R.move; exact rfl) | refine Ev.region ?_ | fail))
    apply R.lenM T6 (o := o); exact rfl; exact rfl; exact hg; exact (by omega)
    (repeat' (first | refine EvOps.nil ?_ | (apply R.assign; exact rfl) | fail))
    exact ⟨rfl, _, St.keep ⟨rfl, rfl, rfl, rfl, rfl, trivial⟩⟩
  rintro ex s' a5 w5 β5 ⟨rfl, ρ5, rfl⟩ R5 S5
  refine wp_seq ?_
  refine ev_wp K0 mixed0 S0 (M := fun ex s' => ex = .normal ∧ ∃ ρ', s' = ⟨al [(0, .mref id ep 0 len), (1, .int .i64 (i : Int)), (2, .snap fl [e]), (7, .int .i64 1), (8, .int .i64 (len : Int))] ρ', h⟩) rfl ?_ R5 ?_
  · (repeat' (first | refine EvOps.nil ?_ | (apply R.move; exact rfl) | (apply R.cmp; exact rfl; exact rfl; exact rfl; all_goals intro hc; all_goals (try (exfalso; omega))) | refine Ev.seq ?_ | refine Ev.region ?_ | (apply Ev.condB; exact rfl) | refine Ev.skip ?_ | refine thenQ.normal ?_ | fail))
    exact ⟨rfl, _, St.keep ⟨rfl, rfl, rfl, rfl, rfl, trivial⟩⟩
  rintro ex s' a6 w6 β6 ⟨rfl, ρ6, rfl⟩ R6 S6
  exact k _ _ _ _ R6 (((((S1.trans S2).trans S3).trans S4).trans S5).trans S6)
end Zero
end Go.Pm
end

/-
  PM, PART 33: slices.Insert in the middle where there is room. Conditions: none.
-/
section
set_option linter.unusedVariables false
set_option linter.unusedSimpArgs false
set_option linter.unusedVariables false
set_option linter.unusedSimpArgs false
set_option maxRecDepth 100000
set_option maxHeartbeats 4000000
namespace Go.Pm
open Go.Proofs
theorem shift_list {pre : List PV} {X e : PV} {i : Nat} (hi : i < pre.length) {ys es2 : List PV} (hys : ys = ((pre ++ [X]).drop i).take (pre.length + 1 - i)) (hes2 : es2 = (pre ++ [X]).take (i + 1) ++ ys.take (pre.length - i) ++ (pre ++ [X]).drop (i + 1 + (pre.length - i))) :
    ys.take (pre.length - i) = pre.drop i ∧ es2.length = pre.length + 1 ∧ es2.take i ++ [e] ++ es2.drop (i + 1) = pre.take i ++ [e] ++ pre.drop i := by
  have h1 : ys.take (pre.length - i) = pre.drop i := by
    rw [hys, List.take_take, List.drop_append_of_le_length (by omega)]
    rw [List.take_append_of_le_length (by simp; omega)]
    rw [List.take_of_length_le (by simp; omega)]
  have h2 : (pre ++ [X]).drop (i + 1 + (pre.length - i)) = [] := List.drop_eq_nil_of_le (by simp; omega)
  have h3 : es2 = (pre ++ [X]).take (i + 1) ++ pre.drop i := by rw [hes2, h1, h2]; simp
  have h4 : ((pre ++ [X]).take (i + 1)).length = i + 1 := by simp; omega
  refine ⟨h1, by rw [h3]; simp; omega, ?_⟩
  congr 1
  · congr 1
    rw [h3, List.take_append_of_le_length (by omega), List.take_take, List.take_append_of_le_length (by omega)]
    congr 1; omega
  · rw [h3, List.drop_append_of_le_length (by omega), List.drop_eq_nil_of_le (by omega), List.nil_append]
attribute [local irreducible] thenQ blockQ loopQ bodyQ Ev EvOps CallEv FnEv EvD
namespace Zero
variable {w : World} {F : Nat → Prop} {β : List (Nat × Nat)}
theorem ins_shift {h : AHeap} {id ep len i : Nat} {o : AObj} {fl : Bool} {e X : PV} {pre : List PV} {vs : List Value} (H : HRel w F β h) (ha : L2 (VRel w (Av F h β) β h) vs [.mref id ep 0 len, .int .i64 (i : Int), .snap fl [e]])
    (hg : getM h id ep = some o) (hm : o.mu = .m) (hz : o.esz = 5) (hes : o.es = pre ++ [X]) (hpl : pre.length = len) (hi : i < len) (hn : len < 100000000) (hok : pre.all (okV 5) = true) (hX : (cells X).length = 5) (he : okV 5 e = true) (hcl : closedH h = true) :
    CSim C0.P 2 w F β h 91 vs (.mref id ep 0 (len + 1)) (h.set id { o with es := pre.take i ++ [e] ++ pre.drop i }) := by
  have hel : o.es.length = len + 1 := by rw [hes]; simp [hpl]
  have hu : C0.P.underlying 26 = some (.slice 66) := kd_sl (T6.hkd 26 _ rfl)
  have hs63 : tsize C0.P 66 = some 5 := T6.hts 66 5 rfl
  have hsz : tsize C0.P 66 = some o.esz := by rw [hz]; exact hs63
  obtain ⟨g1, g2, g3⟩ := getM_some hg
  have hlt := lt_of_some g1
  obtain ⟨bc, hbc⟩ := beta_at H.len g1
  obtain ⟨T, cs, k1, k2, k3, k4, k5⟩ := H.obj id o bc g1 hbc g3
  have hcap : len + 1 ≤ bc.2 := by omega
  have hvis : visible h id = true := by unfold visible; rw [g1]; simp [hm]
  have hj : ((len : Int) + 1) = ((len + 1 : Nat) : Int) := by omega
  have hj2 : ((i : Int) + 1) = ((i + 1 : Nat) : Int) := by omega
  have hb' : ∀ {w' : World} {β' : List (Nat × Nat)}, Stp w h β w' h β' → β'[id]? = some bc := by
    intro w' β' S
    obtain ⟨o', bc', f1, f2, f3, f4, f5⟩ := S.refs id o bc g1 hbc g3
    obtain rfl := Option.some.inj (g1.symm.trans f1)
    rw [f2, (f5 rfl).2.2]
  refine csim_wp (P := C0.P) (c := c63) Tryz.func91 body63 H ha (fun a RR => ins_pre hg hz (by omega) hi hn rfl RR (fun a1 w1 β1 ρ1 R1 S1 => ?_))
  refine wp_seq ?_
  refine wp_seq ?_
  apply region_special K0 S0 (pre := [_, _, _, _]) (post := [_]) (R := R1) (M := fun s' => ∃ ρ', s' = ⟨al ((28, .int .i64 ((len : Int) + 1)) :: (29, .mref id ep 0 len) :: [(0, .mref id ep 0 len), (1, .int .i64 (i : Int)), (2, .snap fl [e]), (7, .int .i64 1), (8, .int .i64 (len : Int))]) ρ', h⟩) (M2 := fun s' => ∃ ρ', s' = ⟨al ((31, .bool false) :: [(0, .mref id ep 0 len), (1, .int .i64 (i : Int)), (2, .snap fl [e]), (7, .int .i64 1), (8, .int .i64 (len : Int))]) ρ', h⟩)
  · rfl
  · rfl
  · (repeat' (first | refine EvOps.nil ?_ | (apply R.move; exact rfl) | (apply R.arith; exact rfl; exact rfl; exact rfl; exact (wrapI (by omega) (by omega))) | fail))
    exact ⟨_, St.keep ⟨rfl, rfl, rfl, rfl, rfl, rfl, rfl, trivial⟩⟩
  · rintro s1 a2 w2 β2 ⟨ρ2, rfl⟩ R2 S2
    refine ⟨.int .i64 (bc.2 : Int), h, cap_osim (t := 26) (x := .tmp 29) R2.hr R2.er hu (lk_al (t := 29) rfl ρ2) hg (hb' (S1.trans S2)) (by omega) _ rfl, ?_⟩
    show EvOps C0 _ _ ⟨updO (al _ ρ2) (some 30) (.int .i64 (bc.2 : Int)), h⟩ _
    rw [al_cons]
    (repeat' (first | refine EvOps.nil ?_ | (apply R.cmp; exact rfl; exact rfl; exact rfl; all_goals intro hc; all_goals (try (exfalso; omega))) | fail))
    exact ⟨_, St.keep ⟨rfl, rfl, rfl, rfl, rfl, rfl, trivial⟩⟩
  rintro s3 a3 w3 β3 ⟨ρ3, rfl⟩ R3 S3
  refine ev_wp K0 mixed0 S0 (M := fun ex s' => ex = .normal ∧ ∃ ρ', s' = ⟨al [(0, .mref id ep 0 len), (1, .int .i64 (i : Int)), (2, .snap fl [e]), (7, .int .i64 1), (8, .int .i64 (len : Int))] ρ', h⟩) rfl ?_ R3 ?_
  · (repeat' (first | (apply Ev.condB; exact rfl) | refine Ev.skip ?_ | fail))
    exact ⟨rfl, _, St.keep ⟨rfl, rfl, rfl, rfl, rfl, trivial⟩⟩
  rintro ex s' a4 w4 β4 ⟨rfl, ρ4, rfl⟩ R4 S4
  refine wp_seq ?_
  refine ev_wp K0 mixed0 S0 (M := fun ex s' => ex = .normal ∧ ∃ ρ', s' = ⟨al [(0, .mref id ep 0 (len + 1)), (1, .int .i64 (i : Int)), (2, .snap fl [e]), (7, .int .i64 1)] ρ', h⟩) rfl ?_ R4 ?_
  · (repeat' (first | (apply R.move; exact rfl) | (apply R.arith; exact rfl; exact rfl; exact rfl; exact (wrapI (by omega) (by omega))) | refine Ev.region ?_ | fail))
    apply R.slice
    · exact rfl
    · exact rfl
    · exact rfl
    · exact rfl
    · show sliceP C0.P h 26 (.mref id ep 0 len) none (some (.int .i64 ((len : Int) + 1))) none = _
      rw [hj]
      exact sliceBeyond0_m hu hsz hg (by omega) (by omega)
    (repeat' (first | refine EvOps.nil ?_ | (apply R.assign; exact rfl) | fail))
    exact ⟨rfl, _, St.keep ⟨rfl, rfl, rfl, rfl, trivial⟩⟩
  rintro ex s' a5 w5 β5 ⟨rfl, ρ5, rfl⟩ R5 S5
  refine wp_seq ?_
  refine wp_seq ?_
  apply region_special K0 S0 (pre := [_, _, _, _, _, _]) (post := [_]) (R := R5) (M := fun s' => ∃ ρ', s' = ⟨al ((61, .snap fl [e]) :: (66, .mref id ep (i + 1) (len + 1 - (i + 1))) :: [(0, .mref id ep 0 (len + 1)), (1, .int .i64 (i : Int)), (2, .snap fl [e]), (7, .int .i64 1)]) ρ', h⟩) (M2 := fun s' => ∃ ρ', s' = ⟨al ((68, .bool true) :: [(0, .mref id ep 0 (len + 1)), (1, .int .i64 (i : Int)), (2, .snap fl [e]), (7, .int .i64 1)]) ρ', h⟩)
  · rfl
  · rfl
  · (repeat' (first | (apply R.move; exact rfl) | (apply R.arith; exact rfl; exact rfl; exact rfl; exact (wrapI (by omega) (by omega))) | fail))
    apply R.slice
    · exact rfl
    · exact rfl
    · exact rfl
    · exact rfl
    · show sliceP C0.P h 26 (.mref id ep 0 (len + 1)) (some (.int .i64 ((i : Int) + 1))) none none = _
      rw [hj2]
      exact sliceLo_m1 hu hsz hg (by omega) (by omega)
    (repeat' (first | refine EvOps.nil ?_ | fail))
    exact ⟨_, St.keep ⟨rfl, rfl, rfl, rfl, rfl, rfl, trivial⟩⟩
  · rintro s1 a6 w6 β6 ⟨ρ6, rfl⟩ R6 S6
    refine ⟨.bool false, h, overlaps_osim (t := 26) (tR := 4) (x := .tmp 61) (y := .tmp 66) (f := 113) R6.hr R6.er hu hs63 (lk_al (t := 61) rfl ρ6) (lk_al (t := 66) rfl ρ6) hg hm (by omega) Tryz.func113 (by kernel_rfl) (by kernel_rfl) (by kernel_rfl) (by kernel_rfl) _ rfl, ?_⟩
    show EvOps C0 _ _ ⟨updO (al _ ρ6) (some 67) (.bool false), h⟩ _
    rw [al_cons]
    (repeat' (first | refine EvOps.nil ?_ | (apply R.not; exact rfl; exact rfl) | fail))
    exact ⟨_, St.keep ⟨rfl, rfl, rfl, rfl, rfl, trivial⟩⟩
  rintro s7 a7 w7 β7 ⟨ρ7, rfl⟩ R7 S7
  obtain ⟨ys, hys⟩ : ∃ ys, ys = ((pre ++ [X]).drop i).take (pre.length + 1 - i) := ⟨_, rfl⟩
  obtain ⟨es2, hes2⟩ : ∃ es2, es2 = (pre ++ [X]).take (i + 1) ++ ys.take (pre.length - i) ++ (pre ++ [X]).drop (i + 1 + (pre.length - i)) := ⟨_, rfl⟩
  obtain ⟨l1, l2, l3⟩ := shift_list (e := e) (by omega) hys hes2
  rw [hpl] at l1 l2
  have hyl : ys.length = len + 1 - i := by rw [hys]; simp; omega
  have hymem : ∀ v ∈ ys, (cells v).length = 5 := by
    intro v hv
    rw [hys] at hv
    have := List.mem_of_mem_drop (List.mem_of_mem_take hv)
    rcases List.mem_append.1 this with hv | hv
    · have := List.all_eq_true.1 hok v hv
      unfold okV at this
      simp only [Bool.and_eq_true, decide_eq_true_eq] at this
      exact this.1.2
    · obtain rfl := List.mem_singleton.1 hv
      exact hX
  have he2 : (cells e).length = 5 ∧ (cells e).all oneC = true := by
    unfold okV at he
    simp only [Bool.and_eq_true, decide_eq_true_eq] at he
    exact ⟨he.1.2, he.2⟩
  have hmn : min ys.length (len + 1 - (i + 1)) = len - i := by omega
  have hh2 : h.set id { o with es := o.es.take (i + 1) ++ ys.take (min ys.length (len + 1 - (i + 1))) ++ o.es.drop (i + 1 + min ys.length (len + 1 - (i + 1))) } = h.set id { o with es := es2 } := by
    rw [hmn, hes, hes2, hpl]
  have hg2 : getM (h.set id { o with es := es2 }) id ep = some { o with es := es2 } := getM_at (List.getElem?_set_self hlt) g2 (by show o.mu ≠ .x; rw [hm]; simp)
  have hmn2 : min ([e] : List PV).length (len + 1 - i) = 1 := by show min 1 _ = 1; omega
  have hfin : (h.set id { o with es := es2 }).set id { ({ o with es := es2 } : AObj) with es := es2.take i ++ [e].take (min ([e] : List PV).length (len + 1 - i)) ++ es2.drop (i + min ([e] : List PV).length (len + 1 - i)) } = h.set id { o with es := pre.take i ++ [e] ++ pre.drop i } := by
    rw [List.set_set, hmn2, ← l3]; rfl
  refine ev_wp K0 mixed0 S0 (M := fun ex s' => ex = .ret ∧ ∃ ρ', s' = ⟨al [(6, .mref id ep 0 (len + 1))] ρ', h.set id { o with es := pre.take i ++ [e] ++ pre.drop i }⟩) rfl ?_ R7 ?_
  · (repeat' (first | refine Ev.seq ?_ | refine Ev.regionD ?_ | (apply D.move; exact rfl) | (apply D.arith; exact rfl; exact rfl; exact rfl; exact (wrapI (by omega) (by omega))) | (apply Ev.condB; exact rfl) | fail))
    apply D.slice
    · exact hcl
    · exact rfl
    · exact hvis
    · exact rfl
    · exact rfl
    · exact rfl
    · exact rfl
    · exact rfl
    · exact rfl
    · show sliceP C0.P h 26 (.mref id ep 0 (len + 1)) (some (.int .i64 ((i : Int) + 1))) none none = _
      rw [hj2]
      exact sliceLo_m1 hu hsz hg (by omega) (by omega)
    (repeat' (first | (apply D.move; exact rfl) | fail))
    apply D.slice
    · exact hcl
    · exact rfl
    · exact hvis
    · exact rfl
    · exact rfl
    · exact rfl
    · exact rfl
    · exact rfl
    · exact rfl
    · exact sliceLo_m1 hu hsz hg (by omega) (by omega)
    apply D.copy T6 (ys := ys) (o := o) (sz := 5)
    · exact rfl
    · exact rfl
    · exact rfl
    · exact rfl
    · exact rfl
    · simp only [elems, hg]
      rw [if_pos (by omega), hes, hys, hpl]
    · exact hg
    · exact hm
    · exact hz
    · omega
    · rw [List.all_eq_true]
      intro v hv
      simp [hymem v hv]
    · rw [hmn, l1, List.all_eq_true]
      intro v hv
      have := List.all_eq_true.1 hok v (List.mem_of_mem_drop hv)
      unfold okV at this
      simp only [Bool.and_eq_true] at this ⊢
      exact ⟨this.1.2, this.2⟩
    refine EvD.heap hh2 ?_
    (repeat' (first | (apply R.move; exact rfl) | refine Ev.seq ?_ | refine Ev.region ?_ | refine EvD.nil ?_ | refine thenQ.normal ?_ | fail))
    apply R.slice
    · exact rfl
    · exact rfl
    · exact rfl
    · exact rfl
    · exact sliceLo_m1 (o := { o with es := es2 }) hu hsz hg2 (by omega) (by show len + 1 ≤ es2.length; omega)
    (repeat' (first | (apply R.move; exact rfl) | fail))
    apply R.copy T6 (ys := [e]) (o := { o with es := es2 }) (sz := 5)
    · exact rfl
    · exact rfl
    · exact rfl
    · exact rfl
    · exact rfl
    · exact hg2
    · exact hm
    · exact hz
    · show i + (len + 1 - i) ≤ es2.length; omega
    · simp [he2.1]
    · simp only [hmn2, List.take_succ_cons, List.take_zero, List.all_cons, List.all_nil, he2.1, he2.2]; rfl
    (repeat' (first | refine EvOps.nil ?_ | (apply R.move; exact rfl) | (apply R.assign; exact rfl) | refine Ev.seq ?_ | refine Ev.region ?_ | refine Ev.ret ?_ | refine thenQ.normal ?_ | fail))
    exact ⟨rfl, _, (congrArg (fun hh => (⟨_, hh⟩ : St)) hfin).trans (St.keep ⟨rfl, trivial⟩)⟩
  rintro ex s8 a8 w8 β8 ⟨rfl, ρ8, rfl⟩ R8 S8
  refine ⟨.inr rfl, _, β8, R8, (((((S1.trans S3).trans S4).trans S5).trans S7).trans S8), [.mref id ep 0 (len + 1)], ?_, fun u hu' => ⟨β8, hu', R8.hr, (((((S1.trans S3).trans S4).trans S5).trans S7).trans S8)⟩⟩
  · exact resT_of (L := [(6, .mref id ep 0 (len + 1))]) rfl
  all_goals rfl
end Zero
end Go.Pm
end

/-
  PM, PART 34: slices.Insert in the middle where there is no room: all is made anew. Conditions: none.
-/
section
set_option linter.unusedVariables false
set_option linter.unusedSimpArgs false
set_option linter.unusedVariables false
set_option linter.unusedSimpArgs false
set_option maxRecDepth 100000
set_option maxHeartbeats 4000000
namespace Go.Pm
open Go.Proofs
mutual
theorem visR_mono {f g : Nat → Bool} (hfg : ∀ i, f i = true → g i = true) : ∀ p, visR f p = true → visR g p = true
  | .int .., _ | .bool _, _ | .str _, _ | .nilp, _ | .nilf, _ | .snap .., _ | .sptr _, _ | .undef, _ | .any, _ => rfl
  | .agg cs, h => by simp only [visR] at h ⊢; exact visRs_mono hfg cs h
  | .tup cs, h => by simp only [visR] at h ⊢; exact visRs_mono hfg cs h
  | .fn _ cs, h => by simp only [visR] at h ⊢; exact visRs_mono hfg cs h
  | .mref .., h => by simp only [visR] at h ⊢; exact hfg _ h
  | .ptr .., h => by simp only [visR] at h ⊢; exact hfg _ h
theorem visRs_mono {f g : Nat → Bool} (hfg : ∀ i, f i = true → g i = true) : ∀ cs, visRs f cs = true → visRs g cs = true
  | [], _ => rfl
  | c :: r, h => by
    simp only [visRs, Bool.and_eq_true] at h ⊢
    exact ⟨visR_mono hfg c h.1, visRs_mono hfg r h.2⟩
end
theorem closed_mono {h h' : AHeap} (hv : ∀ i, visible h i = true → visible h' i = true) (ho : ∀ o' ∈ h', o'.mu = .x ∨ visRs (visible h') o'.es = true ∨ ∃ o ∈ h, o.es = o'.es ∧ (o.mu = .x → o'.mu = .x)) (hcl : closedH h = true) : closedH h' = true := by
  unfold closedH at hcl ⊢
  rw [List.all_eq_true] at hcl ⊢
  intro o' h1
  rcases ho o' h1 with h2 | h2 | ⟨o, h2, h3, h4⟩
  · simp [h2]
  · rw [h2]; simp
  · have := hcl o h2
    simp only [Bool.or_eq_true, decide_eq_true_eq] at this ⊢
    rcases this with hh | hh
    · exact .inl (h4 hh)
    · exact .inr (by rw [← h3]; exact visRs_mono hv _ hh)
theorem closed_lock {h : AHeap} (hcl : closedH h = true) : closedH (h.map lock1) = true := by
  refine closed_mono (h := h) (fun i hi => ?_) (fun o' h1 => ?_) hcl
  · unfold visible at hi ⊢
    rw [List.getElem?_map]
    split at hi
    · rename_i o ho
      rw [ho]
      simp only [Option.map_some, decide_eq_true_eq] at hi ⊢
      exact fun hh => hi ((lock1_shape o).2.2.2.1.1 hh)
    · cases hi
  · obtain ⟨o, h2, rfl⟩ := List.mem_map.1 h1
    exact .inr (.inr ⟨o, h2, (lock1_shape o).2.2.1.symm, fun hh => (lock1_shape o).2.2.2.1.2 hh⟩)
theorem closed_push {h : AHeap} {n sz : Nat} {es : List PV} (hv : isVals es = true) (hcl : closedH h = true) : closedH (h ++ [⟨.m, n, sz, es⟩]) = true := by
  refine closed_mono (h := h) (fun i hi => ?_) (fun o' h1 => ?_) hcl
  · unfold visible at hi ⊢
    split at hi
    · rename_i o ho
      rw [List.getElem?_append_left (lt_of_some ho), ho]
      exact hi
    · cases hi
  · rcases List.mem_append.1 h1 with h1 | h1
    · exact .inr (.inr ⟨o', h1, rfl, fun hh => hh⟩)
    · obtain rfl := List.mem_singleton.1 h1
      exact .inr (.inl (vis_vals _ _ hv))
theorem grow_list {es : List PV} {Z e : PV} {i len : Nat} (hi : i < len) (hl : len ≤ es.length) {es1 es2 ys : List PV} (h1 : es1 = es.take i ++ List.replicate (len + 1 - i) Z) (h2 : es2 = es1.take i ++ [e] ++ es1.drop (i + 1)) (h3 : ys = (es.drop i).take (len - i)) :
    es1.length = len + 1 ∧ es2.length = len + 1 ∧ ys.length = len - i ∧ ys = (es.take len).drop i ∧ es2.take (i + 1) ++ ys ++ es2.drop (i + 1 + (len - i)) = (es.take len).take i ++ [e] ++ (es.take len).drop i := by
  have a1 : es1.length = len + 1 := by rw [h1]; simp; omega
  have a2 : es2.length = len + 1 := by rw [h2]; simp; omega
  have a3 : ys.length = len - i := by rw [h3]; simp; omega
  have a4 : ys = (es.take len).drop i := by rw [h3, List.drop_take]
  refine ⟨a1, a2, a3, a4, ?_⟩
  rw [List.drop_eq_nil_of_le (by omega), List.append_nil, a4]
  congr 1
  rw [h2, List.take_append_of_le_length (by simp; omega), List.take_of_length_le (by simp; exact Nat.min_le_left _ _)]
  congr 1
  rw [h1, List.take_append_of_le_length (by simp; omega), List.take_take, List.take_take]
  congr 1; omega
theorem at_push {h : AHeap} {o : AObj} (hm : o.mu ≠ .x) : getM (h ++ [o]) h.length o.ep = some o := getM_at (by simp) rfl hm
theorem at_old {h k : AHeap} {id ep : Nat} {o : AObj} (hg : getM h id ep = some o) : getM (h ++ k) id ep = some o := by
  obtain ⟨g1, g2, g3⟩ := getM_some hg
  exact getM_at (by rw [List.getElem?_append_left (lt_of_some g1)]; exact g1) g2 g3
theorem set_push {h : AHeap} {o o' : AObj} : (h ++ [o]).set h.length o' = h ++ [o'] := by
  rw [List.set_append_right _ _ (Nat.le_refl _)]; simp
attribute [local irreducible] thenQ blockQ loopQ bodyQ Ev EvOps CallEv FnEv EvD
namespace Zero
variable {w : World} {F : Nat → Prop} {β : List (Nat × Nat)}
theorem ins_grow {h : AHeap} {id ep len i : Nat} {o : AObj} {bc : Nat × Nat} {fl : Bool} {e : PV} {vs : List Value} (H : HRel w F β h) (ha : L2 (VRel w (Av F h β) β h) vs [.mref id ep 0 len, .int .i64 (i : Int), .snap fl [e]])
    (hg : getM h id ep = some o) (hz : o.esz = 5) (hle : len ≤ o.es.length) (hbc : β[id]? = some bc) (hcap : bc.2 < len + 1) (hi : i < len) (hn : len < 100000000) (hok : (o.es.take len).all (okV 5) = true) (he : okV 5 e = true) (hcl : closedH h = true) :
    CSim C0.P 2 w F β h 91 vs (.mref h.length 0 0 (len + 1)) (h ++ [⟨.m, 0, 5, (o.es.take len).take i ++ [e] ++ (o.es.take len).drop i⟩]) := by
  have hu : C0.P.underlying 26 = some (.slice 66) := kd_sl (T6.hkd 26 _ rfl)
  have hs63 : tsize C0.P 66 = some 5 := T6.hts 66 5 rfl
  have hsz : tsize C0.P 66 = some o.esz := by rw [hz]; exact hs63
  obtain ⟨g1, g2, g3⟩ := getM_some hg
  have hlt := lt_of_some g1
  have hj : ((i : Int) + 1) = ((i + 1 : Nat) : Int) := by omega
  have hj3 : ((len : Int) + 1 - (i : Int)) = ((len + 1 - i : Nat) : Int) := by omega
  have hin : i + (len + 1 - i) = len + 1 := by omega
  have hb' : ∀ {w' : World} {β' : List (Nat × Nat)}, Stp w h β w' h β' → β'[id]? = some bc := by
    intro w' β' S
    obtain ⟨o', bc', f1, f2, f3, f4, f5⟩ := S.refs id o bc g1 hbc g3
    obtain rfl := Option.some.inj (g1.symm.trans f1)
    rw [f2, (f5 rfl).2.2]
  obtain ⟨es1, hes1⟩ : ∃ es1, es1 = o.es.take i ++ List.replicate (len + 1 - i) (.agg [.int .i64 0, .str ByteArray.empty, .int .i64 0, .snap true [], .int .i64 0] : PV) := ⟨_, rfl⟩
  obtain ⟨es2, hes2⟩ : ∃ es2, es2 = es1.take i ++ [e] ++ es1.drop (i + 1) := ⟨_, rfl⟩
  obtain ⟨ys, hys⟩ : ∃ ys, ys = (o.es.drop i).take (len - i) := ⟨_, rfl⟩
  obtain ⟨l1, l2, l3, l4, l5⟩ := grow_list hi hle hes1 hes2 hys
  have he2 : (cells e).length = 5 ∧ (cells e).all oneC = true ∧ isVal e = true := by
    unfold okV at he
    simp only [Bool.and_eq_true, decide_eq_true_eq] at he
    exact ⟨he.1.2, he.2, he.1.1⟩
  have hyok : ys.all (okV 5) = true := by
    rw [l4, List.all_eq_true]
    intro v hv
    exact List.all_eq_true.1 hok v (List.mem_of_mem_drop hv)
  have hv1 : isVals es1 = true := by
    rw [hes1, isVals_eq, List.all_append, ← isVals_eq]
    have : isVals (o.es.take i) = true := by
      refine okV_vals (sz := 5) ?_
      rw [List.all_eq_true]
      intro v hv
      refine List.all_eq_true.1 hok v ?_
      have : o.es.take i = (o.es.take len).take i := by rw [List.take_take]; congr 1; omega
      rw [this] at hv
      exact List.mem_of_mem_take hv
    rw [this, Bool.true_and, List.all_eq_true]
    intro v hv
    obtain rfl := List.eq_of_mem_replicate hv
    rfl
  have hv2 : isVals es2 = true := by
    rw [isVals_eq, List.all_eq_true] at hv1 ⊢
    intro v hv
    rw [hes2] at hv
    rcases List.mem_append.1 hv with hv | hv
    · rcases List.mem_append.1 hv with hv | hv
      · exact hv1 v (List.mem_of_mem_take hv)
      · obtain rfl := List.mem_singleton.1 hv
        exact he2.2.2
    · exact hv1 v (List.mem_of_mem_drop hv)
  have hcl2 : closedH (h ++ [⟨.m, 0, 5, es2⟩]) = true := closed_push hv2 hcl
  have hgn : ∀ es, getM (h ++ [⟨.m, 0, 5, es⟩]) h.length 0 = some ⟨.m, 0, 5, es⟩ := fun es => at_push (o := ⟨.m, 0, 5, es⟩) (by simp)
  have hgo : ∀ es, getM (h ++ [⟨.m, 0, 5, es⟩]) id ep = some o := fun es => at_old hg
  have hvis : ∀ es, visible (h ++ [⟨.m, 0, 5, es⟩]) id = true := fun es => by unfold visible; rw [List.getElem?_append_left hlt, g1]; simpa using g3
  have hvisn : ∀ es, visible (h ++ [⟨.m, 0, 5, es⟩]) h.length = true := fun es => by unfold visible; simp
  refine csim_wp (P := C0.P) (c := c63) Tryz.func91 body63 H ha (fun a RR => ins_pre hg hz (by omega) hi hn rfl RR (fun a1 w1 β1 ρ1 R1 S1 => ?_))
  refine wp_seq ?_
  refine wp_seq ?_
  apply region_special K0 S0 (pre := [_, _, _, _]) (post := [_]) (R := R1) (M := fun s' => ∃ ρ', s' = ⟨al ((28, .int .i64 ((len : Int) + 1)) :: (29, .mref id ep 0 len) :: [(0, .mref id ep 0 len), (1, .int .i64 (i : Int)), (2, .snap fl [e]), (7, .int .i64 1), (8, .int .i64 (len : Int))]) ρ', h⟩) (M2 := fun s' => ∃ ρ', s' = ⟨al ((31, .bool true) :: [(0, .mref id ep 0 len), (1, .int .i64 (i : Int)), (2, .snap fl [e]), (7, .int .i64 1), (8, .int .i64 (len : Int))]) ρ', h⟩)
  · rfl
  · rfl
  · (repeat' (first | refine EvOps.nil ?_ | (apply R.move; exact rfl) | (apply R.arith; exact rfl; exact rfl; exact rfl; exact (wrapI (by omega) (by omega))) | fail))
    exact ⟨_, St.keep ⟨rfl, rfl, rfl, rfl, rfl, rfl, rfl, trivial⟩⟩
  · rintro s1 a2 w2 β2 ⟨ρ2, rfl⟩ R2 S2
    refine ⟨.int .i64 (bc.2 : Int), h, cap_osim (t := 26) (x := .tmp 29) R2.hr R2.er hu (lk_al (t := 29) rfl ρ2) hg (hb' (S1.trans S2)) (by omega) _ rfl, ?_⟩
    show EvOps C0 _ _ ⟨updO (al _ ρ2) (some 30) (.int .i64 (bc.2 : Int)), h⟩ _
    rw [al_cons]
    (repeat' (first | refine EvOps.nil ?_ | (apply R.cmp; exact rfl; exact rfl; exact rfl; all_goals intro hc; all_goals (try (exfalso; omega))) | fail))
    exact ⟨_, St.keep ⟨rfl, rfl, rfl, rfl, rfl, rfl, trivial⟩⟩
  rintro s3 a3 w3 β3 ⟨ρ3, rfl⟩ R3 S3
  have ht31 : a3.eval (.tmp 31) = .bool true := by
    have := R3.er.ev (.tmp 31)
    rw [show ev (al ((31, PV.bool true) :: [(0, .mref id ep 0 len), (1, .int .i64 (i : Int)), (2, .snap fl [e]), (7, .int .i64 1), (8, .int .i64 (len : Int))]) ρ3) (.tmp 31) = .bool true from lk_al (t := 31) rfl ρ3] at this
    exact this.bool_inv
  refine wp_cond_true ht31 ?_
  refine wp_seq ?_
  apply region_special K0 S0 (pre := [_, _, _, _, _, _, _, _]) (post := [_]) (R := R3) (M := fun s' => ∃ ρ', s' = ⟨al ((34, .mref id ep 0 i) :: (39, .int .i64 ((len : Int) + 1 - (i : Int))) :: [(0, .mref id ep 0 len), (1, .int .i64 (i : Int)), (2, .snap fl [e]), (7, .int .i64 1), (8, .int .i64 (len : Int))]) ρ', h⟩) (M2 := fun s' => ∃ ρ', s' = ⟨al ((9, .mref h.length 0 0 (len + 1)) :: [(0, .mref id ep 0 len), (1, .int .i64 (i : Int)), (2, .snap fl [e]), (7, .int .i64 1), (8, .int .i64 (len : Int))]) ρ', h ++ [⟨.m, 0, 5, es1⟩]⟩)
  case ho => rfl
  case hg => rfl
  · (repeat' (first | (apply R.move; exact rfl) | fail))
    apply R.slice
    · exact rfl
    · exact rfl
    · exact rfl
    · exact rfl
    · exact sliceHi_m hu hsz hg (by omega) hle
    (repeat' (first | refine EvOps.nil ?_ | (apply R.move; exact rfl) | (apply R.arith; exact rfl; exact rfl; exact rfl; exact (wrapI (by omega) (by omega))) | fail))
    exact ⟨_, St.keep ⟨rfl, rfl, rfl, rfl, rfl, rfl, rfl, trivial⟩⟩
  · rintro s1 a4 w4 β4 ⟨ρ4, rfl⟩ R4 S4
    have os := append_osim (P := C0.P) (st := 26) (xt := 3) (el := 66) (x := .tmp 34) (y := .tmp 39) (k := .i64) (n := len + 1 - i) (len := i) R4.hr R4.er hu (kd_int (T6.hkd 3 _ rfl)) hs63 (by decide) (T6.htb 66 _ rfl) (by decide) (T6.htz 66 (.agg [.int .i64 0, .str ByteArray.empty, .int .i64 0, .snap true [], .int .i64 0]) rfl) rfl rfl (lk_al (t := 34) rfl ρ4) (by rw [← hj3]; exact lk_al (t := 39) rfl ρ4) hg (hb' ((S1.trans S3).trans S4)) (by omega) hz (by omega) (by omega)
    rw [hin, ← hes1] at os
    refine ⟨.mref h.length 0 0 (len + 1), h ++ [⟨.m, 0, 5, es1⟩], os _ rfl, ?_⟩
    show EvOps C0 _ _ ⟨updO (al _ ρ4) (some 40) (.mref h.length 0 0 (len + 1)), _⟩ _
    rw [al_cons]
    (repeat' (first | refine EvOps.nil ?_ | (apply R.assign; exact rfl) | fail))
    exact ⟨_, St.keep ⟨rfl, rfl, rfl, rfl, rfl, rfl, trivial⟩⟩
  rintro s5 a5 w5 β5 ⟨ρ5, rfl⟩ R5 S5
  have hmn : min ([e] : List PV).length (len + 1 - i) = 1 := by show min 1 _ = 1; omega
  have hmn2 : min ys.length (len + 1 - (i + 1)) = len - i := by omega
  have hyt : ys.take (len - i) = ys := List.take_of_length_le (by omega)
  have hh2 : (h ++ [⟨.m, 0, 5, es1⟩] : AHeap).set h.length { (⟨.m, 0, 5, es1⟩ : AObj) with es := es1.take i ++ [e].take (min ([e] : List PV).length (len + 1 - i)) ++ es1.drop (i + min ([e] : List PV).length (len + 1 - i)) } = h ++ [⟨.m, 0, 5, es2⟩] := by
    rw [hmn, set_push, hes2]; rfl
  have hh3 : (h ++ [⟨.m, 0, 5, es2⟩] : AHeap).set h.length { (⟨.m, 0, 5, es2⟩ : AObj) with es := es2.take (i + 1) ++ ys.take (min ys.length (len + 1 - (i + 1))) ++ es2.drop (i + 1 + min ys.length (len + 1 - (i + 1))) } = h ++ [⟨.m, 0, 5, (o.es.take len).take i ++ [e] ++ (o.es.take len).drop i⟩] := by
    rw [hmn2, set_push, hyt, l5]
  refine ev_wp K0 mixed0 S0 (M := fun ex s' => ex = .ret ∧ ∃ ρ', s' = ⟨al [(6, .mref h.length 0 0 (len + 1))] ρ', h ++ [⟨.m, 0, 5, (o.es.take len).take i ++ [e] ++ (o.es.take len).drop i⟩]⟩) rfl ?_ R5 ?_
  · (repeat' (first | (apply R.move; exact rfl) | refine Ev.seq ?_ | refine Ev.region ?_ | fail))
    apply R.slice
    · exact rfl
    · exact rfl
    · exact rfl
    · exact rfl
    · exact sliceLo_m1 hu hs63 (hgn es1) (by omega) (by show len + 1 ≤ es1.length; omega)
    (repeat' (first | (apply R.move; exact rfl) | fail))
    apply R.copy T6 (ys := [e]) (o := ⟨.m, 0, 5, es1⟩) (sz := 5)
    · exact rfl
    · exact rfl
    · exact rfl
    · exact rfl
    · exact rfl
    · exact hgn es1
    · exact rfl
    · exact rfl
    · show i + (len + 1 - i) ≤ es1.length; omega
    · simp [he2.1]
    · simp only [hmn, List.take_succ_cons, List.take_zero, List.all_cons, List.all_nil, he2.1, he2.2.1]; rfl
    rw [hh2]
    (repeat' (first | refine EvOps.nil ?_ | refine Ev.seq ?_ | refine Ev.regionD ?_ | (apply D.move; exact rfl) | (apply D.arith; exact rfl; exact rfl; exact rfl; exact (wrapI (by omega) (by omega))) | refine thenQ.normal ?_ | fail))
    apply D.slice
    · exact hcl2
    · exact rfl
    · exact hvisn es2
    · exact rfl
    · exact rfl
    · exact rfl
    · exact rfl
    · exact rfl
    · exact rfl
    · show sliceP C0.P _ 26 (.mref h.length 0 0 (len + 1)) (some (.int .i64 ((i : Int) + 1))) none none = _
      rw [hj]
      exact sliceLo_m1 hu hs63 (hgn es2) (by omega) (by show len + 1 ≤ es2.length; omega)
    (repeat' (first | (apply D.move; exact rfl) | fail))
    apply D.slice
    · exact hcl2
    · exact rfl
    · exact hvis es2
    · exact rfl
    · exact rfl
    · exact rfl
    · exact rfl
    · exact rfl
    · exact rfl
    · exact sliceLo_m1 hu hsz (hgo es2) hi hle
    apply D.copy T6 (ys := ys) (o := ⟨.m, 0, 5, es2⟩) (sz := 5)
    · exact rfl
    · exact rfl
    · exact rfl
    · exact rfl
    · exact rfl
    · simp only [elems, hgo]
      rw [if_pos (by omega), hys]
    · exact hgn es2
    · exact rfl
    · exact rfl
    · show i + 1 + (len + 1 - (i + 1)) ≤ es2.length; omega
    · rw [List.all_eq_true]
      intro v hv
      have := List.all_eq_true.1 hyok v hv
      unfold okV at this
      simp only [Bool.and_eq_true] at this
      exact this.1.2
    · rw [hmn2, hyt, List.all_eq_true]
      intro v hv
      have := List.all_eq_true.1 hyok v hv
      unfold okV at this
      simp only [Bool.and_eq_true] at this ⊢
      exact ⟨this.1.2, this.2⟩
    refine EvD.heap hh3 ?_
    (repeat' (first | refine EvOps.nil ?_ | (apply R.move; exact rfl) | (apply R.assign; exact rfl) | refine Ev.seq ?_ | refine Ev.region ?_ | refine EvD.nil ?_ | refine Ev.ret ?_ | refine thenQ.normal ?_ | fail))
    exact ⟨rfl, _, St.keep ⟨rfl, trivial⟩⟩
  rintro ex s8 a8 w8 β8 ⟨rfl, ρ8, rfl⟩ R8 S8
  have SS := (((S1.trans S3).trans S5).trans S8)
  refine ⟨.inr rfl, _, β8, R8, SS, [.mref h.length 0 0 (len + 1)], ?_, fun u hu' => ⟨β8, hu', R8.hr, SS⟩⟩
  · exact resT_of (L := [(6, .mref h.length 0 0 (len + 1))]) rfl
  all_goals rfl
end Zero
end Go.Pm
end

/-
  PM, PART 35: slices.Insert; ALL THAT THE CHAPTER'S CONFIGURATION PROMISES. Conditions: none.
-/
section
set_option linter.unusedVariables false
set_option linter.unusedSimpArgs false
set_option linter.unusedVariables false
set_option linter.unusedSimpArgs false
set_option maxRecDepth 100000
set_option maxHeartbeats 4000000
namespace Go.Pm
open Go.Proofs
theorem visRs_app {f : Nat → Bool} : ∀ {a b : List PV}, visRs f a = true → visRs f b = true → visRs f (a ++ b) = true
  | [], _, _, hb => hb
  | x :: a, b, ha, hb => by
    simp only [visRs, Bool.and_eq_true, List.cons_append] at ha ⊢
    exact ⟨ha.1, visRs_app ha.2 hb⟩
theorem celv {e : PV} (h : isVal e = true) : ∀ q ∈ cells e, isVal q = true := by
  intro q hq
  cases e with
  | agg cs =>
    simp only [isVal] at h
    rw [isVals_eq] at h
    exact List.all_eq_true.1 h q hq
  | _ => simp only [cells, List.mem_singleton] at hq; subst hq; exact h
theorem VRel.valWeak {w : World} {A A' : Nat → Prop} {β β' : List (Nat × Nat)} {h h' : AHeap} {v : Value} {p : PV} (hv : VRel w A β h v p) (hp : isVal p = true) (hA : ∀ b, A' b → A b) : VRel w A' β' h' v p :=
  .val ((hv.toS hp).weak hA)
attribute [local irreducible] thenQ blockQ loopQ bodyQ Ev EvOps CallEv FnEv EvD
namespace Zero
variable {w : World} {F : Nat → Prop} {β : List (Nat × Nat)}
theorem of_fnEv {h : AHeap} {f : FuncId} {args : List PV} {r : PV} {h' : AHeap} (hm : C0.mode f = .opened) (e : FnEv C0 f args h (fun r' h2 => r' = r ∧ h2 = h')) {vs : List Value} (H : HRel w F β h) (ha : L2 (VRel w (Av F h β) β h) vs args) : CSim C0.P 2 w F β h f vs r h' := by
  unfold FnEv at e
  obtain ⟨r3, h3, ⟨rfl, rfl⟩, n0, hn0⟩ := e
  exact S0 n0 _ (.inr hm) _ h _ _ (hn0 n0 (Nat.le_refl _)) w F β vs H ha
theorem l2_three {R R' : Value → PV → Prop} {vs : List Value} {a b c a' b' c' : PV} (h : L2 R vs [a, b, c]) (ha : ∀ v, R v a → R' v a') (hb : ∀ v, R v b → R' v b') (hc : ∀ v, R v c → R' v c') : L2 R' vs [a', b', c'] := by
  refine ⟨h.1, fun j hj => ?_⟩
  have h0 := h.2 0 (by simp)
  have h1 := h.2 1 (by simp)
  have h2 := h.2 2 (by simp)
  match j, hj with
  | 0, _ => exact ha _ h0
  | 1, _ => exact hb _ h1
  | 2, _ => exact hc _ h2
  | j + 3, hj => simp at hj; omega
theorem insert_sim : SimRun C0.P 91 insertPrim := by
  intro args h r h' e w F β vs H ha
  unfold insertPrim at e
  split at e
  · rename_i i fl e1
    split at e
    · rename_i hc
      obtain ⟨rfl, he⟩ := hc
      obtain ⟨rfl, rfl⟩ := Prod.mk.inj (Option.some.inj e)
      exact of_fnEv (if_pos (.inr rfl)) (insNil_ev he) H ha
    · cases e
  · rename_i id ep len i fl e1
    split at e
    · rename_i o hg
      split at e
      · rename_i hc
        obtain ⟨hm, hz, hle, hi0, hi, hn, he, hok, hcl⟩ := hc
        obtain ⟨rfl, rfl⟩ := Prod.mk.inj (Option.some.inj e)
        obtain ⟨k, rfl⟩ := Int.eq_ofNat_of_zero_le hi0
        have hk : k ≤ len := by omega
        rw [show Int.toNat (k : Int) = k from rfl]
        obtain ⟨g1, g2, g3⟩ := getM_some hg
        have hlt := lt_of_some g1
        obtain ⟨bc, hbc⟩ := beta_at H.len g1
        have hpl : (o.es.take len).length = len := by simp; omega
        by_cases hkl : k = len
        · subst hkl
          have hfin : (o.es.take k).take k ++ [e1] ++ (o.es.take k).drop k = o.es.take k ++ [e1] := by
            rw [List.take_take, Nat.min_self, List.drop_eq_nil_of_le (by omega), List.append_nil]
          rw [hfin]
          exact of_fnEv (if_pos (.inr rfl)) (insEnd_ev he hg hm hz hle hn) H ha
        · have hk' : k < len := by omega
          by_cases hroom : len + 1 ≤ bc.2
          · -- there is room
            have hXc : (cells (PV.agg [.any, .any, .any, .any, .any])).length = 5 := rfl
            obtain ⟨Hp, Sp⟩ := H.reshape g1 hbc hm (o.es.take len ++ [.agg [.any, .any, .any, .any, .any]]) (ep + 1) (by omega) (by simp; omega) (fun i e he => by
              rcases Nat.lt_or_ge i len with hil | hil
              · left
                rw [List.getElem?_append_left (by omega), List.getElem?_take, if_pos hil] at he
                exact he
              · right
                rw [List.getElem?_append_right (by omega)] at he
                obtain rfl := List.mem_singleton.1 (List.mem_of_getElem? he)
                refine ⟨by rw [hXc, hz], fun p hp => ?_⟩
                simp only [cells] at hp
                simpa using hp)
            have hselfp : (h.set id { o with es := o.es.take len ++ [.agg [.any, .any, .any, .any, .any]], ep := ep + 1 })[id]? = some { o with es := o.es.take len ++ [.agg [.any, .any, .any, .any, .any]], ep := ep + 1 } := List.getElem?_set_self hlt
            have hclp : closedH (h.set id { o with es := o.es.take len ++ [.agg [.any, .any, .any, .any, .any]], ep := ep + 1 }) = true := by
              refine closed_mono (h := h) (fun i hi => ?_) (fun o' h1 => ?_) hcl
              · unfold visible at hi ⊢
                by_cases hii : i = id
                · subst hii
                  rw [hselfp]
                  simp [hm]
                · rw [List.getElem?_set_ne (Ne.symm hii)]; exact hi
              · rcases List.mem_or_eq_of_mem_set h1 with h1 | rfl
                · exact .inr (.inr ⟨o', h1, rfl, fun hh => hh⟩)
                · exact .inr (.inl (visRs_app (vis_vals _ _ (okV_vals hok)) rfl))
            have hap : L2 (VRel w (Av F (h.set id { o with es := o.es.take len ++ [.agg [.any, .any, .any, .any, .any]], ep := ep + 1 }) β) β (h.set id { o with es := o.es.take len ++ [.agg [.any, .any, .any, .any, .any]], ep := ep + 1 })) vs [.mref id (ep + 1) 0 len, .int .i64 (k : Int), .snap fl [e1]] :=
              l2_three ha (fun v hv => VRel.reshape g1 hbc hm hv g2 hle _ _) (fun v hv => hv.mono Sp) (fun v hv => hv.mono Sp)
            have cs := ins_shift (o := { o with es := o.es.take len ++ [.agg [.any, .any, .any, .any, .any]], ep := ep + 1 }) (X := .agg [.any, .any, .any, .any, .any]) (pre := o.es.take len) Hp hap (getM_at hselfp rfl (by show o.mu ≠ .x; rw [hm]; simp)) hm hz rfl hpl hk' hn hok rfl he hclp
            refine cs.mono ?_
            rintro en w' ⟨v, β1, rfl, q1, q2, q3, _⟩
            rw [List.set_set] at q1 q2 q3
            exact ⟨v, β1, rfl, q1, q2, Sp.trans q3, fun hh => by omega⟩
          · -- all is made anew
            obtain ⟨p1, p2, p3, p4, p5, p6⟩ := lock1_shape o
            have gl : getM (h.map lock1) id ep = some (lock1 o) := getM_at (by rw [List.getElem?_map, g1]; rfl) (by rw [p1]; exact g2) (fun hh => g3 (p4.1 hh))
            have hAl : ∀ b, Av (Av F h β) (h.map lock1) β b → Av F h β b := fun b hb => hb.elim (fun hh => hh) (fun hm => absurd hm (lock_Mb h β b))
            have cs := ins_grow (o := lock1 o) (bc := bc) H.lock (l2_three ha (fun v hv => hv.alike (alike_lock h) hAl) (fun v hv => hv.alike (alike_lock h) hAl) (fun v hv => hv.alike (alike_lock h) hAl)) gl (by rw [p2]; exact hz) (by rw [p3]; exact hle) hbc (by omega) hk' hn (by rw [p3]; exact hok) he (closed_lock hcl)
            rw [p3, List.length_map] at cs
            refine cs.mono ?_
            rintro en w' ⟨v, β1, rfl, q1, q2, q3, _⟩
            obtain ⟨es3, hes3⟩ : ∃ es3, es3 = (o.es.take len).take k ++ [e1] ++ (o.es.take len).drop k := ⟨_, rfl⟩
            rw [← hes3] at q1 q2 q3 ⊢
            have hl3 : es3.length = len + 1 := by rw [hes3]; simp; omega
            have hok3 : es3.all (okV 5) = true := by
              rw [List.all_eq_true] at hok ⊢
              intro x hx
              rw [hes3] at hx
              rcases List.mem_append.1 hx with hx | hx
              · rcases List.mem_append.1 hx with hx | hx
                · exact hok x (List.mem_of_mem_take hx)
                · obtain rfl := List.mem_singleton.1 hx
                  exact he
              · exact hok x (List.mem_of_mem_drop hx)
            have enew : (h.map lock1 ++ [(⟨.m, 0, 5, es3⟩ : AObj)])[h.length]? = some ⟨.m, 0, 5, es3⟩ := by
              rw [List.getElem?_append_right (by simp)]; simp
            obtain ⟨bn, hbn⟩ := beta_at q2.len enew
            have mnew : Mb (h.map lock1 ++ [⟨.m, 0, 5, es3⟩]) β1 bn.1 := ⟨h.length, _, bn, enew, hbn, rfl, rfl⟩
            obtain ⟨T, cs0, k1, k2, k3, k4, k5⟩ := q2.obj h.length _ bn enew hbn (by simp)
            have hge : w.heap.size ≤ bn.1 := by
              rcases Nat.lt_or_ge bn.1 w.heap.size with hh | hh
              · exact absurd (q3.shr bn.1 hh mnew) (lock_Mb h β bn.1)
              · exact hh
            have hA : ∀ b, Av F (h.set id { o with es := es3, ep := ep + 1 }) (β.set id bn) b → Av (Av F h β) (h.map lock1 ++ [⟨.m, 0, 5, es3⟩]) β1 b := by
              rintro b (hb | ⟨id', o', bc', e1', e2', e3', e4'⟩)
              · exact .inl (.inl hb)
              · by_cases hid : id' = id
                · subst hid
                  rw [List.getElem?_set_self (by rw [H.len]; exact hlt)] at e2'
                  obtain rfl := Option.some.inj e2'
                  rw [← e4']
                  exact .inr mnew
                · rw [List.getElem?_set_ne (Ne.symm hid)] at e1' e2'
                  exact .inl (.inr ⟨id', o', bc', e1', e2', e3', e4'⟩)
            obtain ⟨HH, SS⟩ := H.setNew (w' := w') g1 hbc hm T cs0 es3 (ep + 1) bn q3.size k1 (fun b hb => q3.keep b hb (lock_Mb h β b)) hge (by omega) q3.os q3.tape q3.output k2 (by rw [hz]; exact k3) (fun i e hee => by
              obtain ⟨m1, m2⟩ := k5 i e hee
              refine ⟨by rw [hz]; exact m1, fun j p hp => ?_⟩
              obtain ⟨u, n1, n2⟩ := m2 j p hp
              have hv : isVal e = true := by
                have := List.all_eq_true.1 hok3 e (List.mem_of_getElem? hee)
                unfold okV at this
                simp only [Bool.and_eq_true] at this
                exact this.1.1
              exact ⟨u, by rw [hz]; exact n1, n2.valWeak (celv hv p (List.mem_of_getElem? hp)) hA⟩) q3.drawn
            obtain ⟨_, _, m3⟩ := q1.mref_inv
            obtain ⟨cap, c1, c2⟩ := m3 _ bn enew hbn (by simp) rfl (by show 0 + (len + 1) ≤ es3.length; omega)
            refine ⟨v, β.set id bn, rfl, ?_, HH, SS, fun hh => by omega⟩
            refine .mref v id (ep + 1) 0 (len + 1) { o with es := es3, ep := ep + 1 } bn ⟨_, _, _, c1⟩ (List.getElem?_set_self hlt) (List.getElem?_set_self (by rw [H.len]; exact hlt)) (by show o.mu ≠ .x; rw [hm]; simp) (Nat.le_refl _) (fun _ _ => ⟨cap, ?_, c2⟩)
            rw [c1, Nat.zero_mul, Nat.zero_mul]
      · cases e
    · cases e
  · cases e
end Zero
theorem clone_sim4 : SimRun C.P 103 (clonePrim 4) := by
  intro args h r h' e w F β vs H ha
  unfold clonePrim at e
  split at e
  · rename_i fl es
    split at e
    · rename_i hem
      obtain ⟨rfl, rfl⟩ := Prod.mk.inj (Option.some.inj e)
      obtain rfl : es = [] := by simpa using hem
      exact Zero.clone59 H ha rfl (by simp) (.inl ⟨rfl, rfl, rfl⟩)
    · rename_i hem
      split at e
      · rename_i hc
        obtain ⟨rfl, rfl⟩ := Prod.mk.inj (Option.some.inj e)
        exact Zero.clone59 H ha hc.1 hc.2 (.inr ⟨by simpa using hem, rfl, rfl⟩)
      · cases e
  · cases e
theorem clone_sim1 : SimRun C.P 51 (clonePrim 1) := by
  intro args h r h' e w F β vs H ha
  unfold clonePrim at e
  split at e
  · rename_i fl es
    split at e
    · rename_i hem
      obtain ⟨rfl, rfl⟩ := Prod.mk.inj (Option.some.inj e)
      obtain rfl : es = [] := by simpa using hem
      exact Zero.clone79 H ha rfl (by simp) (.inl ⟨rfl, rfl, rfl⟩)
    · rename_i hem
      split at e
      · rename_i hc
        obtain ⟨rfl, rfl⟩ := Prod.mk.inj (Option.some.inj e)
        exact Zero.clone79 H ha hc.1 hc.2 (.inr ⟨by simpa using hem, rfl, rfl⟩)
      · cases e
  · cases e
theorem cfgOk6 : CfgOk C where
  enters f hf hne := entersOk6 f (fun h => hf h) hne
  primQ f g hh := by
    have hm : mode06 f = .primQ g := hh
    unfold mode06 at hm
    repeat' split at hm
    all_goals cases hm
  primL f g hh := by
    have hm : mode06 f = .primL g := hh
    unfold mode06 at hm
    split at hm
    · cases hm
    split at hm
    · cases hm
    split at hm
    · rename_i hf
      subst hf
      obtain rfl := Mode.primL.inj hm
      exact Zero.insert_sim
    split at hm
    · rename_i hf
      subst hf
      obtain rfl := Mode.primL.inj hm
      exact Zero.delete_sim
    split at hm
    · rename_i hf
      subst hf
      obtain rfl := Mode.primL.inj hm
      exact clone_sim4
    split at hm
    · rename_i hf
      subst hf
      obtain rfl := Mode.primL.inj hm
      exact clone_sim1
    repeat' split at hm
    all_goals cases hm
  ext := extOk6
end Go.Pm
end

/-
  PART 57: ExponentCharacter's statement. Conditions: none.
-/
section
set_option linter.unusedVariables false
set_option linter.unusedSimpArgs false
set_option linter.unusedVariables false
set_option linter.unusedSimpArgs false
set_option maxRecDepth 100000
set_option maxHeartbeats 2000000
namespace Go.Proofs.YtejhjciockgicaaGreat.Ch
open Go.ChangeShapes Go.WideShapes Go.ChangeAt Go.RowKit Go.Pm
theorem own : ownKnob Tryz.prog.godebug = none := by kernel_rfl
theorem modeOf : C.mode 3 = .pure := rfl
theorem laid : laidOutB Tryz.prog = true := by kernel_rfl
theorem contract (K : CfgOk C) (H : Type) (ec : TypeId × Value → H) (W : World) (base : Nat) (args : Array Value) (ds gs : List (DataW H)) (before : List MemPlace)
    (hval : ∀ (j : Nat) t v, Tryz.f3.params[j]? = some t → args[j]? = some v → Value.okWide Tryz.prog W .any base t v)
    (hW : DataW.Whole ec Tryz.prog Tryz.f3.params.toList Rows.exponentCharacterSpec.vars false W args.toList ds gs before) (hk : Rows.uptoSmall H (ds ++ gs) = true) :
    Calls Tryz.prog 3 args W fun e W' => ∃ v, e = .returned v ∧ Rows.exponentCharacterSpec.post ec Tryz.prog Tryz.f3 false true false false W args v W' := by
  have hW' := hW
  have hlt := fun p hp => hW.lt p hp
  obtain ⟨p, q, hA0, hV, rfl, hfz, hnd⟩ := hW
  have hA : DataW.TrodAll ec Tryz.prog W 0 (fun _ => true) true Tryz.f3.params.toList args.toList ds p := hA0
  rw [Tryz.params3] at hA hval
  obtain ⟨v0, vs0, d0, ds0, p0, q0, hargs, rfl, rfl, h0, u0⟩ := trodAll_cons hA
  obtain ⟨v1, vs1, d1, ds1, p1, q1, rfl, rfl, rfl, h1, u1⟩ := trodAll_cons u0
  obtain ⟨rfl, rfl, rfl⟩ := trodAll_nil u1
  obtain rfl : args = #[v0, v1] := by cases args; simp_all
  obtain ⟨rfl, rfl⟩ := trodVars_none hV
  obtain ⟨l0, x0, r0, s0, b0, b1, b2, b3, b4, b5⟩ := read_draftv (hval 0 _ v0 rfl rfl) h0
  obtain ⟨c0, w0, s1, b6⟩ := read_chrv (hval 1 _ v1 rfl rfl) h1
  have hb := of_decide_eq_true hk
  simp only [List.append_nil, Rows.uptoBulkAll] at hb
  obtain ⟨m, hm⟩ := (lawC_fun l0 x0 r0 c0 w0 (fun y hy => ⟨(b0 y hy).1, by have := (b0 y hy).2; omega⟩) (by omega) b2 (by omega) b4 (by omega) (by omega)).pureF
  have hargs2 : L2 (SRel W NoB) [v0, v1] [.agg [.snap false (encLL l0), .snap false (encI8 x0), .snap false (encI8 r0)], .agg [.int .i64 c0, .snap false (encPs w0)]] := ⟨rfl, fun j hj => by
    match j, hj with
    | 0, _ => exact s0
    | 1, _ => exact s1⟩
  refine (pureF_sim K codesOk6 (.inl modeOf) hm (A := NoB) (fun b hb => hb.elim) hargs2).mono ?_
  rintro e W' ⟨v, rfl, hv, hg⟩
  cases hv
  refine ⟨_, rfl, ?_⟩
  have stay0 : ∀ (v : Value) (d : DataW H) (p : List MemPlace) (h : DataW.Trod ec Tryz.prog W 0 (fun _ => true) true 25 v d p) (hl : ∀ x ∈ p, x.block < W.heap.size), DataW.Trod ec Tryz.prog W' 0 (fun b => decide (b < W.heap.size)) true 25 v d p := fun v d p h hl =>
    WideElems.Trod_stays (P := Tryz.prog) laid (by kernel_rfl) (of_decide_eq_true (by kernel_rfl)) h (fun p hp => by
      have hb := hl p hp
      cases p with
      | cell b off => show W'.cell? ⟨b, off, none⟩ = W.cell? ⟨b, off, none⟩; exact cell_keep (hg.keep b hb)
      | map b => exact hg.keep b hb) (fun x hx => by simpa using hl x hx)
  have stay1 : ∀ (v : Value) (d : DataW H) (p : List MemPlace) (h : DataW.Trod ec Tryz.prog W 0 (fun _ => true) true 28 v d p) (hl : ∀ x ∈ p, x.block < W.heap.size), DataW.Trod ec Tryz.prog W' 0 (fun b => decide (b < W.heap.size)) true 28 v d p := fun v d p h hl =>
    WideElems.Trod_stays (P := Tryz.prog) laid (by kernel_rfl) (of_decide_eq_true (by kernel_rfl)) h (fun p hp => by
      have hb := hl p hp
      cases p with
      | cell b off => show W'.cell? ⟨b, off, none⟩ = W.cell? ⟨b, off, none⟩; exact cell_keep (hg.keep b hb)
      | map b => exact hg.keep b hb) (fun x hx => by simpa using hl x hx)
  refine ⟨[d0, d1], [], _, [], p0 ++ (p1), [], hW', ?_, ?_, ?_, hg.kept _, fun h => Bool.noConfusion h⟩
  · exact trodAll_cons_mk (shut_bool (kd_bool (T6.hkd 4 _ rfl)) _) trodAll_mk0
  · have h3 : DataW.TrodAll ec Tryz.prog W' 0 (fun b => decide (b < W.heap.size)) true [25, 28] [v0, v1] [d0, d1] (p0 ++ (p1 ++ [])) :=
      trodAll_cons_mk (stay0 v0 d0 p0 h0 (fun x hx => hlt x (by simp [hx]))) (trodAll_cons_mk (stay1 v1 d1 p1 h1 (fun x hx => hlt x (by simp [hx]))) trodAll_mk0)
    rw [List.append_nil] at h3
    exact h3
  · rfl
theorem lifted (K : CfgOk C) (os : Os) (started : os.Started) (H : Type) (ec : TypeId × Value → H) (F : Stop.Interp) :
    ReturnsInHanded {} Tryz.checked os 3 .any ((Rows.OpenSpec.upto Rows.exponentCharacterSpec).pre6 ec Tryz.prog Tryz.f3 Rows.exponentCharacterUptoRow.domain false) (((Rows.OpenSpec.upto Rows.exponentCharacterSpec).at F).post ec Tryz.prog Tryz.f3 false true false false) := by
  refine returnsInHanded_of_cond (C := Tryz.checked) (s := Rows.OpenSpec.upto Rows.exponentCharacterSpec) (k := Rows.uptoSmall) rfl own started (by kernel_rfl) Tryz.func3
    (OpenSpec.witness (enc := ec) (C := Tryz.checked) (s := Rows.OpenSpec.upto Rows.exponentCharacterSpec) (k := Rows.uptoSmall) rfl false ⟨#[], #[.agg #[.slice none 0 0, .slice none 0 0, .slice none 0 0], .agg #[.int .i64 0, .slice none 0 0]], []⟩ 8 (by kernel_rfl) (by kernel_rfl) (by kernel_rfl)
      (x := ([.agg [.nil, .nil, .nil], .agg [.lit (.int .i64 0), .nil]], [], [])) (by kernel_rfl) rfl (by kernel_rfl)) ?_
  intro W base args ds gs before hval hW _ hk _
  exact contract K H ec W base args ds gs before hval hW hk
theorem over (K : CfgOk C) : Rows.exponentCharacterUptoRow.holds Tryz.pinned (Rows.OpenSpec.upto Rows.exponentCharacterSpec) :=
  OpenClaim.holds_of_cond 3 Tryz.f3 rfl rfl rfl rfl rfl rfl rfl ⟨rfl, rfl, rfl, rfl, rfl⟩ rfl rfl rfl rfl rfl (by kernel_rfl) Tryz.func3 (by kernel_rfl)
    (of_decide_eq_true (by kernel_rfl)) (by unfold Func.isWrapper; first | (rw [if_pos (by decide +kernel)]; kernel_rfl) | (rw [if_neg (by decide +kernel)]; exact ⟨rfl, rfl⟩))
    (fun os started H ec _ F => lifted K os started H ec F)
theorem exponentCharacter : Rows.ExponentCharacterUptoSaid := over Go.Pm.cfgOk6
end Go.Proofs.YtejhjciockgicaaGreat.Ch
end
