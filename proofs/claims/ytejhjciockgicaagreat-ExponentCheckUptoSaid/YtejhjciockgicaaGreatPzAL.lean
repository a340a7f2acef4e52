/-
  A part of the library Pm and its contracts (joined by program): PmIZ PmLay PmSo PmCloI PmUp PmNine PmCk1 PmCk2 PmCk3 PmCk4 PmDd PmCol PmPof. Conditions: none.
-/
import Derived.Test.YtejhjciockgicaaGreatPzAK
import Derived.Test.YtejhjciockgicaaGreatPzAI
import Derived.Shelf.SlLaysF0
import Derived.Test.YtejhjciockgicaaGreatProg
import Derived.KernelRfl
import Derived.Test.YtejhjciockgicaaGreatPzAE
import Derived.Shelf.SlSortCmp.NoneTotal
import Derived.Test.YtejhjciockgicaaGreatPzAA
/-
  PM, PART 35: slices.Insert; ALL THAT THE CHAPTER'S CONFIGURATION PROMISES. Conditions: none.
-/
section
set_option linter.unusedVariables false
set_option linter.unusedSimpArgs false
set_option linter.unusedVariables false
set_option linter.unusedSimpArgs false
set_option maxRecDepth 100000
set_option maxHeartbeats 4000000
namespace Go.Pm
open Go.Proofs
theorem visRs_app {f : Nat → Bool} : ∀ {a b : List PV}, visRs f a = true → visRs f b = true → visRs f (a ++ b) = true
  | [], _, _, hb => hb
  | x :: a, b, ha, hb => by
    simp only [visRs, Bool.and_eq_true, List.cons_append] at ha ⊢
    exact ⟨ha.1, visRs_app ha.2 hb⟩
theorem celv {e : PV} (h : isVal e = true) : ∀ q ∈ cells e, isVal q = true := by
  intro q hq
  cases e with
  | agg cs =>
    simp only [isVal] at h
    rw [isVals_eq] at h
    exact List.all_eq_true.1 h q hq
  | _ => simp only [cells, List.mem_singleton] at hq; subst hq; exact h
theorem VRel.valWeak {w : World} {A A' : Nat → Prop} {β β' : List (Nat × Nat)} {h h' : AHeap} {v : Value} {p : PV} (hv : VRel w A β h v p) (hp : isVal p = true) (hA : ∀ b, A' b → A b) : VRel w A' β' h' v p :=
  .val ((hv.toS hp).weak hA)
attribute [local irreducible] thenQ blockQ loopQ bodyQ Ev EvOps CallEv FnEv EvD
namespace Zero
variable {w : World} {F : Nat → Prop} {β : List (Nat × Nat)}
theorem of_fnEv {h : AHeap} {f : FuncId} {args : List PV} {r : PV} {h' : AHeap} (hm : C0.mode f = .opened) (e : FnEv C0 f args h (fun r' h2 => r' = r ∧ h2 = h')) {vs : List Value} (H : HRel w F β h) (ha : L2 (VRel w (Av F h β) β h) vs args) : CSim C0.P 2 w F β h f vs r h' := by
  unfold FnEv at e
  obtain ⟨r3, h3, ⟨rfl, rfl⟩, n0, hn0⟩ := e
  exact S0 n0 _ (.inr hm) _ h _ _ (hn0 n0 (Nat.le_refl _)) w F β vs H ha
theorem l2_three {R R' : Value → PV → Prop} {vs : List Value} {a b c a' b' c' : PV} (h : L2 R vs [a, b, c]) (ha : ∀ v, R v a → R' v a') (hb : ∀ v, R v b → R' v b') (hc : ∀ v, R v c → R' v c') : L2 R' vs [a', b', c'] := by
  refine ⟨h.1, fun j hj => ?_⟩
  have h0 := h.2 0 (by simp)
  have h1 := h.2 1 (by simp)
  have h2 := h.2 2 (by simp)
  match j, hj with
  | 0, _ => exact ha _ h0
  | 1, _ => exact hb _ h1
  | 2, _ => exact hc _ h2
  | j + 3, hj => simp at hj; omega
theorem insert_sim : SimRun C0.P 91 insertPrim := by
  intro args h r h' e w F β vs H ha
  unfold insertPrim at e
  split at e
  · rename_i i fl e1
    split at e
    · rename_i hc
      obtain ⟨rfl, he⟩ := hc
      obtain ⟨rfl, rfl⟩ := Prod.mk.inj (Option.some.inj e)
      exact of_fnEv (if_pos (.inr rfl)) (insNil_ev he) H ha
    · cases e
  · rename_i id ep len i fl e1
    split at e
    · rename_i o hg
      split at e
      · rename_i hc
        obtain ⟨hm, hz, hle, hi0, hi, hn, he, hok, hcl⟩ := hc
        obtain ⟨rfl, rfl⟩ := Prod.mk.inj (Option.some.inj e)
        obtain ⟨k, rfl⟩ := Int.eq_ofNat_of_zero_le hi0
        have hk : k ≤ len := by omega
        rw [show Int.toNat (k : Int) = k from rfl]
        obtain ⟨g1, g2, g3⟩ := getM_some hg
        have hlt := lt_of_some g1
        obtain ⟨bc, hbc⟩ := beta_at H.len g1
        have hpl : (o.es.take len).length = len := by simp; omega
        by_cases hkl : k = len
        · subst hkl
          have hfin : (o.es.take k).take k ++ [e1] ++ (o.es.take k).drop k = o.es.take k ++ [e1] := by
            rw [List.take_take, Nat.min_self, List.drop_eq_nil_of_le (by omega), List.append_nil]
          rw [hfin]
          exact of_fnEv (if_pos (.inr rfl)) (insEnd_ev he hg hm hz hle hn) H ha
        · have hk' : k < len := by omega
          by_cases hroom : len + 1 ≤ bc.2
          · -- there is room
            have hXc : (cells (PV.agg [.any, .any, .any, .any, .any])).length = 5 := rfl
            obtain ⟨Hp, Sp⟩ := H.reshape g1 hbc hm (o.es.take len ++ [.agg [.any, .any, .any, .any, .any]]) (ep + 1) (by omega) (by simp; omega) (fun i e he => by
              rcases Nat.lt_or_ge i len with hil | hil
              · left
                rw [List.getElem?_append_left (by omega), List.getElem?_take, if_pos hil] at he
                exact he
              · right
                rw [List.getElem?_append_right (by omega)] at he
                obtain rfl := List.mem_singleton.1 (List.mem_of_getElem? he)
                refine ⟨by rw [hXc, hz], fun p hp => ?_⟩
                simp only [cells] at hp
                simpa using hp)
            have hselfp : (h.set id { o with es := o.es.take len ++ [.agg [.any, .any, .any, .any, .any]], ep := ep + 1 })[id]? = some { o with es := o.es.take len ++ [.agg [.any, .any, .any, .any, .any]], ep := ep + 1 } := List.getElem?_set_self hlt
            have hclp : closedH (h.set id { o with es := o.es.take len ++ [.agg [.any, .any, .any, .any, .any]], ep := ep + 1 }) = true := by
              refine closed_mono (h := h) (fun i hi => ?_) (fun o' h1 => ?_) hcl
              · unfold visible at hi ⊢
                by_cases hii : i = id
                · subst hii
                  rw [hselfp]
                  simp [hm]
                · rw [List.getElem?_set_ne (Ne.symm hii)]; exact hi
              · rcases List.mem_or_eq_of_mem_set h1 with h1 | rfl
                · exact .inr (.inr ⟨o', h1, rfl, fun hh => hh⟩)
                · exact .inr (.inl (visRs_app (vis_vals _ _ (okV_vals hok)) rfl))
            have hap : L2 (VRel w (Av F (h.set id { o with es := o.es.take len ++ [.agg [.any, .any, .any, .any, .any]], ep := ep + 1 }) β) β (h.set id { o with es := o.es.take len ++ [.agg [.any, .any, .any, .any, .any]], ep := ep + 1 })) vs [.mref id (ep + 1) 0 len, .int .i64 (k : Int), .snap fl [e1]] :=
              l2_three ha (fun v hv => VRel.reshape g1 hbc hm hv g2 hle _ _) (fun v hv => hv.mono Sp) (fun v hv => hv.mono Sp)
            have cs := ins_shift (o := { o with es := o.es.take len ++ [.agg [.any, .any, .any, .any, .any]], ep := ep + 1 }) (X := .agg [.any, .any, .any, .any, .any]) (pre := o.es.take len) Hp hap (getM_at hselfp rfl (by show o.mu ≠ .x; rw [hm]; simp)) hm hz rfl hpl hk' hn hok rfl he hclp
            refine cs.mono ?_
            rintro en w' ⟨v, β1, rfl, q1, q2, q3, _⟩
            rw [List.set_set] at q1 q2 q3
            exact ⟨v, β1, rfl, q1, q2, Sp.trans q3, fun hh => by omega⟩
          · -- all is made anew
            obtain ⟨p1, p2, p3, p4, p5, p6⟩ := lock1_shape o
            have gl : getM (h.map lock1) id ep = some (lock1 o) := getM_at (by rw [List.getElem?_map, g1]; rfl) (by rw [p1]; exact g2) (fun hh => g3 (p4.1 hh))
            have hAl : ∀ b, Av (Av F h β) (h.map lock1) β b → Av F h β b := fun b hb => hb.elim (fun hh => hh) (fun hm => absurd hm (lock_Mb h β b))
            have cs := ins_grow (o := lock1 o) (bc := bc) H.lock (l2_three ha (fun v hv => hv.alike (alike_lock h) hAl) (fun v hv => hv.alike (alike_lock h) hAl) (fun v hv => hv.alike (alike_lock h) hAl)) gl (by rw [p2]; exact hz) (by rw [p3]; exact hle) hbc (by omega) hk' hn (by rw [p3]; exact hok) he (closed_lock hcl)
            rw [p3, List.length_map] at cs
            refine cs.mono ?_
            rintro en w' ⟨v, β1, rfl, q1, q2, q3, _⟩
            obtain ⟨es3, hes3⟩ : ∃ es3, es3 = (o.es.take len).take k ++ [e1] ++ (o.es.take len).drop k := ⟨_, rfl⟩
            rw [← hes3] at q1 q2 q3 ⊢
            have hl3 : es3.length = len + 1 := by rw [hes3]; simp; omega
            have hok3 : es3.all (okV 5) = true := by
              rw [List.all_eq_true] at hok ⊢
              intro x hx
              rw [hes3] at hx
              rcases List.mem_append.1 hx with hx | hx
              · rcases List.mem_append.1 hx with hx | hx
                · exact hok x (List.mem_of_mem_take hx)
                · obtain rfl := List.mem_singleton.1 hx
                  exact he
              · exact hok x (List.mem_of_mem_drop hx)
            have enew : (h.map lock1 ++ [(⟨.m, 0, 5, es3⟩ : AObj)])[h.length]? = some ⟨.m, 0, 5, es3⟩ := by
              rw [List.getElem?_append_right (by simp)]; simp
            obtain ⟨bn, hbn⟩ := beta_at q2.len enew
            have mnew : Mb (h.map lock1 ++ [⟨.m, 0, 5, es3⟩]) β1 bn.1 := ⟨h.length, _, bn, enew, hbn, rfl, rfl⟩
            obtain ⟨T, cs0, k1, k2, k3, k4, k5⟩ := q2.obj h.length _ bn enew hbn (by simp)
            have hge : w.heap.size ≤ bn.1 := by
              rcases Nat.lt_or_ge bn.1 w.heap.size with hh | hh
              · exact absurd (q3.shr bn.1 hh mnew) (lock_Mb h β bn.1)
              · exact hh
            have hA : ∀ b, Av F (h.set id { o with es := es3, ep := ep + 1 }) (β.set id bn) b → Av (Av F h β) (h.map lock1 ++ [⟨.m, 0, 5, es3⟩]) β1 b := by
              rintro b (hb | ⟨id', o', bc', e1', e2', e3', e4'⟩)
              · exact .inl (.inl hb)
              · by_cases hid : id' = id
                · subst hid
                  rw [List.getElem?_set_self (by rw [H.len]; exact hlt)] at e2'
                  obtain rfl := Option.some.inj e2'
                  rw [← e4']
                  exact .inr mnew
                · rw [List.getElem?_set_ne (Ne.symm hid)] at e1' e2'
                  exact .inl (.inr ⟨id', o', bc', e1', e2', e3', e4'⟩)
            obtain ⟨HH, SS⟩ := H.setNew (w' := w') g1 hbc hm T cs0 es3 (ep + 1) bn q3.size k1 (fun b hb => q3.keep b hb (lock_Mb h β b)) hge (by omega) q3.os q3.tape q3.output k2 (by rw [hz]; exact k3) (fun i e hee => by
              obtain ⟨m1, m2⟩ := k5 i e hee
              refine ⟨by rw [hz]; exact m1, fun j p hp => ?_⟩
              obtain ⟨u, n1, n2⟩ := m2 j p hp
              have hv : isVal e = true := by
                have := List.all_eq_true.1 hok3 e (List.mem_of_getElem? hee)
                unfold okV at this
                simp only [Bool.and_eq_true] at this
                exact this.1.1
              exact ⟨u, by rw [hz]; exact n1, n2.valWeak (celv hv p (List.mem_of_getElem? hp)) hA⟩) q3.drawn
            obtain ⟨_, _, m3⟩ := q1.mref_inv
            obtain ⟨cap, c1, c2⟩ := m3 _ bn enew hbn (by simp) rfl (by show 0 + (len + 1) ≤ es3.length; omega)
            refine ⟨v, β.set id bn, rfl, ?_, HH, SS, fun hh => by omega⟩
            refine .mref v id (ep + 1) 0 (len + 1) { o with es := es3, ep := ep + 1 } bn ⟨_, _, _, c1⟩ (List.getElem?_set_self hlt) (List.getElem?_set_self (by rw [H.len]; exact hlt)) (by show o.mu ≠ .x; rw [hm]; simp) (Nat.le_refl _) (fun _ _ => ⟨cap, ?_, c2⟩)
            rw [c1, Nat.zero_mul, Nat.zero_mul]
      · cases e
    · cases e
  · cases e
end Zero
theorem clone_sim4 : SimRun C.P 103 (clonePrim 4) := by
  intro args h r h' e w F β vs H ha
  unfold clonePrim at e
  split at e
  · rename_i fl es
    split at e
    · rename_i hem
      obtain ⟨rfl, rfl⟩ := Prod.mk.inj (Option.some.inj e)
      obtain rfl : es = [] := by simpa using hem
      exact Zero.clone59 H ha rfl (by simp) (.inl ⟨rfl, rfl, rfl⟩)
    · rename_i hem
      split at e
      · rename_i hc
        obtain ⟨rfl, rfl⟩ := Prod.mk.inj (Option.some.inj e)
        exact Zero.clone59 H ha hc.1 hc.2 (.inr ⟨by simpa using hem, rfl, rfl⟩)
      · cases e
  · cases e
theorem clone_sim1 : SimRun C.P 51 (clonePrim 1) := by
  intro args h r h' e w F β vs H ha
  unfold clonePrim at e
  split at e
  · rename_i fl es
    split at e
    · rename_i hem
      obtain ⟨rfl, rfl⟩ := Prod.mk.inj (Option.some.inj e)
      obtain rfl : es = [] := by simpa using hem
      exact Zero.clone79 H ha rfl (by simp) (.inl ⟨rfl, rfl, rfl⟩)
    · rename_i hem
      split at e
      · rename_i hc
        obtain ⟨rfl, rfl⟩ := Prod.mk.inj (Option.some.inj e)
        exact Zero.clone79 H ha hc.1 hc.2 (.inr ⟨by simpa using hem, rfl, rfl⟩)
      · cases e
  · cases e
theorem cfgOk6 : CfgOk C where
  enters f hf hne := entersOk6 f (fun h => hf h) hne
  primQ f g hh := by
    have hm : mode06 f = .primQ g := hh
    unfold mode06 at hm
    repeat' split at hm
    all_goals cases hm
  primL f g hh := by
    have hm : mode06 f = .primL g := hh
    unfold mode06 at hm
    split at hm
    · cases hm
    split at hm
    · cases hm
    split at hm
    · rename_i hf
      subst hf
      obtain rfl := Mode.primL.inj hm
      exact Zero.insert_sim
    split at hm
    · rename_i hf
      subst hf
      obtain rfl := Mode.primL.inj hm
      exact Zero.delete_sim
    split at hm
    · rename_i hf
      subst hf
      obtain rfl := Mode.primL.inj hm
      exact clone_sim4
    split at hm
    · rename_i hf
      subst hf
      obtain rfl := Mode.primL.inj hm
      exact clone_sim1
    repeat' split at hm
    all_goals cases hm
  ext := extOk6
end Go.Pm
end

/-
  CHAPTER 6, PART 65: the frame of slices.SortFunc over terms. Conditions: none.
-/
section
set_option linter.unusedVariables false
set_option linter.unusedSimpArgs false
namespace Go.Pm
open Go.Proofs Go.Shelf
def layS_ren : Go.Shelf.Ren := ⟨fun | 6 => 85 | 15 => 112 | 14 => 111 | 28 => 132 | 29 => 133 | 20 => 124 | 21 => 125 | 22 => 126 | 23 => 127 | 24 => 128 | 25 => 129 | 26 => 130 | 27 => 131 | 46 => 138 | 47 => 139 | 48 => 140 | 49 => 141 | 50 => 142 | 57 => 147 | n => n, fun | 22 => 51 | 24 => 53 | 25 => 74 | 3 => 3 | 39 => 119 | 0 => 0 | 53 => 160 | 55 => 162 | 4 => 4 | 46 => 154 | 45 => 153 | 50 => 75 | 5 => 5 | 9 => 9 | 66 => 168 | 70 => 115 | 76 => 176 | 77 => 177 | n => n, fun | n => n⟩
theorem layS : Go.Proofs.SlLaysF0.n6 Tryz.prog layS_ren := {
  mixed := by kernel_rfl
  f6 := ⟨Tryz.f85.name, by decide, Tryz.func85.trans (congrArg some (by kernel_rfl))⟩
  f14 := ⟨Tryz.f111.name, by decide, Tryz.func111.trans (congrArg some (by kernel_rfl))⟩
  f15 := Tryz.func112.trans (congrArg some (by kernel_rfl))
  f20 := ⟨Tryz.f124.name, by decide, Tryz.func124.trans (congrArg some (by kernel_rfl))⟩
  f21 := ⟨Tryz.f125.name, by decide, Tryz.func125.trans (congrArg some (by kernel_rfl))⟩
  f22 := ⟨Tryz.f126.name, by decide, Tryz.func126.trans (congrArg some (by kernel_rfl))⟩
  f23 := ⟨Tryz.f127.name, by decide, Tryz.func127.trans (congrArg some (by kernel_rfl))⟩
  f24 := ⟨Tryz.f128.name, by decide, Tryz.func128.trans (congrArg some (by kernel_rfl))⟩
  f25 := ⟨Tryz.f129.name, by decide, Tryz.func129.trans (congrArg some (by kernel_rfl))⟩
  f26 := ⟨Tryz.f130.name, by decide, Tryz.func130.trans (congrArg some (by kernel_rfl))⟩
  f27 := ⟨Tryz.f131.name, by decide, Tryz.func131.trans (congrArg some (by kernel_rfl))⟩
  f28 := Tryz.func132.trans (congrArg some (by kernel_rfl))
  f29 := Tryz.func133.trans (congrArg some (by kernel_rfl))
  f46 := ⟨Tryz.f138.name, by decide, Tryz.func138.trans (congrArg some (by kernel_rfl))⟩
  f47 := Tryz.func139.trans (congrArg some (by kernel_rfl))
  f48 := Tryz.func140.trans (congrArg some (by kernel_rfl))
  f49 := ⟨Tryz.f141.name, by decide, Tryz.func141.trans (congrArg some (by kernel_rfl))⟩
  f50 := ⟨Tryz.f142.name, by decide, Tryz.func142.trans (congrArg some (by kernel_rfl))⟩
  f57 := ⟨Tryz.f147.name, by decide, Tryz.func147.trans (congrArg some (by kernel_rfl))⟩
  t0 := Tryz.underlying0
  a0 := Tryz.isAgg0
  z0 := Tryz.sizeOf0
  v0 := Tryz.zeroValue0
  t3 := Tryz.underlying3
  a3 := Tryz.isAgg3
  z3 := Tryz.sizeOf3
  v3 := Tryz.zeroValue3
  t4 := Tryz.underlying4
  a4 := Tryz.isAgg4
  z4 := Tryz.sizeOf4
  v4 := Tryz.zeroValue4
  t5 := Tryz.underlying5
  a5 := Tryz.isAgg5
  z5 := Tryz.sizeOf5
  v5 := Tryz.zeroValue5
  t9 := Tryz.underlying9
  a9 := Tryz.isAgg9
  z9 := Tryz.sizeOf9
  v9 := Tryz.zeroValue9
  t22 := Tryz.underlying51
  a22 := Tryz.isAgg51
  z22 := Tryz.sizeOf51
  v22 := Tryz.zeroValue51
  t25 := Tryz.underlying74
  a25 := Tryz.isAgg74
  z25 := Tryz.sizeOf74
  v25 := Tryz.zeroValue74
  t39 := Tryz.underlying119
  a39 := Tryz.isAgg119
  z39 := Tryz.sizeOf119
  v39 := Tryz.zeroValue119
  t45 := Tryz.underlying153
  a45 := Tryz.isAgg153
  z45 := Tryz.sizeOf153
  v45 := Tryz.zeroValue153
  t46 := Tryz.underlying154
  a46 := Tryz.isAgg154
  z46 := Tryz.sizeOf154
  v46 := Tryz.zeroValue154
  t50 := Tryz.underlying75
  a50 := Tryz.isAgg75
  z50 := Tryz.sizeOf75
  v50 := Tryz.zeroValue75
  t53 := Tryz.underlying160
  a53 := Tryz.isAgg160
  z53 := Tryz.sizeOf160
  v53 := Tryz.zeroValue160
  t55 := Tryz.underlying162
  a55 := Tryz.isAgg162
  z55 := Tryz.sizeOf162
  v55 := Tryz.zeroValue162
  t66 := Tryz.underlying168
  a66 := Tryz.isAgg168
  z66 := Tryz.sizeOf168
  v66 := Tryz.zeroValue168
  t70 := Tryz.underlying115
  a70 := Tryz.isAgg115
  z70 := Tryz.sizeOf115
  v70 := Tryz.zeroValue115
  t76 := Tryz.underlying176
  a76 := Tryz.isAgg176
  z76 := Tryz.sizeOf176
  v76 := Tryz.zeroValue176
  t77 := Tryz.underlying177
  a77 := Tryz.isAgg177
  z77 := Tryz.sizeOf177
  v77 := Tryz.zeroValue177 }
theorem laySA : ∀ w, (isAgg (layS_ren.t 24)).run Tryz.prog w = .ok true w := Tryz.isAgg53
theorem laySZ : ∀ w, (Go.sizeOf (layS_ren.t 24)).run Tryz.prog w = .ok 4 w := Tryz.sizeOf53
end Go.Pm
end

/-
  CHAPTER 6, PART 66: slices.SortFunc over terms: the one sorted list. Conditions: none.
-/
section
set_option linter.unusedVariables false
set_option linter.unusedSimpArgs false
set_option linter.unusedVariables false
set_option linter.unusedSimpArgs false
set_option maxRecDepth 20000
namespace Go.Pm
open Go.Proofs Go.Sort

mutual
theorem enc_inj : ∀ {a b : Tm}, enc a = enc b → a = b
  | .mk k s o l, .mk k' s' o' l', h => by
    simp only [enc, PV.agg.injEq, List.cons.injEq, PV.int.injEq, PV.str.injEq, PV.snap.injEq, true_and, and_true] at h
    obtain ⟨rfl, rfl, rfl, h4⟩ := h
    rw [encs_inj h4]
theorem encs_inj : ∀ {a b : List Tm}, encs a = encs b → a = b
  | [], [], _ => rfl
  | [], _ :: _, h => by simp [encs] at h
  | _ :: _, [], h => by simp [encs] at h
  | x :: a, y :: b, h => by
    simp only [encs, List.cons.injEq] at h
    rw [enc_inj h.1, encs_inj h.2]
end
theorem encs_map (l : List Tm) : encs l = l.map enc := by
  induction l with
  | nil => rfl
  | cons t l ih => simp only [encs, List.map_cons, ih]
theorem encs_nth {l : List Tm} {i : Nat} {t : Tm} (h : l[i]? = some t) : (encs l)[i]? = some (enc t) := by rw [encs_map, List.getElem?_map, h]; rfl

mutual
def decT : PV → Option Tm
  | .agg [.int .i64 k, .str s, .int .i64 o, .snap false l] => match decTs l with
    | some l' => some (.mk k s o l')
    | none => none
  | _ => none
def decTs : List PV → Option (List Tm)
  | [] => some []
  | x :: l => match decT x with
    | some t => match decTs l with
      | some ts => some (t :: ts)
      | none => none
    | none => none
end
mutual
theorem decT_enc : ∀ t : Tm, decT (enc t) = some t
  | .mk k s o l => by simp only [enc, decT, decTs_encs l]
theorem decTs_encs : ∀ l : List Tm, decTs (encs l) = some l
  | [] => rfl
  | t :: l => by simp only [encs, decTs, decT_enc t, decTs_encs l]
end
mutual
theorem enc_decT : ∀ (p : PV) {t : Tm}, decT p = some t → enc t = p
  | .agg [.int .i64 k, .str s, .int .i64 o, .snap false l], t, h => by
    simp only [decT] at h
    split at h
    · rename_i l' hl
      obtain rfl := Option.some.inj h
      simp only [enc, encs_decTs l hl]
    · cases h
  | p, t, h => by
    unfold decT at h
    split at h
    · rename_i k s o l
      split at h
      · rename_i l' hl
        obtain rfl := Option.some.inj h
        simp only [enc, encs_decTs l hl]
      · cases h
    · cases h
theorem encs_decTs : ∀ (es : List PV) {ts : List Tm}, decTs es = some ts → encs ts = es
  | [], ts, h => by simp only [decTs, Option.some.injEq] at h; subst h; rfl
  | x :: l, ts, h => by
    simp only [decTs] at h
    split at h
    · rename_i t ht
      split at h
      · rename_i ts' hts
        obtain rfl := Option.some.inj h
        simp only [encs, enc_decT x ht, encs_decTs l hts]
      · cases h
    · cases h
end

theorem cmpT_le_trans {a b c : Tm} (h1 : cmpT a b ≤ 0) (h2 : cmpT b c ≤ 0) : cmpT a c ≤ 0 := by
  rcases Int.lt_or_eq_of_le h1 with h1 | h1
  · rcases Int.lt_or_eq_of_le h2 with h2 | h2
    · exact Int.le_of_lt (cmpT_trans h1 h2)
    · rw [← cmpT_zero h2]; exact Int.le_of_lt h1
  · rw [cmpT_zero h1]; exact h2
def insT (t : Tm) : List Tm → List Tm
  | [] => [t]
  | x :: r => if cmpT t x ≤ 0 then t :: x :: r else x :: insT t r
def sortT : List Tm → List Tm
  | [] => []
  | t :: r => insT t (sortT r)
theorem insT_perm (t : Tm) : ∀ l : List Tm, (insT t l).Perm (t :: l)
  | [] => .refl _
  | x :: r => by
    unfold insT
    split
    · exact .refl _
    · exact ((insT_perm t r).cons x).trans (.swap t x r)
theorem sortT_perm : ∀ ts : List Tm, (sortT ts).Perm ts
  | [] => .refl _
  | t :: r => (insT_perm t (sortT r)).trans ((sortT_perm r).cons t)
theorem insT_srt (t : Tm) : ∀ {l : List Tm}, (l.Pairwise fun x y => cmpT x y ≤ 0) → (insT t l).Pairwise fun x y => cmpT x y ≤ 0
  | [], _ => by simp [insT]
  | x :: r, h => by
    unfold insT
    have h2 := List.pairwise_cons.1 h
    split
    · rename_i hc
      refine List.pairwise_cons.2 ⟨fun y hy => ?_, h⟩
      rcases List.mem_cons.1 hy with rfl | hy
      · exact hc
      · exact cmpT_le_trans hc (h2.1 y hy)
    · rename_i hc
      have ng := cmpT_neg t x
      refine List.pairwise_cons.2 ⟨fun y hy => ?_, insT_srt t h2.2⟩
      rcases List.mem_cons.1 ((insT_perm t r).mem_iff.1 hy) with rfl | hy
      · omega
      · exact h2.1 y hy
theorem sortT_srt : ∀ ts : List Tm, (sortT ts).Pairwise fun x y => cmpT x y ≤ 0
  | [] => .nil
  | t :: r => insT_srt t (sortT_srt r)
theorem sort_unique {a b : List Tm} (hp : a.Perm b) (ha : a.Pairwise fun x y => cmpT x y ≤ 0) (hb : b.Pairwise fun x y => cmpT x y ≤ 0) : a = b :=
  hp.eq_of_pairwise (fun x y _ _ h1 h2 => cmpT_zero (by have := cmpT_neg x y; omega)) ha hb

def sortPrim (args : List PV) (h : AHeap) : Option (PV × AHeap) :=
  match args with
  | [.snap true [], .fn _ []] => some (.tup [], h)
  | [.mref id ep 0 len, .fn g []] => match getM h id ep with
    | some o => match decTs o.es with
      | some ts => if g = 40 ∧ o.mu = .m ∧ o.esz = 4 ∧ len = o.es.length ∧ len < 1000000000 ∧ (ts.all fun t => decide (bulk t < 1000000000)) = true then
          some (.tup [], h.set id { o with es := encs (sortT ts) }) else none
      | none => none
    | none => none
  | _ => none
theorem sortPrim_of {h : AHeap} {id ep : Nat} {ts : List Tm} (e : h[id]? = some ⟨.m, ep, 4, encs ts⟩) (hn : ts.length < 1000000000) (hb : ∀ t ∈ ts, bulk t < 1000000000) :
    sortPrim [.mref id ep 0 ts.length, .fn 40 []] h = some (.tup [], h.set id ⟨.m, ep, 4, encs (sortT ts)⟩) := by
  have hg : getM h id ep = some ⟨.m, ep, 4, encs ts⟩ := getM_at e rfl (by simp)
  have hl := encs_len ts
  simp only [sortPrim, hg, decTs_encs]
  rw [if_pos ⟨trivial, trivial, trivial, hl.symm, hn, by simpa using hb⟩]

/-- a term and the cells that hold it -/
def TV (w : World) (A : Nat → Prop) : Type := { x : Tm × List Value // x.2.length = 4 ∧ (∀ v ∈ x.2, v.oneCell' = true) ∧ bulk x.1 < 1000000000 ∧ SRel w A (.agg x.2.toArray) (enc x.1) }
instance (w : World) (A : Nat → Prop) : Inhabited (TV w A) :=
  ⟨⟨(.mk 0 ByteArray.empty 0 [], [.int .i64 0, .string ByteArray.empty, .int .i64 0, .slice none 0 0]), rfl, by simp [Value.oneCell'], by simp [bulk, bulks], .agg _ _ rfl (fun j hj => by
    match j, hj with
    | 0, _ => exact .int _ _
    | 1, _ => exact .str _
    | 2, _ => exact .int _ _
    | 3, _ => exact .snapE _ _ _ (fun h => by cases h)
    | j + 4, hj => simp at hj; omega)⟩⟩
theorem exists_arr {α : Type} [Inhabited α] {R : Nat → α → Prop} : ∀ n : Nat, (∀ i, i < n → ∃ x, R i x) → ∃ d : Array α, d.size = n ∧ ∀ i, i < n → R i d[i]!
  | 0, _ => ⟨#[], rfl, fun i hi => by omega⟩
  | n + 1, h => by
    obtain ⟨d, d1, d2⟩ := exists_arr n (fun i hi => h i (by omega))
    obtain ⟨x, hx⟩ := h n (by omega)
    refine ⟨d.push x, by simp [d1], fun i hi => ?_⟩
    by_cases hin : i = n
    · subst hin
      have : (d.push x)[i]! = x := by simp [← d1]
      rw [this]; exact hx
    · have : (d.push x)[i]! = d[i]! := by
        have hlt : i < d.size := by omega
        simp [Array.getElem!_eq_getD, Array.getD, Array.getElem_push, hlt, Nat.lt_succ_of_lt hlt]
      rw [this]; exact d2 i (by omega)
theorem swo_T (w : World) (A : Nat → Prop) : SWO (ltOf fun x y : TV w A => cmpT x.1.1 y.1.1) where
  irrefl x := by simp [ltOf, cmpT_self]
  trans x y z h1 h2 := by
    simp only [ltOf, decide_eq_true_eq] at *
    exact cmpT_trans h1 h2
  ntrans x y z h1 h2 := by
    simp only [ltOf, decide_eq_false_iff_not, Int.not_lt] at *
    have a := cmpT_neg x.1.1 y.1.1
    have b := cmpT_neg y.1.1 z.1.1
    have c := cmpT_neg x.1.1 z.1.1
    have := cmpT_le_trans (a := z.1.1) (b := y.1.1) (c := x.1.1) (by omega) (by omega)
    omega
theorem sortWorldK_off {α : Type} [Inhabited α] (enc : α → List Value) (k : Nat) (w : World) (blk off m : Nat) (dk : Array α) (os : Array Obj) (b : Nat) (hb : b < w.heap.size) (hne : b ≠ blk) : (sortWorldK enc k w blk off m dk os).heap[b]? = w.heap[b]? := by
  unfold sortWorldK putRowK putRow mapBlock
  rw [heap_grow_old _ _ (by simpa [ahead] using hb)]
  show (Array.modify w.heap blk _)[b]? = _
  rw [Array.getElem?_modify, if_neg (Ne.symm hne)]
theorem sortWorldK_at {α : Type} [Inhabited α] (enc : α → List Value) (k : Nat) (w : World) (blk off m : Nat) (dk : Array α) (os : Array Obj) {cs : Array Value} {T : TypeId} {fr : Nat × Nat} (hb : w.heap[blk]? = some (.cells cs T fr)) :
    (sortWorldK enc k w blk off m dk os).heap[blk]? = some (.cells (putCells id off (flatK enc k dk) cs) T fr) := by
  have hlt : blk < w.heap.size := by
    rcases Nat.lt_or_ge blk w.heap.size with h | h
    · exact h
    · rw [Array.getElem?_eq_none h] at hb; cases hb
  unfold sortWorldK putRowK putRow mapBlock
  rw [heap_grow_old _ _ (by simpa [ahead] using hlt)]
  show (Array.modify w.heap blk _)[blk]? = _
  rw [Array.getElem?_modify, if_pos rfl, hb]
  rfl
theorem sortWorldK_size {α : Type} [Inhabited α] (enc : α → List Value) (k : Nat) (w : World) (blk off m : Nat) (dk : Array α) (os : Array Obj) : w.heap.size ≤ (sortWorldK enc k w blk off m dk os).heap.size := by
  unfold sortWorldK putRowK putRow mapBlock
  rw [size_grow]
  simp [ahead]
theorem putCells_get {α : Type} [Inhabited α] {enc : α → List Value} {k : Nat} {dk : Array α} {cs : Array Value} {i j : Nat} (hi : i < dk.size) (hj : j < k) (hs : dk.size * k ≤ cs.size) (hk : ∀ x, (enc x).length = k) :
    (putCells id 0 (flatK enc k dk) cs)[i * k + j]? = (enc dk[i]!)[j]? := by
  have lt : i * k + j < dk.size * k := by
    have := Nat.mul_le_mul_right k (show i + 1 ≤ dk.size from hi); rw [Nat.add_mul, Nat.one_mul] at this; omega
  have e1 : (i * k + j) / k = i := (blk_iff k i _ (by omega)).1 ⟨by omega, by omega⟩
  have e2 : (i * k + j) % k = j := by rw [Nat.mod_eq_sub_div_mul, e1]; omega
  unfold putCells
  rw [Array.getElem?_mapIdx, Array.getElem?_eq_getElem (show i * k + j < cs.size by omega)]
  simp only [Option.map_some, Nat.zero_le, true_and, Nat.zero_add, size_flatK, if_pos lt, id, Nat.sub_zero]
  rw [get_flatK _ _ _ _ lt, e1, e2, List.getElem?_eq_getElem (by rw [hk]; exact hj)]
  rw [getElem!_pos _ j (by rw [hk]; exact hj)]

variable {w : World} {F : Nat → Prop} {β : List (Nat × Nat)} {h : AHeap}
theorem tv_of {cs : Array Value} {t : Tm} {i : Nat} (hb : bulk t < 1000000000) (q2 : ∀ (j : Nat) (p : PV), (cells (enc t))[j]? = some p → ∃ v : Value, cs[i * 4 + j]? = some v ∧ VRel w (Av F h β) β h v p) :
    ∃ x : TV w (Av F h β), x.1.1 = t ∧ ∀ j, j < 4 → cs[i * 4 + j]? = x.1.2[j]? := by
  obtain ⟨k, s, o, l⟩ := t
  obtain ⟨a, a1, a2⟩ := q2 0 (.int .i64 k) rfl
  obtain ⟨b, b1, b2⟩ := q2 1 (.str s) rfl
  obtain ⟨c, c1, c2⟩ := q2 2 (.int .i64 o) rfl
  obtain ⟨d, d1, d2⟩ := q2 3 (.snap false (encs l)) rfl
  have a3 := a2.toS rfl
  have b3 := b2.toS rfl
  have c3 := c2.toS rfl
  have d3 := d2.snap_inv
  have o4 : d.oneCell' = true := by obtain ⟨ad, cap, rfl, _⟩ := d3.snap_len; rfl
  refine ⟨⟨(.mk k s o l, [a, b, c, d]), rfl, ?_, hb, .agg [a, b, c, d] _ rfl (fun j hj => ?_)⟩, rfl, fun j hj => ?_⟩
  · intro v hv
    simp only [List.mem_cons, List.not_mem_nil, or_false] at hv
    rcases hv with rfl | rfl | rfl | rfl
    · cases a3; rfl
    · cases b3; rfl
    · cases c3; rfl
    · exact o4
  · match j, hj with
    | 0, _ => exact a3
    | 1, _ => exact b3
    | 2, _ => exact c3
    | 3, _ => exact d3
    | j + 4, hj => simp at hj; omega
  · match j, hj with
    | 0, _ => exact a1
    | 1, _ => exact b1
    | 2, _ => exact c1
    | 3, _ => exact d1
    | j + 4, hj => omega
theorem L2.two {R : Value → PV → Prop} {vs : List Value} {a b : PV} (h : L2 R vs [a, b]) : ∃ x y, vs = [x, y] ∧ R x a ∧ R y b := by
  obtain ⟨h1, h2⟩ := h
  match vs, h1 with
  | [x, y], _ => exact ⟨x, y, rfl, h2 0 (by simp), h2 1 (by simp)⟩
theorem cmp_enters (args : Array Value) (w : World) : (callFunc 40 args).run C.P w = .ok (.enter 40 args) w := enters_of Tryz.func40 (by kernel_rfl) rfl args w
theorem sort_core {vs : List Value} {id ep : Nat} {o : AObj} {ts : List Tm} (H : HRel w F β h) (ha : L2 (VRel w (Av F h β) β h) vs [.mref id ep 0 o.es.length, .fn 40 []]) (hg : getM h id ep = some o) (hm : o.mu = .m) (hz : o.esz = 4)
    (hn : o.es.length < 1000000000) (hes : encs ts = o.es) (hbk : ∀ t ∈ ts, bulk t < 1000000000) : CSim C.P 2 w F β h 85 vs (.tup []) (h.set id { o with es := encs (sortT ts) }) := by
  obtain ⟨g1, g2, g3⟩ := getM_some hg
  obtain ⟨bc, hbc⟩ := beta_at H.len g1
  obtain ⟨v0, v1, rfl, h0, h1⟩ := ha.two
  obtain ⟨_, _, m3⟩ := h0.mref_inv
  obtain ⟨cap, c1, c2⟩ := m3 o bc g1 hbc g3 g2 (by omega)
  rw [Nat.zero_mul] at c1
  obtain ⟨us, d1, d2, _⟩ := h1.fn_inv
  obtain rfl : us = [] := List.eq_nil_of_length_eq_zero d2
  subst c1 d1
  obtain ⟨T, cs, k1, k2, k3, k4, k5⟩ := H.obj id o bc g1 hbc g3
  have hblk : bc.1 < w.heap.size := Mb.lt H ⟨id, o, bc, g1, hbc, hm, rfl⟩
  have hav : Av F h β bc.1 := .inr ⟨id, o, bc, g1, hbc, hm, rfl⟩
  have hlen : ts.length = o.es.length := by rw [← hes, encs_len]
  have hcs : ts.length * 4 ≤ cs.size := by rw [hz] at k3; omega
  obtain ⟨d, dl, dh⟩ := exists_arr (α := TV w (Av F h β)) (R := fun i x => ts[i]? = some x.1.1 ∧ ∀ j, j < 4 → cs[i * 4 + j]? = x.1.2[j]?) ts.length (fun i hi => by
    have ht : ts[i]? = some ts[i] := List.getElem?_eq_getElem hi
    obtain ⟨_, q2⟩ := k5 i (enc ts[i]) (by rw [← hes]; exact encs_nth ht)
    rw [hz] at q2
    obtain ⟨x, x1, x2⟩ := tv_of (hbk _ (List.getElem_mem hi)) q2
    exact ⟨x, by rw [ht, x1], x2⟩)
  have hk : ∀ x : TV w (Av F h β), x.1.2.length = 4 := fun x => x.2.1
  have hH : HoldsK (fun x : TV w (Av F h β) => x.1.2) 4 w bc.1 0 d := by
    intro j hj
    rw [size_flatK] at hj
    have hj4 : j / 4 < d.size := by omega
    obtain ⟨_, r2⟩ := dh (j / 4) (by omega)
    have := r2 (j % 4) (by omega)
    rw [show j / 4 * 4 + j % 4 = j by omega] at this
    refine ⟨?_, by simp [World.frozen?, k1]⟩
    rw [get_flatK _ _ _ _ hj]
    have hl : j % 4 < (d[j / 4]!).1.2.length := by rw [hk]; omega
    rw [List.getElem?_eq_getElem hl] at this
    simp only [World.cell?, k1, Nat.zero_add, this]
    rw [getElem!_pos (d[j / 4]!).1.2 (j % 4) hl]
    rfl
  have hcmp : CmpLays C.P 40 #[] (fun x : TV w (Av F h β) => x.1.2) 4 (fun x y => cmpT x.1.1 y.1.1) bc.1 0 d.size w := by
    intro m os dk hs x y
    obtain ⟨n, hn⟩ := (tcmp_fun x.1.1 y.1.1 x.2.2.2.1 y.2.2.2.1).pureF
    have up : ∀ (x : TV w (Av F h β)), SRel (sortWorldK (fun x : TV w (Av F h β) => x.1.2) 4 w bc.1 0 m dk os) (fun _ => False) (.agg x.1.2.toArray) (enc x.1.1) := fun x =>
      x.2.2.2.2.mono (fun b hb hnb => sortWorldK_off _ _ _ _ _ _ _ _ b hb (fun e => hnb (e ▸ hav))) (fun _ _ _ hh => hh)
    have hargs : L2 (SRel (sortWorldK (fun x : TV w (Av F h β) => x.1.2) 4 w bc.1 0 m dk os) (fun _ => False)) [.agg x.1.2.toArray, .agg y.1.2.toArray] [enc x.1.1, enc y.1.1] := ⟨rfl, fun j hj => by
      match j, hj with
      | 0, _ => exact up x
      | 1, _ => exact up y
      | j + 2, hj => simp at hj; omega⟩
    rw [Array.append_empty]
    refine (pureF_sim cfgOk6 codesOk6 (.inl rfl) hn (fun b hb => hb.elim) hargs).mono ?_
    rintro e w' ⟨v, rfl, hv, hgr⟩
    cases hv
    exact ⟨rfl, hgr.grow⟩
  have hcon := AnyQ.slices_SortFunc layS 4 laySA laySZ (fun x : TV w (Av F h β) => x.1.2) hk (fun x => x.2.2.1) (fun x y => cmpT x.1.1 y.1.1) (swo_T w _) 40 #[] bc.1 0 cap d w cmp_enters hcmp hH hblk (by omega)
  rw [dl, hlen] at hcon
  refine hcon.mono ?_
  rintro e w' ⟨rfl, d', n, os, hp, hs, rfl⟩
  rw [← hlen, ← dl] at hp hs
  have hsz' : d'.size = d.size := hp.1
  have hdt : d.toList.map (fun x => x.1.1) = ts := by
    apply List.ext_getElem?
    intro i
    by_cases hi : i < ts.length
    · rw [List.getElem?_map, (dh i hi).1, Array.getElem?_toList, Array.getElem?_eq_getElem (by omega), getElem!_pos d i (by omega)]; rfl
    · rw [List.getElem?_eq_none (by simp; omega), List.getElem?_eq_none (by omega)]
  have hts : d'.toList.map (fun x => x.1.1) = sortT ts := by
    refine sort_unique ?_ ?_ (sortT_srt ts)
    · have h3 := hp.2.2
      rw [show d.extract 0 d.size = d by simp, show d'.extract 0 d.size = d' by rw [← hsz']; simp] at h3
      refine (h3.map _).trans ?_
      rw [hdt]
      exact (sortT_perm ts).symm
    · rw [List.pairwise_map, List.pairwise_iff_getElem]
      intro i j hi hj hij
      simp only [Array.length_toList] at hi hj
      have := hs i j (Nat.zero_le _) hij (by omega)
      rw [getElem!_pos d' i (by omega), getElem!_pos d' j (by omega)] at this
      simp only [ltOf, decide_eq_false_iff_not, Int.not_lt] at this
      have ng := cmpT_neg d'[i].1.1 d'[j].1.1
      simp only [Array.getElem_toList]
      omega
  have hl2 : (encs (sortT ts)).length = o.es.length := by rw [encs_len, ← hts]; simp; omega
  obtain ⟨H', S'⟩ := H.set (w' := sortWorldK (fun x : TV w (Av F h β) => x.1.2) 4 w bc.1 0 n d' os) g1 hbc hm T (putCells _root_.id 0 (flatK (fun x : TV w (Av F h β) => x.1.2) 4 d') cs) (encs (sortT ts)) o.ep bc (sortWorldK_size _ _ _ _ _ _ _ _) (sortWorldK_at _ _ _ _ _ _ _ _ k1)
    (fun b hb hne => sortWorldK_off _ _ _ _ _ _ _ _ b hb hne) (.inl ⟨rfl, fun _ => hl2⟩) (Nat.le_refl _) rfl rfl rfl (by rw [hl2]; exact k2) (by simpa [putCells] using k3) (fun i e he => by
      have hi : i < d'.size := by have := lt_of_some he; omega
      have he2 : (sortT ts)[i]? = some d'[i].1.1 := by rw [← hts, List.getElem?_map, Array.getElem?_toList, Array.getElem?_eq_getElem hi]; rfl
      rw [encs_nth he2] at he
      obtain rfl := Option.some.inj he
      have sr := d'[i].2.2.2.2
      obtain ⟨z1, z2⟩ := sr.cells
      rw [hz]
      have hcl : (cells (enc d'[i].1.1)).length = 4 := by
        rw [← z1]; show d'[i].1.2.toArray.size = 4; simpa using hk d'[i]
      refine ⟨hcl, fun j p hp => ?_⟩
      obtain ⟨u, u1, u2⟩ := z2 j p hp
      refine ⟨u, ?_, .val u2⟩
      have hj := lt_of_some hp
      rw [putCells_get (enc := fun x : TV w (Av F h β) => x.1.2) hi (by omega) (by omega) hk, getElem!_pos d' i hi]
      have u3 : d'[i].1.2.toArray[j]? = some u := u1
      simpa using u3) (by show w.drawn ≤ w.drawn + n; omega)
  rw [beta_set hbc] at H' S'
  exact ⟨_, β, rfl, .val (.tup [] [] rfl (fun j hj => by simp at hj)), H', S', fun hh => by omega⟩
theorem sort_sim : SimRun C.P 85 sortPrim := by
  intro args h r h' e w F β vs H ha
  unfold sortPrim at e
  split at e
  · rename_i g
    obtain ⟨rfl, rfl⟩ := Prod.mk.inj (Option.some.inj e)
    obtain ⟨v0, v1, rfl, h0, h1⟩ := ha.two
    obtain ⟨ad, cap, rfl, _, _⟩ := h0.snap_inv.snap_len
    have hcon := AnyF.slices_SortFunc_none layS ad cap v1 w
    refine hcon.mono ?_
    rintro e w' ⟨rfl, rfl⟩
    exact ⟨_, β, rfl, .val (.tup [] [] rfl (fun j hj => by simp at hj)), H, Stp.refl w' h β, fun hh => by omega⟩
  · rename_i id ep len g
    split at e
    · rename_i o hg
      split at e
      · rename_i ts hd
        split at e
        · rename_i hc
          obtain ⟨rfl, rfl⟩ := Prod.mk.inj (Option.some.inj e)
          obtain ⟨rfl, c1, c2, rfl, c4, c5⟩ := hc
          exact sort_core H ha hg c1 c2 c4 (encs_decTs _ hd) (by simpa using c5)
        · cases e
      · cases e
    · cases e
  · cases e
end Go.Pm
end

/-
  PM, PART 67: slices.Clone over ints. Conditions: none.
-/
section
set_option linter.unusedVariables false
set_option linter.unusedSimpArgs false
set_option linter.unusedVariables false
set_option linter.unusedSimpArgs false
set_option maxRecDepth 100000
set_option maxHeartbeats 4000000
namespace Go.Pm
open Go.Proofs
variable {w : World} {F : Nat → Prop} {β : List (Nat × Nat)} {h : AHeap}

attribute [local irreducible] thenQ blockQ loopQ bodyQ Ev EvOps CallEv FnEv EvD

namespace Zero
theorem clone7 {fl : Bool} {es : List PV} {vs : List Value} (H : HRel w F β h) (ha : L2 (VRel w (Av F h β) β h) vs [.snap fl es]) (hes : esOk 1 es) (hn : es.length < 1000000000) {r : PV} {h' : AHeap}
    (hr : (es = [] ∧ r = .snap true [] ∧ h' = h) ∨ (es ≠ [] ∧ r = .mref h.length 0 0 es.length ∧ h' = h ++ [⟨.m, 0, 1, es⟩])) : CSim C0.P 2 w F β h 13 vs r h' := by
  refine csim_wp (P := C0.P) Tryz.func13 rfl H ha (fun a RR => ?_)
  refine wp_seq ?_
  refine ev_wp K0 mixed0 S0 (M := fun ex s' => ex = .normal ∧ ∃ ρ', s' = ⟨al [(0, .snap fl es)] ρ', h⟩) rfl ?_ RR ?_
  · rw [envOf_al]
    (repeat' (first | refine EvOps.nil ?_ | (apply R.assign; exact rfl) | refine Ev.region ?_ | fail))
    exact ⟨rfl, _, St.keep ⟨rfl, trivial⟩⟩
  rintro ex s' a1 w1 β1 ⟨rfl, ρ1, rfl⟩ R1 S1
  refine wp_seq ?_
  refine wp_seq ?_
  apply region_special K0 S0 (pre := [_]) (post := []) (R := R1) (M := fun s' => ∃ ρ', s' = ⟨al [(0, .snap fl es), (3, .snap fl es)] ρ', h⟩) (M2 := fun s' => ∃ bb ρ', s' = ⟨al [(0, .snap fl es), (4, .bool bb)] ρ', h⟩ ∧ (bb = true → es = []))
  · rfl
  · rfl
  · (repeat' (first | refine EvOps.nil ?_ | (apply R.move; exact rfl) | fail))
    exact ⟨_, St.keep ⟨rfl, rfl, trivial⟩⟩
  · rintro s1 a2 w2 β2 ⟨ρ2, rfl⟩ R2 S2
    obtain ⟨bb, hb, os⟩ := eqnil_osim (t := 36) (yt := 36) (el := 3) (x := .tmp 3) (fl := fl) (es := es) R2.hr R2.er (kd_sl (T6.hkd 36 _ rfl)) (lk_al (L := [(0, .snap fl es), (3, .snap fl es)]) (t := 3) rfl ρ2)
    refine ⟨.bool bb, h, os _ rfl, EvOps.nil ⟨bb, al ((4, .bool bb) :: [(0, .snap fl es), (3, .snap fl es)]) ρ2, ?_, hb⟩⟩
    show (⟨updO (al [(0, .snap fl es), (3, .snap fl es)] ρ2) (some 4) (.bool bb), h⟩ : St) = _
    rw [al_cons]
    exact St.keep ⟨rfl, rfl, trivial⟩
  rintro s3 a3 w3 β3 ⟨bb, ρ3, rfl, hb⟩ R3 S3
  cases bb
  · refine ev_wp K0 mixed0 S0 (M := fun ex s' => ex = .normal ∧ ∃ ρ', s' = ⟨al [(0, .snap fl es)] ρ', h⟩) rfl ?_ R3 ?_
    · (repeat' (first | (apply Ev.condB; exact rfl) | refine Ev.skip ?_ | fail))
      exact ⟨rfl, _, St.keep ⟨rfl, trivial⟩⟩
    rintro ex s' a4 w4 β4 ⟨rfl, ρ4, rfl⟩ R4 S4
    refine ev_wp K0 mixed0 S0 (M := fun ex s' => ex = .ret ∧ ∃ ρ', s' = ⟨al [(2, r)] ρ', h'⟩) rfl ?_ R4 ?_
    · (repeat' (first | (apply R.move; exact rfl) | (apply R.buildSlice T6; exact rfl; exact rfl; exact rfl; exact rfl; exact (by decide); exact rfl; exact rfl; exact rfl; exact rfl; exact rfl) | refine Ev.seq ?_ | refine Ev.region ?_ | fail))
      rcases hr with ⟨rfl, rfl, rfl⟩ | ⟨hne, rfl, rfl⟩
      · apply R.appendS0 T6; exact rfl; exact rfl; exact rfl; exact rfl; exact rfl; exact rfl; exact rfl; exact (by decide); exact rfl; exact rfl
        (repeat' (first | refine EvOps.nil ?_ | (apply R.assign; exact rfl) | refine Ev.ret ?_ | refine thenQ.normal ?_ | fail))
        exact ⟨rfl, _, St.keep ⟨rfl, trivial⟩⟩
      · apply R.appendS1 T6; exact rfl; exact rfl; exact rfl; exact rfl; exact rfl; exact rfl; exact rfl; exact (by decide); exact rfl; exact rfl; exact hes; exact hne; exact hn
        (repeat' (first | refine EvOps.nil ?_ | (apply R.assign; exact rfl) | refine Ev.ret ?_ | refine thenQ.normal ?_ | fail))
        exact ⟨rfl, _, St.keep ⟨rfl, trivial⟩⟩
    rintro ex s5 a5 w5 β5 ⟨rfl, ρ5, rfl⟩ R5 S5
    refine ⟨.inr rfl, _, β5, R5, ((S1.trans S3).trans S4).trans S5, [r], ?_, fun u hu => ⟨β5, hu, R5.hr, ((S1.trans S3).trans S4).trans S5⟩⟩
    exact resT_of (L := [(2, r)]) rfl
  · obtain rfl := hb rfl
    rcases hr with ⟨_, rfl, rfl⟩ | ⟨hne, _⟩
    · refine ev_wp K0 mixed0 S0 (M := fun ex s' => ex = .ret ∧ ∃ ρ', s' = ⟨al [(2, .snap true [])] ρ', h'⟩) rfl ?_ R3 ?_
      · (repeat' (first | refine EvOps.nil ?_ | (apply R.assign; exact rfl) | refine Ev.seq ?_ | refine Ev.region ?_ | (apply Ev.condB; exact rfl) | refine Ev.ret ?_ | refine thenQ.normal ?_ | fail))
        exact ⟨rfl, _, St.keep ⟨rfl, trivial⟩⟩
      rintro ex s5 a5 w5 β5 ⟨rfl, ρ5, rfl⟩ R5 S5
      refine ⟨.inr rfl, _, β5, R5, (S1.trans S3).trans S5, [.snap true []], ?_, fun u hu => ⟨β5, hu, R5.hr, (S1.trans S3).trans S5⟩⟩
      exact resT_of (L := [(2, .snap true [])]) rfl
    · exact absurd rfl hne
  · rfl

end Zero
theorem clone_simI : SimRun C.P 13 (clonePrim 1) := by
  intro args h r h' e w F β vs H ha
  unfold clonePrim at e
  split at e
  · rename_i fl es
    split at e
    · rename_i hem
      obtain ⟨rfl, rfl⟩ := Prod.mk.inj (Option.some.inj e)
      obtain rfl : es = [] := by simpa using hem
      exact Zero.clone7 H ha rfl (by simp) (.inl ⟨rfl, rfl, rfl⟩)
    · rename_i hem
      split at e
      · rename_i hc
        obtain ⟨rfl, rfl⟩ := Prod.mk.inj (Option.some.inj e)
        exact Zero.clone7 H ha hc.1 hc.2 (.inr ⟨by simpa using hem, rfl, rfl⟩)
      · cases e
  · cases e
end Go.Pm
end

/-
  PM, PART 64: A CONFIGURATION THAT COVERS MORE FUNCTIONS SAYS NO LESS. Conditions: none.
-/
section
set_option linter.unusedVariables false
set_option linter.unusedSimpArgs false
set_option linter.unusedVariables false
namespace Go.Pm

/-- what the first covers, the second reads in the same way -/
def Moded (md md' : FuncId → Mode) : Prop := ∀ f, md f = .no ∨ md f = md' f
variable {P : Program} {md md' : FuncId → Mode} {run run' : Run}

theorem callF_up (M : Moded md md') (L : RunLe run run') {lv : Nat} {f : FuncId} {args : List PV} {h : AHeap} {x : PV × AHeap} (e : callF ⟨P, md⟩ run lv f args h = some x) : callF ⟨P, md'⟩ run' lv f args h = some x := by
  unfold callF at e ⊢
  rcases M f with hz | hz
  · simp only [hz] at e
    cases e
  simp only [← hz]
  cases hm : md f <;> simp only [hm] at e ⊢
  · cases e
  · exact callPure_mono L e
  · exact callOpen_mono L e
  · exact e
  · exact lockCall_mono (fun _ _ _ x => x) e
  · exact e

theorem opVal_up (M : Moded md md') (L : RunLe run run') {lv : Nat} {op : Op} {ρ : Nat → PV} {h : AHeap} {x : PV × AHeap} (e : opVal ⟨P, md⟩ run lv op ρ h = some x) : opVal ⟨P, md'⟩ run' lv op ρ h = some x := by
  unfold opVal at e ⊢
  split at e
  · split at e
    · unfold calleeP at e ⊢
      split at e
      · exact callF_up M L e
      · cases e
    · exact e
    · cases e
  · exact e

theorem opStep_up (M : Moded md md') (L : RunLe run run') {ops : Array Oper} {o : Oper} {s s' : St} (e : opStep ⟨P, md⟩ run ops o s = some s') : opStep ⟨P, md'⟩ run' ops o s = some s' := by
  unfold opStep at e ⊢
  split at e
  · cases hr : opVal ⟨P, md⟩ run 2 o.op s.ρ s.h with
    | none => rw [hr] at e; cases e
    | some y => rw [hr] at e; rw [opVal_up M L hr]; exact e
  · exact e
  · cases e

theorem evalOps_up (M : Moded md md') (L : RunLe run run') {ops : Array Oper} : ∀ {l : List Oper} {s s' : St}, evalOps ⟨P, md⟩ run ops l s = some s' → evalOps ⟨P, md'⟩ run' ops l s = some s'
  | [], s, s', e => e
  | o :: l, s, s', e => by
    simp only [evalOps] at e ⊢
    cases hr : opStep ⟨P, md⟩ run ops o s with
    | none => rw [hr] at e; cases e
    | some y =>
      rw [hr] at e
      rw [opStep_up M L hr]
      exact evalOps_up M L e

theorem opStepD_up (M : Moded md md') (L : RunLe run run') {ops : Array Oper} {b : List Nat} {i : Nat} {o : Oper} {s s' : DSt} (e : opStepD ⟨P, md⟩ run ops b i o s = some s') : opStepD ⟨P, md'⟩ run' ops b i o s = some s' := by
  unfold opStepD at e ⊢
  split at e
  · split at e
    · rename_i hh
      rw [if_pos hh]
      cases hr : opVal ⟨P, md⟩ run 1 o.op s.s.ρ s.s.h with
      | none => rw [hr] at e; cases e
      | some y => rw [hr] at e; rw [opVal_up M L hr]; exact e
    · rename_i hh
      rw [if_neg hh]
      split at e
      · rename_i hl
        rw [if_pos hl]
        cases hr : opVal ⟨P, md⟩ run 2 o.op s.s.ρ s.s.h with
        | none => rw [hr] at e; cases e
        | some y => rw [hr] at e; rw [opVal_up M L hr]; exact e
      · rename_i hl
        rw [if_neg hl]
        simp only at e ⊢
        split at e
        · rename_i hc
          rw [if_pos hc]
          cases hr : opVal ⟨P, md⟩ run 1 o.op s.s.ρ (maskE (b.getD i 0).testBit s.L0 s.own s.s.h) with
          | none => rw [hr] at e; cases e
          | some y => rw [hr] at e; rw [opVal_up M L hr]; exact e
        · cases e
  · exact e
  · cases e

theorem evalOpsD_up (M : Moded md md') (L : RunLe run run') {ops : Array Oper} {b : List Nat} : ∀ {l : List Oper} {i : Nat} {s s' : DSt}, evalOpsD ⟨P, md⟩ run ops b i l s = some s' → evalOpsD ⟨P, md'⟩ run' ops b i l s = some s'
  | [], i, s, s', e => e
  | o :: l, i, s, s', e => by
    simp only [evalOpsD] at e ⊢
    cases hr : opStepD ⟨P, md⟩ run ops b i o s with
    | none => rw [hr] at e; cases e
    | some y =>
      rw [hr] at e
      rw [opStepD_up M L hr]
      exact evalOpsD_up M L e

theorem evalC_up (M : Moded md md') (L : RunLe run run') {n m : Nat} (hnm : n ≤ m) : ∀ (c : Code) {s : St} {x : Ex × St}, evalC ⟨P, md⟩ run n c s = some x → evalC ⟨P, md'⟩ run' m c s = some x := by
  intro c
  induction c with
  | region id ops draw =>
    intro s x e
    simp only [evalC] at e ⊢
    cases draw with
    | false =>
      simp only [Bool.false_eq_true, if_false] at e ⊢
      cases hr : evalOps ⟨P, md⟩ run ops ops.toList s with
      | none => rw [hr] at e; cases e
      | some y => rw [hr] at e; rw [evalOps_up M L hr]; exact e
    | true =>
      simp only [if_true] at e ⊢
      cases hr : evalOpsD ⟨P, md⟩ run ops (before ops) 0 ops.toList ⟨s, s.h.length, []⟩ with
      | none => rw [hr] at e; simp at e
      | some y => rw [hr] at e; rw [evalOpsD_up M L hr]; exact e
  | seq a b iha ihb =>
    intro s x e
    simp only [evalC] at e ⊢
    cases hr : evalC ⟨P, md⟩ run n a s with
    | none => rw [hr] at e; cases e
    | some y =>
      rw [hr] at e
      rw [iha hr]
      obtain ⟨ex, s'⟩ := y
      cases ex with
      | normal => exact ihb e
      | exit id => exact e
      | ret => exact e
  | cond c a b iha ihb =>
    intro s x e
    simp only [evalC] at e ⊢
    split at e
    · exact iha e
    · exact ihb e
    · cases e
  | block id c ih =>
    intro s x e
    simp only [evalC] at e ⊢
    cases hr : evalC ⟨P, md⟩ run n c s with
    | none => rw [hr] at e; cases e
    | some y => rw [hr] at e; rw [ih hr]; exact e
  | loop c ih =>
    intro s x e
    simp only [evalC] at e ⊢
    exact iter_mono (fun s x => ih) hnm e
  | scope c ih =>
    intro s x e
    simp only [evalC] at e ⊢
    exact ih e
  | _ =>
    intro s x e
    first
      | exact e
      | (simp [evalC] at e; done)
      | (simp only [evalC] at e ⊢; exact e)

theorem bodyF_up (M : Moded md md') (L : RunLe run run') {n m : Nat} (hnm : n ≤ m) : RunLe (bodyF ⟨P, md⟩ run n) (bodyF ⟨P, md'⟩ run' m) := by
  intro f args h x e
  unfold bodyF at e ⊢
  cases hf : P.funcs[f]? with
  | none => rw [hf] at e; cases e
  | some fn =>
    rw [hf] at e
    simp only at e ⊢
    cases hb : fn.body with
    | none => rw [hb] at e; cases e
    | some c =>
      rw [hb] at e
      simp only at e ⊢
      cases hr : evalC ⟨P, md⟩ run n c ⟨envOf args, h⟩ with
      | none => rw [hr] at e; cases e
      | some y => rw [hr] at e; rw [evalC_up M L hnm c hr]; exact e

theorem runF_up (M : Moded md md') : ∀ n, RunLe (runF ⟨P, md⟩ n) (runF ⟨P, md'⟩ n)
  | 0 => fun f args h x e => by cases e
  | n + 1 => bodyF_up M (runF_up M n) (Nat.le_refl n)
theorem FnEv.up (M : Moded md md') {f : FuncId} {args : List PV} {h : AHeap} {Q : PV → AHeap → Prop} (a : FnEv ⟨P, md⟩ f args h Q) : FnEv ⟨P, md'⟩ f args h Q := by
  obtain ⟨r, h', q, n0, hn⟩ := a
  exact ⟨r, h', q, n0, fun n h1 => runF_up M n _ _ _ _ (hn n h1)⟩
theorem CallEv.up (M : Moded md md') {lv : Nat} {f : FuncId} {args : List PV} {h : AHeap} {Q : PV → AHeap → Prop} (a : CallEv ⟨P, md⟩ lv f args h Q) : CallEv ⟨P, md'⟩ lv f args h Q := by
  obtain ⟨r, h', q, n0, hn⟩ := a
  exact ⟨r, h', q, n0, fun n h1 => callF_up M (runF_up M n) (hn n h1)⟩
theorem Fun.up (M : Moded md md') {f : FuncId} {args : List PV} {r : PV} (a : Fun ⟨P, md⟩ f args r) : Fun ⟨P, md'⟩ f args r := by
  obtain ⟨n0, hn⟩ := a
  refine ⟨n0, fun n h1 => ?_⟩
  obtain ⟨r0, hc, r1, e1, e2⟩ := hn n h1
  exact ⟨r0, hc, r1, runF_up M n _ _ _ _ e1, e2⟩
end Go.Pm
end

/-
  CHAPTER 6, PART 69: the configuration with slices.SortFunc over terms and slices.Clone over ints. Conditions: none.
-/
section
set_option linter.unusedVariables false
set_option linter.unusedSimpArgs false
set_option linter.unusedVariables false
set_option maxRecDepth 100000
namespace Go.Pm.Nine
open Go.Proofs
def mode9 (f : FuncId) : Mode := if f = 85 then .primL sortPrim else if f = 13 then .primL (clonePrim 1) else mode06 f
noncomputable def C : Cfg := ⟨Go.Pm.C.P, mode9⟩
noncomputable def T6 : Tab C.P := Go.Pm.T6
theorem mode9_cases (f : FuncId) : f = 85 ∨ f = 13 ∨ mode9 f = mode06 f := by
  unfold mode9
  by_cases h1 : f = 85
  · exact .inl h1
  · by_cases h2 : f = 13
    · exact .inr (.inl h2)
    · rw [if_neg h1, if_neg h2]; exact .inr (.inr rfl)
theorem moded : Moded mode06 mode9 := fun f => by
  rcases mode9_cases f with rfl | rfl | h
  · exact .inl rfl
  · exact .inl rfl
  · exact .inr h.symm
theorem _root_.Go.Pm.Fun.nine {f : FuncId} {args : List PV} {r : PV} (a : Fun Go.Pm.C f args r) : Fun C f args r := Fun.up moded a
theorem _root_.Go.Pm.FnEv.nine {f : FuncId} {args : List PV} {h : AHeap} {Q : PV → AHeap → Prop} (a : FnEv Go.Pm.C f args h Q) : FnEv C f args h Q := FnEv.up moded a
theorem cfgOk9 : CfgOk C where
  enters f hf hne := by
    rcases mode9_cases f with rfl | rfl | h
    · exact ⟨_, Tryz.func85, by kernel_rfl, by kernel_rfl⟩
    · exact ⟨_, Tryz.func13, by kernel_rfl, by kernel_rfl⟩
    · exact cfgOk6.enters f (fun h2 => hf (h.trans h2)) (fun g h2 => hne g (h.trans h2))
  primQ f g hh := by
    rcases mode9_cases f with rfl | rfl | h
    · cases hh
    · cases hh
    · exact cfgOk6.primQ f g (h.symm.trans hh)
  primL f g hh := by
    rcases mode9_cases f with rfl | rfl | h
    · obtain rfl := Mode.primL.inj hh
      exact sort_sim
    · obtain rfl := Mode.primL.inj hh
      exact clone_simI
    · exact cfgOk6.primL f g (h.symm.trans hh)
  ext f g hh := by
    rcases mode9_cases f with rfl | rfl | h
    · cases hh
    · cases hh
    · exact cfgOk6.ext f g (h.symm.trans hh)
theorem codesOk9 : CodesOk C where
  mixed := codesOk6.mixed
  codes f fn c hm hf hb := by
    rcases mode9_cases f with rfl | rfl | h
    · rcases hm with hm | hm <;> cases hm
    · rcases hm with hm | hm <;> cases hm
    · exact codesOk6.codes f fn c (hm.imp (fun h2 => h.symm.trans h2) (fun h2 => h.symm.trans h2)) hf hb
end Go.Pm.Nine
end

/-
  CHAPTER 6, PART 59: the reference's sorted list of terms. Conditions: none.
-/
section
set_option linter.unusedVariables false
set_option linter.unusedSimpArgs false
set_option linter.unusedVariables false
set_option linter.unusedSimpArgs false
set_option maxRecDepth 4000
namespace Go.Pm
open Go.Proofs
def addT (t : Tm) : List Tm → List Tm
  | [] => [t]
  | x :: r => if cmpT t x ≤ 0 then (if cmpT t x < 0 then t :: x :: r else x :: r) else x :: addT t r
attribute [local irreducible] thenQ blockQ loopQ bodyQ Ev EvOps CallEv FnEv EvD
theorem addT_fun (t : Tm) (l : List Tm) (ht : bulk t < 1000000000) (hb : ∀ x ∈ l, bulk x < 1000000000) (hl : l.length < 1000000) : Fun C 89 [.snap false (encs l), enc t] (.snap false (encs (addT t l))) := by
  have hel : (encs l).length = l.length := by simp
  rw [enc_x]
  refine Fun.x T6 Tryz.func89 rfl ?_
  (repeat' (first | (refine Rn.go ?_; conv => whnf) | refine .mk ?_ | refine .tt ?_ | refine .ff ?_ | refine .m2 ?_ | refine .m3 ?_ | refine .mk (fun hc => ?_) (fun hc => ?_) | refine .lp (fun v H lp => ?_) | fail))
  refine LpX.zip T6 l (fun p q L H => ∃ v acc d, L = [(0, .snap false (encs l)), (3, .ptr 0 0 0 0), (5, v), (6, .bool d), (7, .int .i64 p.length)] ∧ HV H ∧ H[0]? = some ⟨.m, 0, 4, [.agg [.int .i64 t.k, .str t.s, .int .i64 t.o, .snap false (encs t.l)]]⟩ ∧ Out 4 H v (encs acc) ∧ (∀ ep n, v ≠ .mref 0 ep 0 n) ∧ (acc.length ≤ p.length + if d then 1 else 0) ∧ acc ++ (if d then q else addT t q) = addT t l) (.nx ⟨_, [], false, rfl, HV.one rfl, rfl, .inl ⟨rfl, rfl⟩, (fun _ _ h => by cases h), by simp, by simp⟩) ?_ ?_
  · rintro p x q _ h ρ e ⟨v, acc, d, rfl, hH, h0, ho, hv0, hal, hg⟩
    have hat := at_encs e
    have hl2 := congrArg List.length e
    simp only [List.length_append, List.length_cons] at hl2
    have hcm := rcmp_fun t x ht (hb x (by rw [e]; simp))
    rw [enc_x, enc_x] at hcm
    have hla : (encs acc).length = acc.length := by simp
    have hal2 : acc.length ≤ p.length + 1 := by cases d <;> simp at hal <;> omega
    (repeat' (first | (refine Rn.go ?_; conv => whnf) | refine .mk ?_ | refine .tt ?_ | refine .ff ?_ | refine .m2 ?_ | refine .m3 ?_ | refine .mk (fun hc => ?_) (fun hc => ?_) | refine .lp (fun v H lp => ?_) | fail))
    refine .p hcm ?_
    have sn : ∀ (a : List Tm) (y : Tm), encs a ++ [.agg [.int .i64 y.k, .str y.s, .int .i64 y.o, .snap false (encs y.l)]] = encs (a ++ [y]) := fun a y => by rw [← encs_snoc, enc_x]
    cases d
    · rw [if_neg (by decide)] at hg
      (repeat' (first | (refine Rn.go ?_; conv => whnf) | refine .mk ?_ | refine .tt ?_ | refine .ff ?_ | refine .m2 ?_ | refine .m3 ?_ | refine .mk (fun hc => ?_) (fun hc => ?_) | refine .lp (fun v H lp => ?_) | fail))
      · obtain ⟨h0', hv0'⟩ := lp.obj h0 hv0
        have hH' := lp.hv
        have lo := lp.out
        rw [sn] at lo
        have hla2 : (encs (acc ++ [t])).length = acc.length + 1 := by simp
        clear lp
        (repeat' (first | (refine Rn.go ?_; conv => whnf) | refine .mk ?_ | refine .tt ?_ | refine .ff ?_ | refine .m2 ?_ | refine .m3 ?_ | refine .mk (fun hc => ?_) (fun hc => ?_) | refine .lp (fun v H lp => ?_) | fail))
        have lo2 := lp.out
        rw [sn] at lo2
        exact .nx ⟨_, acc ++ [t] ++ [x], true, rfl, lp.hv, (lp.obj h0' hv0').1, lo2, (lp.obj h0' hv0').2, by simp at hal ⊢; omega, by rw [← hg, show addT t (x :: q) = t :: x :: q by rw [addT, if_pos (by assumption), if_pos hc]]; simp⟩
      · have lo2 := lp.out
        rw [sn] at lo2
        exact .nx ⟨_, acc ++ [x], true, rfl, lp.hv, (lp.obj h0 hv0).1, lo2, (lp.obj h0 hv0).2, by simp at hal ⊢; omega, by rw [← hg, show addT t (x :: q) = x :: q by rw [addT, if_pos (by assumption), if_neg hc]]; simp⟩
      · have lo2 := lp.out
        rw [sn] at lo2
        exact .nx ⟨_, acc ++ [x], false, rfl, lp.hv, (lp.obj h0 hv0).1, lo2, (lp.obj h0 hv0).2, by simp at hal ⊢; omega, by rw [← hg, show addT t (x :: q) = x :: addT t q by rw [addT, if_neg hc]]; simp⟩
    · (repeat' (first | (refine Rn.go ?_; conv => whnf) | refine .mk ?_ | refine .tt ?_ | refine .ff ?_ | refine .m2 ?_ | refine .m3 ?_ | refine .mk (fun hc => ?_) (fun hc => ?_) | refine .lp (fun v H lp => ?_) | fail))
      have lo2 := lp.out
      rw [sn] at lo2
      exact .nx ⟨_, acc ++ [x], true, rfl, lp.hv, (lp.obj h0 hv0).1, lo2, (lp.obj h0 hv0).2, by simp at hal ⊢; omega, by rw [← hg]; simp⟩
  · rintro _ h ρ ⟨v, acc, d, rfl, hH, h0, ho, hv0, hal, hg⟩
    have hla : (encs acc).length = acc.length := by simp
    have hal2 : acc.length ≤ l.length + 1 := by cases d <;> simp at hal <;> omega
    have sn : ∀ (a : List Tm) (y : Tm), encs a ++ [.agg [.int .i64 y.k, .str y.s, .int .i64 y.o, .snap false (encs y.l)]] = encs (a ++ [y]) := fun a y => by rw [← encs_snoc, enc_x]
    have fin : ∀ {h : AHeap} {v : PV} {a : List Tm}, Out 4 h v (encs a) → a = addT t l → ∃ r1, rb h (tupOf [v]) = some r1 ∧ nrm r1 = .snap false (encs (addT t l)) := fun {h v a} ho ha => by
      obtain ⟨r1, e1, e2⟩ := ho.rbA (isVals_encs _)
      exact ⟨r1, by rcases ho with ⟨rfl, _⟩ | ⟨id, ep, rfl, _⟩ <;> exact e1, by rw [e2, nrms_encs, ha]⟩
    cases d
    · (repeat' (first | (refine Rn.go ?_; conv => whnf) | refine .mk ?_ | refine .tt ?_ | refine .ff ?_ | refine .m2 ?_ | refine .m3 ?_ | refine .mk (fun hc => ?_) (fun hc => ?_) | refine .lp (fun v H lp => ?_) | fail))
      have lo2 := lp.out
      rw [sn] at lo2
      exact fin lo2 (by rw [← hg]; simp [addT])
    · (repeat' (first | (refine Rn.go ?_; conv => whnf) | refine .mk ?_ | refine .tt ?_ | refine .ff ?_ | refine .m2 ?_ | refine .m3 ?_ | refine .mk (fun hc => ?_) (fun hc => ?_) | refine .lp (fun v H lp => ?_) | fail))
      exact fin ho (by rw [← hg]; simp)
end Go.Pm
end

/-
  CHAPTER 6, PART 60: the reference's factors. Conditions: none.
-/
section
set_option linter.unusedVariables false
set_option linter.unusedSimpArgs false
set_option linter.unusedVariables false
set_option linter.unusedSimpArgs false
set_option maxRecDepth 4000
namespace Go.Pm
open Go.Proofs
theorem addT_len (t : Tm) : ∀ l : List Tm, (addT t l).length ≤ l.length + 1
  | [] => by simp [addT]
  | x :: r => by
    have := addT_len t r
    unfold addT
    split
    · split <;> simp
    · simp only [List.length_cons]; omega
theorem addT_mem {t : Tm} {y : Tm} : ∀ {l : List Tm}, y ∈ addT t l → y = t ∨ y ∈ l
  | [], h => by simp [addT] at h; exact .inl h
  | x :: r, h => by
    unfold addT at h
    split at h
    · split at h
      · rcases List.mem_cons.1 h with h | h
        · exact .inl h
        · exact .inr h
      · exact .inr h
    · rcases List.mem_cons.1 h with h | h
      · exact .inr (by simp [h])
      · rcases addT_mem h with h | h
        · exact .inl h
        · exact .inr (by simp [h])
def facs (l : List (List Pw)) : List Tm := (allT l).foldl (fun a t => addT t a) []
def SmT (l : List (List Pw)) : Prop := (∀ x ∈ l, (∀ p ∈ x, bulk p.1 < 100000000) ∧ x.length ≤ 200) ∧ l.length ≤ 1000
def accs (ts : List Tm) (a : List Tm) : List Tm := ts.foldl (fun a t => addT t a) a
theorem accs_len : ∀ (ts a : List Tm), (accs ts a).length ≤ a.length + ts.length
  | [], a => by simp [accs]
  | t :: ts, a => by
    have := accs_len ts (addT t a)
    have := addT_len t a
    simp only [accs, List.foldl_cons, List.length_cons] at *
    omega
theorem accs_mem {y : Tm} : ∀ {ts a : List Tm}, y ∈ accs ts a → y ∈ ts ∨ y ∈ a
  | [], a, h => .inr h
  | t :: ts, a, h => by
    rcases accs_mem (ts := ts) (a := addT t a) h with h | h
    · exact .inl (by simp [h])
    · rcases addT_mem h with h | h
      · exact .inl (by simp [h])
      · exact .inr h
attribute [local irreducible] thenQ blockQ loopQ bodyQ Ev EvOps CallEv FnEv EvD
theorem facs_fun (l : List (List Pw)) (hs : SmT l) : Fun C 54 [.snap false (encPPs l)] (.snap false (encs (facs l))) := by
  have hel : (encPPs l).length = l.length := by simp
  have hb1 : ∀ x ∈ l, ∀ p ∈ x, bulk p.1 < 100000000 := fun x hx => (hs.1 x hx).1
  have hl1 := hs.2
  refine Fun.x T6 Tryz.func54 rfl ?_
  (repeat' (first | (refine Rn.go ?_; conv => whnf) | refine .mk ?_ | refine .tt ?_ | refine .ff ?_ | refine .m2 ?_ | refine .m3 ?_ | refine .mk (fun hc => ?_) (fun hc => ?_) | refine .lp (fun v H lp => ?_) | fail))
  refine LpX.zip T6 l (fun p q L H => ∃ f acc, L = [(0, .snap false (encPPs l)), (3, .snap f (encs acc)), (4, .int .i64 p.length)] ∧ H = [] ∧ (∀ t ∈ acc, bulk t < 100000000) ∧ acc.length ≤ 200 * p.length ∧ accs (allT q) acc = facs l) (.nx ⟨true, [], rfl, rfl, (fun t h => by cases h), by simp, rfl⟩) ?_ ?_
  · rintro p x q _ _ ρ e ⟨f, acc, rfl, rfl, ha, hal, hg⟩
    have hat := at_encPPs e
    have hl2 := congrArg List.length e
    simp only [List.length_append, List.length_cons] at hl2
    have hx := hs.1 x (by rw [e]; simp)
    have helx := encPs_len x
    (repeat' (first | (refine Rn.go ?_; conv => whnf) | refine .mk ?_ | refine .tt ?_ | refine .ff ?_ | refine .m2 ?_ | refine .m3 ?_ | refine .mk (fun hc => ?_) (fun hc => ?_) | refine .lp (fun v H lp => ?_) | fail))
    refine LpX.zip T6 x (fun p2 q2 L H => ∃ f acc, L = [(0, .snap false (encPPs l)), (3, .snap f (encs acc)), (4, .int .i64 p.length), (5, .int .i64 p2.length)] ∧ H = [] ∧ (∀ t ∈ acc, bulk t < 100000000) ∧ acc.length ≤ 200 * p.length + p2.length ∧ accs (q2.map (·.1) ++ allT q) acc = facs l) (.nx ⟨f, acc, rfl, rfl, ha, by simp; omega, by rw [← hg]; simp [allT]⟩) ?_ ?_
    · rintro p2 ⟨u, n⟩ q2 _ _ ρ e2 ⟨f2, acc2, rfl, rfl, ha2, hal2, hg2⟩
      have hat2 := at_encPs e2
      have hl3 := congrArg List.length e2
      simp only [List.length_append, List.length_cons] at hl3
      have hu := hx.1 (u, n) (by rw [e2]; simp)
      have had := addT_fun u acc2 (Nat.lt_trans hu (by decide)) (fun y hy => Nat.lt_trans (ha2 y hy) (by decide)) (by omega)
      rw [enc_x] at had
      (repeat' (first | (refine Rn.go ?_; conv => whnf) | refine .mk ?_ | refine .tt ?_ | refine .ff ?_ | refine .m2 ?_ | refine .m3 ?_ | refine .mk (fun hc => ?_) (fun hc => ?_) | refine .lp (fun v H lp => ?_) | fail))
      refine .p had ?_
      (repeat' (first | (refine Rn.go ?_; conv => whnf) | refine .mk ?_ | refine .tt ?_ | refine .ff ?_ | refine .m2 ?_ | refine .m3 ?_ | refine .mk (fun hc => ?_) (fun hc => ?_) | refine .lp (fun v H lp => ?_) | fail))
      refine .nx ⟨_, addT u acc2, rfl, rfl, fun y hy => by rcases addT_mem hy with rfl | h; exact hu; exact ha2 y h, by have := addT_len u acc2; simp; omega, by rw [← hg2]; simp [accs]⟩
    · rintro _ _ ρ ⟨f2, acc2, rfl, rfl, ha2, hal2, hg2⟩
      (repeat' (first | (refine Rn.go ?_; conv => whnf) | refine .mk ?_ | refine .tt ?_ | refine .ff ?_ | refine .m2 ?_ | refine .m3 ?_ | refine .mk (fun hc => ?_) (fun hc => ?_) | refine .lp (fun v H lp => ?_) | fail))
      exact .nx ⟨_, acc2, rfl, rfl, ha2, by simp; omega, by rw [← hg2]; simp⟩
  · rintro _ _ ρ ⟨f, acc, rfl, rfl, ha, hal, hg⟩
    (repeat' (first | (refine Rn.go ?_; conv => whnf) | refine .mk ?_ | refine .tt ?_ | refine .ff ?_ | refine .m2 ?_ | refine .m3 ?_ | refine .mk (fun hc => ?_) (fun hc => ?_) | refine .lp (fun v H lp => ?_) | fail))
    exact ⟨_, rfl, by rw [← hg]; simp [tupOf, nrm, nrms_encs, allT, accs]⟩
end Go.Pm
end

/-
  CHAPTER 6, PART 61: the reference's Check. Conditions: none.
-/
section
set_option linter.unusedVariables false
set_option linter.unusedSimpArgs false
set_option linter.unusedVariables false
set_option linter.unusedSimpArgs false
set_option maxRecDepth 4000
namespace Go.Pm
open Go.Proofs
theorem allT_le : ∀ {l : List (List Pw)}, (∀ x ∈ l, x.length ≤ 200) → (allT l).length ≤ 200 * l.length
  | [], _ => by simp [allT]
  | x :: l, h => by
    have h1 := allT_le (l := l) fun y hy => h y (by simp [hy])
    have h2 := h x (by simp)
    have h3 : (allT (x :: l)).length = x.length + (allT l).length := by simp [allT]
    rw [h3, List.length_cons]; omega
def inr (n : Int) : Bool := decide (-35184372088832 ≤ n ∧ n ≤ 35184372088832)
def okZ (z : List (Int × List Pw)) : Bool := z.all fun p => decide (validP p.2 = 0) && inr p.1
def dotZ (z : List (Int × List Pw)) (t : Tm) : Int := (z.map fun p => p.1 * pwr p.2 t).sum
def ckR (z : List (Int × List Pw)) (m : List Pw) : Bool := decide (validP m = 0) && okZ z && (facs (z.map (·.2) ++ [m])).all fun t => decide (dotZ z t = pwr m t)
theorem dotZ_snoc (z : List (Int × List Pw)) (x : Int × List Pw) (t : Tm) : dotZ (z ++ [x]) t = dotZ z t + x.1 * pwr x.2 t := by simp [dotZ]
theorem dotZ_bd {z : List (Int × List Pw)} (hz : okZ z = true) (t : Tm) : -(z.length : Int) * 35184372088832000 ≤ dotZ z t ∧ dotZ z t ≤ (z.length : Int) * 35184372088832000 := by
  induction z with
  | nil => simp [dotZ]
  | cons x z ih =>
    simp only [okZ, List.all_cons, Bool.and_eq_true, decide_eq_true_eq, inr] at hz
    obtain ⟨⟨h1, h2⟩, h3⟩ := hz
    obtain ⟨_, hb, _⟩ := validP_zero h1
    have hp := pwr_bd (by omega) hb t
    have hm := mul_bd h2.1 h2.2 hp.1 hp.2
    have := ih (by simpa [okZ, inr] using h3)
    have e : dotZ (x :: z) t = x.1 * pwr x.2 t + dotZ z t := by simp [dotZ]
    rw [e, List.length_cons]
    omega
@[simp] theorem esOk_encPPs (l : List (List Pw)) : esOk (0 + 1) (encPPs l) := by
  unfold esOk
  rw [List.all_eq_true]
  intro v hv
  obtain ⟨x, _, rfl⟩ := List.mem_map.1 hv
  rfl
attribute [local irreducible] thenQ blockQ loopQ bodyQ Ev EvOps CallEv FnEv EvD
theorem rck_fun (z : List (Int × List Pw)) (m : List Pw) (hz : z.length ≤ 8) (hs : SmT (z.map (·.2) ++ [m])) : Fun C 14 [.snap false (encPPs (z.map (·.2))), .snap false (encPs m), .snap false (encIs (z.map (·.1)))] (.bool (ckR z m)) := by
  have hel : (encPPs (z.map (·.2))).length = z.length := by simp
  have hei : (encIs (z.map (·.1))).length = z.length := by simp
  have hsm := hs.1 m (by simp)
  have hsz : ∀ p ∈ z, (∀ q ∈ p.2, bulk q.1 < 100000000) ∧ p.2.length ≤ 200 := fun p hp => hs.1 p.2 (by simp; exact .inl ⟨p.1, hp⟩)
  have hvm := rpvalid_fun m hsm.1 (by omega)
  have hfa := facs_fun _ hs
  refine Fun.x T6 Tryz.func14 rfl ?_
  (repeat' (first | (refine Rn.go ?_; conv => whnf) | refine .mk ?_ | refine .tt ?_ | refine .ff ?_ | refine .m2 ?_ | refine .m3 ?_ | refine .mk (fun hc => ?_) (fun hc => ?_) | refine .lp (fun v H lp => ?_) | fail))
  refine .p hvm ?_
  (repeat' (first | (refine Rn.go ?_; conv => whnf) | refine .mk ?_ | refine .tt ?_ | refine .ff ?_ | refine .m2 ?_ | refine .m3 ?_ | refine .mk (fun hc => ?_) (fun hc => ?_) | refine .lp (fun v H lp => ?_) | fail))
  rotate_left
  · exact ⟨_, rfl, by simp [ckR, hc, tupOf]⟩
  have vm := hc
  clear hc
  refine LpX.zip T6 z (fun p q L H => L = [(0, .snap false (encPPs (z.map (·.2)))), (1, .snap false (encPs m)), (2, .snap false (encIs (z.map (·.1)))), (7, .int .i64 p.length)] ∧ H = [] ∧ okZ p = true) (.nx ⟨rfl, rfl, rfl⟩) ?_ ?_
  · rintro p ⟨c, x⟩ q _ _ ρ e ⟨rfl, rfl, hp⟩
    have hat := at_encPPs (l := z.map (·.2)) (p := p.map (·.2)) (x := x) (q := q.map (·.2)) (by rw [e]; simp)
    have hat2 := at_encIs (l := z.map (·.1)) (p := p.map (·.1)) (x := c) (q := q.map (·.1)) (by rw [e]; simp)
    rw [List.length_map] at hat hat2
    have hl2 := congrArg List.length e
    simp only [List.length_append, List.length_cons] at hl2
    have hx := hsz (c, x) (by rw [e]; simp)
    have hvx := rpvalid_fun x hx.1 (by have := hx.2; dsimp only at this; omega)
    have hmem : (c, x) ∈ z := by rw [e]; simp
    have bad : (validP x ≠ 0 ∨ c < -35184372088832 ∨ 35184372088832 < c) → ckR z m = false := fun hh => by
      have : okZ z = false := by
        rw [okZ, List.all_eq_false]
        exact ⟨_, hmem, by simp [inr]; omega⟩
      simp [ckR, this]
    (repeat' (first | (refine Rn.go ?_; conv => whnf) | refine .mk ?_ | refine .tt ?_ | refine .ff ?_ | refine .m2 ?_ | refine .m3 ?_ | refine .mk (fun hc => ?_) (fun hc => ?_) | refine .lp (fun v H lp => ?_) | fail))
    refine .p hvx ?_
    (repeat' (first | (refine Rn.go ?_; conv => whnf) | refine .mk ?_ | refine .tt ?_ | refine .ff ?_ | refine .m2 ?_ | refine .m3 ?_ | refine .mk (fun hc => ?_) (fun hc => ?_) | refine .lp (fun v H lp => ?_) | fail))
    · exact ⟨_, rfl, by rw [bad (.inr (.inl hc))]; simp [tupOf]⟩
    · exact ⟨_, rfl, by rw [bad (.inr (.inr hc))]; simp [tupOf]⟩
    · refine .nx ⟨rfl, rfl, ?_⟩
      simp only [okZ, inr, List.all_append, List.all_cons, List.all_nil, Bool.and_eq_true, decide_eq_true_eq] at hp ⊢
      exact ⟨hp, ⟨⟨by assumption, by omega⟩, trivial⟩⟩
    · exact ⟨_, rfl, by rw [bad (.inl hc)]; simp [tupOf]⟩
  · rintro _ _ ρ ⟨rfl, rfl, hok⟩
    have bm := validP_zero vm
    have hap : encPPs (z.map (·.2)) ++ [.snap false (encPs m)] = encPPs (z.map (·.2) ++ [m]) := by simp [encPPs]
    (repeat' (first | (refine Rn.go ?_; conv => whnf) | refine .mk ?_ | refine .tt ?_ | refine .ff ?_ | refine .m2 ?_ | refine .m3 ?_ | refine .mk (fun hc => ?_) (fun hc => ?_) | refine .lp (fun v H lp => ?_) | fail))
    have lo := lp.out
    have hH := lp.hv
    have hll : (([] : List PV) ++ encPPs (z.map (·.2))).length = z.length := by simp
    clear lp
    (repeat' (first | (refine Rn.go ?_; conv => whnf) | refine .mk ?_ | refine .tt ?_ | refine .ff ?_ | refine .m2 ?_ | refine .m3 ?_ | refine .mk (fun hc => ?_) (fun hc => ?_) | refine .lp (fun v H lp => ?_) | fail))
    have lo2 := lp.out
    have hH2 := lp.hv
    rw [List.nil_append, hap] at lo2
    clear lp
    refine .pl (.inl lo2) hfa (fun h' fz => ?_)
    (repeat' (first | (refine Rn.go ?_; conv => whnf) | refine .mk ?_ | refine .tt ?_ | refine .ff ?_ | refine .m2 ?_ | refine .m3 ?_ | refine .mk (fun hc => ?_) (fun hc => ?_) | refine .lp (fun v H lp => ?_) | fail))
    have hH3 := fz.hv hH2 (by simp)
    clear fz lo lo2 hfa
    have hbF : ∀ t ∈ facs (z.map (·.2) ++ [m]), bulk t < 100000000 := fun t ht => by
      rcases accs_mem (ts := allT (z.map (·.2) ++ [m])) (a := []) ht with h | h
      · simp only [allT, List.mem_flatMap, List.mem_map] at h
        obtain ⟨x, hx, p, hp, rfl⟩ := h
        exact (hs.1 x hx).1 p hp
      · cases h
    have hlF : (facs (z.map (·.2) ++ [m])).length < 100000 := by
      have h1 := accs_len (allT (z.map (·.2) ++ [m])) []
      have h2 := allT_le (l := z.map (·.2) ++ [m]) fun x hx => (hs.1 x hx).2
      simp only [List.length_append, List.length_map, List.length_cons, List.length_nil] at h2 h1
      have h3 : facs (z.map (·.2) ++ [m]) = accs (allT (z.map (·.2) ++ [m])) [] := rfl
      rw [h3]; omega
    have hck : ckR z m = (facs (z.map (·.2) ++ [m])).all fun t => decide (dotZ z t = pwr m t) := by simp [ckR, vm, hok]
    rw [hck]
    clear hck
    generalize facs (z.map (·.2) ++ [m]) = F at *
    have heF : (encs F).length = F.length := by simp
    refine LpX.zip T6 F (fun p q L H => L = [(0, .snap false (encPPs (z.map (·.2)))), (1, .snap false (encPs m)), (2, .snap false (encIs (z.map (·.1)))), (8, .snap false (encs F)), (9, .int .i64 p.length)] ∧ HV H ∧ (p.all fun t => decide (dotZ z t = pwr m t)) = true) (.nx ⟨rfl, hH3, rfl⟩) ?_ ?_
    · rintro p t q _ h ρ e ⟨rfl, hH, hp⟩
      have hat := at_encs e
      have hl2 := congrArg List.length e
      simp only [List.length_append, List.length_cons] at hl2
      have ht := hbF t (by rw [e]; simp)
      have hpm := rpower_fun m t ⟨fun p hp => Nat.lt_trans (hsm.1 p hp) (by decide), by have := hsm.2; omega⟩ (by omega)
      rw [enc_x] at hpm
      (repeat' (first | (refine Rn.go ?_; conv => whnf) | refine .mk ?_ | refine .tt ?_ | refine .ff ?_ | refine .m2 ?_ | refine .m3 ?_ | refine .mk (fun hc => ?_) (fun hc => ?_) | refine .lp (fun v H lp => ?_) | fail))
      refine LpX.zip T6 z (fun p2 q2 L H => L = [(0, .snap false (encPPs (z.map (·.2)))), (1, .snap false (encPs m)), (2, .snap false (encIs (z.map (·.1)))), (8, .snap false (encs F)), (9, .int .i64 p.length), (10, .int .i64 (dotZ p2 t)), (11, .int .i64 p2.length)] ∧ HV H) (.nx ⟨rfl, by assumption⟩) ?_ ?_
      · rintro p2 ⟨c, x⟩ q2 _ h ρ e2 ⟨rfl, hH⟩
        have hat1 := at_encPPs (l := z.map (·.2)) (p := p2.map (·.2)) (x := x) (q := q2.map (·.2)) (by rw [e2]; simp)
        have hat2 := at_encIs (l := z.map (·.1)) (p := p2.map (·.1)) (x := c) (q := q2.map (·.1)) (by rw [e2]; simp)
        rw [List.length_map] at hat1 hat2
        have hl3 := congrArg List.length e2
        simp only [List.length_append, List.length_cons] at hl3
        have hx := hsz (c, x) (by rw [e2]; simp)
        have hpx := rpower_fun x t ⟨fun p hp => Nat.lt_trans (hx.1 p hp) (by decide), by have := hx.2; dsimp only at this; omega⟩ (by omega)
        rw [enc_x] at hpx
        have hsn := dotZ_snoc p2 (c, x) t
        have hok2 : okZ p2 = true ∧ validP x = 0 ∧ inr c = true := by
          have h1 := hok
          rw [e2] at h1
          simp only [okZ, List.all_append, List.all_cons, Bool.and_eq_true, decide_eq_true_eq] at h1 ⊢
          exact ⟨h1.1, h1.2.1⟩
        obtain ⟨k1, k2, k3⟩ := hok2
        obtain ⟨_, hb, _⟩ := validP_zero k2
        have b1 := pwr_bd (by omega) hb t
        simp only [inr, decide_eq_true_eq] at k3
        have b2 := mul_bd k3.1 k3.2 b1.1 b1.2
        have b3 := dotZ_bd k1 t
        dsimp only at hsn
        (repeat' (first | (refine Rn.go ?_; conv => whnf) | refine .mk ?_ | refine .tt ?_ | refine .ff ?_ | refine .m2 ?_ | refine .m3 ?_ | refine .mk (fun hc => ?_) (fun hc => ?_) | refine .lp (fun v H lp => ?_) | fail))
        refine .p hpx ?_
        (repeat' (first | (refine Rn.go ?_; conv => whnf) | refine .mk ?_ | refine .tt ?_ | refine .ff ?_ | refine .m2 ?_ | refine .m3 ?_ | refine .mk (fun hc => ?_) (fun hc => ?_) | refine .lp (fun v H lp => ?_) | fail))
        exact .nx ⟨by rw [hsn], by assumption⟩
      · rintro _ h ρ ⟨rfl, hH⟩
        have b3 := dotZ_bd hok t
        (repeat' (first | (refine Rn.go ?_; conv => whnf) | refine .mk ?_ | refine .tt ?_ | refine .ff ?_ | refine .m2 ?_ | refine .m3 ?_ | refine .mk (fun hc => ?_) (fun hc => ?_) | refine .lp (fun v H lp => ?_) | fail))
        refine .p hpm ?_
        (repeat' (first | (refine Rn.go ?_; conv => whnf) | refine .mk ?_ | refine .tt ?_ | refine .ff ?_ | refine .m2 ?_ | refine .m3 ?_ | refine .mk (fun hc => ?_) (fun hc => ?_) | refine .lp (fun v H lp => ?_) | fail))
        · exact .nx ⟨rfl, hH, by rw [List.all_append, hp]; simp [hc]⟩
        · exact ⟨_, rfl, by rw [show (F.all fun t => decide (dotZ z t = pwr m t)) = false by rw [e, List.all_append]; simp [hc]]; simp [tupOf]⟩
    · rintro _ h ρ ⟨rfl, hH, hp⟩
      (repeat' (first | (refine Rn.go ?_; conv => whnf) | refine .mk ?_ | refine .tt ?_ | refine .ff ?_ | refine .m2 ?_ | refine .m3 ?_ | refine .mk (fun hc => ?_) (fun hc => ?_) | refine .lp (fun v H lp => ?_) | fail))
      exact ⟨_, rfl, by rw [hp]; simp [tupOf]⟩
theorem rck_ne (l : List (List Pw)) (m : List Pw) (c : List Int) (hl : l.length < 1000000) (hcl : c.length < 1000000) (hsm : (∀ p ∈ m, bulk p.1 < 100000000) ∧ m.length ≤ 200) (hne : c.length ≠ l.length) : Fun C 14 [.snap false (encPPs l), .snap false (encPs m), .snap false (encIs c)] (.bool false) := by
  have hel : (encPPs l).length = l.length := by simp
  have hei : (encIs c).length = c.length := by simp
  have hvm := rpvalid_fun m hsm.1 (by omega)
  refine Fun.x T6 Tryz.func14 rfl ?_
  (repeat' (first | (refine Rn.go ?_; conv => whnf) | refine .mk ?_ | refine .tt ?_ | refine .ff ?_ | refine .m2 ?_ | refine .m3 ?_ | refine .mk (fun hc => ?_) (fun hc => ?_) | refine .lp (fun v H lp => ?_) | fail))
  refine .p hvm ?_
  (repeat' (first | (refine Rn.go ?_; conv => whnf) | refine .mk ?_ | refine .tt ?_ | refine .ff ?_ | refine .m2 ?_ | refine .m3 ?_ | refine .mk (fun hc => ?_) (fun hc => ?_) | refine .lp (fun v H lp => ?_) | fail))
  all_goals first | exact ⟨_, rfl, rfl⟩ | (exfalso; omega)
end Go.Pm
end

/-
  CHAPTER 6, PART 62: sorted lists of terms without repeats. Conditions: none.
-/
section
set_option linter.unusedVariables false
set_option linter.unusedSimpArgs false
set_option linter.unusedVariables false
set_option linter.unusedSimpArgs false
set_option maxRecDepth 4000
namespace Go.Pm
open Go.Proofs
def SrtT (l : List Tm) : Prop := l.Pairwise fun p q => cmpT p q < 0
theorem addT_in (t : Tm) : ∀ (l : List Tm) (y : Tm), y ∈ addT t l ↔ y = t ∨ y ∈ l
  | [], y => by simp [addT]
  | x :: r, y => by
    unfold addT
    by_cases h1 : cmpT t x ≤ 0
    · rw [if_pos h1]
      by_cases h2 : cmpT t x < 0
      · rw [if_pos h2]; simp
      · rw [if_neg h2]
        obtain rfl := cmpT_zero (t := t) (t' := x) (by omega)
        simp
    · rw [if_neg h1, List.mem_cons, addT_in t r y, List.mem_cons]
      constructor
      · rintro (h | h | h)
        · exact .inr (.inl h)
        · exact .inl h
        · exact .inr (.inr h)
      · rintro (h | h | h)
        · exact .inr (.inl h)
        · exact .inl h
        · exact .inr (.inr h)
theorem addT_srt {t : Tm} : ∀ {l : List Tm}, SrtT l → SrtT (addT t l)
  | [], _ => by simp [addT, SrtT]
  | x :: r, h => by
    have hp := List.pairwise_cons.1 h
    unfold addT
    by_cases h1 : cmpT t x ≤ 0
    · rw [if_pos h1]
      by_cases h2 : cmpT t x < 0
      · rw [if_pos h2]
        refine List.pairwise_cons.2 ⟨fun y hy => ?_, h⟩
        rcases List.mem_cons.1 hy with rfl | hy
        · exact h2
        · exact cmpT_trans h2 (hp.1 y hy)
      · rw [if_neg h2]; exact h
    · rw [if_neg h1]
      refine List.pairwise_cons.2 ⟨fun y hy => ?_, addT_srt hp.2⟩
      rcases (addT_in t r y).1 hy with rfl | hy
      · have := cmpT_neg y x; omega
      · exact hp.1 y hy
theorem accs_srt : ∀ {ts a : List Tm}, SrtT a → SrtT (accs ts a)
  | [], a, h => h
  | t :: ts, a, h => accs_srt (ts := ts) (addT_srt (t := t) h)
theorem accs_in : ∀ (ts a : List Tm) (y : Tm), y ∈ accs ts a ↔ y ∈ ts ∨ y ∈ a
  | [], a, y => by simp [accs]
  | t :: ts, a, y => by
    have := accs_in ts (addT t a) y
    rw [show accs (t :: ts) a = accs ts (addT t a) from rfl, this, addT_in, List.mem_cons]
    constructor
    · rintro (h | h | h)
      · exact .inl (.inr h)
      · exact .inl (.inl h)
      · exact .inr h
    · rintro ((h | h) | h)
      · exact .inr (.inl h)
      · exact .inl h
      · exact .inr (.inr h)
/-- two sorted lists with the same members are one -/
theorem srt_ext : ∀ {a b : List Tm}, SrtT a → SrtT b → (∀ y, y ∈ a ↔ y ∈ b) → a = b
  | [], [], _, _, _ => rfl
  | [], y :: b, _, _, h => by have := (h y).2 (by simp); cases this
  | x :: a, [], _, _, h => by have := (h x).1 (by simp); cases this
  | x :: a, y :: b, ha, hb, h => by
    have pa := List.pairwise_cons.1 ha
    have pb := List.pairwise_cons.1 hb
    have irr : ∀ {u : Tm}, ¬ cmpT u u < 0 := fun {u} hh => by rw [cmpT_self] at hh; omega
    have hxy : x = y := by
      rcases List.mem_cons.1 ((h x).1 (by simp)) with e | hx
      · exact e
      · rcases List.mem_cons.1 ((h y).2 (by simp)) with e | hy
        · exact e.symm
        · exact (irr (cmpT_trans (pb.1 x hx) (pa.1 y hy))).elim
    subst hxy
    have : a = b := srt_ext pa.2 pb.2 fun z => by
      constructor
      · intro hz
        rcases List.mem_cons.1 ((h z).1 (by simp [hz])) with rfl | h1
        · exact (irr (pa.1 z hz)).elim
        · exact h1
      · intro hz
        rcases List.mem_cons.1 ((h z).2 (by simp [hz])) with rfl | h1
        · exact (irr (pb.1 z hz)).elim
        · exact h1
    rw [this]
theorem facs_srt (l : List (List Pw)) : SrtT (facs l) := accs_srt (ts := allT l) (a := []) (by simp [SrtT])
theorem facs_in (l : List (List Pw)) (y : Tm) : y ∈ facs l ↔ y ∈ allT l := by
  have := accs_in (allT l) [] y
  simpa [accs, facs] using this
end Go.Pm
end

/-
  CHAPTER 6, PART 68: slices.CompactFunc over terms: each term that is like the one before it is left out. Conditions: none.
-/
section
set_option linter.unusedVariables false
set_option linter.unusedSimpArgs false
set_option linter.unusedVariables false
set_option linter.unusedSimpArgs false
set_option maxRecDepth 4000
namespace Go.Pm
open Go.Proofs
/-- what is left behind a term -/
def ddp (p : Tm) : List Tm → List Tm
  | [] => []
  | a :: r => if cmpT a p = 0 then ddp a r else a :: ddp a r
def dd : List Tm → List Tm
  | [] => []
  | x :: r => x :: ddp x r
theorem ddp_len (p : Tm) : ∀ l : List Tm, (ddp p l).length ≤ l.length
  | [] => by simp [ddp]
  | a :: r => by
    have := ddp_len a r
    unfold ddp
    split <;> simp <;> omega
theorem dd_len : ∀ l : List Tm, (dd l).length ≤ l.length
  | [] => by simp [dd]
  | a :: r => by have := ddp_len a r; simp [dd]; omega
theorem nth_enc {l : List Tm} {i : Nat} {t : Tm} (h : l[i]? = some t) : (encs l)[i]? = some (.agg [.int .i64 t.k, .str t.s, .int .i64 t.o, .snap false (encs t.l)]) := by rw [encs_eq, List.getElem?_map, h, ← enc_x]; rfl
theorem set_encs {l : List Tm} {i : Nat} {t : Tm} : (encs l).set i (enc t) = encs (l.set i t) := by rw [encs_eq, encs_eq, List.map_set]
theorem nth_at {α : Type} {L A B : List α} {x : α} {i : Nat} (e : L = A ++ x :: B) (hi : i = A.length) : L[i]? = some x := by subst e hi; simp
theorem list_set_self {α : Type} {l : List α} {i : Nat} {x : α} (h : l[i]? = some x) : l.set i x = l := by
  obtain ⟨h1, rfl⟩ := List.getElem?_eq_some_iff.1 h
  exact List.set_getElem_self h1
section
variable {C : Cfg} (T : Tab C.P) {h : AHeap}
theorem slice_lo {t el : TypeId} {sz id ep len n : Nat} {k : IntKind} {es : List PV} (hk : T.kd t = some (.sl el)) (hs : T.ts el = some sz) (e : h[id]? = some ⟨.m, ep, sz, es⟩) (hl : len ≤ es.length) (h0 : 0 < n) (hn : n < len) :
    sliceP C.P h t (.mref id ep 0 len) (some (.int k n)) none none = some (.mref id ep (0 + n) (len - n)) := by
  have hg : getM h id ep = some ⟨.m, ep, sz, es⟩ := getM_at e rfl (by simp)
  simp only [sliceP, kd_sl (T.hkd _ _ hk), T.hts _ _ hs, hg]
  rw [if_pos ⟨trivial, by show 0 + len ≤ es.length; omega⟩]
  have hb : beyond none none len (es.length - 0) = none := rfl
  simp only [beyond, boundP]
  rw [if_pos (by omega)]
  simp only [Int.toNat_natCast]
  rw [if_pos (by rfl), if_neg (by simp), if_neg (by omega), if_neg (by omega)]
theorem slice_hi {t el : TypeId} {sz id ep len n : Nat} {k : IntKind} {es : List PV} (hk : T.kd t = some (.sl el)) (hs : T.ts el = some sz) (e : h[id]? = some ⟨.m, ep, sz, es⟩) (hl : len ≤ es.length) (hn : n ≤ len) :
    sliceP C.P h t (.mref id ep 0 len) none (some (.int k n)) none = some (.mref id ep 0 n) := by
  have hg : getM h id ep = some ⟨.m, ep, sz, es⟩ := getM_at e rfl (by simp)
  simp only [sliceP, kd_sl (T.hkd _ _ hk), T.hts _ _ hs, hg]
  rw [if_pos ⟨trivial, by show 0 + len ≤ es.length; omega⟩]
  simp only [beyond, boundP]
  rw [if_neg (by omega), if_pos (by omega)]
  simp
theorem clear_at {t el : TypeId} {sz id ep off len : Nat} {z : PV} {es : List PV} (hk : T.kd t = some (.sl el)) (hs : T.ts el = some sz) (hz : T.tz el = some z) (e : h[id]? = some ⟨.m, ep, sz, es⟩) (hl : off + len ≤ es.length) (hc : (cells z).length = sz) (ho : (cells z).all oneC = true) :
    clearP C.P 2 h t (.mref id ep off len) = some (.tup [], h.set id ⟨.m, ep, sz, es.take off ++ List.replicate len z ++ es.drop (off + len)⟩) := by
  have hg : getM h id ep = some ⟨.m, ep, sz, es⟩ := getM_at e rfl (by simp)
  simp only [clearP, kd_sl (T.hkd _ _ hk), T.hts _ _ hs, T.htz _ _ hz, hg]
  rw [if_pos ⟨by omega, trivial, trivial, hl, hc, ho⟩]
theorem OtherR.sl {L : Al} {t : TypeId} {x lo : Operand} {v u w : PV} {K : PV → Prop} (hx : evL L x = some v) (hl : evL L lo = some u) (hs : sliceP C.P h t v (some u) none none = some w) (kk : Rn (K w)) : OtherR C (.slice t x (some lo) none none) L h K :=
  .mk (fun run lv ρ => by simp only [opVal, stepOp, evL_ev hx, evL_ev hl, Option.map_some, Option.map_none, hs]) kk
theorem OtherR.sh {L : Al} {t : TypeId} {x hi : Operand} {v u w : PV} {K : PV → Prop} (hx : evL L x = some v) (hl : evL L hi = some u) (hs : sliceP C.P h t v none (some u) none = some w) (kk : Rn (K w)) : OtherR C (.slice t x none (some hi) none) L h K :=
  .mk (fun run lv ρ => by simp only [opVal, stepOp, evL_ev hx, evL_ev hl, Option.map_some, Option.map_none, hs]) kk
theorem OpqX.clr {L : Al} {t : TypeId} {x : Operand} {v : PV} {h' : AHeap} {K : PV → AHeap → Prop} (hx : evL L x = some v) (hs : clearP C.P 2 h t v = some (.tup [], h')) (kk : Rn (K (.tup []) h')) : OpqX C (.call ⟨.builtin .clear, #[x], #[t]⟩) L h K :=
  .mk (fun run ρ => by simp only [opVal, builtinP, List.map_cons, List.map_nil, evL_ev hx, hs]) kk
end
attribute [local irreducible] thenQ blockQ loopQ bodyQ Ev EvOps CallEv FnEv EvD
theorem col1_fun (a b : Tm) (ha : bulk a < 1000000000) (hb : bulk b < 1000000000) : Fun C 87 [enc a, enc b] (.bool (decide (cmpT a b = 0))) := by
  have h1 := tcmp_fun a b ha hb
  rw [enc_x, enc_x] at h1 ⊢
  refine Fun.x T6 Tryz.func87 rfl ?_
  (repeat' (first | (refine Rn.go ?_; conv => whnf) | refine .mk ?_ | refine .tt ?_ | refine .ff ?_ | refine .m2 ?_ | refine .m3 ?_ | refine .mk (fun hc => ?_) (fun hc => ?_) | refine .lp (fun v H lp => ?_) | fail))
  refine .p h1 ?_
  (repeat' (first | (refine Rn.go ?_; conv => whnf) | refine .mk ?_ | refine .tt ?_ | refine .ff ?_ | refine .m2 ?_ | refine .m3 ?_ | refine .mk (fun hc => ?_) (fun hc => ?_) | refine .lp (fun v H lp => ?_) | fail))
  all_goals exact ⟨_, rfl, by simp [tupOf, *]⟩
theorem compact_nil (H : AHeap) : FnEv C 86 [.snap true [], .fn 87 []] H (fun r h' => r = .snap true [] ∧ h' = H) := by
  refine FnEv.x T6 Tryz.func86 rfl ?_
  (repeat' (first | (refine Rn.go ?_; conv => whnf) | refine .mk ?_ | refine .tt ?_ | refine .ff ?_ | refine .m2 ?_ | refine .m3 ?_ | refine .mk (fun hc => ?_) (fun hc => ?_) | refine .lp (fun v H lp => ?_) | fail))
  exact ⟨rfl, rfl⟩
theorem compact_ev (x : Tm) (l : List Tm) (H : AHeap) (hH : HV H) (id ep : Nat) (e1 : H[id]? = some ⟨.m, ep, 4, encs (x :: l)⟩) (hn : l.length < 100000000) (hb : ∀ t ∈ x :: l, bulk t < 1000000000) :
    FnEv C 86 [.mref id ep 0 (encs (x :: l)).length, .fn 87 []] H
      (fun r h' => r = .mref id ep 0 (dd (x :: l)).length ∧ ∃ tl, isVals tl = true ∧ h' = H.set id ⟨.m, ep, 4, encs (dd (x :: l)) ++ tl⟩) := by
  have hel : (encs (x :: l)).length = l.length + 1 := by rw [encs_len]; rfl
  refine FnEv.x T6 Tryz.func86 rfl ?_
  (repeat' (first | (refine Rn.go ?_; conv => whnf) | refine .mk ?_ | refine .tt ?_ | refine .ff ?_ | refine .m2 ?_ | refine .m3 ?_ | refine .mk (fun hc => ?_) (fun hc => ?_) | refine .lp (fun v H lp => ?_) | fail))
  · obtain rfl : l = [] := List.eq_nil_of_length_eq_zero (by omega)
    exact ⟨rfl, [], rfl, by rw [List.append_nil]; exact (list_set_self e1).symm⟩
  refine LpX.zip T6 l (fun p q L h => h = H ∧ ∃ P' prev, x :: p = P' ++ [prev] ∧ P' ++ prev :: ddp prev q = dd (x :: l) ∧ L = [(0, .mref id ep 0 (encs (x :: l)).length), (1, .fn 87 []), (5, .int .i64 ((p.length + 1 : Nat) : Int))]) (.nx ⟨rfl, [], x, rfl, rfl, rfl⟩) ?_ ?_
  · rintro p a q _ h ρ e ⟨rfl, P', prev, hp, hd, rfl⟩
    have hl2 := congrArg List.length e
    simp only [List.length_append, List.length_cons] at hl2
    have hpl := congrArg List.length hp
    simp only [List.length_append, List.length_cons, List.length_nil] at hpl
    have hat1 : (encs (x :: l))[0 + (p.length + 1)]? = some (.agg [.int .i64 a.k, .str a.s, .int .i64 a.o, .snap false (encs a.l)]) := nth_enc (by rw [e, Nat.zero_add]; simp)
    have hat2 : (encs (x :: l))[0 + (((p.length + 1 : Nat) : Int) - 1).toNat]? = some (.agg [.int .i64 prev.k, .str prev.s, .int .i64 prev.o, .snap false (encs prev.l)]) := nth_enc (by
      rw [show (((p.length + 1 : Nat) : Int) - 1).toNat = p.length by omega, e, ← List.cons_append, hp, Nat.zero_add, List.getElem?_append_left (by simp; omega), List.getElem?_append_right (by omega)]
      simp [show p.length - P'.length = 0 by omega])
    have hq := col1_fun a prev (hb a (by rw [e]; simp)) (hb prev (by rw [e, ← List.cons_append, hp]; simp))
    rw [enc_x, enc_x] at hq
    (repeat' (first | (refine Rn.go ?_; conv => whnf) | refine .mk ?_ | refine .tt ?_ | refine .ff ?_ | refine .m2 ?_ | refine .m3 ?_ | refine .mk (fun hc => ?_) (fun hc => ?_) | refine .lp (fun v H lp => ?_) | fail))
    refine .p hq ?_
    cases hc : decide (cmpT a prev = 0)
    · (repeat' (first | (refine Rn.go ?_; conv => whnf) | refine .mk ?_ | refine .tt ?_ | refine .ff ?_ | refine .m2 ?_ | refine .m3 ?_ | refine .mk (fun hc => ?_) (fun hc => ?_) | refine .lp (fun v H lp => ?_) | fail))
      refine .nx ⟨rfl, P' ++ [prev], a, by rw [← List.cons_append, hp], ?_, rfl⟩
      rw [← hd, ddp, if_neg (by simpa using hc)]
      simp
    · (repeat' (first | (refine Rn.go ?_; conv => whnf) | refine .mk ?_ | refine .tt ?_ | refine .ff ?_ | refine .m2 ?_ | refine .m3 ?_ | refine .mk (fun hc => ?_) (fun hc => ?_) | refine .lp (fun v H lp => ?_) | fail))
      rw [hel] at *
      refine .sl rfl rfl (slice_lo T6 rfl rfl e1 (by rw [encs_len]; simp) (by omega) (by omega)) ?_
      (repeat' (first | (refine Rn.go ?_; conv => whnf) | refine .mk ?_ | refine .tt ?_ | refine .ff ?_ | refine .m2 ?_ | refine .m3 ?_ | refine .mk (fun hc => ?_) (fun hc => ?_) | refine .lp (fun v H lp => ?_) | fail))
      refine LpX.zip T6 q (fun p2 q2 L h' => ∃ R M0 pr, bulk pr < 1000000000 ∧ R.length + M0.length = p.length + 1 + p2.length ∧ R ++ ddp pr q2 = dd (x :: l) ∧ h' = h.set id ⟨.m, ep, 4, encs (R ++ (M0 ++ [pr] ++ q2))⟩ ∧
        L = [(0, .mref id ep 0 (l.length + 1)), (1, .fn 87 []), (5, .int .i64 (R.length : Int)), (6, .mref id ep (0 + (p.length + 1)) (l.length + 1 - (p.length + 1))), (7, .int .i64 ((p2.length + 1 : Nat) : Int))]) (.nx ⟨P' ++ [prev], [], a, hb a (by rw [e]; simp), by simp only [List.length_append, List.length_cons, List.length_nil]; omega, ?_, ?_, rfl⟩) ?_ ?_
      · rw [← hd, ddp, if_pos (by simpa using hc)]; simp
      · rw [list_set_self]; rw [e1, e, ← List.cons_append, hp]; simp
      · rintro p2 b q2 _ _ ρ2 e2 ⟨R, M0, pr, hpb, hl3, hd2, rfl, rfl⟩
        have hl4 := congrArg List.length e2
        simp only [List.length_append, List.length_cons] at hl4
        have e1' : (h.set id ⟨.m, ep, 4, encs (R ++ (M0 ++ [pr] ++ b :: q2))⟩)[id]? = some ⟨.m, ep, 4, encs (R ++ (M0 ++ [pr] ++ b :: q2))⟩ := List.getElem?_set_self (lt_of_some e1)
        have hH' : HV (h.set id ⟨.m, ep, 4, encs (R ++ (M0 ++ [pr] ++ b :: q2))⟩) := hH.set id (by simp) (by simp)
        have hn2 : (encs (R ++ (M0 ++ [pr] ++ b :: q2))).length = l.length + 1 := by rw [encs_len]; simp; omega
        have hat3 : (encs (R ++ (M0 ++ [pr] ++ b :: q2)))[0 + (p.length + 1) + (p2.length + 1)]? = some (.agg [.int .i64 b.k, .str b.s, .int .i64 b.o, .snap false (encs b.l)]) := nth_enc (nth_at (A := R ++ M0 ++ [pr]) (B := q2) (by simp) (by simp; omega))
        have hat4 : (encs (R ++ (M0 ++ [pr] ++ b :: q2)))[0 + (p.length + 1) + (((p2.length + 1 : Nat) : Int) - 1).toNat]? = some (.agg [.int .i64 pr.k, .str pr.s, .int .i64 pr.o, .snap false (encs pr.l)]) := nth_enc (nth_at (A := R ++ M0) (B := b :: q2) (by simp) (by simp; omega))
        have hq2 := col1_fun b pr (hb b (by rw [e, e2]; simp)) hpb
        rw [enc_x, enc_x] at hq2
        obtain ⟨m, M1, hM⟩ : ∃ m M1, M0 ++ [pr] = m :: M1 := by cases M0 with | nil => exact ⟨_, _, rfl⟩ | cons m M => exact ⟨m, M ++ [pr], rfl⟩
        have hM1 := congrArg List.length hM
        simp only [List.length_append, List.length_cons, List.length_nil] at hM1
        have hat5 : (encs (R ++ (M0 ++ [pr] ++ b :: q2)))[0 + R.length]? = some (.agg [.int .i64 m.k, .str m.s, .int .i64 m.o, .snap false (encs m.l)]) := nth_enc (nth_at (A := R) (B := M1 ++ b :: q2) (by rw [hM]; simp) (by omega))
        have hset : (encs (R ++ (M0 ++ [pr] ++ b :: q2))).set (0 + R.length) (.agg [.int .i64 b.k, .str b.s, .int .i64 b.o, .snap false (encs b.l)]) = encs ((R ++ [b]) ++ (M1 ++ [b] ++ q2)) := by
          rw [← enc_x, set_encs, hM, Nat.zero_add]; simp
        clear hq hat1 hat2
        (repeat' (first | (refine Rn.go ?_; conv => whnf) | refine .mk ?_ | refine .tt ?_ | refine .ff ?_ | refine .m2 ?_ | refine .m3 ?_ | refine .mk (fun hc => ?_) (fun hc => ?_) | refine .lp (fun v H lp => ?_) | fail))
        refine .p hq2 ?_
        cases hc2 : decide (cmpT b pr = 0)
        · (repeat' (first | (refine Rn.go ?_; conv => whnf) | refine .mk ?_ | refine .tt ?_ | refine .ff ?_ | refine .m2 ?_ | refine .m3 ?_ | refine .mk (fun hc => ?_) (fun hc => ?_) | refine .lp (fun v H lp => ?_) | fail))
          rw [hset, List.set_set]
          refine .nx ⟨R ++ [b], M1, b, hb b (by rw [e, e2]; simp), by simp; omega, ?_, rfl, rfl⟩
          rw [← hd2, ddp, if_neg (by simpa using hc2)]; simp
        · (repeat' (first | (refine Rn.go ?_; conv => whnf) | refine .mk ?_ | refine .tt ?_ | refine .ff ?_ | refine .m2 ?_ | refine .m3 ?_ | refine .mk (fun hc => ?_) (fun hc => ?_) | refine .lp (fun v H lp => ?_) | fail))
          refine .nx ⟨R, M0 ++ [pr], b, hb b (by rw [e, e2]; simp), by simp; omega, ?_, by simp, rfl⟩
          rw [← hd2, ddp, if_pos (by simpa using hc2)]
      · rintro _ _ ρ2 ⟨R, M0, pr, hpb, hl3, hd2, rfl, rfl⟩
        have e1' : (h.set id ⟨.m, ep, 4, encs (R ++ (M0 ++ [pr] ++ []))⟩)[id]? = some ⟨.m, ep, 4, encs (R ++ (M0 ++ [pr] ++ []))⟩ := List.getElem?_set_self (lt_of_some e1)
        have hH' : HV (h.set id ⟨.m, ep, 4, encs (R ++ (M0 ++ [pr] ++ []))⟩) := hH.set id (by simp) (by simp)
        have hn2 : (encs (R ++ (M0 ++ [pr] ++ []))).length = l.length + 1 := by rw [encs_len]; simp; omega
        rw [ddp, List.append_nil] at hd2
        subst hd2
        (repeat' (first | (refine Rn.go ?_; conv => whnf) | refine .mk ?_ | refine .tt ?_ | refine .ff ?_ | refine .m2 ?_ | refine .m3 ?_ | refine .mk (fun hc => ?_) (fun hc => ?_) | refine .lp (fun v H lp => ?_) | fail))
        refine .sl rfl rfl (slice_lo T6 rfl rfl e1' (by omega) ?_ (by omega)) ?_
        · simp [dd]
        (repeat' (first | (refine Rn.go ?_; conv => whnf) | refine .mk ?_ | refine .tt ?_ | refine .ff ?_ | refine .m2 ?_ | refine .m3 ?_ | refine .mk (fun hc => ?_) (fun hc => ?_) | refine .lp (fun v H lp => ?_) | fail))
        refine .clr rfl (clear_at T6 rfl rfl rfl e1' (by omega) rfl rfl) ?_
        have hfin : List.take (0 + (dd (x :: l)).length) (encs (dd (x :: l) ++ (M0 ++ [pr] ++ []))) = encs (dd (x :: l)) := by rw [encs_eq, encs_eq, Nat.zero_add, List.map_append, List.take_left' (by simp)]
        have hdr : List.drop (0 + (dd (x :: l)).length + (l.length + 1 - (dd (x :: l)).length)) (encs (dd (x :: l) ++ (M0 ++ [pr] ++ []))) = [] := List.drop_eq_nil_of_le (by omega)
        rw [hfin, hdr, List.set_set]
        obtain ⟨tl, htl, hlt, hvt⟩ : ∃ tl : List PV, tl = List.replicate (l.length + 1 - (dd (x :: l)).length) (.agg [.int .i64 0, .str ByteArray.empty, .int .i64 0, .snap true []]) ∧ tl.length = l.length + 1 - (dd (x :: l)).length ∧ isVals tl = true :=
          ⟨_, rfl, by simp, by rw [isVals_eq, List.all_eq_true]; intro y hy; rw [List.eq_of_mem_replicate hy]; rfl⟩
        have e3 : (h.set id ⟨.m, ep, 4, encs (dd (x :: l)) ++ tl⟩)[id]? = some ⟨.m, ep, 4, encs (dd (x :: l)) ++ tl⟩ := List.getElem?_set_self (lt_of_some e1)
        rw [← htl, List.append_nil]
        (repeat' (first | (refine Rn.go ?_; conv => whnf) | refine .mk ?_ | refine .tt ?_ | refine .ff ?_ | refine .m2 ?_ | refine .m3 ?_ | refine .mk (fun hc => ?_) (fun hc => ?_) | refine .lp (fun v H lp => ?_) | fail))
        refine .sh rfl rfl (slice_hi T6 rfl rfl e3 (by rw [List.length_append, encs_len, hlt]; have := dd_len (x :: l); simp at this; omega) (by omega)) ?_
        (repeat' (first | (refine Rn.go ?_; conv => whnf) | refine .mk ?_ | refine .tt ?_ | refine .ff ?_ | refine .m2 ?_ | refine .m3 ?_ | refine .mk (fun hc => ?_) (fun hc => ?_) | refine .lp (fun v H lp => ?_) | fail))
        exact ⟨rfl, tl, hvt, rfl⟩
  · rintro _ h ρ ⟨rfl, P', prev, hp, hd, rfl⟩
    have hdd : encs (dd (x :: l)) = encs (x :: l) := by rw [← hd, hp, ddp]
    (repeat' (first | (refine Rn.go ?_; conv => whnf) | refine .mk ?_ | refine .tt ?_ | refine .ff ?_ | refine .m2 ?_ | refine .m3 ?_ | refine .mk (fun hc => ?_) (fun hc => ?_) | refine .lp (fun v H lp => ?_) | fail))
    exact ⟨congrArg (PV.mref id ep 0) (by rw [← hdd, encs_len]), [], rfl, by rw [hdd, List.append_nil]; exact (list_set_self e1).symm⟩
end Go.Pm
end

/-
  CHAPTER 6, PART 70: the program's columns: the terms of products, ascending. Conditions: none.
-/
section
set_option linter.unusedVariables false
set_option linter.unusedSimpArgs false
set_option linter.unusedVariables false
set_option linter.unusedSimpArgs false
set_option maxRecDepth 4000
namespace Go.Pm
open Go.Proofs
theorem ddp_in : ∀ (l : List Tm) (p y : Tm), y ∈ p :: ddp p l ↔ y ∈ p :: l
  | [], p, y => by simp [ddp]
  | a :: r, p, y => by
    have ih := ddp_in r a y
    unfold ddp
    split
    · rename_i h
      obtain rfl := cmpT_zero h
      rw [ih]; simp
    · rw [List.mem_cons, ih, List.mem_cons (b := p)]
theorem ddp_srt : ∀ (l : List Tm) (p : Tm), ((p :: l).Pairwise fun x y => cmpT x y ≤ 0) → SrtT (p :: ddp p l)
  | [], p, _ => by simp [ddp, SrtT]
  | a :: r, p, h => by
    have h2 := List.pairwise_cons.1 h
    have ih := ddp_srt r a h2.2
    unfold ddp
    split
    · rename_i hc
      obtain rfl := cmpT_zero hc
      exact ih
    · rename_i hc
      have hp := h2.1 a (by simp)
      have ng := cmpT_neg p a
      refine List.pairwise_cons.2 ⟨fun y hy => ?_, ih⟩
      rcases List.mem_cons.1 hy with rfl | hy
      · omega
      · exact cmpT_trans (show cmpT p a < 0 by omega) ((List.pairwise_cons.1 ih).1 y hy)
theorem dd_in (l : List Tm) (y : Tm) : y ∈ dd l ↔ y ∈ l := by
  cases l with
  | nil => simp [dd]
  | cons x r => exact ddp_in r x y
theorem dd_srt {l : List Tm} (h : l.Pairwise fun x y => cmpT x y ≤ 0) : SrtT (dd l) := by
  cases l with
  | nil => simp [dd, SrtT]
  | cons x r => exact ddp_srt r x h
theorem dd_facs (l : List (List Pw)) : dd (sortT (allT l)) = facs l :=
  srt_ext (dd_srt (sortT_srt _)) (facs_srt l) (fun y => by rw [dd_in, facs_in]; exact (sortT_perm _).mem_iff)
theorem CallEv.ln {C : Cfg} {f : FuncId} {args : List PV} {H : AHeap} {P Q : PV → AHeap → Prop} (a : FnEv C f args H P) (hl : ∀ r h', P r h' → h'.length = H.length) (q : ∀ r h', P r h' → Q r h') (hm : C.mode f = .opened := by rfl) : CallEv C 2 f args H Q := by
  refine CallEv.opened hm (a.mono fun r k hr => ?_)
  split
  · rw [List.take_of_length_le (by rw [hl r k hr]; exact Nat.le_refl _)]
    exact q r k hr
  · exact q r k hr
theorem allT_app (a b : List (List Pw)) : allT (a ++ b) = allT a ++ allT b := by simp [allT]
attribute [local irreducible] thenQ blockQ loopQ bodyQ Ev EvOps CallEv FnEv EvD
theorem compact_mt (H : AHeap) (id ep : Nat) (e1 : H[id]? = some ⟨.m, ep, 4, encs []⟩) : FnEv C 86 [.mref id ep 0 0, .fn 87 []] H (fun r h' => r = .mref id ep 0 0 ∧ h' = H) := by
  refine FnEv.x T6 Tryz.func86 rfl ?_
  (repeat' (first | (refine Rn.go ?_; conv => whnf) | refine .mk ?_ | refine .tt ?_ | refine .ff ?_ | refine .m2 ?_ | refine .m3 ?_ | refine .mk (fun hc => ?_) (fun hc => ?_) | refine .lp (fun v H lp => ?_) | fail))
  exact ⟨rfl, rfl⟩
/-- the beginning of a list, returned -/
theorem mref_pre {h : AHeap} {id ep sz n : Nat} {es es' tl : List PV} (e : h[id]? = some ⟨.m, ep, sz, es ++ tl⟩) (hl : es.length = n) (hv : isVals es = true) (hn : nrms es = es') : ∃ r1, rb h (tupOf [.mref id ep 0 n]) = some r1 ∧ nrm r1 = .snap false es' := by
  subst hl hn
  refine ⟨.snap false es, ?_, rfl⟩
  have hg : getM h id ep = some ⟨.m, ep, sz, es ++ tl⟩ := getM_at e rfl (by simp)
  show rb h (.mref id ep 0 es.length) = _
  simp [rb, rbA, rb1, hg, hv]
namespace Nine
theorem cols_fun (l : List (List Pw)) (hs : SmT l) : Fun C 50 [.snap false (encPPs l)] (.snap false (encs (facs l))) := by
  have hel : (encPPs l).length = l.length := by simp
  have hl1 := hs.2
  have hat1 := allT_le (l := l) fun x hx => (hs.1 x hx).2
  have hab : ∀ t ∈ allT l, bulk t < 1000000000 := fun t ht => by
    obtain ⟨x, hx, ht⟩ := List.mem_flatMap.1 ht
    obtain ⟨p, hp, rfl⟩ := List.mem_map.1 ht
    exact Nat.lt_trans ((hs.1 x hx).1 p hp) (by decide)
  refine Fun.x T6 Tryz.func50 rfl ?_
  (repeat' (first | (refine Rn.go ?_; conv => whnf) | refine .mk ?_ | refine .tt ?_ | refine .ff ?_ | refine .m2 ?_ | refine .m3 ?_ | refine .mk (fun hc => ?_) (fun hc => ?_) | refine .lp (fun v H lp => ?_) | fail))
  refine LpX.zip T6 l (fun p q L H => ∃ v, L = [(3, v), (8, .snap false (encPPs l)), (9, .int .i64 l.length), (10, .int .i64 p.length)] ∧ HV H ∧ Out 4 H v (encs (allT p))) (.nx ⟨.snap true [], rfl, HV.nil, .inl ⟨rfl, rfl⟩⟩) ?_ ?_
  · rintro p x q _ H ρ e ⟨v, rfl, hH, ho⟩
    have hat := at_encPPs e
    have hl2 := congrArg List.length e
    simp only [List.length_append, List.length_cons] at hl2
    have hx := hs.1 x (by rw [e]; simp)
    have helx := encPs_len x
    have hap := allT_le (l := p) fun y hy => (hs.1 y (by rw [e]; simp [hy])).2
    (repeat' (first | (refine Rn.go ?_; conv => whnf) | refine .mk ?_ | refine .tt ?_ | refine .ff ?_ | refine .m2 ?_ | refine .m3 ?_ | refine .mk (fun hc => ?_) (fun hc => ?_) | refine .lp (fun v H lp => ?_) | fail))
    refine LpX.zip T6 x (fun p2 q2 L H => ∃ v, L = [(3, v), (8, .snap false (encPPs l)), (9, .int .i64 l.length), (10, .int .i64 p.length), (14, .snap false (encPs x)), (15, .int .i64 x.length), (16, .int .i64 p2.length)] ∧ HV H ∧ Out 4 H v (encs (allT p ++ p2.map (·.1)))) (.nx ⟨v, rfl, hH, by simpa using ho⟩) ?_ ?_
    · rintro p2 ⟨u, n⟩ q2 _ H2 ρ e2 ⟨v2, rfl, hH2, ho2⟩
      have hat2 := at_encPs e2
      have hl3 := congrArg List.length e2
      simp only [List.length_append, List.length_cons] at hl3
      have hln : (encs (allT p ++ p2.map (·.1))).length + 1 < 1000000000 := by rw [encs_len]; simp; omega
      have ho3 := ho2.app [⟨.m, 0, 5, [.agg [.int .i64 u.k, .str u.s, .int .i64 u.o, .snap false (encs u.l), .int .i64 n]]⟩]
      have hH3 : HV (H2 ++ [⟨.m, 0, 5, [.agg [.int .i64 u.k, .str u.s, .int .i64 u.o, .snap false (encs u.l), .int .i64 n]]⟩]) := hH2.app (HV.one (by simp))
      (repeat' (first | (refine Rn.go ?_; conv => whnf) | refine .mk ?_ | refine .tt ?_ | refine .ff ?_ | refine .m2 ?_ | refine .m3 ?_ | refine .mk (fun hc => ?_) (fun hc => ?_) | refine .lp (fun v H lp => ?_) | fail))
      refine .nx ⟨_, rfl, lp.hv, ?_⟩
      have := lp.out
      rw [fold_enc, encs_eq] at this
      rw [encs_eq, List.map_append, List.map_append, List.map_append]
      simpa using this
    · rintro _ H2 ρ ⟨v2, rfl, hH2, ho2⟩
      (repeat' (first | (refine Rn.go ?_; conv => whnf) | refine .mk ?_ | refine .tt ?_ | refine .ff ?_ | refine .m2 ?_ | refine .m3 ?_ | refine .mk (fun hc => ?_) (fun hc => ?_) | refine .lp (fun v H lp => ?_) | fail))
      exact .nx ⟨v2, rfl, hH2, by rw [allT_app]; simpa [allT] using ho2⟩
  · rintro _ H ρ ⟨v, rfl, hH, ho⟩
    rw [← dd_facs]
    rcases ho with ⟨rfl, e0⟩ | ⟨id, ep, rfl, e1⟩
    · have e2 : allT l = [] := List.eq_nil_of_length_eq_zero (by rw [← encs_len, e0]; rfl)
      rw [e2]
      (repeat' (first | (refine Rn.go ?_; conv => whnf) | refine .mk ?_ | refine .tt ?_ | refine .ff ?_ | refine .m2 ?_ | refine .m3 ?_ | refine .mk (fun hc => ?_) (fun hc => ?_) | refine .lp (fun v H lp => ?_) | fail))
      refine CallEv.primL rfl rfl ?_
      (repeat' (first | (refine Rn.go ?_; conv => whnf) | refine .mk ?_ | refine .tt ?_ | refine .ff ?_ | refine .m2 ?_ | refine .m3 ?_ | refine .mk (fun hc => ?_) (fun hc => ?_) | refine .lp (fun v H lp => ?_) | fail))
      refine .ln (compact_nil H).nine (fun r h' hr => by rw [hr.2]) (fun r h' hr => ?_)
      obtain ⟨rfl, rfl⟩ := hr
      (repeat' (first | (refine Rn.go ?_; conv => whnf) | refine .mk ?_ | refine .tt ?_ | refine .ff ?_ | refine .m2 ?_ | refine .m3 ?_ | refine .mk (fun hc => ?_) (fun hc => ?_) | refine .lp (fun v H lp => ?_) | fail))
      exact ⟨_, rfl, rfl⟩
    · have hel2 := encs_len (allT l)
      (repeat' (first | (refine Rn.go ?_; conv => whnf) | refine .mk ?_ | refine .tt ?_ | refine .ff ?_ | refine .m2 ?_ | refine .m3 ?_ | refine .mk (fun hc => ?_) (fun hc => ?_) | refine .lp (fun v H lp => ?_) | fail))
      refine CallEv.primL rfl (by rw [hel2]; exact sortPrim_of e1 (by omega) hab) ?_
      have e2 : (H.set id ⟨.m, ep, 4, encs (sortT (allT l))⟩)[id]? = some ⟨.m, ep, 4, encs (sortT (allT l))⟩ := List.getElem?_set_self (lt_of_some e1)
      have hH2 : HV (H.set id ⟨.m, ep, 4, encs (sortT (allT l))⟩) := hH.set id (by simp) (by simp)
      have hln := (sortT_perm (allT l)).length_eq
      have hmem : ∀ t ∈ sortT (allT l), bulk t < 1000000000 := fun t ht => hab t ((sortT_perm _).mem_iff.1 ht)
      rw [hel2, ← hln]
      rw [← hln] at hel2 hat1
      generalize sortT (allT l) = S at *
      cases S with
      | nil =>
        (repeat' (first | (refine Rn.go ?_; conv => whnf) | refine .mk ?_ | refine .tt ?_ | refine .ff ?_ | refine .m2 ?_ | refine .m3 ?_ | refine .mk (fun hc => ?_) (fun hc => ?_) | refine .lp (fun v H lp => ?_) | fail))
        refine .ln (compact_mt _ id ep e2).nine (fun r h' hr => by rw [hr.2]) (fun r h' hr => ?_)
        obtain ⟨rfl, rfl⟩ := hr
        (repeat' (first | (refine Rn.go ?_; conv => whnf) | refine .mk ?_ | refine .tt ?_ | refine .ff ?_ | refine .m2 ?_ | refine .m3 ?_ | refine .mk (fun hc => ?_) (fun hc => ?_) | refine .lp (fun v H lp => ?_) | fail))
        exact Ls.ret1 (.inl (.inr ⟨id, ep, rfl, e2⟩)) rfl (by simp [dd, encs])
      | cons x r =>
        have hc := (compact_ev x r _ hH2 id ep e2 (by simp at hat1; omega) hmem).nine
        rw [encs_len] at hc
        (repeat' (first | (refine Rn.go ?_; conv => whnf) | refine .mk ?_ | refine .tt ?_ | refine .ff ?_ | refine .m2 ?_ | refine .m3 ?_ | refine .mk (fun hc => ?_) (fun hc => ?_) | refine .lp (fun v H lp => ?_) | fail))
        refine .ln hc (fun r h' hr => by obtain ⟨_, _, _, rfl⟩ := hr; simp) (fun r h' hr => ?_)
        obtain ⟨rfl, tl, hv, rfl⟩ := hr
        rw [List.set_set]
        have e3 : (H.set id ⟨.m, ep, 4, encs (dd (x :: r)) ++ tl⟩)[id]? = some ⟨.m, ep, 4, encs (dd (x :: r)) ++ tl⟩ := List.getElem?_set_self (lt_of_some e1)
        (repeat' (first | (refine Rn.go ?_; conv => whnf) | refine .mk ?_ | refine .tt ?_ | refine .ff ?_ | refine .m2 ?_ | refine .m3 ?_ | refine .mk (fun hc => ?_) (fun hc => ?_) | refine .lp (fun v H lp => ?_) | fail))
        exact mref_pre e3 (by rw [encs_len]) (by simp) (by simp)
end Nine
end Go.Pm
end

/-
  CHAPTER 6, PART 71: the program's powersOf: the powers of a product in the columns. Conditions: none.
-/
section
set_option linter.unusedVariables false
set_option linter.unusedSimpArgs false
set_option linter.unusedVariables false
set_option linter.unusedSimpArgs false
set_option maxRecDepth 4000
namespace Go.Pm
open Go.Proofs
theorem srt_lt {cs A B : List Tm} {u : Tm} (e : cs = A ++ u :: B) (hs : SrtT cs) {m : Nat} {w : Tm} (hm : cs[m]? = some w) : cmpT w u < 0 ↔ m < A.length := by
  subst e
  have h := List.pairwise_append.1 hs
  rcases Nat.lt_trichotomy m A.length with h1 | h1 | h1
  · rw [List.getElem?_append_left h1] at hm
    exact ⟨fun _ => h1, fun _ => h.2.2 w (List.mem_of_getElem? hm) u (by simp)⟩
  · subst h1
    simp at hm
    subst hm
    rw [cmpT_self]
    omega
  · rw [List.getElem?_append_right (by omega)] at hm
    have h2 : (u :: B)[m - A.length]? = B[m - A.length - 1]? := by
      rw [show m - A.length = (m - A.length - 1) + 1 by omega]; simp
    rw [h2] at hm
    have h3 := (List.pairwise_cons.1 h.2.1).1 w (List.mem_of_getElem? hm)
    have ng := cmpT_neg u w
    omega
theorem pwr_snoc {p : List Pw} {u t : Tm} {n : Int} (h : cmpT u t ≠ 0) : pwr (p ++ [(u, n)]) t = pwr p t := by
  induction p with
  | nil => simp [pwr, h]
  | cons y p ih => rw [List.cons_append, pwr, pwr, ih]
theorem set_pwr {cs A B : List Tm} {u : Tm} {p : List Pw} {n : Int} (e : cs = A ++ u :: B) (hs : SrtT cs) (hp : ∀ y ∈ p, cmpT y.1 u ≠ 0) : (encIs (cs.map (pwr p))).set A.length (.int .i64 n) = encIs (cs.map (pwr (p ++ [(u, n)]))) := by
  subst e
  have h := List.pairwise_append.1 hs
  have hA : A.map (pwr p) = A.map (pwr (p ++ [(u, n)])) := List.map_congr_left fun t ht => (pwr_snoc (by have := h.2.2 t ht u (by simp); have := cmpT_neg t u; omega)).symm
  have hB : B.map (pwr p) = B.map (pwr (p ++ [(u, n)])) := List.map_congr_left fun t ht => (pwr_snoc (by have := (List.pairwise_cons.1 h.2.1).1 t ht; omega)).symm
  have hu : pwr (p ++ [(u, n)]) u = n := pwr_at (q := []) hp (cmpT_self u)
  simp only [encIs, List.map_append, List.map_cons, hA, hB, hu]
  rw [List.set_append_right _ _ (by simp)]
  simp
attribute [local irreducible] thenQ blockQ loopQ bodyQ Ev EvOps CallEv FnEv EvD
theorem binT_fun (cs A B : List Tm) (u : Tm) (e : cs = A ++ u :: B) (hs : SrtT cs) (hl : cs.length < 100000000) (hb : ∀ t ∈ cs, bulk t < 1000000000) :
    Fun C 88 [.snap false (encs cs), enc u, .fn 40 []] (.tup [.int .i64 A.length, .bool true]) := by
  have hle : A.length < cs.length := by rw [e]; simp
  have hel := encs_len cs
  have hul : cs[A.length]? = some u := by rw [e]; simp
  have hub : bulk u < 1000000000 := hb u (by rw [e]; simp)
  have elem : ∀ m, m < cs.length → ∃ w, cs[m]? = some w ∧ (encs cs)[m]? = some (.agg [.int .i64 w.k, .str w.s, .int .i64 w.o, .snap false (encs w.l)]) ∧ Fun C 40 [.agg [.int .i64 w.k, .str w.s, .int .i64 w.o, .snap false (encs w.l)], .agg [.int .i64 u.k, .str u.s, .int .i64 u.o, .snap false (encs u.l)]] (.int .i64 (cmpT w u)) := fun m hm => by
    have h1 : cs[m]? = some cs[m] := List.getElem?_eq_getElem hm
    refine ⟨_, h1, nth_enc h1, ?_⟩
    rw [← enc_x, ← enc_x]
    exact tcmp_fun _ _ (hb _ (List.mem_of_getElem? h1)) hub
  have hif : ∀ m w, cs[m]? = some w → (cmpT w u < 0 ↔ m < A.length) := fun m w hm => srt_lt e hs hm
  have hz := cmpT_self u
  generalize A.length = LB at *
  rw [enc_x]
  refine Fun.x T6 Tryz.func88 rfl ?_
  (repeat' (first | (refine Rn.go ?_; conv => whnf) | refine .mk ?_ | refine .tt ?_ | refine .ff ?_ | refine .m2 ?_ | refine .m3 ?_ | refine .mk (fun hc => ?_) (fun hc => ?_) | refine .lp (fun v H lp => ?_) | fail))
  refine LpX.nat T6 (fun k L H => ∃ i j : Nat, L = [(0, .snap false (encs cs)), (2, .fn 40 []), (4, .ptr 0 0 0 0), (8, .int .i64 (encs cs).length), (9, .int .i64 i), (10, .int .i64 j)] ∧ H = [⟨.m, 0, 4, [.agg [.int .i64 u.k, .str u.s, .int .i64 u.o, .snap false (encs u.l)]]⟩] ∧ k = j - i ∧ i ≤ LB ∧ LB ≤ j ∧ j ≤ cs.length) cs.length (.nx ⟨0, (encs cs).length, rfl, rfl, by omega, by omega, by omega, by omega⟩) ?_
  rintro k _ _ ρ ⟨i, j, rfl, rfl, hk, i1, i2, i3⟩
  by_cases hij : i < j
  · obtain ⟨m, hmm⟩ : ∃ m : Nat, ((i : Int) + j) / 2 = m := ⟨(i + j) / 2, by omega⟩
    obtain ⟨w, h1, hat, hcm⟩ := elem m (by omega)
    have hiff := hif m _ h1
    (repeat' (first | (refine Rn.go ?_; conv => whnf) | refine .mk ?_ | refine .tt ?_ | refine .ff ?_ | refine .m2 ?_ | refine .m3 ?_ | refine .mk (fun hc => ?_) (fun hc => ?_) | refine .lp (fun v H lp => ?_) | fail))
    refine .mk (n := m) ?_ hmm hat
    (repeat' (first | (refine Rn.go ?_; conv => whnf) | refine .mk ?_ | refine .tt ?_ | refine .ff ?_ | refine .m2 ?_ | refine .m3 ?_ | refine .mk (fun hc => ?_) (fun hc => ?_) | refine .lp (fun v H lp => ?_) | fail))
    refine .p hcm ?_
    (repeat' (first | (refine Rn.go ?_; conv => whnf) | refine .mk ?_ | refine .tt ?_ | refine .ff ?_ | refine .m2 ?_ | refine .m3 ?_ | refine .mk (fun hc => ?_) (fun hc => ?_) | refine .lp (fun v H lp => ?_) | fail))
    · exact .nx ⟨j - (m + 1), by omega, m + 1, j, rfl, rfl, rfl, by omega, by omega, by omega⟩
    · exact .nx ⟨m - i, by omega, i, m, rfl, rfl, rfl, by omega, by omega, by omega⟩
  · have hi : i = LB := by omega
    subst hi
    obtain ⟨w, h1, hat, hcm⟩ := elem i hle
    rw [hul] at h1
    obtain rfl := Option.some.inj h1
    rw [hz] at hcm
    (repeat' (first | (refine Rn.go ?_; conv => whnf) | refine .mk ?_ | refine .tt ?_ | refine .ff ?_ | refine .m2 ?_ | refine .m3 ?_ | refine .mk (fun hc => ?_) (fun hc => ?_) | refine .lp (fun v H lp => ?_) | fail))
    refine .p hcm ?_
    (repeat' (first | (refine Rn.go ?_; conv => whnf) | refine .mk ?_ | refine .tt ?_ | refine .ff ?_ | refine .m2 ?_ | refine .m3 ?_ | refine .mk (fun hc => ?_) (fun hc => ?_) | refine .lp (fun v H lp => ?_) | fail))
    all_goals exact ⟨_, rfl, by simp [tupOf, nrm, nrms, *]⟩
theorem pof_ev (cs : List Tm) (x : List Pw) (H : AHeap) (hH : HV H) (hs : SrtT cs) (hl : cs.length < 100000000) (hb : ∀ t ∈ cs, bulk t < 1000000000) (hx : Srt x) (lx : x.length < 100000000) (hm : ∀ p ∈ x, p.1 ∈ cs) :
    FnEv C 52 [.snap false (encs cs), .snap false (encPs x)] H (fun r h' => r = .mref H.length 0 0 cs.length ∧ HV h' ∧ h'[H.length]? = some ⟨.m, 0, 1, encIs (cs.map (pwr x))⟩ ∧ H.length ≤ h'.length ∧ ∀ j, j < H.length → h'[j]? = H[j]?) := by
  have hel := encs_len cs
  have helx := encPs_len x
  refine FnEv.x T6 Tryz.func52 rfl ?_
  (repeat' (first | (refine Rn.go ?_; conv => whnf) | refine .mk ?_ | refine .tt ?_ | refine .ff ?_ | refine .m2 ?_ | refine .m3 ?_ | refine .mk (fun hc => ?_) (fun hc => ?_) | refine .lp (fun v H lp => ?_) | fail))
  refine LpX.zip T6 x (fun p q L h => L = [(0, .snap false (encs cs)), (5, .mref H.length 0 0 (encs cs).length), (13, .snap false (encPs x)), (14, .int .i64 (encPs x).length), (15, .int .i64 p.length)] ∧ HV h ∧ h[H.length]? = some ⟨.m, 0, 1, encIs (cs.map (pwr p))⟩ ∧ H.length ≤ h.length ∧ ∀ j, j < H.length → h[j]? = H[j]?)
    (.nx ⟨rfl, hH.app (HV.one (by rw [isVals_eq, List.all_eq_true]; intro y hy; rw [List.eq_of_mem_replicate hy]; rfl)), ?_, by simp, fun j hj => List.getElem?_append_left hj⟩) ?_ ?_
  · have : encIs (cs.map (pwr [])) = List.replicate (encs cs).length (.int .i64 0) := by rw [hel, encIs, List.map_map, ← List.map_const]; rfl
    rw [this]; simp
  · rintro p ⟨u, n⟩ q _ h ρ e ⟨rfl, hh, e1, h1, h2⟩
    have hat := at_encPs e
    have hl2 := congrArg List.length e
    simp only [List.length_append, List.length_cons] at hl2
    obtain ⟨A, B, hc⟩ := List.append_of_mem (hm (u, n) (by rw [e]; simp))
    dsimp only at hc
    have hbin := binT_fun cs A B u hc hs hl hb
    rw [enc_x] at hbin
    have hlA : A.length < cs.length := by rw [hc]; simp
    have hat2 : (encIs (cs.map (pwr p)))[0 + A.length]? = some (.int .i64 (pwr p u)) := by rw [hc]; simp [encIs]
    have hlen : (encIs (cs.map (pwr p))).length = cs.length := by simp
    have hne : ∀ y ∈ p, cmpT y.1 u ≠ 0 := fun y hy => by
      rw [e] at hx
      have := (List.pairwise_append.1 hx).2.2 y hy (u, n) (by simp)
      simp only at this; omega
    (repeat' (first | (refine Rn.go ?_; conv => whnf) | refine .mk ?_ | refine .tt ?_ | refine .ff ?_ | refine .m2 ?_ | refine .m3 ?_ | refine .mk (fun hc => ?_) (fun hc => ?_) | refine .lp (fun v H lp => ?_) | fail))
    refine .p hbin ?_
    have hset : (encIs (cs.map (pwr p))).set (0 + A.length) (.int .i64 n) = encIs (cs.map (pwr (p ++ [(u, n)]))) := by rw [Nat.zero_add]; exact set_pwr hc hs hne
    (repeat' (first | (refine Rn.go ?_; conv => whnf) | refine .mk ?_ | refine .tt ?_ | refine .ff ?_ | refine .m2 ?_ | refine .m3 ?_ | refine .mk (fun hc => ?_) (fun hc => ?_) | refine .lp (fun v H lp => ?_) | fail))
    rw [hset]
    exact .nx ⟨rfl, (hh.app (HV.one (by simp))).set _ (by simp) (by simp), List.getElem?_set_self (by simp; omega), by simp; omega, fun j hj => by rw [List.getElem?_set_ne (by omega), List.getElem?_append_left (by omega)]; exact h2 j hj⟩
  · rintro _ h ρ ⟨rfl, hh, e1, h1, h2⟩
    (repeat' (first | (refine Rn.go ?_; conv => whnf) | refine .mk ?_ | refine .tt ?_ | refine .ff ?_ | refine .m2 ?_ | refine .m3 ?_ | refine .mk (fun hc => ?_) (fun hc => ?_) | refine .lp (fun v H lp => ?_) | fail))
    exact ⟨by rw [hel]; rfl, hh, e1, h1, h2⟩
/-- a call that makes a list -/
theorem CallEv.nw {C : Cfg} {f : FuncId} {args : List PV} {H : AHeap} {n : Nat} {P : AHeap → Prop} {Q : PV → AHeap → Prop} (a : FnEv C f args H (fun r h' => r = .mref H.length 0 0 n ∧ P h')) (q : ∀ h', P h' → Q (.mref H.length 0 0 n) h') (hm : C.mode f = .opened := by rfl) : CallEv C 2 f args H Q := by
  refine CallEv.opened hm (a.mono fun r k hr => ?_)
  obtain ⟨rfl, hp⟩ := hr
  have : belowR H.length (.mref H.length 0 0 n) = false := by simp [belowR, belowA, below1]
  rw [this]
  exact q _ hp
end Go.Pm
end
