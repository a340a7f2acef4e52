/-
  A part of the library Pm and its contracts (joined by program): PmDraw3 PmSim PmOk6 PmLink. Conditions: none.
-/
import Derived.Test.YtejhjciockgicaaPzAG
import Derived.LoopN
import Derived.Scope
import Derived.Test.YtejhjciockgicaaPzAA
import Derived.Laws.Externs
import Derived.WalkKit
import Derived.ProofKit
import Derived.OpenShut
import Derived.JoinedCond
import Derived.WideKeyArgs
/-
  PM, PART 16: REGIONS THAT DRAW THEIR ORDER: one operation, whichever is ready; the whole region. Conditions: none.
-/
section
set_option linter.unusedVariables false
set_option linter.unusedSimpArgs false
set_option linter.unusedVariables false
namespace Go.Pm

variable {C : Cfg} {run : Run} {ops : Array Oper} {tr : Nat → DSt}
variable {N : Nat} {F : Nat → Prop} {w0 : World} {h0 : AHeap} {β0 : List (Nat × Nat)} {E E' : Nat → Bool} {a : Act} {w : World}

/-- some place is right -/
def DInv (ops : Array Oper) (tr : Nat → DSt) (N : Nat) (F : Nat → Prop) (w0 : World) (h0 : AHeap) (β0 : List (Nat × Nat)) (E : Nat → Bool) (a : Act) (w : World) : Prop := ∃ k ρ β, DAt ops tr N F w0 h0 β0 E a w k ρ β

theorem hits_dst {o o' : Oper} {t : Nat} (h1 : o'.dst = some t) (h2 : t ∈ o.looksAt ops ∨ o.dst = some t) : hits ops o o' = true := by
  unfold hits
  rw [h1]
  rcases h2 with h2 | h2
  · simp [h2]
  · simp [h2]

/-- the operation that is ready -/
structure Rdy (ops : Array Oper) (E E' : Nat → Bool) (i : Nat) (o : Oper) : Prop where
  at_ : ops[i]? = some o
  out : E i = false
  anc : ∀ j, Anc ops i j → E j = true
  cl : ∀ i j, E i = true → Anc ops i j → E j = true
  upd : ∀ j, E' j = true ↔ E j = true ∨ j = i

theorem Rdy.later {i j : Nat} {o : Oper} (R : Rdy ops E E' i o) (h : Anc ops j i) : E j = false := by
  cases he : E j with
  | false => rfl
  | true => have := R.cl j i he h; rw [R.out] at this; cases this

/-- what the operation looks at has its value of the text's order -/
theorem DAt.look (L : Lex C run ops tr) {k : Nat} {ρ : Nat → PV} {β : List (Nat × Nat)} (D : DAt ops tr N F w0 h0 β0 E a w k ρ β) {i : Nat} {o : Oper} (R : Rdy ops E E' i o) {t : Nat} (ht : t ∈ o.looksAt ops) : ρ t = (tr i).s.ρ t := by
  have hi : i < ops.size := (Array.getElem?_eq_some_iff.1 R.at_).1
  refine D.rh t i (by omega) (fun j o' hj hd => ?_)
  rcases Nat.lt_trichotomy j i with h | h | h
  · exact ⟨fun _ => h, fun _ => R.anc j ((drawOk_spec L.ok).2 i j o o' R.at_ hj h (.inl (hits_dst hd (.inl ht))))⟩
  · subst h; rw [R.out]; simp
  · have := R.later ((drawOk_spec L.ok).2 j i o' o hj R.at_ h (.inr (hits_dst hd (.inl ht))))
    rw [this]
    constructor
    · intro hh; cases hh
    · intro hh; omega

theorem DAt.evs (L : Lex C run ops tr) {k : Nat} {ρ : Nat → PV} {β : List (Nat × Nat)} (D : DAt ops tr N F w0 h0 β0 E a w k ρ β) {i : Nat} {o : Oper} (R : Rdy ops E E' i o) : ∀ x ∈ o.op.operands.toList, ev ρ x = ev (tr i).s.ρ x := by
  intro x hx
  cases x with
  | tmp t => exact D.look L R (List.mem_append_left _ (List.mem_filterMap.2 ⟨.tmp t, hx, rfl⟩))
  | _ => rfl

theorem DAt.wants (L : Lex C run ops tr) {k : Nat} {ρ : Nat → PV} {β : List (Nat × Nat)} (D : DAt ops tr N F w0 h0 β0 E a w k ρ β) {i : Nat} {o : Oper} (R : Rdy ops E E' i o) : wantedA ops o ρ = wantedA ops o (tr i).s.ρ := by
  unfold wantedA
  cases hg : o.guard with
  | none => rfl
  | some jw =>
    obtain ⟨j, want⟩ := jw
    simp only
    cases hd : (ops.toList[j]?).bind (·.dst) with
    | none => rfl
    | some d =>
      have hd' : (ops[j]?).bind (·.dst) = some d := by simpa using hd
      have : ρ d = (tr i).s.ρ d := D.look L R (List.mem_append_right _ (by simp [hg, hd']))
      simp only [this]

/-- the temporaries, after it -/
theorem DAt.rh' (L : Lex C run ops tr) {k : Nat} {ρ : Nat → PV} {β : List (Nat × Nat)} (D : DAt ops tr N F w0 h0 β0 E a w k ρ β) {i : Nat} {o : Oper} (R : Rdy ops E E' i o) {r : PV} (hr : (tr (i + 1)).s.ρ = updO (tr i).s.ρ o.dst r) :
    ∀ t k', k' ≤ ops.size → (∀ j o, ops[j]? = some o → o.dst = some t → (E' j = true ↔ j < k')) → updO ρ o.dst r t = (tr k').s.ρ t := by
  intro t k' hk hw
  rw [updO_at]
  split
  · rename_i ht
    have hik : i < k' := (hw i o R.at_ ht).1 ((R.upd i).2 (.inr rfl))
    rw [L.rho_keep (t := t) (i := i + 1) k' hik hk (fun j o' h1 h2 h3 h4 => ?_), hr, updO_at, if_pos ht]
    have he := (hw j o' h3 h4).2 h2
    rcases (R.upd j).1 he with he | he
    · rw [R.later ((drawOk_spec L.ok).2 j i o' o h3 R.at_ (by omega) (.inl (hits_dst ht (.inr h4))))] at he
      cases he
    · omega
  · rename_i ht
    refine D.rh t k' hk (fun j o' h1 h2 => ?_)
    have hji : j ≠ i := by
      rintro rfl
      rw [R.at_] at h1
      obtain rfl := Option.some.inj h1
      exact ht h2
    rw [← hw j o' h1 h2, R.upd]
    simp [hji]

theorem DAt.still (L : Lex C run ops tr) {k : Nat} {ρ : Nat → PV} {β : List (Nat × Nat)} (D : DAt ops tr N F w0 h0 β0 E a w k ρ β) {i : Nat} {o : Oper} (R : Rdy ops E E' i o) (hd : dstOk N o = true) (hn : ¬ Ran ops tr i)
    {r : PV} (hr : (tr (i + 1)).s.ρ = updO (tr i).s.ρ o.dst r) {v : Value} (hv : VRel w (Av F (Kh tr E k) β) β (Kh tr E k) v r) : DInv ops tr N F w0 h0 β0 E' (a.put o.dst v) w := by
  have hK : Kh tr E' k = Kh tr E k := by
    unfold Kh
    refine maskE_congr (fun j hj => ?_)
    have hji : j ≠ i := by
      rintro rfl
      exact hn ((L.wf k D.kn).2.2 j hj).2
    have := R.upd j
    simp only [hji, or_false] at this
    cases h1 : E j <;> cases h2 : E' j <;> simp_all
  refine ⟨k, updO ρ o.dst r, β, D.kn, ?_, ?_, D.base, by rw [hK]; exact D.hr, by rw [hK]; exact D.er.put (dstOk_lt hd D.sz) hv, D.rh' L R hr, by rw [hK]; exact D.sp, by rw [put_defers']; exact D.df, by rw [put_size]; exact D.sz⟩
  · intro j h1 h2
    rcases (R.upd j).1 h2 with h2 | rfl
    · exact D.lo j h1 h2
    · exact absurd h1 hn
  · intro j h1 h2 h3
    exact (R.upd j).2 (.inl (D.hi j h1 h2 h3))

theorem VRel.stripped {A : Nat → Prop} {β : List (Nat × Nat)} {M : AHeap} {v : Value} {p : PV} (f : Nat → Bool) (h : visR f p = true → VRel w A β M v p) : VRel w A β M v (if visR f p then p else .any) := by
  split
  · rename_i hv; exact h hv
  · exact .any v

/-- ONE OPERATION that is ready. -/
theorem DInv.step (K : CfgOk C) (S : RunsOk C run) (L : Lex C run ops tr) (D : DInv ops tr N F w0 h0 β0 E a w) {i : Nat} {o : Oper} (R : Rdy ops E E' i o) (hd : dstOk N o = true)
    {Q : Exit → Act → World → Prop} {next : Act → World → Prop} (hK : ∀ a' w', DInv ops tr N F w0 h0 β0 E' a' w' → next a' w') : wpOp C.P ops Q i next a w := by
  obtain ⟨k, ρ, β, D⟩ := D
  have hi : i < ops.size := (Array.getElem?_eq_some_iff.1 R.at_).1
  have hwant := D.wants L R
  have hevs := D.evs L R
  have hval : ∀ lv h, opVal C run lv o.op ρ h = opVal C run lv o.op (tr i).s.ρ h := fun lv h => opVal_congr hevs
  unfold wpOp
  rw [R.at_]
  simp only
  obtain ⟨wf1, wf2, wf3⟩ := L.wf i (by omega)
  cases L.view R.at_ with
  | off hw hy =>
    rw [wanted_sim D.er (by rw [hwant]; exact hw), if_neg (by simp)]
    refine hK _ _ (D.still L R hd ?_ (by rw [hy]) .undef)
    rintro ⟨o', h1, h2, h3⟩
    rw [R.at_] at h1
    obtain rfl := Option.some.inj h1
    rw [hw] at h3; cases h3
  | plain r hx hw hh hv hy =>
    rw [wanted_sim D.er (by rw [hwant]; exact hw), if_pos rfl]
    refine .inl ?_
    have hn : ¬ Ran ops tr i := by
      rintro ⟨o', h1, h2, h3⟩
      rw [R.at_] at h1
      obtain rfl := Option.some.inj h1
      rw [hh] at h2; cases h2
    have e : opVal C run 1 o.op ρ (Kh tr E k) = some (r, Kh tr E k) := by
      rw [hval]; exact opVal_plain hh hv
    refine opVal_wp K S D.hr D.er e (fun v w' β' q1 q2 q3 q4 => ?_)
    have G := q4 (Nat.le_refl 1)
    have D' : DAt ops tr N F w0 h0 β0 E a w' k ρ β' := ⟨D.kn, D.lo, D.hi, D.base, q2, D.er.mono q3, D.rh, D.sp.trans q3, D.df, D.sz⟩
    exact hK _ _ (D'.still L R hd hn (by rw [hy]) q1)
  | two r h' hw hh hl hv hy =>
    rw [wanted_sim D.er (by rw [hwant]; exact hw), if_pos rfl]
    refine .inl ?_
    have hran : Ran ops tr i := ⟨o, R.at_, hh, hw⟩
    have hki : k ≤ i := by
      rcases Nat.lt_or_ge i k with h | h
      · have := D.hi i hran hl h; rw [R.out] at this; cases this
      · exact h
    have anc_of : ∀ j, Ran ops tr j → j < i → E j = true := fun j hj hlt => by
      obtain ⟨oj, g1, g2, _⟩ := hj
      rcases level_spec hl g1 g2 with h | h | h
      · omega
      · exact R.anc j h
      · have := anc_lt L.ok j i h; omega
    obtain ⟨β1, D1⟩ := D.adv L (i - k) (by omega) (fun j h1 h2 h3 => by
      have := D.lo j h3.1 (anc_of j h3.1 (by omega)); omega)
    rw [show k + (i - k) = i by omega] at D1
    have hKi : Kh tr E i = (tr i).s.h := maskE_all wf2 (fun j hj => anc_of j (wf3 j hj).2 (wf3 j hj).1)
    have hr1 := D1.hr
    have er1 := D1.er
    have sp1 := D1.sp
    rw [hKi] at hr1 er1 sp1
    refine opVal_wp K S hr1 er1 (by rw [hval]; exact hv) (fun v w' β' q1 q2 q3 q4 => hK _ _ ?_)
    have hK' : Kh tr E' (i + 1) = h' := by
      unfold Kh
      rw [hy]
      exact maskE_all (by simp) (fun j hj => by cases hj)
    refine ⟨i + 1, updO ρ o.dst r, β', by omega, ?_, ?_, ?_, by rw [hK']; exact q2, by rw [hK']; exact (er1.mono q3).put (dstOk_lt hd D.sz) q1, D.rh' L R (by rw [hy]), by rw [hK']; exact sp1.trans q3, by rw [put_defers']; exact D.df, by rw [put_size]; exact D.sz⟩
    · intro j h1 h2
      rcases (R.upd j).1 h2 with h2 | rfl
      · have := D1.lo j h1 h2; omega
      · omega
    · intro j h1 h2 h3
      by_cases hj : j = i
      · exact (R.upd j).2 (.inr hj)
      · exact (R.upd j).2 (.inl (anc_of j h1 (by omega)))
    · rw [hy]
      have := (sp1.trans q3).len
      exact this
  | one r ext hw hh hl hcl hops hv hnl hy =>
    rw [wanted_sim D.er (by rw [hwant]; exact hw), if_pos rfl]
    refine .inl ?_
    have hran : Ran ops tr i := ⟨o, R.at_, hh, hw⟩
    -- beyond this operation
    obtain ⟨k, β, D, hik⟩ : ∃ k β, DAt ops tr N F w0 h0 β0 E a w k ρ β ∧ i < k := by
      rcases Nat.lt_or_ge i k with h | h
      · exact ⟨k, β, D, h⟩
      · obtain ⟨β1, D1⟩ := D.adv L (i + 1 - k) (by omega) (fun j h1 h2 h3 => by
          obtain ⟨⟨oj, g1, g2, g3⟩, g4⟩ := h3
          by_cases hj : j = i
          · subst hj; exact hl g4
          · rcases level_spec g4 R.at_ hh with h5 | h5 | h5
            · omega
            · have := anc_lt L.ok j i h5; omega
            · have := D.lo j ⟨oj, g1, g2, g3⟩ (R.anc j h5); omega)
        exact ⟨i + 1, β1, by rw [show i + 1 = k + (i + 1 - k) by omega]; exact D1, by omega⟩
    have hno : ∀ j, i + 1 ≤ j → j < k → ¬ (Ran ops tr j ∧ level ops (before ops) j = 2) := fun j h1 h2 h3 => by
      have he := D.hi j h3.1 h3.2 h2
      rcases level_spec h3.2 R.at_ hh with h5 | h5 | h5
      · omega
      · rw [R.later h5] at he; cases he
      · have := anc_lt L.ok i j h5; omega
    obtain ⟨ext2, own2, p1, p2, p3, p4, p5⟩ := L.phase k hik D.kn hno
    rw [hy] at p1 p2 p3
    simp only at p1 p2 p3
    have wfx : (tr i).L0 ≤ ((tr i).s.h ++ ext).length ∧ ((tr i).own ++ List.replicate ext.length i).length = ((tr i).s.h ++ ext).length - (tr i).L0 := by
      refine ⟨by simp; omega, by simp; omega⟩
    -- the three heaps
    have hKE : ∀ e : Nat → Bool, Kh tr e k = maskE e (tr i).L0 (tr i).own (tr i).s.h ++ List.zipWith (fun o j => if e j then o else hide1 o) ext (List.replicate ext.length i) ++ List.zipWith (fun o j => if e j then o else hide1 o) ext2 own2 := fun e => by
      unfold Kh
      rw [p1, p2, p3, maskE_app wfx.1 wfx.2, maskE_app wf1 wf2]
    have hE'old : ∀ j ∈ (tr i).own, E j = E' j := fun j hj => by
      have hji : j ≠ i := by have := (wf3 j hj).1; omega
      have := R.upd j
      simp only [hji, or_false] at this
      cases h1 : E j <;> cases h2 : E' j <;> simp_all
    have hE'new : ∀ j ∈ own2, E j = E' j := fun j hj => by
      have hji : j ≠ i := by have := p5 j hj; omega
      have := R.upd j
      simp only [hji, or_false] at this
      cases h1 : E j <;> cases h2 : E' j <;> simp_all
    have hA := hKE E
    have hB := hKE E'
    rw [← maskE_congr hE'old, ← zip_congr ext2 own2 hE'new, zip_all (e := E') ext (List.replicate ext.length i) (by simp) (fun j hj => by obtain ⟨_, rfl⟩ := List.mem_replicate.1 hj; exact (R.upd j).2 (.inr rfl))] at hB
    have hlA : (maskE E (tr i).L0 (tr i).own (tr i).s.h).length = (tr i).s.h.length := maskE_len wf1 wf2
    have hlM : (maskE ((before ops).getD i 0).testBit (tr i).L0 (tr i).own (tr i).s.h).length = (tr i).s.h.length := maskE_len wf1 wf2
    have hlz : (List.zipWith (fun o j => if E j then o else hide1 o) ext (List.replicate ext.length i)).length = ext.length := by simp
    have atA : ∀ id, id < (tr i).s.h.length → (Kh tr E k)[id]? = (maskE E (tr i).L0 (tr i).own (tr i).s.h)[id]? := fun id hid => by
      rw [hA, List.append_assoc, List.getElem?_append_left (by omega)]
    have hM : ∀ (id : Nat) (o : AObj), (maskE ((before ops).getD i 0).testBit (tr i).L0 (tr i).own (tr i).s.h)[id]? = some o → o.mu ≠ .x → (Kh tr E k)[id]? = some o := by
      intro id o e1 e2
      have hid : id < (tr i).s.h.length := by have := lt_of_some e1; omega
      rw [atA id hid]
      rw [maskE_get wf1 wf2] at e1 ⊢
      split at e1
      · rename_i hl0; rw [if_pos hl0]; exact e1
      · rename_i hl0
        rw [if_neg hl0]
        cases ho : (tr i).s.h[id]? with
        | none => rw [ho] at e1; cases e1
        | some o1 =>
          rw [ho] at e1
          simp only [Option.map_some, Option.some.injEq] at e1 ⊢
          split at e1
          · rename_i hb
            rw [if_pos (R.anc _ hb)]; exact e1
          · subst e1; exact absurd rfl e2
    obtain ⟨HM, VM⟩ := D.hr.part (M := maskE ((before ops).getD i 0).testBit (tr i).L0 (tr i).own (tr i).s.h) (by rw [hlM, hA]; simp [hlA]) hM hcl
    -- the operation, on its part of the heap
    have erM : ERel w (Av (Fp F β (Kh tr E k) (maskE ((before ops).getD i 0).testBit (tr i).L0 (tr i).own (tr i).s.h)) (maskE ((before ops).getD i 0).testBit (tr i).L0 (tr i).own (tr i).s.h) (β.take (maskE ((before ops).getD i 0).testBit (tr i).L0 (tr i).own (tr i).s.h).length))
        (β.take (maskE ((before ops).getD i 0).testBit (tr i).L0 (tr i).own (tr i).s.h).length) (maskE ((before ops).getD i 0).testBit (tr i).L0 (tr i).own (tr i).s.h) a
        (fun t => if visR (visible (maskE ((before ops).getD i 0).testBit (tr i).L0 (tr i).own (tr i).s.h)) (ρ t) then ρ t else .any) := fun t => VRel.stripped _ (fun hv => VM _ _ (D.er t) hv)
    have eM : opVal C run 1 o.op (fun t => if visR (visible (maskE ((before ops).getD i 0).testBit (tr i).L0 (tr i).own (tr i).s.h)) (ρ t) then ρ t else .any) (maskE ((before ops).getD i 0).testBit (tr i).L0 (tr i).own (tr i).s.h) =
        some (r, maskE ((before ops).getD i 0).testBit (tr i).L0 (tr i).own (tr i).s.h ++ ext) := by
      rw [← hv]
      refine opVal_congr (fun x hx => ?_)
      have h1 := hops x hx
      have h2 := hevs x hx
      cases x with
      | tmp t =>
        simp only [ev] at h1 h2 ⊢
        rw [h2, if_pos h1]
      | _ => rfl
    refine opVal_wp K S HM erM eM (fun v w' β1 q1 q2 q3 q4 => hK _ _ ?_)
    have G := q4 (Nat.le_refl 1)
    have hlt : ∀ id, (tr i).s.h.length ≤ id → id < (tr i).s.h.length + ext.length → (Kh tr E k)[id]? = (List.zipWith (fun o j => if E j then o else hide1 o) ext (List.replicate ext.length i))[id - (tr i).s.h.length]? ∧ (Kh tr E' k)[id]? = ext[id - (tr i).s.h.length]? := fun id h1 h2 => by
      constructor
      · rw [hA, List.getElem?_append_left (by rw [List.length_append, hlA, hlz]; omega), List.getElem?_append_right (by omega), hlA]
      · rw [hB, List.getElem?_append_left (by rw [List.length_append, hlA]; omega), List.getElem?_append_right (by omega), hlA]
    obtain ⟨β', m1, m2, m3, m4, m5, m6⟩ := D.hr.merge (h' := Kh tr E' k) (by rw [hlM, hA]; simp [hlA]) hM q2 q3 G hnl (by rw [hA, hB]; simp)
      (fun id h1 h2 => by rw [hlM] at h1 h2 ⊢; exact (hlt id h1 h2).2)
      (fun id h1 => by
        rw [hlM] at h1
        rcases h1 with h1 | h1
        · rw [atA id h1, hB, List.append_assoc, List.getElem?_append_left (by omega)]
        · rw [hA, hB, List.getElem?_append_right (by rw [List.length_append, hlA]; omega), List.getElem?_append_right (by rw [List.length_append, hlA, hlz]; omega)]
          simp)
      (fun id o h1 h2 h3 => by
        rw [hlM] at h1 h2
        rw [(hlt id h1 h2).1, List.getElem?_zipWith] at h3
        cases h4 : ext[id - (tr i).s.h.length]? with
        | none => rw [h4] at h3; simp at h3
        | some y =>
          have := lt_of_some h4
          rw [h4, show (List.replicate ext.length i)[id - (tr i).s.h.length]? = some i by simp [this]] at h3
          simp [R.out] at h3
          subst h3
          rfl)
    have hb0 : h0.length ≤ (tr i).s.h.length := by
      have := D.base
      rw [p2] at this
      omega
    refine ⟨k, updO ρ o.dst r, β', D.kn, ?_, ?_, D.base, m1, ?_, D.rh' L R (by rw [hy]), ?_, by rw [put_defers']; exact D.df, by rw [put_size]; exact D.sz⟩
    · intro j h1 h2
      rcases (R.upd j).1 h2 with h2 | rfl
      · exact D.lo j h1 h2
      · exact hik
    · intro j h1 h2 h3
      exact (R.upd j).2 (.inl (D.hi j h1 h2 h3))
    · exact ERel.put (fun t => (D.er t).fwd m2 (fun b hb _ => G.keep b hb) m3) (dstOk_lt hd D.sz) (m6 _ _ q1)
    · refine ⟨Nat.le_trans D.sp.size G.size, ?_, ?_, ?_, D.sp.refs.trans m2, ?_, G.os.trans D.sp.os, G.tape.trans D.sp.tape, G.output.trans D.sp.output⟩
      · have h1 := D.sp.len
        rw [hA] at h1
        rw [hB]
        simp at h1 ⊢
        omega
      · intro b hb hm
        rw [G.keep b (Nat.lt_of_lt_of_le hb D.sp.size)]
        exact D.sp.keep b hb hm
      · intro b hb hm
        exact D.sp.shr b hb (m4 b (Nat.lt_of_lt_of_le hb D.sp.size) hm)
      · intro id o e1 e2
        obtain ⟨f1, f2⟩ := D.sp.lck id o e1 e2
        have hid : id < (tr i).s.h.length := by have := lt_of_some e1; omega
        refine ⟨?_, by rw [m5 id (by rw [hlM]; exact hid)]; exact f2⟩
        rw [← f1, atA id hid, hB, List.append_assoc, List.getElem?_append_left (by omega)]

theorem countP_lt {p q : Nat → Bool} : ∀ (l : List Nat), (∀ j ∈ l, q j = true → p j = true) → (∃ i ∈ l, p i = true ∧ q i = false) → l.countP q < l.countP p
  | [], _, ⟨i, h, _⟩ => by cases h
  | j :: l, h1, ⟨i, h2, h3, h4⟩ => by
    have le : l.countP q ≤ l.countP p := List.countP_mono_left (fun j hj => h1 j (by simp [hj]))
    rcases List.mem_cons.1 h2 with rfl | h2
    · rw [List.countP_cons, List.countP_cons, h3, h4]; simp; omega
    · have := countP_lt l (fun j hj => h1 j (by simp [hj])) ⟨i, h2, h3, h4⟩
      rw [List.countP_cons, List.countP_cons]
      have hj := h1 j (by simp)
      cases hq : q j with
      | false => simp; omega
      | true => rw [hj hq]; simp; omega

theorem DInv.done (L : Lex C run ops tr) (D : DInv ops tr N F w0 h0 β0 E a w) (hE : ∀ j, j < ops.size → E j = true) : ∃ β, SR N w F β (tr ops.size).s a ∧ Stp w0 h0 β0 w (tr ops.size).s.h β := by
  obtain ⟨k, ρ, β, D⟩ := D
  obtain ⟨β1, D1⟩ := D.adv L (ops.size - k) (by have := D.kn; omega) (fun j h1 h2 h3 => by
    have := D.lo j h3.1 (hE j (by have := D.kn; omega)); omega)
  rw [show k + (ops.size - k) = ops.size by have := D.kn; omega] at D1
  obtain ⟨w1, w2, w3⟩ := L.wf ops.size (Nat.le_refl _)
  have hK : Kh tr E ops.size = (tr ops.size).s.h := maskE_all w2 (fun j hj => hE j (w3 j hj).1)
  have hρ : ρ = (tr ops.size).s.ρ := by
    funext t
    refine D1.rh t ops.size (Nat.le_refl _) (fun j o hj _ => ?_)
    have : j < ops.size := (Array.getElem?_eq_some_iff.1 hj).1
    simp [hE j this, this]
  have h1 := D1.hr
  have h2 := D1.er
  have h3 := D1.sp
  rw [hK] at h1 h2 h3
  rw [hρ] at h2
  exact ⟨β1, ⟨h1, h2, D1.df, D1.sz⟩, h3⟩

theorem wpAny_sim (K : CfgOk C) (S : RunsOk C run) (L : Lex C run ops tr) (hd : ops.toList.all (dstOk N) = true) {Q : Exit → Act → World → Prop}
    (hQ : ∀ a w β, SR N w F β (tr ops.size).s a → Stp w0 h0 β0 w (tr ops.size).s.h β → Q .normal a w) :
    ∀ (fuel : Nat) (listed : Array Bool) (a : Act) (w : World), listed.size = ops.size → (∀ (i : Nat) (o : Oper), ops[i]? = some o → listed.getD i false = true → ∀ e ∈ aft o, listed.getD e.on false = true) →
      (List.range ops.size).countP (fun j => !listed.getD j false) ≤ fuel → DInv ops tr N F w0 h0 β0 (fun j => listed.getD j false) a w → wpAny C.P .any ops Q fuel listed a w := by
  have all_of : ∀ (listed : Array Bool), listed.size = ops.size → Region.ready .any ops listed = [] → ∀ j, j < ops.size → listed.getD j false = true := by
    intro listed hs hr j
    induction j using Nat.strongRecOn with
    | ind j ih =>
      intro hj
      obtain ⟨o, ho⟩ := op_at (ops := ops) hj
      cases hl : listed.getD j false with
      | true => rfl
      | false =>
        have hm : j ∈ Region.ready .any ops listed := mem_ready.2 ⟨by simp [hs, hj] at hl ⊢; exact hl, o, ho, fun e he hb => by
          have hlt := (drawOk_spec L.ok).1 j o ho e (List.mem_filter.2 ⟨by simpa using he, hb⟩)
          exact ih e.on hlt (by omega)⟩
        rw [hr] at hm; cases hm
  have fin : ∀ (listed : Array Bool) (a : Act) (w : World), (∀ j, j < ops.size → listed.getD j false = true) → DInv ops tr N F w0 h0 β0 (fun j => listed.getD j false) a w → Q .normal a w := by
    intro listed a w hall D
    obtain ⟨β, h1, h2⟩ := D.done L hall
    exact hQ a w β h1 h2
  intro fuel
  induction fuel with
  | zero =>
    intro listed a w hs hc hn D
    have hall : ∀ j, j < ops.size → listed.getD j false = true := fun j hj => by
      have h0 := List.countP_eq_zero.1 (Nat.le_zero.1 hn) j (List.mem_range.2 hj)
      simpa using h0
    refine ⟨?_, fin listed a w hall D⟩
    apply List.eq_nil_iff_forall_not_mem.2
    intro j hj
    obtain ⟨h1, o, h2, _⟩ := mem_ready.1 hj
    have hjs : j < ops.size := (Array.getElem?_eq_some_iff.1 h2).1
    have := hall j hjs
    simp [hs, hjs] at h1 this
    rw [h1] at this; cases this
  | succ fuel ih =>
    intro listed a w hs hc hn D
    refine ⟨fun hr => fin listed a w (all_of listed hs hr) D, fun i hi => ?_⟩
    obtain ⟨h1, o, h2, h3⟩ := mem_ready.1 hi
    have his : i < ops.size := (Array.getElem?_eq_some_iff.1 h2).1
    have hout : listed.getD i false = false := by simp [hs, his] at h1 ⊢; exact h1
    have hcl := anc_closed L.ok (E := fun j => listed.getD j false) hc
    have hedge : ∀ e ∈ aft o, listed.getD e.on false = true := fun e he => by
      have := List.mem_filter.1 he
      exact h3 e (by simpa using this.1) this.2
    have hanc : ∀ j, Anc ops i j → listed.getD j false = true := fun j hj => by
      obtain ⟨o', g1, e, g2, g3⟩ := anc_spec hj
      rw [h2] at g1
      obtain rfl := Option.some.inj g1
      rcases g3 with rfl | g3
      · exact hedge e g2
      · exact hcl e.on j (hedge e g2) g3
    have hupd : ∀ j, (listed.setIfInBounds i true).getD j false = true ↔ listed.getD j false = true ∨ j = i := fun j => by
      by_cases hj : i = j
      · subst hj; simp [hs, his]
      · rw [getD_set_ne false hj]; simp [Ne.symm hj]
    refine DInv.step K S L D (E' := fun j => (listed.setIfInBounds i true).getD j false) ⟨h2, hout, hanc, hcl, hupd⟩ (List.all_eq_true.1 hd o (Array.mem_toList_iff.2 (Array.mem_of_getElem? h2))) (fun a' w' D' => ?_)
    refine ih (listed.setIfInBounds i true) a' w' (by simp [hs]) (fun j o' hj hl e he => ?_) ?_ D'
    · refine (hupd e.on).2 (.inl ?_)
      rcases (hupd j).1 hl with hl | rfl
      · exact hc j o' hj hl e he
      · rw [h2] at hj
        obtain rfl := Option.some.inj hj
        exact hedge e he
    · have := countP_lt (p := fun j => !listed.getD j false) (q := fun j => !(listed.setIfInBounds i true).getD j false) (List.range ops.size) (fun j _ hq => by
        cases hl : listed.getD j false with
        | false => rfl
        | true => have := (hupd j).2 (.inl hl); simp [this] at hq) ⟨i, List.mem_range.2 his, by simp [hout], by simp [(hupd i).2 (.inr rfl)]⟩
      omega

theorem getD_none (n j : Nat) : (Array.replicate n false).getD j false = false := by
  simp only [Array.getD_eq_getD_getElem?, Array.getElem?_replicate]
  split <;> rfl

theorem regionD_wp (K : CfgOk C) (S : RunsOk C run) (hm : C.P.follows .mixedOrders = true) {id : Nat} {Q : Exit → Act → World → Prop} (hd : ops.toList.all (dstOk N) = true) (hk : drawOk ops = true) {β : List (Nat × Nat)} {s : St} {y : DSt} (R : SR N w F β s a)
    (e : evalOpsD C run ops (before ops) 0 ops.toList ⟨s, s.h.length, []⟩ = some y) (hQ : ∀ a' w' β', SR N w' F β' y.s a' → Stp w s.h β w' y.s.h β' → Q .normal a' w') : (Code.region id ops true).wp C.P Q a w := by
  obtain ⟨tr, t1, t2, t3⟩ := evalOpsD_trace ops.toList 0 _ _ e
  have L : Lex C run ops tr := ⟨hk, fun i o ho => by simpa using t2 i o (by simpa using ho), by rw [t1]; exact Nat.le_refl _, by rw [t1]; exact ⟨rfl, rfl⟩⟩
  have t3' : tr ops.size = y := by simpa using t3
  refine wp_region_any hm (wpAny_sim (w0 := w) (h0 := s.h) (β0 := β) K S L hd (F := F) (fun a' w' β' R' S' => by rw [t3'] at R' S'; exact hQ a' w' β' R' S') ops.size _ a _ (by simp) (fun i o ho hl => by rw [getD_none] at hl; cases hl) ?_ ?_)
  · refine Nat.le_trans (List.countP_le_length) (by simp)
  · have hE : ∀ j, (Array.replicate ops.size false).getD j false = false := fun j => getD_none _ j
    have hK : Kh tr (fun j => (Array.replicate ops.size false).getD j false) 0 = s.h := by
      unfold Kh
      rw [t1]
      exact maskE_all (by simp) (fun j hj => by cases hj)
    have G : Grew w { w with drawn := w.drawn + 1 } := Grew.drew w
    refine ⟨0, s.ρ, β, ⟨Nat.zero_le _, fun j _ h => (by rw [hE] at h; cases h), fun j _ _ h => by omega, by rw [t1]; exact Nat.le_refl _, by rw [hK]; exact R.hr.grew G, by rw [hK]; exact R.er.mono (G.stp s.h β), ?_, by rw [hK]; exact G.stp s.h β, R.df, R.sz⟩⟩
    intro t k' hk' hw
    rw [L.rho_keep (t := t) (i := 0) k' (Nat.zero_le _) hk' (fun j o h1 h2 h3 h4 => by
      have := (hw j o h3 h4).2 h2
      rw [hE] at this; cases this), t1]

end Go.Pm
end

/-
  PM, PART 17: CODE, FUNCTIONS, RUNS: what the evaluator says of a function is what a call of it comes to. Conditions: none.
-/
section
set_option linter.unusedVariables false
set_option linter.unusedSimpArgs false
set_option linter.unusedVariables false
namespace Go.Pm

def codeOk (N : Nat) : Code → Bool
  | .region _ ops draw => ops.toList.all (dstOk N) && (!draw || drawOk ops)
  | .seq a b => codeOk N a && codeOk N b
  | .cond _ a b => codeOk N a && codeOk N b
  | .block _ c => codeOk N c
  | .loop c => codeOk N c
  | .scope c => codeOk N c
  | _ => true

def exOf : Ex → Exit
  | .normal => .normal
  | .exit id => .exit id
  | .ret => .ret

theorem evalC_wp {C : Cfg} (K : CfgOk C) (hm : C.P.follows .mixedOrders = true) {run : Run} (S : RunsOk C run) {N : Nat} {F : Nat → Prop} {n : Nat} : ∀ (c : Code) {s s' : St} {ex : Ex} {a : Act} {w : World} {β : List (Nat × Nat)} {Q : Exit → Act → World → Prop},
    codeOk N c = true → evalC C run n c s = some (ex, s') → SR N w F β s a → (∀ a' w' β', SR N w' F β' s' a' → Stp w s.h β w' s'.h β' → Q (exOf ex) a' w') → c.wp C.P Q a w := by
  intro c
  induction c with
  | skip =>
    intro s s' ex a w β Q hc e R hQ
    simp only [evalC, Option.some.injEq, Prod.mk.injEq] at e
    obtain ⟨rfl, rfl⟩ := e
    exact wp_skip (hQ a w β R (Stp.refl _ _ _))
  | label l =>
    intro s s' ex a w β Q hc e R hQ
    simp only [evalC, Option.some.injEq, Prod.mk.injEq] at e
    obtain ⟨rfl, rfl⟩ := e
    exact wp_label (hQ a w β R (Stp.refl _ _ _))
  | exit id =>
    intro s s' ex a w β Q hc e R hQ
    simp only [evalC, Option.some.injEq, Prod.mk.injEq] at e
    obtain ⟨rfl, rfl⟩ := e
    exact wp_exit (hQ a w β R (Stp.refl _ _ _))
  | ret =>
    intro s s' ex a w β Q hc e R hQ
    simp only [evalC, Option.some.injEq, Prod.mk.injEq] at e
    obtain ⟨rfl, rfl⟩ := e
    exact wp_ret (hQ a w β R (Stp.refl _ _ _))
  | region id ops draw =>
    intro s s' ex a w β Q hc e R hQ
    simp only [codeOk, Bool.and_eq_true, Bool.or_eq_true, Bool.not_eq_true'] at hc
    simp only [evalC] at e
    cases draw with
    | false =>
      simp only [Bool.false_eq_true, if_false] at e
      split at e
      · rename_i s1 he
        obtain ⟨rfl, rfl⟩ := Prod.mk.inj (Option.some.inj e)
        exact region_wp K S hc.1 R he hQ
      · cases e
    | true =>
      simp only [if_true] at e
      cases he : evalOpsD C run ops (before ops) 0 ops.toList ⟨s, s.h.length, []⟩ with
      | none => rw [he] at e; simp at e
      | some y =>
        rw [he] at e
        simp only [Option.map_some] at e
        obtain ⟨rfl, rfl⟩ := Prod.mk.inj (Option.some.inj e)
        exact regionD_wp K S hm hc.1 (by simpa using hc.2) R he hQ
  | seq x y ihx ihy =>
    intro s s' ex a w β Q hc e R hQ
    simp only [codeOk, Bool.and_eq_true] at hc
    simp only [evalC] at e
    refine wp_seq ?_
    cases hx : evalC C run n x s with
    | none => rw [hx] at e; cases e
    | some r =>
      obtain ⟨ex1, s1⟩ := r
      rw [hx] at e
      refine ihx hc.1 hx R (fun a1 w1 β1 R1 S1 => ?_)
      cases ex1 with
      | normal => exact ihy hc.2 e R1 (fun a2 w2 β2 R2 S2 => hQ a2 w2 β2 R2 (S1.trans S2))
      | exit id =>
        obtain ⟨rfl, rfl⟩ := Prod.mk.inj (Option.some.inj e)
        exact hQ a1 w1 β1 R1 S1
      | ret =>
        obtain ⟨rfl, rfl⟩ := Prod.mk.inj (Option.some.inj e)
        exact hQ a1 w1 β1 R1 S1
  | cond c x y ihx ihy =>
    intro s s' ex a w β Q hc e R hQ
    simp only [codeOk, Bool.and_eq_true] at hc
    simp only [evalC] at e
    split at e
    · rename_i hb
      have := R.er.ev c
      rw [hb] at this
      exact wp_cond_true this.bool_inv (ihx hc.1 e R hQ)
    · rename_i hb
      have := R.er.ev c
      rw [hb] at this
      exact wp_cond_false this.bool_inv (ihy hc.2 e R hQ)
    · cases e
  | block id c ih =>
    intro s s' ex a w β Q hc e R hQ
    simp only [codeOk] at hc
    simp only [evalC] at e
    refine wp_block ?_
    cases hx : evalC C run n c s with
    | none => rw [hx] at e; cases e
    | some r =>
      obtain ⟨ex1, s1⟩ := r
      rw [hx] at e
      refine ih hc hx R (fun a1 w1 β1 R1 S1 => ?_)
      cases ex1 with
      | normal =>
        obtain ⟨rfl, rfl⟩ := Prod.mk.inj (Option.some.inj e)
        exact hQ a1 w1 β1 R1 S1
      | exit id' =>
        simp only at e
        simp only [exOf, Exit.inBlock]
        split at e
        · rename_i hid
          obtain ⟨rfl, rfl⟩ := Prod.mk.inj (Option.some.inj e)
          rw [if_pos hid]
          exact hQ a1 w1 β1 R1 S1
        · rename_i hid
          obtain ⟨rfl, rfl⟩ := Prod.mk.inj (Option.some.inj e)
          rw [if_neg hid]
          exact hQ a1 w1 β1 R1 S1
      | ret =>
        obtain ⟨rfl, rfl⟩ := Prod.mk.inj (Option.some.inj e)
        exact hQ a1 w1 β1 R1 S1
  | loop c ih =>
    intro s s' ex a w β Q hc e R hQ
    simp only [codeOk] at hc
    simp only [evalC] at e
    have key : ∀ (m : Nat) {s : St} {a : Act} {w : World} {β : List (Nat × Nat)}, iter (evalC C run n c) m s = some (ex, s') → SR N w F β s a → (∀ a' w' β', SR N w' F β' s' a' → Stp w s.h β w' s'.h β' → Q (exOf ex) a' w') → Code.rounds C.P c Q m a w := by
      intro m
      induction m with
      | zero => intro s a w β e; simp [iter] at e
      | succ m ihm =>
        intro s a w β e R hQ
        simp only [iter] at e
        rw [rounds_succ]
        cases hx : evalC C run n c s with
        | none => rw [hx] at e; cases e
        | some r =>
          obtain ⟨ex1, s1⟩ := r
          rw [hx] at e
          refine ih hc hx R (fun a1 w1 β1 R1 S1 => ?_)
          cases ex1 with
          | normal => exact ihm e R1 (fun a2 w2 β2 R2 S2 => hQ a2 w2 β2 R2 (S1.trans S2))
          | exit id =>
            obtain ⟨rfl, rfl⟩ := Prod.mk.inj (Option.some.inj e)
            exact hQ a1 w1 β1 R1 S1
          | ret =>
            obtain ⟨rfl, rfl⟩ := Prod.mk.inj (Option.some.inj e)
            exact hQ a1 w1 β1 R1 S1
    exact wp_loop_rounds n (key n e R hQ)
  | scope c ih =>
    intro s s' ex a w β Q hc e R hQ
    simp only [codeOk] at hc
    simp only [evalC] at e
    refine wp_scope_straight (ih hc e R (fun a1 w1 β1 R1 S1 => ?_))
    cases ex <;> exact hQ a1 w1 β1 R1 S1
  | _ =>
    intro s s' ex a w β Q hc e R hQ
    simp [evalC] at e

/-! ### results -/
def resOne (r : ResultVar) (tmps : Array Value) : Sem Value :=
  match r with
  | .tmp t => pure (tmps.getD t undef)
  | .cell a t => do loadVar t (← asAddr (tmps.getD a undef))

theorem resultOf_run {P : Program} {w : World} {F : Nat → Prop} {β : List (Nat × Nat)} {h : AHeap} {a : Act} {ρ : Nat → PV} (H : HRel w F β h) (R : ERel w (Av F h β) β h a ρ) : ∀ (l : List ResultVar) (vs : List PV), resultOf P h ρ l = some vs →
    ∃ us : List Value, (l.mapM (fun r => resOne r a.tmps)).run P w = .ok us w ∧ L2 (VRel w (Av F h β) β h) us vs
  | [], vs, e => by
    simp [resultOf] at e; subst e
    exact ⟨[], by simp, rfl, fun j hj => by simp at hj⟩
  | r :: l, vs, e => by
    simp only [resultOf] at e
    split at e
    · rename_i v vs' h1 h2
      obtain rfl := Option.some.inj e
      obtain ⟨us, u1, u2, u3⟩ := resultOf_run H R l vs' h2
      have one : ∃ u, (resOne r a.tmps).run P w = .ok u w ∧ VRel w (Av F h β) β h u v := by
        cases r with
        | tmp t =>
          obtain rfl := Option.some.inj h1
          exact ⟨_, rfl, R t⟩
        | cell x t =>
          obtain ⟨u, k1, k2⟩ := load_run (P := P) H (R x) h1
          refine ⟨u, ?_, k2⟩
          rw [← k1]
          unfold resOne Instr.loadAt
          simp only [Sem.run_bind]
          unfold Instr.loadAt at k1
          simp only [Sem.run_bind] at k1
          generalize a.tmps.getD x undef = y at k1 ⊢
          cases y with
          | pointer p =>
            cases p with
            | some ad => simp [Instr.sureAddr, asAddr]
            | none => simp [Instr.sureAddr] at k1
          | _ => simp [Instr.sureAddr] at k1
      obtain ⟨u, o1, o2⟩ := one
      refine ⟨u :: us, ?_, by simp [u2], fun j hj => ?_⟩
      · simp only [List.mapM_cons, Sem.run_bind, o1, u1, Result.andThen_ok, Sem.run_pure]
      · cases j with
        | zero => simpa using o2
        | succ j => simpa using u3 j (by simpa using hj)
    · cases e

theorem results_run {P : Program} {w : World} {F : Nat → Prop} {β : List (Nat × Nat)} {h : AHeap} {a : Act} {ρ : Nat → PV} (H : HRel w F β h) (R : ERel w (Av F h β) β h a ρ) (fn : Func) {vs : List PV} (e : resultOf P h ρ fn.results.toList = some vs) :
    ∃ u, (results fn a.tmps).run P w = .ok u w ∧ VRel w (Av F h β) β h u (tupOf vs) := by
  obtain ⟨us, u1, u2, u3⟩ := resultOf_run (P := P) H R _ _ e
  have hrun : (fn.results.mapM (fun r => resOne r a.tmps)).run P w = .ok us.toArray w := by
    rw [← Array.toArray_toList (xs := fn.results), List.mapM_toArray]
    simp only [Sem.run_map, u1, Result.andThen_ok]
  refine ⟨if h : us.toArray.size = 1 then us.toArray[0] else .tuple us.toArray, ?_, ?_⟩
  · have : results fn a.tmps = (do let vs ← fn.results.mapM (fun r => resOne r a.tmps); pure (if h : vs.size = 1 then vs[0] else .tuple vs)) := by
      unfold results resOne
      rfl
    rw [this]
    simp only [Sem.run_bind, hrun, Result.andThen_ok, Sem.run_pure]
  · match us, vs, u2 with
    | [], [], _ => exact .tup [] [] rfl (fun j hj => by simp at hj)
    | [u], [v], _ => simpa [tupOf] using u3 0 (by simp)
    | u1 :: u2 :: us, v1 :: v2 :: vs, hl =>
      have : ¬ ((u1 :: u2 :: us).toArray.size = 1) := by simp
      rw [dif_neg this]
      exact .tup _ _ hl u3

/-! ### functions -/
structure CodesOk (C : Cfg) : Prop where
  codes : ∀ (f : FuncId) (fn : Func) (c : Code), (C.mode f = .pure ∨ C.mode f = .opened) → C.P.funcs[f]? = some fn → fn.body = some c → codeOk fn.ntmps c = true
  mixed : C.P.follows .mixedOrders = true

theorem bodyF_sim {C : Cfg} (K : CfgOk C) (KC : CodesOk C) {run : Run} (S : RunsOk C run) {n : Nat} {f : FuncId} (hf : C.mode f = .pure ∨ C.mode f = .opened) : SimRun C.P f (bodyF C run n f) := by
  intro args h r h' e w F β vs H ha
  unfold bodyF at e
  split at e
  · rename_i fn hfn
    split at e
    · rename_i c hc
      have main : ∀ (ex : Ex) (s : St), evalC C run n c ⟨envOf args, h⟩ = some (ex, s) → (ex = .normal ∨ ex = .ret) → (∃ vs, resultOf C.P s.h s.ρ fn.results.toList = some vs ∧ r = tupOf vs ∧ h' = s.h) → CSim C.P 2 w F β h f vs r h' := by
        rintro ex s hev hex ⟨rs, hrs, rfl, rfl⟩
        refine calls_of_wp hfn hc ?_
        have hlen := ha.1
        have R : SR fn.ntmps w F β ⟨envOf args, h⟩ { tmps := vs.toArray ++ Array.replicate (fn.ntmps - vs.toArray.size) undef, defers := [] } := by
          refine ⟨H, fun t => ?_, rfl, by simp; omega⟩
          show VRel w (Av F h β) β h ((vs.toArray ++ Array.replicate (fn.ntmps - vs.toArray.size) undef).getD t Go.undef) (args.getD t .undef)
          by_cases ht : t < args.length
          · have e1 : (vs.toArray ++ Array.replicate (fn.ntmps - vs.toArray.size) undef).getD t Go.undef = vs.getD t Go.undef := by
              rw [Array.getD_eq_getD_getElem?, Array.getElem?_append, if_pos (by simp; omega)]
              simp [List.getD]
            have e2 : args.getD t .undef = args.getD t .any := by simp [List.getD, ht]
            rw [e1, e2]
            exact ha.2 t ht
          · have e1 : (vs.toArray ++ Array.replicate (fn.ntmps - vs.toArray.size) undef).getD t Go.undef = Go.undef := by
              rw [Array.getD_eq_getD_getElem?, Array.getElem?_append]
              rw [if_neg (by simp; omega)]
              rw [Array.getElem?_replicate]
              split <;> rfl
            have e2 : args.getD t .undef = .undef := by simp [List.getD, List.getElem?_eq_none (show args.length ≤ t by omega)]
            rw [e1, e2]
            exact .undef
        refine evalC_wp K KC.mixed S c (KC.codes f fn c hf hfn hc) hev R (fun a' w' β' R' S' => ?_)
        obtain ⟨u, r1, r2⟩ := results_run (P := C.P) R'.hr R'.er fn hrs
        rcases hex with rfl | rfl
        · exact ⟨R'.df, u, r1, u, β', rfl, r2, R'.hr, S', fun hh => by omega⟩
        · exact ⟨R'.df, u, r1, u, β', rfl, r2, R'.hr, S', fun hh => by omega⟩
      cases hev : evalC C run n c ⟨envOf args, h⟩ with
      | none => rw [hev] at e; cases e
      | some x =>
        obtain ⟨ex, s⟩ := x
        rw [hev] at e
        have fin : (match resultOf C.P s.h s.ρ fn.results.toList with | some vs => some (tupOf vs, s.h) | none => none) = some (r, h') → ∃ vs, resultOf C.P s.h s.ρ fn.results.toList = some vs ∧ r = tupOf vs ∧ h' = s.h := by
          intro e
          split at e
          · rename_i rs hrs
            obtain ⟨rfl, rfl⟩ := Prod.mk.inj (Option.some.inj e)
            exact ⟨rs, hrs, rfl, rfl⟩
          · cases e
        cases ex with
        | normal => exact main .normal s hev (.inl rfl) (fin e)
        | ret => exact main .ret s hev (.inr rfl) (fin e)
        | exit id => cases e
    · cases e
  · cases e

theorem runF_sim {C : Cfg} (K : CfgOk C) (KC : CodesOk C) : ∀ n, RunsOk C (runF C n)
  | 0 => fun f _ args h r h' e => by cases e
  | n + 1 => fun f hf => bodyF_sim K KC (runF_sim K KC n) hf

/-- THE WHOLE: a call whose arguments are snapshots off the blocks A. -/
theorem pureF_sim {C : Cfg} (K : CfgOk C) (KC : CodesOk C) {n : Nat} {f : FuncId} (hf : C.mode f = .pure ∨ C.mode f = .opened) {args : List PV} {r : PV} (e : pureF C n f args = some r)
    {w : World} {A : Nat → Prop} (hA : ∀ b, A b → b < w.heap.size) {vs : List Value} (ha : L2 (SRel w A) vs args) :
    Calls C.P f vs.toArray w fun en w' => ∃ v, en = .returned v ∧ SRel w' A v r ∧ Grew w w' := by
  unfold pureF at e
  split at e
  · rename_i r0 hc h1
    cases h2 : rb hc r0 with
    | none => rw [h2] at e; cases e
    | some r1 =>
      rw [h2] at e
      obtain rfl := Option.some.inj e
      have hAv : ∀ b, Av A [] [] b ↔ A b := fun b => ⟨fun h => h.elim id (fun h => absurd h (Mb_empty b)), .inl⟩
      have hin : L2 (VRel w (Av A [] []) [] []) vs args := ⟨ha.1, fun j hj => .val ((ha.2 j hj).weak (fun b hb => (hAv b).1 hb))⟩
      refine (runF_sim K KC n f hf args [] r0 hc h1 w A [] vs (HRel.empty w A hA) hin).mono ?_
      rintro en w' ⟨v, β', rfl, q1, q2, q3, _⟩
      refine ⟨v, rfl, ?_, grew_of_stp q3⟩
      refine (rb_sim q2 (fun b _ hb ha => hb (.inl ha)) q1 h2 (fun id o bc m1 m2 m3 => ?_)).nrm
      rcases m3 with m3 | m3
      · exact q2.out id o bc m1 m2 (.inl m3)
      · exact q2.out id o bc m1 m2 (.inr m3)
  · cases e

end Go.Pm
end

/-
  PM, CHAPTER 6, PART 2: the functions' codes are of the kind that the library covers (by the kernel). Conditions: none.
-/
section
set_option linter.unusedVariables false
set_option linter.unusedSimpArgs false
set_option maxRecDepth 20000
namespace Go.Pm
open Go.Proofs

def isRun : Mode → Bool
  | .pure => true
  | .opened => true
  | _ => false
def isNo : Mode → Bool
  | .no => true
  | .ext _ => true
  | _ => false
def codeChk (C : Cfg) (f : FuncId) : Bool := !isRun (C.mode f) || match C.P.funcs[f]? with
  | some fn => match fn.body with
    | some c => codeOk fn.ntmps c
    | none => true
  | none => true
def enterChk (C : Cfg) (f : FuncId) : Bool := isNo (C.mode f) || match C.P.funcs[f]? with
  | some fn => fn.body.isSome && !(fn.name == "runtime.NumGoroutine")
  | none => false
theorem codes6 : ((List.range 130).all (codeChk C)) = true := by kernel_rfl
theorem enters6 : ((List.range 130).all (enterChk C)) = true := by kernel_rfl
theorem size6 : C.P.funcs.size = 130 := by kernel_rfl
theorem all_range {p : Nat → Bool} {n : Nat} (h : (List.range n).all p = true) {f : Nat} (hf : f < n) : p f = true := List.all_eq_true.1 h f (List.mem_range.2 hf)
theorem mode_big {f : Nat} (h : 130 ≤ f) : C.mode f = .no := by
  show mode06 f = .no
  unfold mode06
  have hne : ∀ k : Nat, k < 130 → ¬ f = k := fun k hk => by omega
  have hl : ∀ l : List Nat, l.all (fun k => decide (k < 130)) = true → l.contains f = false := by
    intro l hl
    cases hc : l.contains f with
    | false => rfl
    | true =>
      have := List.all_eq_true.1 hl f (by simpa using hc)
      have := of_decide_eq_true this
      omega
  rw [hl _ (by decide), hl _ (by decide)]
  simp only [Bool.false_eq_true, if_false]
  repeat' rw [if_neg (hne _ (by decide))]
  rw [if_neg (by omega : ¬ f < 114)]
theorem codesOk6 : CodesOk C where
  mixed := by kernel_rfl
  codes f fn c hm hf hb := by
    have hlt : f < 130 := by
      rcases Nat.lt_or_ge f 130 with h | h
      · exact h
      · rw [mode_big h] at hm; rcases hm with hm | hm <;> cases hm
    have := all_range codes6 hlt
    unfold codeChk at this
    rw [hf] at this
    simp only [hb] at this
    have hr : isRun (C.mode f) = true := by rcases hm with hm | hm <;> rw [hm] <;> rfl
    simpa [hr] using this
theorem entersOk6 : ∀ f, (∀ _h : C.mode f = .no, False) → (∀ g, C.mode f ≠ .ext g) → ∃ fn, C.P.funcs[f]? = some fn ∧ fn.body.isSome = true ∧ (fn.name == "runtime.NumGoroutine") = false := by
  intro f hf hne
  have hlt : f < 130 := by
    rcases Nat.lt_or_ge f 130 with h | h
    · exact h
    · exact (hf (mode_big h)).elim
  have := all_range enters6 hlt
  unfold enterChk at this
  have hn : isNo (C.mode f) = false := by
    cases hm : C.mode f with
    | no => exact (hf hm).elim
    | ext g => exact (hne g hm).elim
    | _ => rfl
  rw [hn] at this
  simp only [Bool.false_or] at this
  split at this
  · rename_i fn hfn
    simp only [Bool.and_eq_true, Bool.not_eq_true'] at this
    exact ⟨fn, hfn, this.1, this.2⟩
  · cases this

theorem extOk6 : ∀ f g, C.mode f = .ext g → ∀ args r, g args = some r → ∀ (w : World) (A : Nat → Prop) (vs : List Value), L2 (SRel w A) vs args → ∃ v, (callFunc f vs.toArray).run C.P w = .ok (.value v) w ∧ SRel w A v r := by
  intro f g hm args r hr w A vs ha
  have hm' : mode06 f = .ext g := hm
  unfold mode06 at hm'
  split at hm'
  · cases hm'
  · split at hm'
    · rename_i hf
      obtain rfl := Mode.ext.inj hm'
      simp only at hr
      split at hr
      · rename_i a b
        obtain rfl := Option.some.inj hr
        obtain ⟨hl, hh⟩ := ha
        match vs, hl with
        | [x, y], _ =>
          have h0 := hh 0 (by simp)
          have h1 := hh 1 (by simp)
          simp only [List.getD_cons_zero, List.getD_cons_succ] at h0 h1
          cases h0
          cases h1
          subst hf
          refine ⟨_, ?_, .int _ _⟩
          rw [run_callFunc_extern (P := C.P) Try.func92 (by kernel_rfl) (by kernel_rfl) (by kernel_rfl) (e := Extern.BytealgCompare.compare) (by kernel_rfl)]
          show ((Extern.BytealgCompare.compare #[.string a, .string b]).run C.P w).andThen _ = _
          rw [Lib.run_compareString]
          rfl
      · cases hr
    · repeat' split at hm'
      all_goals cases hm'

end Go.Pm
end

/-
  CHAPTER 6, PART 25: ExponentOf's statement. Conditions: none.
-/
section
set_option linter.unusedVariables false
set_option linter.unusedSimpArgs false
set_option linter.unusedVariables false
set_option linter.unusedSimpArgs false
set_option maxRecDepth 100000
set_option maxHeartbeats 2000000
namespace Go.Pm
open Go.Proofs

theorem Grew.kept {W W' : World} (g : Grew W W') (may : MemPlace → Prop) : W.keptBut W' may := by
  refine ⟨g.os, g.output, fun i hi => ?_⟩
  rw [g.keep i hi]
  cases W.heap[i]? with
  | none => rfl
  | some o => cases o <;> simp
theorem Grew.frz {W W' : World} (g : Grew W W') {b off : Nat} (hb : b < W.heap.size) : W'.frozen? ⟨b, off, none⟩ = W.frozen? ⟨b, off, none⟩ := by
  unfold World.frozen?
  rw [g.keep b hb]
end Go.Pm
namespace Go.Proofs.Ytejhjciockgicaa.Of
open Go.ChangeShapes Go.WideShapes Go.ChangeAt Go.RowKit Go.Pm

theorem own : ownKnob Try.prog.godebug = none := by kernel_rfl
theorem modeOf : C.mode 3 = .pure := rfl

theorem laid : laidOutB Try.prog = true := by kernel_rfl

theorem contract (K : CfgOk C) (H : Type) (ec : TypeId × Value → H) (W : World) (base : Nat) (args : Array Value) (ds gs : List (DataW H)) (before : List MemPlace)
    (hval : ∀ (j : Nat) t v, Try.f3.params[j]? = some t → args[j]? = some v → Value.okWide Try.prog W .any base t v)
    (hW : DataW.Whole ec Try.prog Try.f3.params.toList Rows.exponentOfSpec.vars false W args.toList ds gs before) (hk : Rows.uptoSmall H (ds ++ gs) = true) :
    Calls Try.prog 3 args W fun e W' => ∃ v, e = .returned v ∧ Rows.exponentOfSpec.post ec Try.prog Try.f3 false true false false W args v W' := by
  have hW' := hW
  have hlt := fun p hp => hW.lt p hp
  obtain ⟨p, q, hA0, hV, rfl, hfz, hnd⟩ := hW
  have hA : DataW.TrodAll ec Try.prog W 0 (fun _ => true) true Try.f3.params.toList args.toList ds p := hA0
  rw [Try.params3] at hA hval
  obtain ⟨v0, vs0, d0, ds0, p0, q0, hargs, rfl, rfl, h0, r0⟩ := trodAll_cons hA
  obtain ⟨rfl, rfl, rfl⟩ := trodAll_nil r0
  obtain rfl : args = #[v0] := by cases args; simp_all
  obtain ⟨rfl, rfl⟩ := trodVars_none hV
  have hok := hval 0 24 v0 rfl rfl
  obtain ⟨fs, hu, _⟩ := un24f
  obtain ⟨cs, rfl, _⟩ : ∃ cs, v0 = .agg cs ∧ cs.size = Try.prog.cellsOf 24 := by
    have hu' : Try.prog.underlying 24 = some (.struct fs) := hu
    unfold Value.okWide at hok
    rw [hu'] at hok
    obtain ⟨cs, h1, h2, _⟩ := hok
    exact ⟨cs, h1, h2⟩
  obtain ⟨n, hn⟩ := id h0
  obtain ⟨t, ht, hbt⟩ := read_tm n _ _ hn
  have hbulk : bulk t < 10000000 := by
    have h1 := of_decide_eq_true hk
    simp only [List.append_nil, Rows.uptoBulkAll] at h1 hbt
    omega
  obtain ⟨m, hm⟩ := (law_fun t hbulk).pureF
  have ht' : SRel W NoB (.agg cs) (enc t) := by simpa [Value.cells] using ht
  have hargs2 : L2 (SRel W NoB) [.agg cs] [enc t] := ⟨rfl, fun j hj => by
    match j, hj with
    | 0, _ => exact ht'⟩
  refine (pureF_sim K codesOk6 (.inl modeOf) hm (A := NoB) (fun b hb => hb.elim) hargs2).mono ?_
  rintro e W' ⟨v, rfl, hv, hg⟩
  cases hv
  refine ⟨_, rfl, ?_⟩
  have hstay : ∀ sp : Nat → Bool, (∀ p ∈ p0, sp p.block = true) → DataW.Trod ec Try.prog W' 0 sp true 24 (.agg cs) d0 p0 := fun sp hsp =>
    WideElems.Trod_stays (P := Try.prog) laid (by kernel_rfl) (of_decide_eq_true (by kernel_rfl)) h0 (fun p hp => by
      have hb := hlt p (by simpa using hp)
      cases p with
      | cell b off => show W'.cell? ⟨b, off, none⟩ = W.cell? ⟨b, off, none⟩; exact cell_keep (hg.keep b hb)
      | map b => exact hg.keep b hb) hsp
  refine ⟨[d0], [], _, [], p0, [], hW', ?_, ?_, ?_, hg.kept _, fun h => Bool.noConfusion h⟩
  · exact trodAll_cons_mk (shut_bool (kd_bool (T6.hkd 4 _ rfl)) _) trodAll_mk0
  · have := hstay (fun b => decide (b < W.heap.size)) (fun p hp => by simpa using hlt p (by simpa using hp))
    have h2 : DataW.TrodAll ec Try.prog W' 0 (fun b => decide (b < W.heap.size)) true [24] [Value.agg cs] [d0] p0 := by simpa using trodAll_cons_mk this trodAll_mk0
    exact h2
  · rfl

theorem lifted (K : CfgOk C) (os : Os) (started : os.Started) (H : Type) (ec : TypeId × Value → H) (F : Stop.Interp) :
    ReturnsInHanded {} Try.checked os 3 .any ((Rows.OpenSpec.upto Rows.exponentOfSpec).pre6 ec Try.prog Try.f3 Rows.exponentOfUptoRow.domain false) (((Rows.OpenSpec.upto Rows.exponentOfSpec).at F).post ec Try.prog Try.f3 false true false false) := by
  refine returnsInHanded_of_cond (C := Try.checked) (s := Rows.OpenSpec.upto Rows.exponentOfSpec) (k := Rows.uptoSmall) rfl own started (by kernel_rfl) Try.func3
    (OpenSpec.witness (enc := ec) (C := Try.checked) (s := Rows.OpenSpec.upto Rows.exponentOfSpec) (k := Rows.uptoSmall) rfl false ⟨#[], #[.agg #[.int .i64 0, .string ⟨#[]⟩, .int .i64 0, .slice none 0 0]], []⟩ 8 (by kernel_rfl) (by kernel_rfl) (by kernel_rfl)
      (x := ([.agg [.lit (.int .i64 0), .lit (.string []), .lit (.int .i64 0), .nil]], [], [])) (by kernel_rfl) rfl (by kernel_rfl)) ?_
  intro W base args ds gs before hval hW _ hk _
  exact contract K H ec W base args ds gs before hval hW hk

theorem over (K : CfgOk C) : Rows.exponentOfUptoRow.holds Try.pinned (Rows.OpenSpec.upto Rows.exponentOfSpec) :=
  OpenClaim.holds_of_cond 3 Try.f3 rfl rfl rfl rfl rfl rfl rfl ⟨rfl, rfl, rfl, rfl, rfl⟩ rfl rfl rfl rfl rfl (by kernel_rfl) Try.func3 (by kernel_rfl)
    (of_decide_eq_true (by kernel_rfl)) (by unfold Func.isWrapper; first | (rw [if_pos (by decide +kernel)]; kernel_rfl) | (rw [if_neg (by decide +kernel)]; exact ⟨rfl, rfl⟩))
    (fun os started H ec _ F => lifted K os started H ec F)

theorem proved (K : CfgOk C) : Rows.ExponentOfUptoSaid :=
  over K
end Go.Proofs.Ytejhjciockgicaa.Of
end
