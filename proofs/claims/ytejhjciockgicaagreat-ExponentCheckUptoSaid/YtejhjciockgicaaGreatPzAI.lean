/-
  A part of the library Pm and its contracts (joined by program): PmDraw2 PmDraw3 PmSim PmPrim PmOk6 PmC0 PmClo PmROps PmRTerm PmFew PmRInv PmXT. Conditions: none.
-/
import Derived.Test.YtejhjciockgicaaGreatPzAH
import Derived.LoopN
import Derived.Scope
import Derived.Test.YtejhjciockgicaaGreatPzAA
import Derived.Test.YtejhjciockgicaaGreatPzAB
import Derived.Test.YtejhjciockgicaaGreatPzAC
import Derived.Laws.Externs
import Derived.Test.YtejhjciockgicaaGreatPzAD
import Derived.Laws.Cover3
import Derived.Test.YtejhjciockgicaaGreatPzAE
import Derived.Test.YtejhjciockgicaaGreatPzAG
/-
  PM, PART 15: REGIONS THAT DRAW THEIR ORDER, carried through. Conditions: none.
-/
section
set_option linter.unusedVariables false
set_option linter.unusedSimpArgs false
set_option linter.unusedVariables false
namespace Go.Pm

/-- the run in the order of the text -/
structure Lex (C : Cfg) (run : Run) (ops : Array Oper) (tr : Nat → DSt) : Prop where
  ok : drawOk ops = true
  st : ∀ (i : Nat) (o : Oper), ops[i]? = some o → opStepD C run ops (before ops) i o (tr i) = some (tr (i + 1))
  h0 : (tr 0).L0 ≤ (tr 0).s.h.length
  o0 : (tr 0).own = [] ∧ (tr 0).L0 = (tr 0).s.h.length

/-- an operation that is run there and touches the heap -/
def Ran (ops : Array Oper) (tr : Nat → DSt) (j : Nat) : Prop := ∃ o, ops[j]? = some o ∧ heapy o.op = true ∧ wantedA ops o (tr j).s.ρ = some true

variable {C : Cfg} {run : Run} {ops : Array Oper} {tr : Nat → DSt}

theorem op_at {k : Nat} (h : k < ops.size) : ∃ o, ops[k]? = some o := ⟨ops[k], Array.getElem?_eq_getElem h⟩

theorem Lex.wf (L : Lex C run ops tr) : ∀ k, k ≤ ops.size → (tr k).L0 ≤ (tr k).s.h.length ∧ (tr k).own.length = (tr k).s.h.length - (tr k).L0 ∧ ∀ j ∈ (tr k).own, j < k ∧ Ran ops tr j := by
  intro k
  induction k with
  | zero =>
    intro _
    obtain ⟨h1, h2⟩ := L.o0
    rw [h1, h2]
    exact ⟨Nat.le_refl _, by simp, fun j hj => by cases hj⟩
  | succ k ih =>
    intro hk
    obtain ⟨h1, h2, h3⟩ := ih (by omega)
    obtain ⟨o, ho⟩ := op_at (ops := ops) (k := k) (by omega)
    have keep : ∀ j ∈ (tr k).own, j < k + 1 ∧ Ran ops tr j := fun j hj => ⟨by have := (h3 j hj).1; omega, (h3 j hj).2⟩
    cases stepV h1 h2 (L.st k o ho) with
    | off _ hy => rw [hy]; exact ⟨h1, h2, keep⟩
    | plain r hx _ _ _ hy => rw [hy]; exact ⟨h1, h2, keep⟩
    | two r h' _ _ _ _ hy => rw [hy]; exact ⟨Nat.le_refl _, by simp, fun j hj => by cases hj⟩
    | one r ext hw hh _ _ _ _ _ hy =>
      rw [hy]
      refine ⟨by simp; omega, by simp; omega, fun j hj => ?_⟩
      rcases List.mem_append.1 hj with hj | hj
      · exact keep j hj
      · obtain ⟨_, rfl⟩ := List.mem_replicate.1 hj
        exact ⟨by omega, o, ho, hh, hw⟩

theorem Lex.view (L : Lex C run ops tr) {k : Nat} {o : Oper} (ho : ops[k]? = some o) : StepV C run ops k o (tr k) (tr (k + 1)) := by
  have hk : k < ops.size := (Array.getElem?_eq_some_iff.1 ho).1
  obtain ⟨h1, h2, _⟩ := L.wf k (by omega)
  exact stepV h1 h2 (L.st k o ho)

/-- the value that an operation leaves -/
theorem Lex.rho (L : Lex C run ops tr) {k : Nat} {o : Oper} (ho : ops[k]? = some o) : ∃ r, (tr (k + 1)).s.ρ = updO (tr k).s.ρ o.dst r := by
  cases L.view ho with
  | off _ hy => exact ⟨_, by rw [hy]⟩
  | plain r hx _ _ _ hy => exact ⟨_, by rw [hy]⟩
  | two r h' _ _ _ _ hy => exact ⟨_, by rw [hy]⟩
  | one r ext hw hh _ _ _ _ _ hy => exact ⟨_, by rw [hy]⟩

theorem Lex.rho_keep (L : Lex C run ops tr) {t : Nat} {i : Nat} : ∀ k, i ≤ k → k ≤ ops.size → (∀ j o, i ≤ j → j < k → ops[j]? = some o → o.dst ≠ some t) → (tr k).s.ρ t = (tr i).s.ρ t := by
  intro k
  induction k with
  | zero => intro h1 _ _; obtain rfl : i = 0 := (by omega); rfl
  | succ k ih =>
    intro h1 h2 h3
    by_cases hi : i = k + 1
    · subst hi; rfl
    · obtain ⟨o, ho⟩ := op_at (ops := ops) (k := k) (by omega)
      obtain ⟨r, hr⟩ := L.rho ho
      rw [hr, updO_at, if_neg (h3 k o (by omega) (by omega) ho)]
      exact ih (by omega) (by omega) (fun j o' a b c => h3 j o' a (by omega) c)

/-- between two operations that may write, the heap is added to -/
theorem Lex.phase (L : Lex C run ops tr) {i : Nat} : ∀ k, i ≤ k → k ≤ ops.size → (∀ j, i ≤ j → j < k → ¬ (Ran ops tr j ∧ level ops (before ops) j = 2)) →
    ∃ ext own2, (tr k).s.h = (tr i).s.h ++ ext ∧ (tr k).L0 = (tr i).L0 ∧ (tr k).own = (tr i).own ++ own2 ∧ own2.length = ext.length ∧ ∀ j ∈ own2, i ≤ j := by
  intro k
  induction k with
  | zero => intro h1 _ _; obtain rfl : i = 0 := (by omega); exact ⟨[], [], by simp, rfl, by simp, rfl, fun j hj => by cases hj⟩
  | succ k ih =>
    intro h1 h2 h3
    by_cases hi : i = k + 1
    · subst hi; exact ⟨[], [], by simp, rfl, by simp, rfl, fun j hj => by cases hj⟩
    · obtain ⟨ext, own2, e1, e2, e3, e4, e5⟩ := ih (by omega) (by omega) (fun j a b => h3 j a (by omega))
      obtain ⟨o, ho⟩ := op_at (ops := ops) (k := k) (by omega)
      cases L.view ho with
      | off _ hy => rw [hy]; exact ⟨ext, own2, e1, e2, e3, e4, e5⟩
      | plain r hx _ _ _ hy => rw [hy]; exact ⟨ext, own2, e1, e2, e3, e4, e5⟩
      | two r h' hw hh hl _ hy => exact absurd ⟨⟨o, ho, hh, hw⟩, hl⟩ (h3 k (by omega) (by omega))
      | one r ext2 hw hh _ _ _ _ _ hy =>
        rw [hy]
        refine ⟨ext ++ ext2, own2 ++ List.replicate ext2.length k, by simp [e1], e2, by simp [e3], by simp [e4], fun j hj => ?_⟩
        rcases List.mem_append.1 hj with hj | hj
        · exact e5 j hj
        · obtain ⟨_, rfl⟩ := List.mem_replicate.1 hj; omega

/-- the heap at a place, with what the operations yet to come make hidden -/
def Kh (tr : Nat → DSt) (E : Nat → Bool) (k : Nat) : AHeap := maskE E (tr k).L0 (tr k).own (tr k).s.h

structure DAt (ops : Array Oper) (tr : Nat → DSt) (N : Nat) (F : Nat → Prop) (w0 : World) (h0 : AHeap) (β0 : List (Nat × Nat)) (E : Nat → Bool) (a : Act) (w : World) (k : Nat) (ρ : Nat → PV) (β : List (Nat × Nat)) : Prop where
  kn : k ≤ ops.size
  lo : ∀ j, Ran ops tr j → E j = true → j < k
  hi : ∀ j, Ran ops tr j → level ops (before ops) j = 2 → j < k → E j = true
  base : h0.length ≤ (tr k).L0
  hr : HRel w F β (Kh tr E k)
  er : ERel w (Av F (Kh tr E k) β) β (Kh tr E k) a ρ
  rh : ∀ t k', k' ≤ ops.size → (∀ j o, ops[j]? = some o → o.dst = some t → (E j = true ↔ j < k')) → ρ t = (tr k').s.ρ t
  sp : Stp w0 h0 β0 w (Kh tr E k) β
  df : a.defers = []
  sz : N ≤ a.tmps.size

variable {N : Nat} {F : Nat → Prop} {w0 : World} {h0 : AHeap} {β0 : List (Nat × Nat)} {E : Nat → Bool} {a : Act} {w : World}

/-- on to the next place -/
theorem DAt.adv1 (L : Lex C run ops tr) {k : Nat} {ρ : Nat → PV} {β : List (Nat × Nat)} (D : DAt ops tr N F w0 h0 β0 E a w k ρ β) (hk : k < ops.size) (hn : ¬ (Ran ops tr k ∧ level ops (before ops) k = 2)) :
    ∃ β', DAt ops tr N F w0 h0 β0 E a w (k + 1) ρ β' := by
  obtain ⟨o, ho⟩ := op_at (ops := ops) hk
  have hE : Ran ops tr k → E k = false := fun hr => by
    cases he : E k with
    | false => rfl
    | true => have := D.lo k hr he; omega
  have hlo : ∀ j, Ran ops tr j → E j = true → j < k + 1 := fun j h1 h2 => by have := D.lo j h1 h2; omega
  have hhi : ∀ j, Ran ops tr j → level ops (before ops) j = 2 → j < k + 1 → E j = true := fun j h1 h2 h3 => by
    by_cases hj : j = k
    · subst hj; exact absurd ⟨h1, h2⟩ hn
    · exact D.hi j h1 h2 (by omega)
  have same : (tr (k + 1)).s.h = (tr k).s.h → (tr (k + 1)).L0 = (tr k).L0 → (tr (k + 1)).own = (tr k).own → ∃ β', DAt ops tr N F w0 h0 β0 E a w (k + 1) ρ β' := fun e1 e2 e3 => by
    have hK : Kh tr E (k + 1) = Kh tr E k := by unfold Kh; rw [e1, e2, e3]
    exact ⟨β, ⟨hk, hlo, hhi, by rw [e2]; exact D.base, by rw [hK]; exact D.hr, by rw [hK]; exact D.er, D.rh, by rw [hK]; exact D.sp, D.df, D.sz⟩⟩
  cases L.view ho with
  | off _ hy => exact same (by rw [hy]) (by rw [hy]) (by rw [hy])
  | plain r hx _ _ _ hy => exact same (by rw [hy]) (by rw [hy]) (by rw [hy])
  | two r h' hw hh hl _ hy => exact absurd ⟨⟨o, ho, hh, hw⟩, hl⟩ hn
  | one r ext hw hh _ _ _ _ _ hy =>
    obtain ⟨w1, w2, _⟩ := L.wf k (by omega)
    have hek := hE ⟨o, ho, hh, hw⟩
    have hK : Kh tr E (k + 1) = Kh tr E k ++ List.zipWith (fun o j => if E j then o else hide1 o) ext (List.replicate ext.length k) := by
      unfold Kh
      rw [hy]
      exact maskE_app w1 w2
    have hzx : ∀ o ∈ List.zipWith (fun o j => if E j then o else hide1 o) ext (List.replicate ext.length k), o.mu = .x := by
      intro o ho
      obtain ⟨i, hi⟩ := List.getElem?_of_mem ho
      rw [List.getElem?_zipWith] at hi
      cases h1 : ext[i]? with
      | none => rw [h1] at hi; simp at hi
      | some y =>
        have hlt := lt_of_some h1
        rw [h1, show (List.replicate ext.length k)[i]? = some k by simp [hlt]] at hi
        simp [hek] at hi
        subst hi
        rfl
    obtain ⟨P1, P2⟩ := D.hr.pad (List.zipWith (fun o j => if E j then o else hide1 o) ext (List.replicate ext.length k)) (List.replicate ext.length (0, 0)) (by simp) hzx
    rw [← hK] at P1 P2
    refine ⟨_, ⟨hk, hlo, hhi, by rw [hy]; exact D.base, P1, D.er.mono P2, D.rh, D.sp.trans P2, D.df, D.sz⟩⟩

theorem DAt.adv (L : Lex C run ops tr) {ρ : Nat → PV} : ∀ (d : Nat) {k : Nat} {β : List (Nat × Nat)}, DAt ops tr N F w0 h0 β0 E a w k ρ β → k + d ≤ ops.size → (∀ j, k ≤ j → j < k + d → ¬ (Ran ops tr j ∧ level ops (before ops) j = 2)) →
    ∃ β', DAt ops tr N F w0 h0 β0 E a w (k + d) ρ β'
  | 0, k, β, D, _, _ => ⟨β, D⟩
  | d + 1, k, β, D, h1, h2 => by
    obtain ⟨β1, D1⟩ := D.adv1 L (by omega) (h2 k (Nat.le_refl _) (by omega))
    obtain ⟨β2, D2⟩ := DAt.adv L d D1 (by omega) (fun j a b => h2 j (by omega) (by omega))
    exact ⟨β2, by rw [show k + (d + 1) = k + 1 + d by omega]; exact D2⟩

end Go.Pm
end

/-
  PM, PART 16: REGIONS THAT DRAW THEIR ORDER: one operation, whichever is ready; the whole region. Conditions: none.
-/
section
set_option linter.unusedVariables false
set_option linter.unusedSimpArgs false
set_option linter.unusedVariables false
namespace Go.Pm

variable {C : Cfg} {run : Run} {ops : Array Oper} {tr : Nat → DSt}
variable {N : Nat} {F : Nat → Prop} {w0 : World} {h0 : AHeap} {β0 : List (Nat × Nat)} {E E' : Nat → Bool} {a : Act} {w : World}

/-- some place is right -/
def DInv (ops : Array Oper) (tr : Nat → DSt) (N : Nat) (F : Nat → Prop) (w0 : World) (h0 : AHeap) (β0 : List (Nat × Nat)) (E : Nat → Bool) (a : Act) (w : World) : Prop := ∃ k ρ β, DAt ops tr N F w0 h0 β0 E a w k ρ β

theorem hits_dst {o o' : Oper} {t : Nat} (h1 : o'.dst = some t) (h2 : t ∈ o.looksAt ops ∨ o.dst = some t) : hits ops o o' = true := by
  unfold hits
  rw [h1]
  rcases h2 with h2 | h2
  · simp [h2]
  · simp [h2]

/-- the operation that is ready -/
structure Rdy (ops : Array Oper) (E E' : Nat → Bool) (i : Nat) (o : Oper) : Prop where
  at_ : ops[i]? = some o
  out : E i = false
  anc : ∀ j, Anc ops i j → E j = true
  cl : ∀ i j, E i = true → Anc ops i j → E j = true
  upd : ∀ j, E' j = true ↔ E j = true ∨ j = i

theorem Rdy.later {i j : Nat} {o : Oper} (R : Rdy ops E E' i o) (h : Anc ops j i) : E j = false := by
  cases he : E j with
  | false => rfl
  | true => have := R.cl j i he h; rw [R.out] at this; cases this

/-- what the operation looks at has its value of the text's order -/
theorem DAt.look (L : Lex C run ops tr) {k : Nat} {ρ : Nat → PV} {β : List (Nat × Nat)} (D : DAt ops tr N F w0 h0 β0 E a w k ρ β) {i : Nat} {o : Oper} (R : Rdy ops E E' i o) {t : Nat} (ht : t ∈ o.looksAt ops) : ρ t = (tr i).s.ρ t := by
  have hi : i < ops.size := (Array.getElem?_eq_some_iff.1 R.at_).1
  refine D.rh t i (by omega) (fun j o' hj hd => ?_)
  rcases Nat.lt_trichotomy j i with h | h | h
  · exact ⟨fun _ => h, fun _ => R.anc j ((drawOk_spec L.ok).2 i j o o' R.at_ hj h (.inl (hits_dst hd (.inl ht))))⟩
  · subst h; rw [R.out]; simp
  · have := R.later ((drawOk_spec L.ok).2 j i o' o hj R.at_ h (.inr (hits_dst hd (.inl ht))))
    rw [this]
    constructor
    · intro hh; cases hh
    · intro hh; omega

theorem DAt.evs (L : Lex C run ops tr) {k : Nat} {ρ : Nat → PV} {β : List (Nat × Nat)} (D : DAt ops tr N F w0 h0 β0 E a w k ρ β) {i : Nat} {o : Oper} (R : Rdy ops E E' i o) : ∀ x ∈ o.op.operands.toList, ev ρ x = ev (tr i).s.ρ x := by
  intro x hx
  cases x with
  | tmp t => exact D.look L R (List.mem_append_left _ (List.mem_filterMap.2 ⟨.tmp t, hx, rfl⟩))
  | _ => rfl

theorem DAt.wants (L : Lex C run ops tr) {k : Nat} {ρ : Nat → PV} {β : List (Nat × Nat)} (D : DAt ops tr N F w0 h0 β0 E a w k ρ β) {i : Nat} {o : Oper} (R : Rdy ops E E' i o) : wantedA ops o ρ = wantedA ops o (tr i).s.ρ := by
  unfold wantedA
  cases hg : o.guard with
  | none => rfl
  | some jw =>
    obtain ⟨j, want⟩ := jw
    simp only
    cases hd : (ops.toList[j]?).bind (·.dst) with
    | none => rfl
    | some d =>
      have hd' : (ops[j]?).bind (·.dst) = some d := by simpa using hd
      have : ρ d = (tr i).s.ρ d := D.look L R (List.mem_append_right _ (by simp [hg, hd']))
      simp only [this]

/-- the temporaries, after it -/
theorem DAt.rh' (L : Lex C run ops tr) {k : Nat} {ρ : Nat → PV} {β : List (Nat × Nat)} (D : DAt ops tr N F w0 h0 β0 E a w k ρ β) {i : Nat} {o : Oper} (R : Rdy ops E E' i o) {r : PV} (hr : (tr (i + 1)).s.ρ = updO (tr i).s.ρ o.dst r) :
    ∀ t k', k' ≤ ops.size → (∀ j o, ops[j]? = some o → o.dst = some t → (E' j = true ↔ j < k')) → updO ρ o.dst r t = (tr k').s.ρ t := by
  intro t k' hk hw
  rw [updO_at]
  split
  · rename_i ht
    have hik : i < k' := (hw i o R.at_ ht).1 ((R.upd i).2 (.inr rfl))
    rw [L.rho_keep (t := t) (i := i + 1) k' hik hk (fun j o' h1 h2 h3 h4 => ?_), hr, updO_at, if_pos ht]
    have he := (hw j o' h3 h4).2 h2
    rcases (R.upd j).1 he with he | he
    · rw [R.later ((drawOk_spec L.ok).2 j i o' o h3 R.at_ (by omega) (.inl (hits_dst ht (.inr h4))))] at he
      cases he
    · omega
  · rename_i ht
    refine D.rh t k' hk (fun j o' h1 h2 => ?_)
    have hji : j ≠ i := by
      rintro rfl
      rw [R.at_] at h1
      obtain rfl := Option.some.inj h1
      exact ht h2
    rw [← hw j o' h1 h2, R.upd]
    simp [hji]

theorem DAt.still (L : Lex C run ops tr) {k : Nat} {ρ : Nat → PV} {β : List (Nat × Nat)} (D : DAt ops tr N F w0 h0 β0 E a w k ρ β) {i : Nat} {o : Oper} (R : Rdy ops E E' i o) (hd : dstOk N o = true) (hn : ¬ Ran ops tr i)
    {r : PV} (hr : (tr (i + 1)).s.ρ = updO (tr i).s.ρ o.dst r) {v : Value} (hv : VRel w (Av F (Kh tr E k) β) β (Kh tr E k) v r) : DInv ops tr N F w0 h0 β0 E' (a.put o.dst v) w := by
  have hK : Kh tr E' k = Kh tr E k := by
    unfold Kh
    refine maskE_congr (fun j hj => ?_)
    have hji : j ≠ i := by
      rintro rfl
      exact hn ((L.wf k D.kn).2.2 j hj).2
    have := R.upd j
    simp only [hji, or_false] at this
    cases h1 : E j <;> cases h2 : E' j <;> simp_all
  refine ⟨k, updO ρ o.dst r, β, D.kn, ?_, ?_, D.base, by rw [hK]; exact D.hr, by rw [hK]; exact D.er.put (dstOk_lt hd D.sz) hv, D.rh' L R hr, by rw [hK]; exact D.sp, by rw [put_defers']; exact D.df, by rw [put_size]; exact D.sz⟩
  · intro j h1 h2
    rcases (R.upd j).1 h2 with h2 | rfl
    · exact D.lo j h1 h2
    · exact absurd h1 hn
  · intro j h1 h2 h3
    exact (R.upd j).2 (.inl (D.hi j h1 h2 h3))

theorem VRel.stripped {A : Nat → Prop} {β : List (Nat × Nat)} {M : AHeap} {v : Value} {p : PV} (f : Nat → Bool) (h : visR f p = true → VRel w A β M v p) : VRel w A β M v (if visR f p then p else .any) := by
  split
  · rename_i hv; exact h hv
  · exact .any v

/-- ONE OPERATION that is ready. -/
theorem DInv.step (K : CfgOk C) (S : RunsOk C run) (L : Lex C run ops tr) (D : DInv ops tr N F w0 h0 β0 E a w) {i : Nat} {o : Oper} (R : Rdy ops E E' i o) (hd : dstOk N o = true)
    {Q : Exit → Act → World → Prop} {next : Act → World → Prop} (hK : ∀ a' w', DInv ops tr N F w0 h0 β0 E' a' w' → next a' w') : wpOp C.P ops Q i next a w := by
  obtain ⟨k, ρ, β, D⟩ := D
  have hi : i < ops.size := (Array.getElem?_eq_some_iff.1 R.at_).1
  have hwant := D.wants L R
  have hevs := D.evs L R
  have hval : ∀ lv h, opVal C run lv o.op ρ h = opVal C run lv o.op (tr i).s.ρ h := fun lv h => opVal_congr hevs
  unfold wpOp
  rw [R.at_]
  simp only
  obtain ⟨wf1, wf2, wf3⟩ := L.wf i (by omega)
  cases L.view R.at_ with
  | off hw hy =>
    rw [wanted_sim D.er (by rw [hwant]; exact hw), if_neg (by simp)]
    refine hK _ _ (D.still L R hd ?_ (by rw [hy]) .undef)
    rintro ⟨o', h1, h2, h3⟩
    rw [R.at_] at h1
    obtain rfl := Option.some.inj h1
    rw [hw] at h3; cases h3
  | plain r hx hw hh hv hy =>
    rw [wanted_sim D.er (by rw [hwant]; exact hw), if_pos rfl]
    refine .inl ?_
    have hn : ¬ Ran ops tr i := by
      rintro ⟨o', h1, h2, h3⟩
      rw [R.at_] at h1
      obtain rfl := Option.some.inj h1
      rw [hh] at h2; cases h2
    have e : opVal C run 1 o.op ρ (Kh tr E k) = some (r, Kh tr E k) := by
      rw [hval]; exact opVal_plain hh hv
    refine opVal_wp K S D.hr D.er e (fun v w' β' q1 q2 q3 q4 => ?_)
    have G := q4 (Nat.le_refl 1)
    have D' : DAt ops tr N F w0 h0 β0 E a w' k ρ β' := ⟨D.kn, D.lo, D.hi, D.base, q2, D.er.mono q3, D.rh, D.sp.trans q3, D.df, D.sz⟩
    exact hK _ _ (D'.still L R hd hn (by rw [hy]) q1)
  | two r h' hw hh hl hv hy =>
    rw [wanted_sim D.er (by rw [hwant]; exact hw), if_pos rfl]
    refine .inl ?_
    have hran : Ran ops tr i := ⟨o, R.at_, hh, hw⟩
    have hki : k ≤ i := by
      rcases Nat.lt_or_ge i k with h | h
      · have := D.hi i hran hl h; rw [R.out] at this; cases this
      · exact h
    have anc_of : ∀ j, Ran ops tr j → j < i → E j = true := fun j hj hlt => by
      obtain ⟨oj, g1, g2, _⟩ := hj
      rcases level_spec hl g1 g2 with h | h | h
      · omega
      · exact R.anc j h
      · have := anc_lt L.ok j i h; omega
    obtain ⟨β1, D1⟩ := D.adv L (i - k) (by omega) (fun j h1 h2 h3 => by
      have := D.lo j h3.1 (anc_of j h3.1 (by omega)); omega)
    rw [show k + (i - k) = i by omega] at D1
    have hKi : Kh tr E i = (tr i).s.h := maskE_all wf2 (fun j hj => anc_of j (wf3 j hj).2 (wf3 j hj).1)
    have hr1 := D1.hr
    have er1 := D1.er
    have sp1 := D1.sp
    rw [hKi] at hr1 er1 sp1
    refine opVal_wp K S hr1 er1 (by rw [hval]; exact hv) (fun v w' β' q1 q2 q3 q4 => hK _ _ ?_)
    have hK' : Kh tr E' (i + 1) = h' := by
      unfold Kh
      rw [hy]
      exact maskE_all (by simp) (fun j hj => by cases hj)
    refine ⟨i + 1, updO ρ o.dst r, β', by omega, ?_, ?_, ?_, by rw [hK']; exact q2, by rw [hK']; exact (er1.mono q3).put (dstOk_lt hd D.sz) q1, D.rh' L R (by rw [hy]), by rw [hK']; exact sp1.trans q3, by rw [put_defers']; exact D.df, by rw [put_size]; exact D.sz⟩
    · intro j h1 h2
      rcases (R.upd j).1 h2 with h2 | rfl
      · have := D1.lo j h1 h2; omega
      · omega
    · intro j h1 h2 h3
      by_cases hj : j = i
      · exact (R.upd j).2 (.inr hj)
      · exact (R.upd j).2 (.inl (anc_of j h1 (by omega)))
    · rw [hy]
      have := (sp1.trans q3).len
      exact this
  | one r ext hw hh hl hcl hops hv hnl hy =>
    rw [wanted_sim D.er (by rw [hwant]; exact hw), if_pos rfl]
    refine .inl ?_
    have hran : Ran ops tr i := ⟨o, R.at_, hh, hw⟩
    -- beyond this operation
    obtain ⟨k, β, D, hik⟩ : ∃ k β, DAt ops tr N F w0 h0 β0 E a w k ρ β ∧ i < k := by
      rcases Nat.lt_or_ge i k with h | h
      · exact ⟨k, β, D, h⟩
      · obtain ⟨β1, D1⟩ := D.adv L (i + 1 - k) (by omega) (fun j h1 h2 h3 => by
          obtain ⟨⟨oj, g1, g2, g3⟩, g4⟩ := h3
          by_cases hj : j = i
          · subst hj; exact hl g4
          · rcases level_spec g4 R.at_ hh with h5 | h5 | h5
            · omega
            · have := anc_lt L.ok j i h5; omega
            · have := D.lo j ⟨oj, g1, g2, g3⟩ (R.anc j h5); omega)
        exact ⟨i + 1, β1, by rw [show i + 1 = k + (i + 1 - k) by omega]; exact D1, by omega⟩
    have hno : ∀ j, i + 1 ≤ j → j < k → ¬ (Ran ops tr j ∧ level ops (before ops) j = 2) := fun j h1 h2 h3 => by
      have he := D.hi j h3.1 h3.2 h2
      rcases level_spec h3.2 R.at_ hh with h5 | h5 | h5
      · omega
      · rw [R.later h5] at he; cases he
      · have := anc_lt L.ok i j h5; omega
    obtain ⟨ext2, own2, p1, p2, p3, p4, p5⟩ := L.phase k hik D.kn hno
    rw [hy] at p1 p2 p3
    simp only at p1 p2 p3
    have wfx : (tr i).L0 ≤ ((tr i).s.h ++ ext).length ∧ ((tr i).own ++ List.replicate ext.length i).length = ((tr i).s.h ++ ext).length - (tr i).L0 := by
      refine ⟨by simp; omega, by simp; omega⟩
    -- the three heaps
    have hKE : ∀ e : Nat → Bool, Kh tr e k = maskE e (tr i).L0 (tr i).own (tr i).s.h ++ List.zipWith (fun o j => if e j then o else hide1 o) ext (List.replicate ext.length i) ++ List.zipWith (fun o j => if e j then o else hide1 o) ext2 own2 := fun e => by
      unfold Kh
      rw [p1, p2, p3, maskE_app wfx.1 wfx.2, maskE_app wf1 wf2]
    have hE'old : ∀ j ∈ (tr i).own, E j = E' j := fun j hj => by
      have hji : j ≠ i := by have := (wf3 j hj).1; omega
      have := R.upd j
      simp only [hji, or_false] at this
      cases h1 : E j <;> cases h2 : E' j <;> simp_all
    have hE'new : ∀ j ∈ own2, E j = E' j := fun j hj => by
      have hji : j ≠ i := by have := p5 j hj; omega
      have := R.upd j
      simp only [hji, or_false] at this
      cases h1 : E j <;> cases h2 : E' j <;> simp_all
    have hA := hKE E
    have hB := hKE E'
    rw [← maskE_congr hE'old, ← zip_congr ext2 own2 hE'new, zip_all (e := E') ext (List.replicate ext.length i) (by simp) (fun j hj => by obtain ⟨_, rfl⟩ := List.mem_replicate.1 hj; exact (R.upd j).2 (.inr rfl))] at hB
    have hlA : (maskE E (tr i).L0 (tr i).own (tr i).s.h).length = (tr i).s.h.length := maskE_len wf1 wf2
    have hlM : (maskE ((before ops).getD i 0).testBit (tr i).L0 (tr i).own (tr i).s.h).length = (tr i).s.h.length := maskE_len wf1 wf2
    have hlz : (List.zipWith (fun o j => if E j then o else hide1 o) ext (List.replicate ext.length i)).length = ext.length := by simp
    have atA : ∀ id, id < (tr i).s.h.length → (Kh tr E k)[id]? = (maskE E (tr i).L0 (tr i).own (tr i).s.h)[id]? := fun id hid => by
      rw [hA, List.append_assoc, List.getElem?_append_left (by omega)]
    have hM : ∀ (id : Nat) (o : AObj), (maskE ((before ops).getD i 0).testBit (tr i).L0 (tr i).own (tr i).s.h)[id]? = some o → o.mu ≠ .x → (Kh tr E k)[id]? = some o := by
      intro id o e1 e2
      have hid : id < (tr i).s.h.length := by have := lt_of_some e1; omega
      rw [atA id hid]
      rw [maskE_get wf1 wf2] at e1 ⊢
      split at e1
      · rename_i hl0; rw [if_pos hl0]; exact e1
      · rename_i hl0
        rw [if_neg hl0]
        cases ho : (tr i).s.h[id]? with
        | none => rw [ho] at e1; cases e1
        | some o1 =>
          rw [ho] at e1
          simp only [Option.map_some, Option.some.injEq] at e1 ⊢
          split at e1
          · rename_i hb
            rw [if_pos (R.anc _ hb)]; exact e1
          · subst e1; exact absurd rfl e2
    obtain ⟨HM, VM⟩ := D.hr.part (M := maskE ((before ops).getD i 0).testBit (tr i).L0 (tr i).own (tr i).s.h) (by rw [hlM, hA]; simp [hlA]) hM hcl
    -- the operation, on its part of the heap
    have erM : ERel w (Av (Fp F β (Kh tr E k) (maskE ((before ops).getD i 0).testBit (tr i).L0 (tr i).own (tr i).s.h)) (maskE ((before ops).getD i 0).testBit (tr i).L0 (tr i).own (tr i).s.h) (β.take (maskE ((before ops).getD i 0).testBit (tr i).L0 (tr i).own (tr i).s.h).length))
        (β.take (maskE ((before ops).getD i 0).testBit (tr i).L0 (tr i).own (tr i).s.h).length) (maskE ((before ops).getD i 0).testBit (tr i).L0 (tr i).own (tr i).s.h) a
        (fun t => if visR (visible (maskE ((before ops).getD i 0).testBit (tr i).L0 (tr i).own (tr i).s.h)) (ρ t) then ρ t else .any) := fun t => VRel.stripped _ (fun hv => VM _ _ (D.er t) hv)
    have eM : opVal C run 1 o.op (fun t => if visR (visible (maskE ((before ops).getD i 0).testBit (tr i).L0 (tr i).own (tr i).s.h)) (ρ t) then ρ t else .any) (maskE ((before ops).getD i 0).testBit (tr i).L0 (tr i).own (tr i).s.h) =
        some (r, maskE ((before ops).getD i 0).testBit (tr i).L0 (tr i).own (tr i).s.h ++ ext) := by
      rw [← hv]
      refine opVal_congr (fun x hx => ?_)
      have h1 := hops x hx
      have h2 := hevs x hx
      cases x with
      | tmp t =>
        simp only [ev] at h1 h2 ⊢
        rw [h2, if_pos h1]
      | _ => rfl
    refine opVal_wp K S HM erM eM (fun v w' β1 q1 q2 q3 q4 => hK _ _ ?_)
    have G := q4 (Nat.le_refl 1)
    have hlt : ∀ id, (tr i).s.h.length ≤ id → id < (tr i).s.h.length + ext.length → (Kh tr E k)[id]? = (List.zipWith (fun o j => if E j then o else hide1 o) ext (List.replicate ext.length i))[id - (tr i).s.h.length]? ∧ (Kh tr E' k)[id]? = ext[id - (tr i).s.h.length]? := fun id h1 h2 => by
      constructor
      · rw [hA, List.getElem?_append_left (by rw [List.length_append, hlA, hlz]; omega), List.getElem?_append_right (by omega), hlA]
      · rw [hB, List.getElem?_append_left (by rw [List.length_append, hlA]; omega), List.getElem?_append_right (by omega), hlA]
    obtain ⟨β', m1, m2, m3, m4, m5, m6⟩ := D.hr.merge (h' := Kh tr E' k) (by rw [hlM, hA]; simp [hlA]) hM q2 q3 G hnl (by rw [hA, hB]; simp)
      (fun id h1 h2 => by rw [hlM] at h1 h2 ⊢; exact (hlt id h1 h2).2)
      (fun id h1 => by
        rw [hlM] at h1
        rcases h1 with h1 | h1
        · rw [atA id h1, hB, List.append_assoc, List.getElem?_append_left (by omega)]
        · rw [hA, hB, List.getElem?_append_right (by rw [List.length_append, hlA]; omega), List.getElem?_append_right (by rw [List.length_append, hlA, hlz]; omega)]
          simp)
      (fun id o h1 h2 h3 => by
        rw [hlM] at h1 h2
        rw [(hlt id h1 h2).1, List.getElem?_zipWith] at h3
        cases h4 : ext[id - (tr i).s.h.length]? with
        | none => rw [h4] at h3; simp at h3
        | some y =>
          have := lt_of_some h4
          rw [h4, show (List.replicate ext.length i)[id - (tr i).s.h.length]? = some i by simp [this]] at h3
          simp [R.out] at h3
          subst h3
          rfl)
    have hb0 : h0.length ≤ (tr i).s.h.length := by
      have := D.base
      rw [p2] at this
      omega
    refine ⟨k, updO ρ o.dst r, β', D.kn, ?_, ?_, D.base, m1, ?_, D.rh' L R (by rw [hy]), ?_, by rw [put_defers']; exact D.df, by rw [put_size]; exact D.sz⟩
    · intro j h1 h2
      rcases (R.upd j).1 h2 with h2 | rfl
      · exact D.lo j h1 h2
      · exact hik
    · intro j h1 h2 h3
      exact (R.upd j).2 (.inl (D.hi j h1 h2 h3))
    · exact ERel.put (fun t => (D.er t).fwd m2 (fun b hb _ => G.keep b hb) m3) (dstOk_lt hd D.sz) (m6 _ _ q1)
    · refine ⟨Nat.le_trans D.sp.size G.size, ?_, ?_, ?_, D.sp.refs.trans m2, ?_, G.os.trans D.sp.os, G.tape.trans D.sp.tape, G.output.trans D.sp.output, Nat.le_trans D.sp.drawn G.drawn⟩
      · have h1 := D.sp.len
        rw [hA] at h1
        rw [hB]
        simp at h1 ⊢
        omega
      · intro b hb hm
        rw [G.keep b (Nat.lt_of_lt_of_le hb D.sp.size)]
        exact D.sp.keep b hb hm
      · intro b hb hm
        exact D.sp.shr b hb (m4 b (Nat.lt_of_lt_of_le hb D.sp.size) hm)
      · intro id o e1 e2
        obtain ⟨f1, f2⟩ := D.sp.lck id o e1 e2
        have hid : id < (tr i).s.h.length := by have := lt_of_some e1; omega
        refine ⟨?_, by rw [m5 id (by rw [hlM]; exact hid)]; exact f2⟩
        rw [← f1, atA id hid, hB, List.append_assoc, List.getElem?_append_left (by omega)]

theorem countP_lt {p q : Nat → Bool} : ∀ (l : List Nat), (∀ j ∈ l, q j = true → p j = true) → (∃ i ∈ l, p i = true ∧ q i = false) → l.countP q < l.countP p
  | [], _, ⟨i, h, _⟩ => by cases h
  | j :: l, h1, ⟨i, h2, h3, h4⟩ => by
    have le : l.countP q ≤ l.countP p := List.countP_mono_left (fun j hj => h1 j (by simp [hj]))
    rcases List.mem_cons.1 h2 with rfl | h2
    · rw [List.countP_cons, List.countP_cons, h3, h4]; simp; omega
    · have := countP_lt l (fun j hj => h1 j (by simp [hj])) ⟨i, h2, h3, h4⟩
      rw [List.countP_cons, List.countP_cons]
      have hj := h1 j (by simp)
      cases hq : q j with
      | false => simp; omega
      | true => rw [hj hq]; simp; omega

theorem DInv.done (L : Lex C run ops tr) (D : DInv ops tr N F w0 h0 β0 E a w) (hE : ∀ j, j < ops.size → E j = true) : ∃ β, SR N w F β (tr ops.size).s a ∧ Stp w0 h0 β0 w (tr ops.size).s.h β := by
  obtain ⟨k, ρ, β, D⟩ := D
  obtain ⟨β1, D1⟩ := D.adv L (ops.size - k) (by have := D.kn; omega) (fun j h1 h2 h3 => by
    have := D.lo j h3.1 (hE j (by have := D.kn; omega)); omega)
  rw [show k + (ops.size - k) = ops.size by have := D.kn; omega] at D1
  obtain ⟨w1, w2, w3⟩ := L.wf ops.size (Nat.le_refl _)
  have hK : Kh tr E ops.size = (tr ops.size).s.h := maskE_all w2 (fun j hj => hE j (w3 j hj).1)
  have hρ : ρ = (tr ops.size).s.ρ := by
    funext t
    refine D1.rh t ops.size (Nat.le_refl _) (fun j o hj _ => ?_)
    have : j < ops.size := (Array.getElem?_eq_some_iff.1 hj).1
    simp [hE j this, this]
  have h1 := D1.hr
  have h2 := D1.er
  have h3 := D1.sp
  rw [hK] at h1 h2 h3
  rw [hρ] at h2
  exact ⟨β1, ⟨h1, h2, D1.df, D1.sz⟩, h3⟩

theorem wpAny_sim (K : CfgOk C) (S : RunsOk C run) (L : Lex C run ops tr) (hd : ops.toList.all (dstOk N) = true) {Q : Exit → Act → World → Prop}
    (hQ : ∀ a w β, SR N w F β (tr ops.size).s a → Stp w0 h0 β0 w (tr ops.size).s.h β → Q .normal a w) :
    ∀ (fuel : Nat) (listed : Array Bool) (a : Act) (w : World), listed.size = ops.size → (∀ (i : Nat) (o : Oper), ops[i]? = some o → listed.getD i false = true → ∀ e ∈ aft o, listed.getD e.on false = true) →
      (List.range ops.size).countP (fun j => !listed.getD j false) ≤ fuel → DInv ops tr N F w0 h0 β0 (fun j => listed.getD j false) a w → wpAny C.P .any ops Q fuel listed a w := by
  have all_of : ∀ (listed : Array Bool), listed.size = ops.size → Region.ready .any ops listed = [] → ∀ j, j < ops.size → listed.getD j false = true := by
    intro listed hs hr j
    induction j using Nat.strongRecOn with
    | ind j ih =>
      intro hj
      obtain ⟨o, ho⟩ := op_at (ops := ops) hj
      cases hl : listed.getD j false with
      | true => rfl
      | false =>
        have hm : j ∈ Region.ready .any ops listed := mem_ready.2 ⟨by simp [hs, hj] at hl ⊢; exact hl, o, ho, fun e he hb => by
          have hlt := (drawOk_spec L.ok).1 j o ho e (List.mem_filter.2 ⟨by simpa using he, hb⟩)
          exact ih e.on hlt (by omega)⟩
        rw [hr] at hm; cases hm
  have fin : ∀ (listed : Array Bool) (a : Act) (w : World), (∀ j, j < ops.size → listed.getD j false = true) → DInv ops tr N F w0 h0 β0 (fun j => listed.getD j false) a w → Q .normal a w := by
    intro listed a w hall D
    obtain ⟨β, h1, h2⟩ := D.done L hall
    exact hQ a w β h1 h2
  intro fuel
  induction fuel with
  | zero =>
    intro listed a w hs hc hn D
    have hall : ∀ j, j < ops.size → listed.getD j false = true := fun j hj => by
      have h0 := List.countP_eq_zero.1 (Nat.le_zero.1 hn) j (List.mem_range.2 hj)
      simpa using h0
    refine ⟨?_, fin listed a w hall D⟩
    apply List.eq_nil_iff_forall_not_mem.2
    intro j hj
    obtain ⟨h1, o, h2, _⟩ := mem_ready.1 hj
    have hjs : j < ops.size := (Array.getElem?_eq_some_iff.1 h2).1
    have := hall j hjs
    simp [hs, hjs] at h1 this
    rw [h1] at this; cases this
  | succ fuel ih =>
    intro listed a w hs hc hn D
    refine ⟨fun hr => fin listed a w (all_of listed hs hr) D, fun i hi => ?_⟩
    obtain ⟨h1, o, h2, h3⟩ := mem_ready.1 hi
    have his : i < ops.size := (Array.getElem?_eq_some_iff.1 h2).1
    have hout : listed.getD i false = false := by simp [hs, his] at h1 ⊢; exact h1
    have hcl := anc_closed L.ok (E := fun j => listed.getD j false) hc
    have hedge : ∀ e ∈ aft o, listed.getD e.on false = true := fun e he => by
      have := List.mem_filter.1 he
      exact h3 e (by simpa using this.1) this.2
    have hanc : ∀ j, Anc ops i j → listed.getD j false = true := fun j hj => by
      obtain ⟨o', g1, e, g2, g3⟩ := anc_spec hj
      rw [h2] at g1
      obtain rfl := Option.some.inj g1
      rcases g3 with rfl | g3
      · exact hedge e g2
      · exact hcl e.on j (hedge e g2) g3
    have hupd : ∀ j, (listed.setIfInBounds i true).getD j false = true ↔ listed.getD j false = true ∨ j = i := fun j => by
      by_cases hj : i = j
      · subst hj; simp [hs, his]
      · rw [getD_set_ne false hj]; simp [Ne.symm hj]
    refine DInv.step K S L D (E' := fun j => (listed.setIfInBounds i true).getD j false) ⟨h2, hout, hanc, hcl, hupd⟩ (List.all_eq_true.1 hd o (Array.mem_toList_iff.2 (Array.mem_of_getElem? h2))) (fun a' w' D' => ?_)
    refine ih (listed.setIfInBounds i true) a' w' (by simp [hs]) (fun j o' hj hl e he => ?_) ?_ D'
    · refine (hupd e.on).2 (.inl ?_)
      rcases (hupd j).1 hl with hl | rfl
      · exact hc j o' hj hl e he
      · rw [h2] at hj
        obtain rfl := Option.some.inj hj
        exact hedge e he
    · have := countP_lt (p := fun j => !listed.getD j false) (q := fun j => !(listed.setIfInBounds i true).getD j false) (List.range ops.size) (fun j _ hq => by
        cases hl : listed.getD j false with
        | false => rfl
        | true => have := (hupd j).2 (.inl hl); simp [this] at hq) ⟨i, List.mem_range.2 his, by simp [hout], by simp [(hupd i).2 (.inr rfl)]⟩
      omega

theorem getD_none (n j : Nat) : (Array.replicate n false).getD j false = false := by
  simp only [Array.getD_eq_getD_getElem?, Array.getElem?_replicate]
  split <;> rfl

theorem regionD_wp (K : CfgOk C) (S : RunsOk C run) (hm : C.P.follows .mixedOrders = true) {id : Nat} {Q : Exit → Act → World → Prop} (hd : ops.toList.all (dstOk N) = true) (hk : drawOk ops = true) {β : List (Nat × Nat)} {s : St} {y : DSt} (R : SR N w F β s a)
    (e : evalOpsD C run ops (before ops) 0 ops.toList ⟨s, s.h.length, []⟩ = some y) (hQ : ∀ a' w' β', SR N w' F β' y.s a' → Stp w s.h β w' y.s.h β' → Q .normal a' w') : (Code.region id ops true).wp C.P Q a w := by
  obtain ⟨tr, t1, t2, t3⟩ := evalOpsD_trace ops.toList 0 _ _ e
  have L : Lex C run ops tr := ⟨hk, fun i o ho => by simpa using t2 i o (by simpa using ho), by rw [t1]; exact Nat.le_refl _, by rw [t1]; exact ⟨rfl, rfl⟩⟩
  have t3' : tr ops.size = y := by simpa using t3
  refine wp_region_any hm (wpAny_sim (w0 := w) (h0 := s.h) (β0 := β) K S L hd (F := F) (fun a' w' β' R' S' => by rw [t3'] at R' S'; exact hQ a' w' β' R' S') ops.size _ a _ (by simp) (fun i o ho hl => by rw [getD_none] at hl; cases hl) ?_ ?_)
  · refine Nat.le_trans (List.countP_le_length) (by simp)
  · have hE : ∀ j, (Array.replicate ops.size false).getD j false = false := fun j => getD_none _ j
    have hK : Kh tr (fun j => (Array.replicate ops.size false).getD j false) 0 = s.h := by
      unfold Kh
      rw [t1]
      exact maskE_all (by simp) (fun j hj => by cases hj)
    have G : Grew w { w with drawn := w.drawn + 1 } := Grew.drew w
    refine ⟨0, s.ρ, β, ⟨Nat.zero_le _, fun j _ h => (by rw [hE] at h; cases h), fun j _ _ h => by omega, by rw [t1]; exact Nat.le_refl _, by rw [hK]; exact R.hr.grew G, by rw [hK]; exact R.er.mono (G.stp s.h β), ?_, by rw [hK]; exact G.stp s.h β, R.df, R.sz⟩⟩
    intro t k' hk' hw
    rw [L.rho_keep (t := t) (i := 0) k' (Nat.zero_le _) hk' (fun j o h1 h2 h3 h4 => by
      have := (hw j o h3 h4).2 h2
      rw [hE] at this; cases this), t1]

end Go.Pm
end

/-
  PM, PART 17: CODE, FUNCTIONS, RUNS: what the evaluator says of a function is what a call of it comes to. Conditions: none.
-/
section
set_option linter.unusedVariables false
set_option linter.unusedSimpArgs false
set_option linter.unusedVariables false
namespace Go.Pm

def codeOk (N : Nat) : Code → Bool
  | .region _ ops draw => ops.toList.all (dstOk N) && (!draw || drawOk ops)
  | .seq a b => codeOk N a && codeOk N b
  | .cond _ a b => codeOk N a && codeOk N b
  | .block _ c => codeOk N c
  | .loop c => codeOk N c
  | .scope c => codeOk N c
  | _ => true

def exOf : Ex → Exit
  | .normal => .normal
  | .exit id => .exit id
  | .ret => .ret

theorem evalC_wp {C : Cfg} (K : CfgOk C) (hm : C.P.follows .mixedOrders = true) {run : Run} (S : RunsOk C run) {N : Nat} {F : Nat → Prop} {n : Nat} : ∀ (c : Code) {s s' : St} {ex : Ex} {a : Act} {w : World} {β : List (Nat × Nat)} {Q : Exit → Act → World → Prop},
    codeOk N c = true → evalC C run n c s = some (ex, s') → SR N w F β s a → (∀ a' w' β', SR N w' F β' s' a' → Stp w s.h β w' s'.h β' → Q (exOf ex) a' w') → c.wp C.P Q a w := by
  intro c
  induction c with
  | skip =>
    intro s s' ex a w β Q hc e R hQ
    simp only [evalC, Option.some.injEq, Prod.mk.injEq] at e
    obtain ⟨rfl, rfl⟩ := e
    exact wp_skip (hQ a w β R (Stp.refl _ _ _))
  | label l =>
    intro s s' ex a w β Q hc e R hQ
    simp only [evalC, Option.some.injEq, Prod.mk.injEq] at e
    obtain ⟨rfl, rfl⟩ := e
    exact wp_label (hQ a w β R (Stp.refl _ _ _))
  | exit id =>
    intro s s' ex a w β Q hc e R hQ
    simp only [evalC, Option.some.injEq, Prod.mk.injEq] at e
    obtain ⟨rfl, rfl⟩ := e
    exact wp_exit (hQ a w β R (Stp.refl _ _ _))
  | ret =>
    intro s s' ex a w β Q hc e R hQ
    simp only [evalC, Option.some.injEq, Prod.mk.injEq] at e
    obtain ⟨rfl, rfl⟩ := e
    exact wp_ret (hQ a w β R (Stp.refl _ _ _))
  | region id ops draw =>
    intro s s' ex a w β Q hc e R hQ
    simp only [codeOk, Bool.and_eq_true, Bool.or_eq_true, Bool.not_eq_true'] at hc
    simp only [evalC] at e
    cases draw with
    | false =>
      simp only [Bool.false_eq_true, if_false] at e
      split at e
      · rename_i s1 he
        obtain ⟨rfl, rfl⟩ := Prod.mk.inj (Option.some.inj e)
        exact region_wp K S hc.1 R he hQ
      · cases e
    | true =>
      simp only [if_true] at e
      cases he : evalOpsD C run ops (before ops) 0 ops.toList ⟨s, s.h.length, []⟩ with
      | none => rw [he] at e; simp at e
      | some y =>
        rw [he] at e
        simp only [Option.map_some] at e
        obtain ⟨rfl, rfl⟩ := Prod.mk.inj (Option.some.inj e)
        exact regionD_wp K S hm hc.1 (by simpa using hc.2) R he hQ
  | seq x y ihx ihy =>
    intro s s' ex a w β Q hc e R hQ
    simp only [codeOk, Bool.and_eq_true] at hc
    simp only [evalC] at e
    refine wp_seq ?_
    cases hx : evalC C run n x s with
    | none => rw [hx] at e; cases e
    | some r =>
      obtain ⟨ex1, s1⟩ := r
      rw [hx] at e
      refine ihx hc.1 hx R (fun a1 w1 β1 R1 S1 => ?_)
      cases ex1 with
      | normal => exact ihy hc.2 e R1 (fun a2 w2 β2 R2 S2 => hQ a2 w2 β2 R2 (S1.trans S2))
      | exit id =>
        obtain ⟨rfl, rfl⟩ := Prod.mk.inj (Option.some.inj e)
        exact hQ a1 w1 β1 R1 S1
      | ret =>
        obtain ⟨rfl, rfl⟩ := Prod.mk.inj (Option.some.inj e)
        exact hQ a1 w1 β1 R1 S1
  | cond c x y ihx ihy =>
    intro s s' ex a w β Q hc e R hQ
    simp only [codeOk, Bool.and_eq_true] at hc
    simp only [evalC] at e
    split at e
    · rename_i hb
      have := R.er.ev c
      rw [hb] at this
      exact wp_cond_true this.bool_inv (ihx hc.1 e R hQ)
    · rename_i hb
      have := R.er.ev c
      rw [hb] at this
      exact wp_cond_false this.bool_inv (ihy hc.2 e R hQ)
    · cases e
  | block id c ih =>
    intro s s' ex a w β Q hc e R hQ
    simp only [codeOk] at hc
    simp only [evalC] at e
    refine wp_block ?_
    cases hx : evalC C run n c s with
    | none => rw [hx] at e; cases e
    | some r =>
      obtain ⟨ex1, s1⟩ := r
      rw [hx] at e
      refine ih hc hx R (fun a1 w1 β1 R1 S1 => ?_)
      cases ex1 with
      | normal =>
        obtain ⟨rfl, rfl⟩ := Prod.mk.inj (Option.some.inj e)
        exact hQ a1 w1 β1 R1 S1
      | exit id' =>
        simp only at e
        simp only [exOf, Exit.inBlock]
        split at e
        · rename_i hid
          obtain ⟨rfl, rfl⟩ := Prod.mk.inj (Option.some.inj e)
          rw [if_pos hid]
          exact hQ a1 w1 β1 R1 S1
        · rename_i hid
          obtain ⟨rfl, rfl⟩ := Prod.mk.inj (Option.some.inj e)
          rw [if_neg hid]
          exact hQ a1 w1 β1 R1 S1
      | ret =>
        obtain ⟨rfl, rfl⟩ := Prod.mk.inj (Option.some.inj e)
        exact hQ a1 w1 β1 R1 S1
  | loop c ih =>
    intro s s' ex a w β Q hc e R hQ
    simp only [codeOk] at hc
    simp only [evalC] at e
    have key : ∀ (m : Nat) {s : St} {a : Act} {w : World} {β : List (Nat × Nat)}, iter (evalC C run n c) m s = some (ex, s') → SR N w F β s a → (∀ a' w' β', SR N w' F β' s' a' → Stp w s.h β w' s'.h β' → Q (exOf ex) a' w') → Code.rounds C.P c Q m a w := by
      intro m
      induction m with
      | zero => intro s a w β e; simp [iter] at e
      | succ m ihm =>
        intro s a w β e R hQ
        simp only [iter] at e
        rw [rounds_succ]
        cases hx : evalC C run n c s with
        | none => rw [hx] at e; cases e
        | some r =>
          obtain ⟨ex1, s1⟩ := r
          rw [hx] at e
          refine ih hc hx R (fun a1 w1 β1 R1 S1 => ?_)
          cases ex1 with
          | normal => exact ihm e R1 (fun a2 w2 β2 R2 S2 => hQ a2 w2 β2 R2 (S1.trans S2))
          | exit id =>
            obtain ⟨rfl, rfl⟩ := Prod.mk.inj (Option.some.inj e)
            exact hQ a1 w1 β1 R1 S1
          | ret =>
            obtain ⟨rfl, rfl⟩ := Prod.mk.inj (Option.some.inj e)
            exact hQ a1 w1 β1 R1 S1
    exact wp_loop_rounds n (key n e R hQ)
  | scope c ih =>
    intro s s' ex a w β Q hc e R hQ
    simp only [codeOk] at hc
    simp only [evalC] at e
    refine wp_scope_straight (ih hc e R (fun a1 w1 β1 R1 S1 => ?_))
    cases ex <;> exact hQ a1 w1 β1 R1 S1
  | _ =>
    intro s s' ex a w β Q hc e R hQ
    simp [evalC] at e

/-! ### results -/
def resOne (r : ResultVar) (tmps : Array Value) : Sem Value :=
  match r with
  | .tmp t => pure (tmps.getD t undef)
  | .cell a t => do loadVar t (← asAddr (tmps.getD a undef))

theorem resultOf_run {P : Program} {w : World} {F : Nat → Prop} {β : List (Nat × Nat)} {h : AHeap} {a : Act} {ρ : Nat → PV} (H : HRel w F β h) (R : ERel w (Av F h β) β h a ρ) : ∀ (l : List ResultVar) (vs : List PV), resultOf P h ρ l = some vs →
    ∃ us : List Value, (l.mapM (fun r => resOne r a.tmps)).run P w = .ok us w ∧ L2 (VRel w (Av F h β) β h) us vs
  | [], vs, e => by
    simp [resultOf] at e; subst e
    exact ⟨[], by simp, rfl, fun j hj => by simp at hj⟩
  | r :: l, vs, e => by
    simp only [resultOf] at e
    split at e
    · rename_i v vs' h1 h2
      obtain rfl := Option.some.inj e
      obtain ⟨us, u1, u2, u3⟩ := resultOf_run H R l vs' h2
      have one : ∃ u, (resOne r a.tmps).run P w = .ok u w ∧ VRel w (Av F h β) β h u v := by
        cases r with
        | tmp t =>
          obtain rfl := Option.some.inj h1
          exact ⟨_, rfl, R t⟩
        | cell x t =>
          obtain ⟨u, k1, k2⟩ := load_run (P := P) H (R x) h1
          refine ⟨u, ?_, k2⟩
          rw [← k1]
          unfold resOne Instr.loadAt
          simp only [Sem.run_bind]
          unfold Instr.loadAt at k1
          simp only [Sem.run_bind] at k1
          generalize a.tmps.getD x undef = y at k1 ⊢
          cases y with
          | pointer p =>
            cases p with
            | some ad => simp [Instr.sureAddr, asAddr]
            | none => simp [Instr.sureAddr] at k1
          | _ => simp [Instr.sureAddr] at k1
      obtain ⟨u, o1, o2⟩ := one
      refine ⟨u :: us, ?_, by simp [u2], fun j hj => ?_⟩
      · simp only [List.mapM_cons, Sem.run_bind, o1, u1, Result.andThen_ok, Sem.run_pure]
      · cases j with
        | zero => simpa using o2
        | succ j => simpa using u3 j (by simpa using hj)
    · cases e

theorem results_run {P : Program} {w : World} {F : Nat → Prop} {β : List (Nat × Nat)} {h : AHeap} {a : Act} {ρ : Nat → PV} (H : HRel w F β h) (R : ERel w (Av F h β) β h a ρ) (fn : Func) {vs : List PV} (e : resultOf P h ρ fn.results.toList = some vs) :
    ∃ u, (results fn a.tmps).run P w = .ok u w ∧ VRel w (Av F h β) β h u (tupOf vs) := by
  obtain ⟨us, u1, u2, u3⟩ := resultOf_run (P := P) H R _ _ e
  have hrun : (fn.results.mapM (fun r => resOne r a.tmps)).run P w = .ok us.toArray w := by
    rw [← Array.toArray_toList (xs := fn.results), List.mapM_toArray]
    simp only [Sem.run_map, u1, Result.andThen_ok]
  refine ⟨if h : us.toArray.size = 1 then us.toArray[0] else .tuple us.toArray, ?_, ?_⟩
  · have : results fn a.tmps = (do let vs ← fn.results.mapM (fun r => resOne r a.tmps); pure (if h : vs.size = 1 then vs[0] else .tuple vs)) := by
      unfold results resOne
      rfl
    rw [this]
    simp only [Sem.run_bind, hrun, Result.andThen_ok, Sem.run_pure]
  · match us, vs, u2 with
    | [], [], _ => exact .tup [] [] rfl (fun j hj => by simp at hj)
    | [u], [v], _ => simpa [tupOf] using u3 0 (by simp)
    | u1 :: u2 :: us, v1 :: v2 :: vs, hl =>
      have : ¬ ((u1 :: u2 :: us).toArray.size = 1) := by simp
      rw [dif_neg this]
      exact .tup _ _ hl u3

/-! ### functions -/
structure CodesOk (C : Cfg) : Prop where
  codes : ∀ (f : FuncId) (fn : Func) (c : Code), (C.mode f = .pure ∨ C.mode f = .opened) → C.P.funcs[f]? = some fn → fn.body = some c → codeOk fn.ntmps c = true
  mixed : C.P.follows .mixedOrders = true

theorem bodyF_sim {C : Cfg} (K : CfgOk C) (KC : CodesOk C) {run : Run} (S : RunsOk C run) {n : Nat} {f : FuncId} (hf : C.mode f = .pure ∨ C.mode f = .opened) : SimRun C.P f (bodyF C run n f) := by
  intro args h r h' e w F β vs H ha
  unfold bodyF at e
  split at e
  · rename_i fn hfn
    split at e
    · rename_i c hc
      have main : ∀ (ex : Ex) (s : St), evalC C run n c ⟨envOf args, h⟩ = some (ex, s) → (ex = .normal ∨ ex = .ret) → (∃ vs, resultOf C.P s.h s.ρ fn.results.toList = some vs ∧ r = tupOf vs ∧ h' = s.h) → CSim C.P 2 w F β h f vs r h' := by
        rintro ex s hev hex ⟨rs, hrs, rfl, rfl⟩
        refine calls_of_wp hfn hc ?_
        have hlen := ha.1
        have R : SR fn.ntmps w F β ⟨envOf args, h⟩ { tmps := vs.toArray ++ Array.replicate (fn.ntmps - vs.toArray.size) undef, defers := [] } := by
          refine ⟨H, fun t => ?_, rfl, by simp; omega⟩
          show VRel w (Av F h β) β h ((vs.toArray ++ Array.replicate (fn.ntmps - vs.toArray.size) undef).getD t Go.undef) (args.getD t .undef)
          by_cases ht : t < args.length
          · have e1 : (vs.toArray ++ Array.replicate (fn.ntmps - vs.toArray.size) undef).getD t Go.undef = vs.getD t Go.undef := by
              rw [Array.getD_eq_getD_getElem?, Array.getElem?_append, if_pos (by simp; omega)]
              simp [List.getD]
            have e2 : args.getD t .undef = args.getD t .any := by simp [List.getD, ht]
            rw [e1, e2]
            exact ha.2 t ht
          · have e1 : (vs.toArray ++ Array.replicate (fn.ntmps - vs.toArray.size) undef).getD t Go.undef = Go.undef := by
              rw [Array.getD_eq_getD_getElem?, Array.getElem?_append]
              rw [if_neg (by simp; omega)]
              rw [Array.getElem?_replicate]
              split <;> rfl
            have e2 : args.getD t .undef = .undef := by simp [List.getD, List.getElem?_eq_none (show args.length ≤ t by omega)]
            rw [e1, e2]
            exact .undef
        refine evalC_wp K KC.mixed S c (KC.codes f fn c hf hfn hc) hev R (fun a' w' β' R' S' => ?_)
        obtain ⟨u, r1, r2⟩ := results_run (P := C.P) R'.hr R'.er fn hrs
        rcases hex with rfl | rfl
        · exact ⟨R'.df, u, r1, u, β', rfl, r2, R'.hr, S', fun hh => by omega⟩
        · exact ⟨R'.df, u, r1, u, β', rfl, r2, R'.hr, S', fun hh => by omega⟩
      cases hev : evalC C run n c ⟨envOf args, h⟩ with
      | none => rw [hev] at e; cases e
      | some x =>
        obtain ⟨ex, s⟩ := x
        rw [hev] at e
        have fin : (match resultOf C.P s.h s.ρ fn.results.toList with | some vs => some (tupOf vs, s.h) | none => none) = some (r, h') → ∃ vs, resultOf C.P s.h s.ρ fn.results.toList = some vs ∧ r = tupOf vs ∧ h' = s.h := by
          intro e
          split at e
          · rename_i rs hrs
            obtain ⟨rfl, rfl⟩ := Prod.mk.inj (Option.some.inj e)
            exact ⟨rs, hrs, rfl, rfl⟩
          · cases e
        cases ex with
        | normal => exact main .normal s hev (.inl rfl) (fin e)
        | ret => exact main .ret s hev (.inr rfl) (fin e)
        | exit id => cases e
    · cases e
  · cases e

theorem runF_sim {C : Cfg} (K : CfgOk C) (KC : CodesOk C) : ∀ n, RunsOk C (runF C n)
  | 0 => fun f _ args h r h' e => by cases e
  | n + 1 => fun f hf => bodyF_sim K KC (runF_sim K KC n) hf

/-- THE WHOLE: a call whose arguments are snapshots off the blocks A. -/
theorem pureF_sim {C : Cfg} (K : CfgOk C) (KC : CodesOk C) {n : Nat} {f : FuncId} (hf : C.mode f = .pure ∨ C.mode f = .opened) {args : List PV} {r : PV} (e : pureF C n f args = some r)
    {w : World} {A : Nat → Prop} (hA : ∀ b, A b → b < w.heap.size) {vs : List Value} (ha : L2 (SRel w A) vs args) :
    Calls C.P f vs.toArray w fun en w' => ∃ v, en = .returned v ∧ SRel w' A v r ∧ Grew w w' := by
  unfold pureF at e
  split at e
  · rename_i r0 hc h1
    cases h2 : rb hc r0 with
    | none => rw [h2] at e; cases e
    | some r1 =>
      rw [h2] at e
      obtain rfl := Option.some.inj e
      have hAv : ∀ b, Av A [] [] b ↔ A b := fun b => ⟨fun h => h.elim id (fun h => absurd h (Mb_empty b)), .inl⟩
      have hin : L2 (VRel w (Av A [] []) [] []) vs args := ⟨ha.1, fun j hj => .val ((ha.2 j hj).weak (fun b hb => (hAv b).1 hb))⟩
      refine (runF_sim K KC n f hf args [] r0 hc h1 w A [] vs (HRel.empty w A hA) hin).mono ?_
      rintro en w' ⟨v, β', rfl, q1, q2, q3, _⟩
      refine ⟨v, rfl, ?_, grew_of_stp q3⟩
      refine (rb_sim q2 (fun b _ hb ha => hb (.inl ha)) q1 h2 (fun id o bc m1 m2 m3 => ?_)).nrm
      rcases m3 with m3 | m3
      · exact q2.out id o bc m1 m2 (.inl m3)
      · exact q2.out id o bc m1 m2 (.inr m3)
  · cases e

end Go.Pm
end

/-
  PM, PART 27: A REGION WITH ONE OPERATION THAT THE EVALUATOR DOES NOT COVER; functions walked so. Conditions: none.
-/
section
set_option linter.unusedVariables false
set_option linter.unusedSimpArgs false
set_option linter.unusedVariables false
namespace Go.Pm
variable {w : World} {F : Nat → Prop} {β : List (Nat × Nat)} {h : AHeap}

theorem evalOps_wp2 {C : Cfg} (K : CfgOk C) {run : Run} (S : RunsOk C run) {N : Nat} {ops : Array Oper} {Q : Exit → Act → World → Prop} (hd : ops.toList.all (dstOk N) = true) (rest : List Nat) (l2 : List Oper) :
    ∀ (l : List Oper) (k : Nat) {w : World} {β : List (Nat × Nat)} {s s' : St} {a : Act}, ops.toList.drop k = l ++ l2 → SR N w F β s a → evalOps C run ops l s = some s' →
      (∀ a' w' β', SR N w' F β' s' a' → Stp w s.h β w' s'.h β' → wpOps C.P ops Q rest a' w') → wpOps C.P ops Q (List.map (· + k) (List.range l.length) ++ rest) a w := by
  intro l
  induction l with
  | nil =>
    intro k w β s s' a hl R e hQ
    simp [evalOps] at e
    subst e
    simpa using hQ a w β R (Stp.refl w s.h β)
  | cons o r ih =>
    intro k w β s s' a hl R e hQ
    simp only [evalOps] at e
    have hk : ops[k]? = some o := by
      rw [← Array.getElem?_toList]
      have : (ops.toList.drop k)[0]? = some o := by rw [hl]; rfl
      rwa [List.getElem?_drop] at this
    have hr : ops.toList.drop (k + 1) = r ++ l2 := by
      have := congrArg (List.drop 1) hl
      rw [List.drop_drop] at this
      simpa using this
    have hrange : List.map (· + k) (List.range (o :: r).length) ++ rest = k :: (List.map (· + (k + 1)) (List.range r.length) ++ rest) := by
      rw [List.length_cons, List.range_succ_eq_map]
      simp only [List.map_cons, Nat.zero_add, List.map_map, List.cons_append]
      congr 2
      apply List.map_congr_left
      intro x _
      simp; omega
    rw [hrange]
    simp only [wpOps, hk]
    split at e
    · rename_i s1 he
      have hdo : dstOk N o = true := List.all_eq_true.1 hd o (by
        have : o ∈ ops.toList.drop k := by rw [hl]; simp
        exact List.mem_of_mem_drop this)
      have := opStep_wp K S R hdo he (Q := Q) (next := wpOps C.P ops Q (List.map (· + (k + 1)) (List.range r.length) ++ rest)) (fun a' w' β' R' S' => ih (k + 1) hr R' e (fun a2 w2 β2 R2 S2 => hQ a2 w2 β2 R2 (S'.trans S2)))
      split
      · rename_i hw; rw [if_pos hw] at this; exact .inl this
      · rename_i hw; rw [if_neg hw] at this; exact this
    · cases e

/-- one operation whose run is known -/
theorem special_step {P : Program} {N : Nat} {ops : Array Oper} {Q : Exit → Act → World → Prop} {rest : List Nat} {k : Nat} {o : Oper} {s : St} {a : Act} {p : PV} {h' : AHeap} (hk : ops[k]? = some o) (hg : o.guard = none) (hd : dstOk N o = true) (R : SR N w F β s a)
    (S : OSim P 2 w F β s.h (execOp a.eval o) p h') (hK : ∀ a' w' β', SR N w' F β' ⟨updO s.ρ o.dst p, h'⟩ a' → Stp w s.h β w' h' β' → wpOps P ops Q rest a' w') : wpOps P ops Q (k :: rest) a w := by
  simp only [wpOps, hk]
  have hw : Region.wanted o (yielded ops a.tmps) = true := by simp [Region.wanted, hg]
  rw [if_pos hw]
  left
  have hdl := dstOk_lt hd R.sz
  obtain ⟨v, w', β', h1, h2, h3, h4, _⟩ := S
  have fin : ∀ u, u = v → wpOps P ops Q rest (a.put o.dst u) w' := by
    rintro u rfl
    exact hK _ w' β' ⟨h3, (R.er.mono h4).put hdl h2, by rw [put_defers']; exact R.df, by rw [put_size]; exact R.sz⟩ h4
  unfold Oper.wp
  rcases h1 with h1 | ⟨h1, rfl⟩
  · rw [h1]; exact fin _ rfl
  · rw [h1]; exact fin _ rfl

/-- a region with one special operation -/
theorem region_special {C : Cfg} (K : CfgOk C) (hrun : ∀ n, RunsOk C (runF C n)) {N : Nat} {ops : Array Oper} {id : Nat} {Q : Exit → Act → World → Prop} (hd : ops.toList.all (dstOk N) = true) {pre post : List Oper} {o : Oper} (ho : ops.toList = pre ++ o :: post) (hg : o.guard = none)
    {s : St} {a : Act} (R : SR N w F β s a) {M M2 : St → Prop} (e1 : EvOps C ops pre s M)
    (hs : ∀ s1 a1 w1 β1, M s1 → SR N w1 F β1 s1 a1 → Stp w s.h β w1 s1.h β1 → ∃ p h', OSim C.P 2 w1 F β1 s1.h (execOp a1.eval o) p h' ∧ EvOps C ops post ⟨updO s1.ρ o.dst p, h'⟩ M2)
    (hQ : ∀ s3 a3 w3 β3, M2 s3 → SR N w3 F β3 s3 a3 → Stp w s.h β w3 s3.h β3 → Q .normal a3 w3) : (Code.region id ops false).wp C.P Q a w := by
  refine wp_region ?_
  obtain ⟨s1, m1, n0, hn0⟩ := e1
  have hsize : ops.size = pre.length + (post.length + 1) := by
    have := congrArg List.length ho
    simpa using this
  have hrange : List.range ops.size = List.map (· + 0) (List.range pre.length) ++ (pre.length :: (List.map (· + (pre.length + 1)) (List.range post.length) ++ [])) := by
    rw [hsize, List.range_add]
    simp only [Nat.add_zero, List.map_id', List.append_nil]
    congr 1
    rw [List.range_succ_eq_map]
    simp only [List.map_cons, Nat.add_zero, List.map_map]
    congr 1
    apply List.map_congr_left
    intro x _
    simp; omega
  rw [hrange]
  have hdo : dstOk N o = true := List.all_eq_true.1 hd o (by rw [ho]; simp)
  have hk : ops[pre.length]? = some o := by
    rw [← Array.getElem?_toList, ho, List.getElem?_append_right (Nat.le_refl _)]
    simp
  refine evalOps_wp2 K (hrun n0) hd _ (o :: post) pre 0 (by simpa using ho) R (hn0 n0 (Nat.le_refl _)) (fun a1 w1 β1 R1 S1 => ?_)
  obtain ⟨p, h', os, e2⟩ := hs s1 a1 w1 β1 m1 R1 S1
  obtain ⟨s3, m3, n1, hn1⟩ := e2
  refine special_step hk hg hdo R1 os (fun a2 w2 β2 R2 S2 => ?_)
  refine evalOps_wp2 K (hrun n1) hd [] [] post (pre.length + 1) ?_ R2 (hn1 n1 (Nat.le_refl _)) (fun a3 w3 β3 R3 S3 => ?_)
  · have : ops.toList.drop (pre.length + 1) = post := by
      rw [ho, List.drop_append]
      simp
    simpa using this
  · simp only [wpOps]
    exact hQ s3 a3 w3 β3 m3 R3 (S1.trans (S2.trans S3))

/-- code that the evaluator covers -/
theorem ev_wp {C : Cfg} (K : CfgOk C) (hm : C.P.follows .mixedOrders = true) (hrun : ∀ n, RunsOk C (runF C n)) {N : Nat} {c : Code} {s : St} {a : Act} {M : Ex → St → Prop} {Q : Exit → Act → World → Prop} (hc : codeOk N c = true) (e : Ev C c s M) (R : SR N w F β s a)
    (hQ : ∀ ex s' a' w' β', M ex s' → SR N w' F β' s' a' → Stp w s.h β w' s'.h β' → Q (exOf ex) a' w') : c.wp C.P Q a w := by
  obtain ⟨ex, s', m, n0, hn⟩ := e
  exact evalC_wp K hm (hrun n0) c hc (hn n0 n0 (Nat.le_refl _) (Nat.le_refl _)) R (fun a' w' β' R' S' => hQ ex s' a' w' β' m R' S')

/-- a function's call, walked -/
theorem csim_wp {P : Program} {f : FuncId} {fn : Func} {c : Code} {args : List PV} {vs : List Value} {r : PV} {h' : AHeap} (hfn : P.funcs[f]? = some fn) (hc : fn.body = some c) (H : HRel w F β h) (ha : L2 (VRel w (Av F h β) β h) vs args)
    (hw : ∀ a, SR fn.ntmps w F β ⟨envOf args, h⟩ a → c.wp P (fun ex a' w' => (ex = .normal ∨ ex = .ret) ∧ ∃ s' β', SR fn.ntmps w' F β' s' a' ∧ Stp w h β w' s'.h β' ∧ ∃ rs, resultOf P s'.h s'.ρ fn.results.toList = some rs ∧
        ∀ u, VRel w' (Av F s'.h β') β' s'.h u (tupOf rs) → ∃ β2, VRel w' (Av F h' β2) β2 h' u r ∧ HRel w' F β2 h' ∧ Stp w h β w' h' β2) a w) : CSim P 2 w F β h f vs r h' := by
  refine calls_of_wp hfn hc ?_
  have hlen := ha.1
  have R : SR fn.ntmps w F β ⟨envOf args, h⟩ { tmps := vs.toArray ++ Array.replicate (fn.ntmps - vs.toArray.size) undef, defers := [] } := by
    refine ⟨H, fun t => ?_, rfl, by simp; omega⟩
    show VRel w (Av F h β) β h ((vs.toArray ++ Array.replicate (fn.ntmps - vs.toArray.size) undef).getD t Go.undef) (args.getD t .undef)
    by_cases ht : t < args.length
    · have e1 : (vs.toArray ++ Array.replicate (fn.ntmps - vs.toArray.size) undef).getD t Go.undef = vs.getD t Go.undef := by
        rw [Array.getD_eq_getD_getElem?, Array.getElem?_append, if_pos (by simp; omega)]
        simp [List.getD]
      have e2 : args.getD t .undef = args.getD t .any := by simp [List.getD, ht]
      rw [e1, e2]
      exact ha.2 t ht
    · have e1 : (vs.toArray ++ Array.replicate (fn.ntmps - vs.toArray.size) undef).getD t Go.undef = Go.undef := by
        rw [Array.getD_eq_getD_getElem?, Array.getElem?_append]
        rw [if_neg (by simp; omega)]
        rw [Array.getElem?_replicate]
        split <;> rfl
      have e2 : args.getD t .undef = .undef := by simp [List.getD, List.getElem?_eq_none (show args.length ≤ t by omega)]
      rw [e1, e2]
      exact .undef
  refine Code.wp_mono ?_ (hw _ R)
  rintro ex a' w' ⟨hex, s', β', R', S', rs, hrs, hfin⟩
  obtain ⟨u, r1, r2⟩ := results_run (P := P) R'.hr R'.er fn hrs
  obtain ⟨β2, f1, f2, f3⟩ := hfin u r2
  rcases hex with rfl | rfl
  · exact ⟨R'.df, u, r1, u, β2, rfl, f1, f2, f3, fun hh => by omega⟩
  · exact ⟨R'.df, u, r1, u, β2, rfl, f1, f2, f3, fun hh => by omega⟩

/-- an object read as another list of the same cells, shorter, or longer by what is not known -/
theorem HRel.reshape (H : HRel w F β h) {id : Nat} {o : AObj} {bc : Nat × Nat} (eo : h[id]? = some o) (eb : β[id]? = some bc) (em : o.mu = .m) (es' : List PV) (ep' : Nat) (hep : o.ep < ep') (h1 : es'.length ≤ bc.2)
    (h4 : ∀ (i : Nat) (e : PV), es'[i]? = some e → o.es[i]? = some e ∨ ((cells e).length = o.esz ∧ ∀ p ∈ cells e, p = .any)) :
    HRel w F β (h.set id { o with es := es', ep := ep' }) ∧ Stp w h β w (h.set id { o with es := es', ep := ep' }) β := by
  obtain ⟨T, cs, k1, k2, k3, k4, k5⟩ := H.obj id o bc eo eb (by rw [em]; simp)
  have hfit : ∀ i : Nat, i < es'.length → i * o.esz + o.esz ≤ cs.size := fun i hi => by
    have : (i + 1) * o.esz ≤ bc.2 * o.esz := Nat.mul_le_mul_right _ (by omega)
    rw [Nat.add_mul, Nat.one_mul] at this
    omega
  have := H.set eo eb em (w' := w) T cs es' ep' bc (Nat.le_refl _) k1 (fun _ _ _ => rfl) (.inl ⟨rfl, fun hh => by omega⟩) (Nat.le_of_lt hep) rfl rfl rfl h1 k3 (fun i e he => by
    rcases h4 i e he with hh | ⟨h5, h6⟩
    · exact k5 i e hh
    · refine ⟨h5, fun j p hp => ?_⟩
      have hj : j < o.esz := by have := lt_of_some hp; omega
      have hi := lt_of_some he
      have := hfit i hi
      refine ⟨cs[i * o.esz + j], Array.getElem?_eq_getElem (by omega), ?_⟩
      rw [h6 p (List.mem_of_getElem? hp)]
      exact .any _)
  rw [beta_set eb] at this
  exact this

/-- a slice of an object that is read as another list -/
theorem VRel.reshape {v : Value} {id ep n : Nat} {o : AObj} {bc : Nat × Nat} (eo : h[id]? = some o) (eb : β[id]? = some bc) (em : o.mu = .m) (hv : VRel w (Av F h β) β h v (.mref id ep 0 n)) (he : o.ep = ep) (hn : n ≤ o.es.length) (es' : List PV) (ep' : Nat) {A : Nat → Prop} :
    VRel w A β (h.set id { o with es := es', ep := ep' }) v (.mref id ep' 0 n) := by
  obtain ⟨_, _, m3⟩ := hv.mref_inv
  obtain ⟨cap, c1, c2⟩ := m3 o bc eo eb (by rw [em]; simp) he (by omega)
  exact .mref v id ep' 0 n { o with es := es', ep := ep' } bc ⟨_, _, _, c1⟩ (List.getElem?_set_self (lt_of_some eo)) eb (by show o.mu ≠ .x; rw [em]; simp) (Nat.le_refl _) (fun _ _ => ⟨cap, c1, c2⟩)
end Go.Pm
end

/-
  PM, CHAPTER 6, PART 2: the functions' codes are of the kind that the library covers (by the kernel). Conditions: none.
-/
section
set_option linter.unusedVariables false
set_option linter.unusedSimpArgs false
set_option maxRecDepth 20000
namespace Go.Pm
open Go.Proofs

def isRun : Mode → Bool
  | .pure => true
  | .opened => true
  | _ => false
def isNo : Mode → Bool
  | .no => true
  | .ext _ => true
  | _ => false
def codeChk (C : Cfg) (f : FuncId) : Bool := !isRun (C.mode f) || match C.P.funcs[f]? with
  | some fn => match fn.body with
    | some c => codeOk fn.ntmps c
    | none => true
  | none => true
def enterChk (C : Cfg) (f : FuncId) : Bool := isNo (C.mode f) || match C.P.funcs[f]? with
  | some fn => fn.body.isSome && !(fn.name == "runtime.NumGoroutine")
  | none => false
theorem codes6 : ((List.range 165).all (codeChk C)) = true := by kernel_rfl
theorem enters6 : ((List.range 165).all (enterChk C)) = true := by kernel_rfl
theorem size6 : C.P.funcs.size = 165 := by kernel_rfl
theorem all_range {p : Nat → Bool} {n : Nat} (h : (List.range n).all p = true) {f : Nat} (hf : f < n) : p f = true := List.all_eq_true.1 h f (List.mem_range.2 hf)
theorem mode_big {f : Nat} (h : 165 ≤ f) : C.mode f = .no := by
  show mode06 f = .no
  unfold mode06
  have hne : ∀ k : Nat, k < 165 → ¬ f = k := fun k hk => by omega
  have hl : ∀ l : List Nat, l.all (fun k => decide (k < 165)) = true → l.contains f = false := by
    intro l hl
    cases hc : l.contains f with
    | false => rfl
    | true =>
      have := List.all_eq_true.1 hl f (by simpa using hc)
      have := of_decide_eq_true this
      omega
  rw [hl _ (by decide), hl _ (by decide)]
  simp only [Bool.false_eq_true, if_false]
  repeat' rw [if_neg (hne _ (by decide))]
  rw [if_neg (by omega : ¬ f < 148)]
theorem codesOk6 : CodesOk C where
  mixed := by kernel_rfl
  codes f fn c hm hf hb := by
    have hlt : f < 165 := by
      rcases Nat.lt_or_ge f 165 with h | h
      · exact h
      · rw [mode_big h] at hm; rcases hm with hm | hm <;> cases hm
    have := all_range codes6 hlt
    unfold codeChk at this
    rw [hf] at this
    simp only [hb] at this
    have hr : isRun (C.mode f) = true := by rcases hm with hm | hm <;> rw [hm] <;> rfl
    simpa [hr] using this
theorem entersOk6 : ∀ f, (∀ _h : C.mode f = .no, False) → (∀ g, C.mode f ≠ .ext g) → ∃ fn, C.P.funcs[f]? = some fn ∧ fn.body.isSome = true ∧ (fn.name == "runtime.NumGoroutine") = false := by
  intro f hf hne
  have hlt : f < 165 := by
    rcases Nat.lt_or_ge f 165 with h | h
    · exact h
    · exact (hf (mode_big h)).elim
  have := all_range enters6 hlt
  unfold enterChk at this
  have hn : isNo (C.mode f) = false := by
    cases hm : C.mode f with
    | no => exact (hf hm).elim
    | ext g => exact (hne g hm).elim
    | _ => rfl
  rw [hn] at this
  simp only [Bool.false_or] at this
  split at this
  · rename_i fn hfn
    simp only [Bool.and_eq_true, Bool.not_eq_true'] at this
    exact ⟨fn, hfn, this.1, this.2⟩
  · cases this

theorem extOk6 : ∀ f g, C.mode f = .ext g → ∀ args r, g args = some r → ∀ (w : World) (A : Nat → Prop) (vs : List Value), L2 (SRel w A) vs args → ∃ v, (callFunc f vs.toArray).run C.P w = .ok (.value v) w ∧ SRel w A v r := by
  intro f g hm args r hr w A vs ha
  have hm' : mode06 f = .ext g := hm
  unfold mode06 at hm'
  split at hm'
  · cases hm'
  · split at hm'
    · rename_i hf
      obtain rfl := Mode.ext.inj hm'
      simp only at hr
      split at hr
      · rename_i a b
        obtain rfl := Option.some.inj hr
        obtain ⟨hl, hh⟩ := ha
        match vs, hl with
        | [x, y], _ =>
          have h0 := hh 0 (by simp)
          have h1 := hh 1 (by simp)
          simp only [List.getD_cons_zero, List.getD_cons_succ] at h0 h1
          cases h0
          cases h1
          subst hf
          refine ⟨_, ?_, .int _ _⟩
          rw [run_callFunc_extern (P := C.P) Tryz.func122 (by kernel_rfl) (by kernel_rfl) (by kernel_rfl) (e := Extern.BytealgCompare.compare) (by kernel_rfl)]
          show ((Extern.BytealgCompare.compare #[.string a, .string b]).run C.P w).andThen _ = _
          rw [Lib.run_compareString]
          rfl
      · cases hr
    · repeat' split at hm'
      all_goals cases hm'

end Go.Pm
end

/-
  PM, PART 27b: the same program, no call of a Go function allowed: what the primitives are walked with. Conditions: none.
-/
section
set_option linter.unusedVariables false
set_option linter.unusedSimpArgs false
set_option linter.unusedVariables false
set_option maxRecDepth 100000
namespace Go.Pm
open Go.Proofs
noncomputable def C0 : Cfg := ⟨C.P, fun f => if f = 92 ∨ f = 91 then .opened else .no⟩
theorem c0_mode {f : FuncId} (h : C0.mode f ≠ .no) : f = 92 ∨ f = 91 := by
  by_cases hf : f = 92 ∨ f = 91
  · exact hf
  · exact (h (if_neg hf)).elim
theorem c0_cases (f : FuncId) : C0.mode f = .opened ∨ C0.mode f = .no := by
  by_cases hf : f = 92 ∨ f = 91
  · exact .inl (if_pos hf)
  · exact .inr (if_neg hf)
theorem K0 : CfgOk C0 where
  enters f hf _ := by
    rcases c0_mode (f := f) (fun h => hf h) with rfl | rfl
    · exact ⟨_, Tryz.func92, rfl, rfl⟩
    · exact ⟨_, Tryz.func91, rfl, rfl⟩
  primQ f g hh := by rcases c0_cases f with h | h <;> rw [h] at hh <;> cases hh
  primL f g hh := by rcases c0_cases f with h | h <;> rw [h] at hh <;> cases hh
  ext f g hh := by rcases c0_cases f with h | h <;> rw [h] at hh <;> cases hh
def bodyChk (P : Program) (f : FuncId) : Bool := match P.funcs[f]? with
  | some fn => match fn.body with
    | some c => codeOk fn.ntmps c
    | none => true
  | none => true
theorem chk64 : bodyChk C0.P 92 = true := by kernel_rfl
theorem chk63 : bodyChk C0.P 91 = true := by kernel_rfl
theorem KC0 : CodesOk C0 where
  mixed := codesOk6.mixed
  codes f fn c hm hf hb := by
    have h1 : bodyChk C0.P f = true := by
      rcases c0_mode (f := f) (fun h => by rcases hm with hm | hm <;> rw [hm] at h <;> cases h) with rfl | rfl
      · exact chk64
      · exact chk63
    unfold bodyChk at h1
    rw [hf] at h1
    simp only [hb] at h1
    exact h1
theorem S0 : ∀ n, RunsOk C0 (runF C0 n) := runF_sim K0 KC0
theorem mixed0 : C0.P.follows .mixedOrders = true := codesOk6.mixed
namespace Zero
noncomputable def T6 : Tab C0.P := Go.Pm.T6
end Zero
end Go.Pm
end

/-
  PM, PART 28: slices.Clone over any program that has it. Conditions: none.
-/
section
set_option linter.unusedVariables false
set_option linter.unusedSimpArgs false
set_option linter.unusedVariables false
set_option linter.unusedSimpArgs false
set_option maxRecDepth 100000
set_option maxHeartbeats 4000000
namespace Go.Pm
open Go.Proofs
variable {w : World} {F : Nat → Prop} {β : List (Nat × Nat)} {h : AHeap}

attribute [local irreducible] thenQ blockQ loopQ bodyQ Ev EvOps CallEv FnEv EvD

theorem eqnil_osim {a : Act} {ρ : Nat → PV} (H : HRel w F β h) (R : ERel w (Av F h β) β h a ρ) {t yt el : TypeId} {x : Operand} {fl : Bool} {es : List PV} (hu : C0.P.underlying t = some (.slice el)) (hx : ev ρ x = .snap fl es) :
    ∃ bb, (bb = true → es = []) ∧ ∀ o : Oper, o.op = .binOp .eql t x (.const (.slice none 0 0)) yt → OSim C0.P 2 w F β h (execOp a.eval o) (.bool bb) h := by
  have hv := R.ev x
  rw [hx] at hv
  obtain ⟨ad, cap, e1, _, _⟩ := hv.snap_inv.snap_len
  refine ⟨ad.isNone, fun hb => ?_, fun o ho => ⟨.bool ad.isNone, w, β, .inl ?_, .val (.bool _), H, Stp.refl w h β, fun _ => Grew.refl w⟩⟩
  · have hn : ad = none := by cases ad <;> simp_all
    subst hn
    rcases hv.snap_inv.snap_open with h0 | ⟨b, off, cap', sz', cvs, ev', _⟩
    · exact h0
    · rw [e1] at ev'; cases ev'
  · obtain ⟨d, op, ty, pos, af, g⟩ := o
    simp only at ho
    subst ho
    have h2 : a.eval (.const (.slice none 0 0)) = .slice none 0 0 := rfl
    have g1 : (eqGuard .eql t x (.const (.slice none 0 0)) (.slice ad es.length cap) (.slice none 0 0)).run C0.P w = .ok () w := by simp [eqGuard]
    have g2 : (binOp .eql t (.slice ad es.length cap) (.slice none 0 0)).run C0.P w = .ok (.bool ad.isNone) w := by
      simp only [binOp]
      simp [run_equal_slice_nil w t el ad es.length cap hu]
    simp only [execOp, e1, h2, Sem.run_bind, g1, g2, Result.andThen_ok, Sem.run_pure]

theorem appendP_nil {C : Cfg} (T : Tab C.P) {lv : Nat} {st xt el el' : TypeId} {sz by' : Nat} {z : PV} {full : Bool} (hk : T.kd st = some (.sl el)) (hk' : T.kd xt = some (.sl el')) (hs : T.ts el = some (sz + 1)) (hb : T.tb el = some by') (hz : T.tz el = some z)
    (hby : by' ≤ 1000) (hl : (cells z).length = sz + 1) (ho : (cells z).all oneC = true) : appendP C.P lv h st xt (.snap true []) (.snap full []) = some (.snap true [], h) := by
  unfold appendP
  rw [kd_sl (T.hkd _ _ hk)]
  simp only [T.hts _ _ hs, T.htb _ _ hb, T.htz _ _ hz, appendee, kd_sl (T.hkd _ _ hk'), elems]
  rw [if_pos ⟨by omega, by omega, ⟨hl, ho⟩, rfl⟩]
  rfl

section
variable {C : Cfg} (T : Tab C.P)
variable {ops : Array Oper} {d : Nat} {ty : TypeId} {pos : String} {af : Array Edge} {r : List Oper} {ρ : Nat → PV} {L : List (Nat × PV)} {Q : St → Prop}
theorem R.appendS0 {st xt el el' : TypeId} {sz by' : Nat} {z : PV} {full : Bool} {x y : Operand} (hx : evL L x = some (.snap true [])) (hy : evL L y = some (.snap full [])) (hk : T.kd st = some (.sl el)) (hk' : T.kd xt = some (.sl el')) (hs : T.ts el = some (sz + 1)) (hb : T.tb el = some by') (hz : T.tz el = some z)
    (hby : by' ≤ 1000) (hl : (cells z).length = sz + 1) (ho : (cells z).all oneC = true) (kk : EvOps C ops r ⟨al ((d, .snap true []) :: L) ρ, h⟩ Q) :
    EvOps C ops (⟨some d, .call ⟨.builtin .append, #[x, y], #[st, xt]⟩, ty, pos, af, none⟩ :: r) ⟨al L ρ, h⟩ Q := by
  refine EvOps.valL (fun run => ?_) kk
  have hap := appendP_nil T (h := h) (lv := 2) (full := full) hk hk' hs hb hz hby hl ho
  simp only [opVal, builtinP, List.map_cons, List.map_nil, evL_ev hx, evL_ev hy, hap]
theorem R.appendS1 {st xt el el' : TypeId} {sz by' : Nat} {z : PV} {full : Bool} {ys : List PV} {x y : Operand} (hx : evL L x = some (.snap true [])) (hy : evL L y = some (.snap full ys)) (hk : T.kd st = some (.sl el)) (hk' : T.kd xt = some (.sl el')) (hs : T.ts el = some (sz + 1)) (hb : T.tb el = some by') (hz : T.tz el = some z)
    (hby : by' ≤ 1000) (hl : (cells z).length = sz + 1) (ho : (cells z).all oneC = true) (hyo : esOk (sz + 1) ys) (hne : ys ≠ []) (hn : ys.length < 1000000000) (kk : EvOps C ops r ⟨al ((d, .mref h.length 0 0 ys.length) :: L) ρ, h ++ [⟨.m, 0, sz + 1, ys⟩]⟩ Q) :
    EvOps C ops (⟨some d, .call ⟨.builtin .append, #[x, y], #[st, xt]⟩, ty, pos, af, none⟩ :: r) ⟨al L ρ, h⟩ Q := by
  refine EvOps.valL (fun run => ?_) kk
  have hap := appendP_new T (h := h) (lv := 2) (full := full) (by decide) hk hk' hs hb hz hby hl ho hyo (by cases ys with | nil => exact absurd rfl hne | cons => rfl) hn
  simp only [opVal, builtinP, List.map_cons, List.map_nil, evL_ev hx, evL_ev hy, hap]
end
namespace Zero
theorem clone59 {fl : Bool} {es : List PV} {vs : List Value} (H : HRel w F β h) (ha : L2 (VRel w (Av F h β) β h) vs [.snap fl es]) (hes : esOk 4 es) (hn : es.length < 1000000000) {r : PV} {h' : AHeap}
    (hr : (es = [] ∧ r = .snap true [] ∧ h' = h) ∨ (es ≠ [] ∧ r = .mref h.length 0 0 es.length ∧ h' = h ++ [⟨.m, 0, 4, es⟩])) : CSim C0.P 2 w F β h 103 vs r h' := by
  refine csim_wp (P := C0.P) Tryz.func103 rfl H ha (fun a RR => ?_)
  refine wp_seq ?_
  refine ev_wp K0 mixed0 S0 (M := fun ex s' => ex = .normal ∧ ∃ ρ', s' = ⟨al [(0, .snap fl es)] ρ', h⟩) rfl ?_ RR ?_
  · rw [envOf_al]
    (repeat' (first | refine EvOps.nil ?_ | (apply R.assign; exact rfl) | refine Ev.region ?_ | fail))
    exact ⟨rfl, _, St.keep ⟨rfl, trivial⟩⟩
  rintro ex s' a1 w1 β1 ⟨rfl, ρ1, rfl⟩ R1 S1
  refine wp_seq ?_
  refine wp_seq ?_
  apply region_special K0 S0 (pre := [_]) (post := []) (R := R1) (M := fun s' => ∃ ρ', s' = ⟨al [(0, .snap fl es), (3, .snap fl es)] ρ', h⟩) (M2 := fun s' => ∃ bb ρ', s' = ⟨al [(0, .snap fl es), (4, .bool bb)] ρ', h⟩ ∧ (bb = true → es = []))
  · rfl
  · rfl
  · (repeat' (first | refine EvOps.nil ?_ | (apply R.move; exact rfl) | fail))
    exact ⟨_, St.keep ⟨rfl, rfl, trivial⟩⟩
  · rintro s1 a2 w2 β2 ⟨ρ2, rfl⟩ R2 S2
    obtain ⟨bb, hb, os⟩ := eqnil_osim (t := 51) (yt := 51) (el := 53) (x := .tmp 3) (fl := fl) (es := es) R2.hr R2.er (kd_sl (T6.hkd 51 _ rfl)) (lk_al (L := [(0, .snap fl es), (3, .snap fl es)]) (t := 3) rfl ρ2)
    refine ⟨.bool bb, h, os _ rfl, EvOps.nil ⟨bb, al ((4, .bool bb) :: [(0, .snap fl es), (3, .snap fl es)]) ρ2, ?_, hb⟩⟩
    show (⟨updO (al [(0, .snap fl es), (3, .snap fl es)] ρ2) (some 4) (.bool bb), h⟩ : St) = _
    rw [al_cons]
    exact St.keep ⟨rfl, rfl, trivial⟩
  rintro s3 a3 w3 β3 ⟨bb, ρ3, rfl, hb⟩ R3 S3
  cases bb
  · refine ev_wp K0 mixed0 S0 (M := fun ex s' => ex = .normal ∧ ∃ ρ', s' = ⟨al [(0, .snap fl es)] ρ', h⟩) rfl ?_ R3 ?_
    · (repeat' (first | (apply Ev.condB; exact rfl) | refine Ev.skip ?_ | fail))
      exact ⟨rfl, _, St.keep ⟨rfl, trivial⟩⟩
    rintro ex s' a4 w4 β4 ⟨rfl, ρ4, rfl⟩ R4 S4
    refine ev_wp K0 mixed0 S0 (M := fun ex s' => ex = .ret ∧ ∃ ρ', s' = ⟨al [(2, r)] ρ', h'⟩) rfl ?_ R4 ?_
    · (repeat' (first | (apply R.move; exact rfl) | (apply R.buildSlice T6; exact rfl; exact rfl; exact rfl; exact rfl; exact (by decide); exact rfl; exact rfl; exact rfl; exact rfl; exact rfl) | refine Ev.seq ?_ | refine Ev.region ?_ | fail))
      rcases hr with ⟨rfl, rfl, rfl⟩ | ⟨hne, rfl, rfl⟩
      · apply R.appendS0 T6; exact rfl; exact rfl; exact rfl; exact rfl; exact rfl; exact rfl; exact rfl; exact (by decide); exact rfl; exact rfl
        (repeat' (first | refine EvOps.nil ?_ | (apply R.assign; exact rfl) | refine Ev.ret ?_ | refine thenQ.normal ?_ | fail))
        exact ⟨rfl, _, St.keep ⟨rfl, trivial⟩⟩
      · apply R.appendS1 T6; exact rfl; exact rfl; exact rfl; exact rfl; exact rfl; exact rfl; exact rfl; exact (by decide); exact rfl; exact rfl; exact hes; exact hne; exact hn
        (repeat' (first | refine EvOps.nil ?_ | (apply R.assign; exact rfl) | refine Ev.ret ?_ | refine thenQ.normal ?_ | fail))
        exact ⟨rfl, _, St.keep ⟨rfl, trivial⟩⟩
    rintro ex s5 a5 w5 β5 ⟨rfl, ρ5, rfl⟩ R5 S5
    refine ⟨.inr rfl, _, β5, R5, ((S1.trans S3).trans S4).trans S5, [r], ?_, fun u hu => ⟨β5, hu, R5.hr, ((S1.trans S3).trans S4).trans S5⟩⟩
    exact resT_of (L := [(2, r)]) rfl
  · obtain rfl := hb rfl
    rcases hr with ⟨_, rfl, rfl⟩ | ⟨hne, _⟩
    · refine ev_wp K0 mixed0 S0 (M := fun ex s' => ex = .ret ∧ ∃ ρ', s' = ⟨al [(2, .snap true [])] ρ', h'⟩) rfl ?_ R3 ?_
      · (repeat' (first | refine EvOps.nil ?_ | (apply R.assign; exact rfl) | refine Ev.seq ?_ | refine Ev.region ?_ | (apply Ev.condB; exact rfl) | refine Ev.ret ?_ | refine thenQ.normal ?_ | fail))
        exact ⟨rfl, _, St.keep ⟨rfl, trivial⟩⟩
      rintro ex s5 a5 w5 β5 ⟨rfl, ρ5, rfl⟩ R5 S5
      refine ⟨.inr rfl, _, β5, R5, (S1.trans S3).trans S5, [.snap true []], ?_, fun u hu => ⟨β5, hu, R5.hr, (S1.trans S3).trans S5⟩⟩
      exact resT_of (L := [(2, .snap true [])]) rfl
    · exact absurd rfl hne
  · rfl

theorem clone79 {fl : Bool} {es : List PV} {vs : List Value} (H : HRel w F β h) (ha : L2 (VRel w (Av F h β) β h) vs [.snap fl es]) (hes : esOk 1 es) (hn : es.length < 1000000000) {r : PV} {h' : AHeap}
    (hr : (es = [] ∧ r = .snap true [] ∧ h' = h) ∨ (es ≠ [] ∧ r = .mref h.length 0 0 es.length ∧ h' = h ++ [⟨.m, 0, 1, es⟩])) : CSim C0.P 2 w F β h 51 vs r h' := by
  refine csim_wp (P := C0.P) Tryz.func51 rfl H ha (fun a RR => ?_)
  refine wp_seq ?_
  refine ev_wp K0 mixed0 S0 (M := fun ex s' => ex = .normal ∧ ∃ ρ', s' = ⟨al [(0, .snap fl es)] ρ', h⟩) rfl ?_ RR ?_
  · rw [envOf_al]
    (repeat' (first | refine EvOps.nil ?_ | (apply R.assign; exact rfl) | refine Ev.region ?_ | fail))
    exact ⟨rfl, _, St.keep ⟨rfl, trivial⟩⟩
  rintro ex s' a1 w1 β1 ⟨rfl, ρ1, rfl⟩ R1 S1
  refine wp_seq ?_
  refine wp_seq ?_
  apply region_special K0 S0 (pre := [_]) (post := []) (R := R1) (M := fun s' => ∃ ρ', s' = ⟨al [(0, .snap fl es), (3, .snap fl es)] ρ', h⟩) (M2 := fun s' => ∃ bb ρ', s' = ⟨al [(0, .snap fl es), (4, .bool bb)] ρ', h⟩ ∧ (bb = true → es = []))
  · rfl
  · rfl
  · (repeat' (first | refine EvOps.nil ?_ | (apply R.move; exact rfl) | fail))
    exact ⟨_, St.keep ⟨rfl, rfl, trivial⟩⟩
  · rintro s1 a2 w2 β2 ⟨ρ2, rfl⟩ R2 S2
    obtain ⟨bb, hb, os⟩ := eqnil_osim (t := 31) (yt := 31) (el := 26) (x := .tmp 3) (fl := fl) (es := es) R2.hr R2.er (kd_sl (T6.hkd 31 _ rfl)) (lk_al (L := [(0, .snap fl es), (3, .snap fl es)]) (t := 3) rfl ρ2)
    refine ⟨.bool bb, h, os _ rfl, EvOps.nil ⟨bb, al ((4, .bool bb) :: [(0, .snap fl es), (3, .snap fl es)]) ρ2, ?_, hb⟩⟩
    show (⟨updO (al [(0, .snap fl es), (3, .snap fl es)] ρ2) (some 4) (.bool bb), h⟩ : St) = _
    rw [al_cons]
    exact St.keep ⟨rfl, rfl, trivial⟩
  rintro s3 a3 w3 β3 ⟨bb, ρ3, rfl, hb⟩ R3 S3
  cases bb
  · refine ev_wp K0 mixed0 S0 (M := fun ex s' => ex = .normal ∧ ∃ ρ', s' = ⟨al [(0, .snap fl es)] ρ', h⟩) rfl ?_ R3 ?_
    · (repeat' (first | (apply Ev.condB; exact rfl) | refine Ev.skip ?_ | fail))
      exact ⟨rfl, _, St.keep ⟨rfl, trivial⟩⟩
    rintro ex s' a4 w4 β4 ⟨rfl, ρ4, rfl⟩ R4 S4
    refine ev_wp K0 mixed0 S0 (M := fun ex s' => ex = .ret ∧ ∃ ρ', s' = ⟨al [(2, r)] ρ', h'⟩) rfl ?_ R4 ?_
    · (repeat' (first | (apply R.move; exact rfl) | (apply R.buildSlice T6; exact rfl; exact rfl; exact rfl; exact rfl; exact (by decide); exact rfl; exact rfl; exact rfl; exact rfl; exact rfl) | refine Ev.seq ?_ | refine Ev.region ?_ | fail))
      rcases hr with ⟨rfl, rfl, rfl⟩ | ⟨hne, rfl, rfl⟩
      · apply R.appendS0 T6; exact rfl; exact rfl; exact rfl; exact rfl; exact rfl; exact rfl; exact rfl; exact (by decide); exact rfl; exact rfl
        (repeat' (first | refine EvOps.nil ?_ | (apply R.assign; exact rfl) | refine Ev.ret ?_ | refine thenQ.normal ?_ | fail))
        exact ⟨rfl, _, St.keep ⟨rfl, trivial⟩⟩
      · apply R.appendS1 T6; exact rfl; exact rfl; exact rfl; exact rfl; exact rfl; exact rfl; exact rfl; exact (by decide); exact rfl; exact rfl; exact hes; exact hne; exact hn
        (repeat' (first | refine EvOps.nil ?_ | (apply R.assign; exact rfl) | refine Ev.ret ?_ | refine thenQ.normal ?_ | fail))
        exact ⟨rfl, _, St.keep ⟨rfl, trivial⟩⟩
    rintro ex s5 a5 w5 β5 ⟨rfl, ρ5, rfl⟩ R5 S5
    refine ⟨.inr rfl, _, β5, R5, ((S1.trans S3).trans S4).trans S5, [r], ?_, fun u hu => ⟨β5, hu, R5.hr, ((S1.trans S3).trans S4).trans S5⟩⟩
    exact resT_of (L := [(2, r)]) rfl
  · obtain rfl := hb rfl
    rcases hr with ⟨_, rfl, rfl⟩ | ⟨hne, _⟩
    · refine ev_wp K0 mixed0 S0 (M := fun ex s' => ex = .ret ∧ ∃ ρ', s' = ⟨al [(2, .snap true [])] ρ', h'⟩) rfl ?_ R3 ?_
      · (repeat' (first | refine EvOps.nil ?_ | (apply R.assign; exact rfl) | refine Ev.seq ?_ | refine Ev.region ?_ | (apply Ev.condB; exact rfl) | refine Ev.ret ?_ | refine thenQ.normal ?_ | fail))
        exact ⟨rfl, _, St.keep ⟨rfl, trivial⟩⟩
      rintro ex s5 a5 w5 β5 ⟨rfl, ρ5, rfl⟩ R5 S5
      refine ⟨.inr rfl, _, β5, R5, (S1.trans S3).trans S5, [.snap true []], ?_, fun u hu => ⟨β5, hu, R5.hr, (S1.trans S3).trans S5⟩⟩
      exact resT_of (L := [(2, .snap true [])]) rfl
    · exact absurd rfl hne
  · rfl

end Zero
end Go.Pm
end

/-
  CHAPTER 6, PART 27: the reference's App, and its operands of a product. Conditions: none.
-/
section
set_option linter.unusedVariables false
set_option linter.unusedSimpArgs false
set_option linter.unusedVariables false
set_option linter.unusedSimpArgs false
set_option maxRecDepth 4000
set_option maxHeartbeats 8000000
namespace Go.Pm
open Go.Proofs
theorem take9_step {X : List Tm} {t : Tm} (h : (X.take 9).length < 9) : (X ++ [t]).take 9 = X.take 9 ++ [t] := by
  have : X.length < 9 := by simp at h; omega
  rw [List.take_of_length_le (by simp; omega), List.take_of_length_le (by omega)]
theorem take9_full {X Y : List Tm} (h : ¬ (X.take 9).length < 9) : (X ++ Y).take 9 = X.take 9 := by
  have : 9 ≤ X.length := by simp at h; omega
  rw [List.take_append_of_le_length this]
theorem take9_len (X : List Tm) : (X.take 9).length ≤ 9 := by simp; omega
attribute [local irreducible] thenQ blockQ loopQ bodyQ Ev EvOps CallEv FnEv EvD
theorem rapp_fun (s : ByteArray) (l : List Tm) (hl : l.length < 100000000) : Fun C 26 [.str s, .snap false (encs l)] (enc (.mk 3 s 0 l)) := by
  refine Fun.of (FnEv.bodyL Tryz.func26 rfl ?_)
  have hel := encs_len l
  have hok := encs_ok l
  have hnr := nrms_encs l
  have hv := isVals_encs l
  rw [enc_mk]
  generalize encs l = es at hel hok hnr hv ⊢
  (repeat' (first | refine EvOps.nil ?_ | (apply R.move; exact rfl) | (apply R.buildSlice T6; exact rfl; exact rfl; exact rfl; exact rfl; exact (by decide); exact rfl; exact rfl; exact rfl; exact rfl; exact rfl) | (apply R.alloc T6; exact rfl; exact rfl; exact rfl; exact .nil) | refine Ev.seq ?_ | refine Ev.region ?_ | refine thenQ.normal ?_ | fail))
  cases es with
  | nil =>
    apply R.appendS0 T6; exact rfl; exact rfl; exact rfl; exact rfl; exact rfl; exact rfl; exact rfl; exact (by decide); exact rfl; exact rfl
    (repeat' (first | (apply R.build T6; exact rfl; exact rfl; exact rfl; exact rfl; exact rfl; exact rfl) | fail))
    refine R.storeH T6 (n := 0) (o := ⟨.m, 0, 4, [.agg [.int .i64 0, .str ByteArray.empty, .int .i64 0, .snap true []]]⟩) (i := 0) (e := .agg [.int .i64 0, .str ByteArray.empty, .int .i64 0, .snap true []]) rfl rfl rfl rfl rfl rfl rfl rfl (Nat.le_refl 4) ?_
    (repeat' (first | refine EvOps.nil ?_ | refine Ev.ret ?_ | refine thenQ.normal ?_ | (apply bodyQ.retC T6; exact rfl) | fail))
    exact ⟨_, rfl, by simp [nrm, nrms]⟩
  | cons e es =>
    apply R.appendS1 T6; exact rfl; exact rfl; exact rfl; exact rfl; exact rfl; exact rfl; exact rfl; exact (by decide); exact rfl; exact rfl; exact hok; exact (by simp); exact (by omega)
    (repeat' (first | (apply R.build T6; exact rfl; exact rfl; exact rfl; exact rfl; exact rfl; exact rfl) | fail))
    refine R.storeH T6 (n := 0) (o := ⟨.m, 0, 4, [.agg [.int .i64 0, .str ByteArray.empty, .int .i64 0, .snap true []]]⟩) (i := 0) (e := .agg [.int .i64 0, .str ByteArray.empty, .int .i64 0, .snap true []]) rfl rfl rfl rfl rfl rfl rfl rfl (Nat.le_refl 4) ?_
    (repeat' (first | refine EvOps.nil ?_ | refine Ev.ret ?_ | refine thenQ.normal ?_ | (apply bodyQ.retC T6; exact rfl) | fail))
    refine ⟨.agg [.int .i64 3, .str s, .int .i64 0, .snap false (e :: es)], ?_, by show PV.agg [.int .i64 3, .str s, .int .i64 0, .snap false (nrms (e :: es))] = _; rw [hnr]⟩
    show rbA _ (.agg [.int .i64 3, .str s, .int .i64 0, .mref 1 0 0 (e :: es).length]) = _
    simp [rbA, rb1s, rb1, isVal, getM, hv]
theorem take9_enc {X : List Tm} : (encs (X.take 9)).length ≤ 9 := by rw [encs_len]; exact take9_len X
end Go.Pm
end

/-
  CHAPTER 6, PART 28: the reference's Term. Conditions: none.
-/
section
set_option linter.unusedVariables false
set_option linter.unusedSimpArgs false
set_option linter.unusedVariables false
set_option linter.unusedSimpArgs false
set_option maxRecDepth 4000
set_option maxHeartbeats 8000000
namespace Go.Pm
open Go.Proofs
theorem validGo_bd : ∀ {l : List Pw} {pr : Option Tm}, validGo pr l = 0 → Bd 1000 l ∧ (∀ p ∈ l, valid p.1 = 0 ∧ special p.1 = false) ∧ Nz l ∧ Srt l ∧ (∀ q, pr = some q → ∀ p ∈ l, cmpT q p.1 < 0)
  | [], _, _ => ⟨(fun p hp => by cases hp), (fun p hp => by cases hp), (fun p hp => by cases hp), by simp [Srt], (fun _ _ p hp => by cases hp)⟩
  | p :: l, pr, h => by
    rw [validGo_cons] at h
    by_cases h1 : valid p.1 = 0
    · rw [if_neg (by omega)] at h
      by_cases h2 : special p.1 = true
      · rw [if_pos h2] at h; cases h
      · rw [if_neg h2] at h
        by_cases h3 : p.2 = 0 ∨ p.2 < -1000 ∨ 1000 < p.2
        · rw [if_pos h3] at h; cases h
        · rw [if_neg h3] at h
          have main : validGo (some p.1) l = 0 ∧ (∀ q, pr = some q → cmpT q p.1 < 0) := by
            cases pr with
            | none =>
              simp only [Bool.false_eq_true, if_false] at h
              exact ⟨h, fun q hq => by cases hq⟩
            | some q =>
              simp only at h
              split at h
              · cases h
              · rename_i h4
                refine ⟨h, fun q' hq => ?_⟩
                cases hq
                have : ¬ 0 ≤ cmpT q p.1 := fun hh => h4 (decide_eq_true hh)
                omega
          obtain ⟨b1, b2, b3, b4, b5⟩ := validGo_bd main.1
          refine ⟨fun x hx => ?_, fun x hx => ?_, fun x hx => ?_, List.pairwise_cons.2 ⟨fun x hx => b5 p.1 rfl x hx, b4⟩, fun q hq x hx => ?_⟩
          · rcases List.mem_cons.1 hx with rfl | hx
            · omega
            · exact b1 x hx
          · rcases List.mem_cons.1 hx with rfl | hx
            · exact ⟨h1, by simpa using h2⟩
            · exact b2 x hx
          · rcases List.mem_cons.1 hx with rfl | hx
            · omega
            · exact b3 x hx
          · rcases List.mem_cons.1 hx with rfl | hx
            · exact main.2 q hq
            · exact cmpT_trans (main.2 q hq) (b5 p.1 rfl x hx)
    · rw [if_pos h1] at h; exact absurd h h1
theorem validP_zero {l : List Pw} (h : validP l = 0) : l.length ≤ 200 ∧ Bd 1000 l ∧ (∀ p ∈ l, valid p.1 = 0 ∧ special p.1 = false) ∧ Nz l ∧ Srt l := by
  unfold validP at h
  split at h
  · cases h
  · obtain ⟨b1, b2, b3, b4, _⟩ := validGo_bd h
    exact ⟨by omega, b1, b2, b3, b4⟩
theorem wide_ops : ∀ {l : List Pw}, wide l = true → 8 < (opsT l).length
  | [], h => by cases h
  | p :: l, h => by
    have e1 : posT (p :: l) = List.replicate p.2.toNat p.1 ++ posT l := by simp [posT]
    have e2 : negT (p :: l) = List.replicate (-p.2).toNat (invT p.1) ++ negT l := by simp [negT]
    unfold opsT
    rw [e1, e2]
    simp only [List.length_append, List.length_replicate]
    unfold wide at h
    rw [List.any_cons, Bool.or_eq_true] at h
    rcases h with h | h
    · have := of_decide_eq_true h; omega
    · have := wide_ops (l := l) h
      unfold opsT at this
      rw [List.length_append] at this
      omega
attribute [local irreducible] thenQ blockQ loopQ bodyQ Ev EvOps CallEv FnEv EvD
end Go.Pm
end

/-
  CHAPTER 6, PART 2: sealringref01.budget. Conditions: none.
-/
section
set_option linter.unusedVariables false
set_option linter.unusedSimpArgs false
set_option linter.unusedVariables false
set_option maxRecDepth 4000
set_option maxHeartbeats 4000000
namespace Go.Pm
open Go.Proofs
attribute [local irreducible] thenQ blockQ loopQ bodyQ Ev EvOps CallEv FnEv

mutual
def budget : Tm → Int → Int
  | .mk k s o l, m => if m ≤ 0 ∨ 40 < (s.size : Int) then -1 else budgets l (m - 1)
def budgets : List Tm → Int → Int
  | [], m => m
  | t :: l, m => if budget t m < 0 then -1 else budgets l (budget t m)
end
mutual
theorem budget_le : ∀ t m, budget t m ≤ m ∨ budget t m = -1
  | .mk k s o l, m => by
    simp only [budget]
    split
    · exact .inr rfl
    · rcases budgets_le l (m - 1) with h | h
      · left; omega
      · exact .inr h
theorem budgets_le : ∀ l m, budgets l m ≤ m ∨ budgets l m = -1
  | [], m => .inl (by simp [budgets])
  | t :: l, m => by
    simp only [budgets]
    split
    · exact .inr rfl
    · rcases budgets_le l (budget t m) with h | h
      · rcases budget_le t m with h' | h'
        · left; omega
        · omega
      · exact .inr h
end
theorem budget_ev (k s o l) (hbk : bulks l < 1000000000) (ih : ∀ t ∈ l, ∀ m : Int, m < 1000000000 → Fun C 75 [enc t, .int .i64 m] (.int .i64 (budget t m))) (m : Int) (hm : m < 1000000000) : Fun C 75 [enc (.mk k s o l), .int .i64 m] (.int .i64 (budget (.mk k s o l) m)) := by
  refine Fun.of (FnEv.bodyL Tryz.func75 rfl ?_)
  rw [enc]
  (repeat' (first | refine EvOps.nil ?_ | (apply R.gOn; exact rfl; exact rfl; exact rfl) | (apply R.gOff; exact rfl; exact rfl; exact rfl) | (apply R.move; exact rfl) | (apply R.assign; exact rfl) | (apply R.pickT; exact rfl; exact rfl) | (apply R.pickF; exact rfl; exact rfl) | (apply R.load1 T6; exact rfl; exact rfl; exact rfl; exact rfl) | (apply R.fieldAddr T6; exact rfl; exact rfl; exact rfl; exact rfl) | (apply R.cmp; exact rfl; exact rfl; exact rfl; all_goals intro hc) | (apply R.arith; exact rfl; exact rfl; exact rfl; exact (wrapI (by omega) (by omega))) | (apply R.lenStr T6; exact rfl; exact rfl) | (apply R.box; exact rfl; exact rfl; exact rfl; exact .nil) | refine Ev.seq ?_ | refine Ev.region ?_ | (apply Ev.condB; exact rfl) | refine Ev.ret ?_ | refine Ev.skip ?_ | refine Ev.block ?_ | refine thenQ.normal ?_ | refine thenQ.ret ?_ | (apply bodyQ.ret; exact rfl) | fail))
  · refine ⟨_, rfl, ?_⟩
    simp only [nrm, tupOf, budget, hc, true_or, if_true]
  · refine ⟨_, rfl, ?_⟩
    rename_i h1
    simp only [nrm, tupOf, budget, h1, hc, or_true, if_true]
  · rename_i h1
    refine Ev.loop (I := fun k' st => ∃ (i : Nat) (mm : Int) (ρ' : Nat → PV), st = ⟨al [(2, .ptr 0 0 0 0), (1, .int .i64 mm), (5, .int .i64 i)] ρ', [⟨.m, 0, 4, [.agg [.int .i64 k, .str s, .int .i64 o, .snap false (encs l)]]⟩]⟩ ∧ k' + i = l.length ∧ mm < 1000000000 ∧ budgets l (m - 1) = budgets (l.drop i) mm) l.length ?_ ?_
    · exact ⟨0, m - 1, _, St.keep ⟨rfl, rfl, rfl, trivial⟩, rfl, by omega, rfl⟩
    · rintro k' _ ⟨i, mm, ρ', rfl, hk, hmm, hb⟩
      have hlen := len_bulks l
      (repeat' (first | refine EvOps.nil ?_ | (apply R.move; exact rfl) | (apply R.assign; exact rfl) | (apply R.load1 T6; exact rfl; exact rfl; exact rfl; exact rfl) | (apply R.fieldAddr T6; exact rfl; exact rfl; exact rfl; exact rfl) | (apply R.cmp; exact rfl; exact rfl; exact rfl; all_goals intro hc) | (apply R.lenS T6; exact rfl; exact rfl) | refine Ev.seq ?_ | refine Ev.region ?_ | (apply Ev.condB; exact rfl) | refine Ev.ret ?_ | refine Ev.skip ?_ | refine Ev.exit ?_ | refine Ev.block ?_ | refine thenQ.normal ?_ | refine thenQ.exit ?_ | refine blockQ.hit ?_ | refine loopQ.exit ?_ | (apply bodyQ.ret; exact rfl) | fail))
      · have hil : i < l.length := by have := encs_len l; omega
        obtain ⟨t, ht⟩ : ∃ t, l[i]? = some t := ⟨l[i], List.getElem?_eq_getElem hil⟩
        obtain ⟨a1, a2, a3, a4, ha⟩ := enc_agg t
        refine R.indexS T6 rfl rfl rfl rfl (v := .agg [a1, a2, a3, a4]) (by rw [encs_eq, List.getElem?_map, ht, ← ha]; rfl) rfl rfl ?_
        (repeat' (first | (apply R.move; exact rfl) | (apply R.loadA T6; exact rfl; exact rfl; exact rfl; exact rfl; exact (by repeat constructor)) | fail))
        refine R.call rfl rfl ?_
        show CallEv C 2 _ [.agg [a1, a2, a3, a4], .int .i64 mm] _ _
        rw [← ha]
        refine CallEv.pure (r := .int .i64 (budget t mm)) rfl (by simp [isVals, isVal, isVal_enc]) (by simpa [nrms, nrm, nrm_enc] using ih t (List.mem_of_getElem? ht) mm hmm) ?_
        (repeat' (first | refine EvOps.nil ?_ | (apply R.move; exact rfl) | (apply R.assign; exact rfl) | (apply R.cmp; exact rfl; exact rfl; exact rfl; all_goals intro hc) | (apply R.arith; exact rfl; exact rfl; exact rfl; exact (wrapI (by omega) (by omega))) | refine Ev.seq ?_ | refine Ev.region ?_ | (apply Ev.condB; exact rfl) | refine Ev.ret ?_ | refine Ev.skip ?_ | refine thenQ.normal ?_ | refine thenQ.ret ?_ | refine blockQ.normal ?_ | refine blockQ.ret ?_ | refine loopQ.normal ?_ | refine loopQ.ret ?_ | (apply bodyQ.ret; exact rfl) | fail))
        · rename_i h2
          refine ⟨_, rfl, ?_⟩
          have hd : l.drop i = t :: l.drop (i + 1) := by rw [List.drop_eq_getElem_cons hil]; congr 1; rw [List.getElem?_eq_getElem hil] at ht; exact Option.some.inj ht
          simp only [nrm, tupOf, budget, h1, false_or]
          rw [if_neg (by assumption), hb, hd, budgets, if_pos (by assumption)]
        · have hd : l.drop i = t :: l.drop (i + 1) := by rw [List.drop_eq_getElem_cons hil]; congr 1; rw [List.getElem?_eq_getElem hil] at ht; exact Option.some.inj ht
          refine ⟨k' - 1, by omega, i + 1, budget t mm, _, St.keep ⟨rfl, rfl, rfl, trivial⟩, by omega, ?_, ?_⟩
          · have := budget_le t mm; omega
          · rw [hb, hd, budgets, if_neg (by assumption)]
      · refine ⟨_, rfl, ?_⟩
        have hi : l.drop i = [] := List.drop_eq_nil_of_le (by have := encs_len l; omega)
        simp only [nrm, tupOf, budget, h1, false_or]
        rw [if_neg (by assumption), hb, hi, budgets]

theorem budget_fun (t : Tm) (hb : bulk t < 1000000000) (m : Int) (hm : m < 1000000000) : Fun C 75 [enc t, .int .i64 m] (.int .i64 (budget t m)) := by
  induction t using Tm.ind generalizing m with
  | h k s o l ih =>
    simp only [bulk] at hb
    exact budget_ev k s o l (by omega) (fun t ht m hm => ih t ht (by have := bulk_mem ht; omega) m hm) m hm

def fewL : List Tm → Int → Bool
  | [], _ => true
  | t :: l, m => if budget t m < 0 then false else fewL l (budget t m)
def few (l : List Tm) (n m : Int) : Bool := if n < (l.length : Int) then false else fewL l m

theorem few_fun (l : List Tm) (hb : bulks l < 1000000000) (n m : Int) (hm : m < 1000000000) : Fun C 33 [.snap false (encs l), .int .i64 n, .int .i64 m] (.bool (few l n m)) := by
  refine Fun.of (FnEv.bodyL Tryz.func33 rfl ?_)
  have hlen := len_bulks l
  have hel := encs_len l
  (repeat' (first | refine EvOps.nil ?_ | (apply R.move; exact rfl) | (apply R.assign; exact rfl) | (apply R.cmp; exact rfl; exact rfl; exact rfl; all_goals intro hc) | (apply R.lenS T6; exact rfl; exact rfl) | refine Ev.seq ?_ | refine Ev.region ?_ | (apply Ev.condB; exact rfl) | refine Ev.ret ?_ | refine Ev.skip ?_ | refine Ev.block ?_ | refine thenQ.normal ?_ | refine thenQ.ret ?_ | (apply bodyQ.ret; exact rfl) | fail))
  · refine ⟨_, rfl, ?_⟩
    simp only [nrm, tupOf, few]
    rw [if_pos (by omega)]
  · refine Ev.loop (I := fun k' st => ∃ (i : Nat) (mm : Int) (ρ' : Nat → PV), st = ⟨al [(0, .snap false (encs l)), (2, .int .i64 mm), (7, .int .i64 i)] ρ', []⟩ ∧ k' + i = l.length ∧ mm < 1000000000 ∧ fewL l m = fewL (l.drop i) mm) l.length ?_ ?_
    · exact ⟨0, m, _, St.keep ⟨rfl, rfl, rfl, trivial⟩, rfl, hm, rfl⟩
    · rintro k' _ ⟨i, mm, ρ', rfl, hk, hmm, hb'⟩
      (repeat' (first | refine EvOps.nil ?_ | (apply R.move; exact rfl) | (apply R.assign; exact rfl) | (apply R.cmp; exact rfl; exact rfl; exact rfl; all_goals intro hc) | (apply R.lenS T6; exact rfl; exact rfl) | refine Ev.seq ?_ | refine Ev.region ?_ | (apply Ev.condB; exact rfl) | refine Ev.ret ?_ | refine Ev.skip ?_ | refine Ev.exit ?_ | refine Ev.block ?_ | refine thenQ.normal ?_ | refine thenQ.exit ?_ | refine blockQ.hit ?_ | refine loopQ.exit ?_ | (apply bodyQ.ret; exact rfl) | fail))
      · obtain ⟨t, a1, a2, a3, a4, hmem, ha, hat, hd, hil, _⟩ := encs_at hc
        refine R.indexS T6 rfl rfl rfl rfl (v := .agg [a1, a2, a3, a4]) hat rfl rfl ?_
        (repeat' (first | (apply R.move; exact rfl) | (apply R.loadA T6; exact rfl; exact rfl; exact rfl; exact rfl; exact (by repeat constructor)) | fail))
        refine R.call rfl rfl ?_
        show CallEv C 2 _ [.agg [a1, a2, a3, a4], .int .i64 mm] _ _
        rw [← ha]
        refine CallEv.pure (r := .int .i64 (budget t mm)) rfl (by simp [isVals, isVal, isVal_enc]) (by simpa [nrms, nrm, nrm_enc] using budget_fun t (by have := bulk_mem hmem; omega) mm hmm) ?_
        (repeat' (first | refine EvOps.nil ?_ | (apply R.move; exact rfl) | (apply R.assign; exact rfl) | (apply R.cmp; exact rfl; exact rfl; exact rfl; all_goals intro hc) | (apply R.arith; exact rfl; exact rfl; exact rfl; exact (wrapI (by omega) (by omega))) | refine Ev.seq ?_ | refine Ev.region ?_ | (apply Ev.condB; exact rfl) | refine Ev.ret ?_ | refine Ev.skip ?_ | refine thenQ.normal ?_ | refine thenQ.ret ?_ | refine blockQ.normal ?_ | refine blockQ.ret ?_ | refine loopQ.normal ?_ | refine loopQ.ret ?_ | (apply bodyQ.ret; exact rfl) | fail))
        · refine ⟨_, rfl, ?_⟩
          simp only [nrm, tupOf, few]
          rw [if_neg (by omega), hb', hd, fewL, if_pos (by assumption)]
        · refine ⟨k' - 1, by omega, i + 1, budget t mm, _, St.keep ⟨rfl, rfl, rfl, trivial⟩, by omega, ?_, ?_⟩
          · have := budget_le t mm; omega
          · rw [hb', hd, fewL, if_neg (by assumption)]
      · refine ⟨_, rfl, ?_⟩
        simp only [nrm, tupOf, few]
        rw [if_neg (by omega), hb', encs_end hc, fewL]

end Go.Pm
end

/-
  CHAPTER 6, PART 29: the reference's Few and Inverse of products. Conditions: none.
-/
section
set_option linter.unusedVariables false
set_option linter.unusedSimpArgs false
set_option linter.unusedVariables false
set_option linter.unusedSimpArgs false
set_option maxRecDepth 4000
set_option maxHeartbeats 8000000
namespace Go.Pm
open Go.Proofs
def encPPs (l : List (List Pw)) : List PV := l.map fun p => .snap false (encPs p)
def allT (l : List (List Pw)) : List Tm := l.flatMap fun p => p.map (·.1)
theorem encPPs_len (l : List (List Pw)) : (encPPs l).length = l.length := by simp [encPPs]
theorem allT_snoc {l : List (List Pw)} {i : Nat} {p : List Pw} (h : l[i]? = some p) : allT (l.take (i + 1)) = allT (l.take i) ++ p.map (·.1) := by
  rw [List.take_add_one, h]; simp [allT]
theorem allT_len {l : List (List Pw)} {i j : Nat} {p : List Pw} (h : l[i]? = some p) : (allT (l.take i) ++ (p.take j).map (·.1)).length ≤ (allT l).length := by
  have h1 : l = l.take (i + 1) ++ l.drop (i + 1) := (List.take_append_drop _ _).symm
  have h2 : allT l = allT (l.take (i + 1)) ++ allT (l.drop (i + 1)) := by
    conv => lhs; rw [h1]
    simp only [allT, List.flatMap_append]
  rw [h2, allT_snoc h]
  simp only [List.length_append, List.length_map, List.length_take]
  omega
theorem vals_of {es : List PV} {l : List Tm} (h : es = encs l) : isVals es = true := by rw [h]; exact isVals_encs l
attribute [local irreducible] thenQ blockQ loopQ bodyQ Ev EvOps CallEv FnEv EvD
theorem pfew_fun (l : List (List Pw)) (hb : bulks (allT l) < 100000000) (hl : l.length < 100000000) (hls : ∀ p ∈ l, p.length < 100000000) (n m : Int) (hm : m < 1000000000) : Fun C 8 [.snap false (encPPs l), .int .i64 n, .int .i64 m] (.bool (if n < (l.length : Int) then false else few (allT l) m m)) := by
  have hel := encPPs_len l
  have hfew := few_fun (allT l) (by omega) m m hm
  have hlen := len_bulks (allT l)
  refine Fun.of (FnEv.bodyL Tryz.func8 rfl ?_)
  (repeat' (first | refine EvOps.nil ?_ | (apply R.assign; exact rfl) | refine Ev.seq ?_ | refine Ev.region ?_ | refine Ev.block ?_ | refine thenQ.normal ?_ | fail))
  refine Ev.loop (I := fun k' st => ∃ (i : Nat) (v : PV) (H : AHeap) (ρ' : Nat → PV), st = ⟨al [(0, .snap false (encPPs l)), (1, .int .i64 n), (2, .int .i64 m), (7, v), (8, .int .i64 i)] ρ', H⟩ ∧ k' + i = l.length ∧ HV H ∧ Out 4 H v (encs (allT (l.take i)))) l.length ?_ ?_
  · exact ⟨0, _, [], _, St.keep ⟨rfl, rfl, rfl, rfl, rfl, trivial⟩, rfl, HV.nil, .inl ⟨rfl, rfl⟩⟩
  rintro k' _ ⟨i, v, H, ρ', rfl, hk, hH, ho⟩
  (repeat' (first | refine EvOps.nil ?_ | (apply R.gOn; exact rfl; exact rfl; exact rfl) | (apply R.gOff; exact rfl; exact rfl; exact rfl) | (apply R.move; exact rfl) | (apply R.assign; exact rfl) | (apply R.pickF; exact rfl; exact rfl) | (apply R.cmp; exact rfl; exact rfl; exact rfl; all_goals intro hc) | (apply R.lenS T6; exact rfl; exact rfl) | refine Ev.seq ?_ | refine Ev.region ?_ | (apply Ev.condB; exact rfl) | refine Ev.ret ?_ | refine Ev.skip ?_ | refine Ev.exit ?_ | refine Ev.block ?_ | refine thenQ.normal ?_ | refine thenQ.exit ?_ | refine blockQ.hit ?_ | refine loopQ.exit ?_ | (apply bodyQ.ret; exact rfl) | fail))
  · obtain ⟨p, hget⟩ : ∃ p, l[i]? = some p := ⟨l[i]'(by omega), List.getElem?_eq_getElem _⟩
    have hat : (encPPs l)[i]? = some (.snap false (encPs p)) := by rw [encPPs, List.getElem?_map, hget]; rfl
    have hpl := hls p (List.mem_of_getElem? hget)
    have hep := encPs_len p
    have hsn := allT_snoc hget
    have hal := fun j => allT_len (j := j) hget
    have hil := lt_of_some hget
    clear hc
    refine Ev.loop (I := fun k2 st => ∃ (j : Nat) (v : PV) (H : AHeap) (ρ' : Nat → PV), st = ⟨al [(0, .snap false (encPPs l)), (1, .int .i64 n), (2, .int .i64 m), (7, v), (8, .int .i64 i), (9, .int .i64 j)] ρ', H⟩ ∧ k2 + j = p.length ∧ HV H ∧ Out 4 H v (encs (allT (l.take i) ++ (p.take j).map (·.1)))) p.length ?_ ?_
    · exact ⟨0, _, _, _, St.keep ⟨rfl, rfl, rfl, rfl, rfl, rfl, trivial⟩, rfl, hH, by simpa using ho⟩
    clear ho hH
    rintro k2 _ ⟨j, v, H, ρ', rfl, hk2, hH, ho⟩
    (repeat' (first | (apply R.move; exact rfl) | refine Ev.seq ?_ | refine Ev.region ?_ | fail))
    refine R.indexS T6 rfl rfl rfl rfl hat rfl rfl ?_
    (repeat' (first | refine EvOps.nil ?_ | (apply R.move; exact rfl) | (apply R.assign; exact rfl) | (apply R.load1 T6; exact rfl; exact rfl; exact rfl; exact rfl) | (apply R.cmp; exact rfl; exact rfl; exact rfl; all_goals intro hc) | (apply R.arith; exact rfl; exact rfl; exact rfl; exact (wrapI (by omega) (by omega))) | (apply R.lenS T6; exact rfl; exact rfl) | refine Ev.seq ?_ | refine Ev.region ?_ | (apply Ev.condB; exact rfl) | refine Ev.skip ?_ | refine Ev.exit ?_ | refine Ev.block ?_ | refine thenQ.normal ?_ | refine thenQ.exit ?_ | refine blockQ.normal ?_ | refine blockQ.hit ?_ | refine loopQ.normal ?_ | refine loopQ.exit ?_ | fail))
    · obtain ⟨k1, s1, o1, l1, n1, hmem, hat2, hd, hil, hget2⟩ := encPs_at hc
      have hal1 := hal j
      have hlx := encs_len (allT (l.take i) ++ (p.take j).map (·.1))
      refine R.indexS T6 rfl rfl rfl rfl hat rfl rfl ?_
      (repeat' (first | (apply R.move; exact rfl) | (apply R.load1 T6; exact rfl; exact rfl; exact rfl; exact rfl) | fail))
      refine R.indexS T6 rfl rfl rfl rfl hat2 rfl rfl ?_
      (repeat' (first | (apply R.loadA T6; exact rfl; exact rfl; exact rfl; exact rfl; exact (by repeat constructor)) | (apply R.fieldAddrS T6; exact rfl; exact rfl; exact rfl; exact rfl; exact rfl) | (apply R.buildSlice T6; exact rfl; exact rfl; exact rfl; exact rfl; exact (by decide); exact rfl; exact rfl; exact rfl; exact rfl; exact rfl) | fail))
      refine R.appendLP T6 rfl rfl rfl rfl rfl rfl rfl (by decide) rfl rfl rfl rfl ho (by show _ + 1 < _; omega) (by rw [isVals_eq, List.all_append, ← isVals_eq, isVals_encs]; rfl) hH ?_
      intro v3 H3 lp
      rw [← enc_mk] at lp
      have lp : LP H v 4 (encs (allT (l.take i) ++ (p.take j).map (·.1)) ++ [enc (Tm.mk k1 s1 o1 l1)]) v3 H3 := lp
      have hst : allT (l.take i) ++ (p.take j).map (·.1) ++ [Tm.mk k1 s1 o1 l1] = allT (l.take i) ++ (p.take (j + 1)).map (·.1) := by
        rw [List.take_add_one, hget2, List.map_append, List.append_assoc]; rfl
      rw [encs_snoc, hst] at lp
      have o3 := lp.out
      have h3 := lp.hv
      (repeat' (first | refine EvOps.nil ?_ | (apply R.move; exact rfl) | (apply R.assign; exact rfl) | (apply R.arith; exact rfl; exact rfl; exact rfl; exact (wrapI (by omega) (by omega))) | refine Ev.region ?_ | refine thenQ.normal ?_ | refine blockQ.normal ?_ | refine loopQ.normal ?_ | fail))
      exact ⟨k2 - 1, by omega, j + 1, v3, H3, _, St.keep ⟨rfl, rfl, rfl, rfl, rfl, rfl, trivial⟩, by omega, h3, o3⟩
    · have tk : p.take j = p := List.take_of_length_le (by omega)
      rw [tk, ← hsn] at ho
      exact ⟨k' - 1, by omega, i + 1, v, H, _, St.keep ⟨rfl, rfl, rfl, rfl, rfl, trivial⟩, by omega, hH, ho⟩
  · have tk : l.take i = l := List.take_of_length_le (by omega)
    rw [tk] at ho
    refine R.call rfl rfl (CallEv.out rfl ho (isVals_encs _) rfl (by rw [nrms_encs]; exact hfew) rfl ?_)
    (repeat' (first | refine EvOps.nil ?_ | (apply R.assign; exact rfl) | (apply R.pickT; exact rfl; exact rfl) | refine Ev.ret ?_ | refine thenQ.normal ?_ | (apply bodyQ.ret; exact rfl) | fail))
    exact ⟨_, rfl, by rw [if_neg (by omega)]; rfl⟩
  · exact ⟨_, rfl, by rw [if_pos (by omega)]; rfl⟩
section
variable {C : Cfg} (T : Tab C.P)
variable {ops : Array Oper} {i : Nat} {d L0 : Nat} {own : List Nat} {ty : TypeId} {pos : String} {af : Array Edge} {r : List Oper} {ρ : Nat → PV} {L : List (Nat × PV)} {h : AHeap} {Q : St → Prop}
theorem D.neg {t : TypeId} {x : Operand} {k : IntKind} {a c : Int} (hx : evL L x = some (.int k a)) (hw : k.wrap (0 - a) = c) (kk : EvD C ops (i + 1) r ⟨⟨al ((d, .int k c) :: L) ρ, h⟩, L0, own⟩ Q) :
    EvD C ops i (⟨some d, .unOp .neg t x, ty, pos, af, none⟩ :: r) ⟨⟨al L ρ, h⟩, L0, own⟩ Q :=
  EvD.plain (h' := h) rfl (fun run => by simp only [opVal, stepOp, evL_ev hx, unP, hw, Option.map_some]) kk
/-- append to a list in a region that draws its order, behind all else -/
theorem D.appendLP {st xt el el' : TypeId} {sz by' : Nat} {z : PV} {full : Bool} {es ys : List PV} {x y : Operand} {v : PV} (hl2 : level ops (before ops) i = 2) (hx : evL L x = some v) (hy : evL L y = some (.snap full ys)) (hk : T.kd st = some (.sl el)) (hk' : T.kd xt = some (.sl el')) (hs : T.ts el = some (sz + 1)) (hb : T.tb el = some by') (hz : T.tz el = some z)
    (hby : by' ≤ 1000) (hl : (cells z).length = sz + 1) (ho : (cells z).all oneC = true) (hyo : esOk (sz + 1) ys) (hne : ys.isEmpty = false) (o : Out (sz + 1) h v es) (hn : es.length + ys.length < 1000000000)
    (hvs : isVals (es ++ ys) = true) (hH : HV h) (kk : ∀ v' h', LP h v (sz + 1) (es ++ ys) v' h' → EvD C ops (i + 1) r ⟨⟨al ((d, v') :: L) ρ, h'⟩, h'.length, []⟩ Q) :
    EvD C ops i (⟨some d, .call ⟨.builtin .append, #[x, y], #[st, xt]⟩, ty, pos, af, none⟩ :: r) ⟨⟨al L ρ, h⟩, L0, own⟩ Q := by
  rcases o with ⟨rfl, rfl⟩ | ⟨id, ep, rfl, e2⟩
  · refine EvD.two rfl hl2 ⟨0, fun n _ => ?_⟩ (kk (.mref h.length 0 0 ys.length) (h ++ [⟨.m, 0, sz + 1, ys⟩]) ⟨.inr ⟨h.length, 0, by simp, by simp⟩, hH.app (HV.one (by simpa using hvs)), by simp, fun j hj _ => List.getElem?_append_left hj, fun j ep n hh => ?_⟩)
    · have := appendP_new T (h := h) (lv := 2) (full := full) (by omega) hk hk' hs hb hz hby hl ho hyo hne (by simpa using hn)
      simp only [opVal, builtinP, List.map_cons, List.map_nil, evL_ev hx, evL_ev hy, this]
    · cases hh; exact .inr (Nat.le_refl _)
  · have hlt := lt_of_some e2
    refine EvD.two rfl hl2 ⟨0, fun n _ => ?_⟩ (kk (.mref id (ep + 1) 0 (es.length + ys.length)) (h.set id ⟨.m, ep + 1, sz + 1, es ++ ys⟩) ⟨.inr ⟨id, ep + 1, by simp, List.getElem?_set_self hlt⟩, hH.set id (by simp) hvs, by simp, fun j hj hne => List.getElem?_set_ne (fun hh => hne ep es.length (by rw [hh])), fun j ep' n hh => ?_⟩)
    · have := appendP_m T (h := h) (full := full) (len := es.length) hk hk' hs hb hz hby hl ho hyo hne hn (getM_at e2 rfl (by simp)) rfl rfl (Nat.le_refl _)
      simp only [opVal, builtinP, List.map_cons, List.map_nil, evL_ev hx, evL_ev hy, this, List.take_length]
    · cases hh; exact .inl ⟨ep, es.length, rfl⟩
end
/-- the inverse of a product (of any numbers) -/
def invP (l : List Pw) : List Pw := l.map fun p => (p.1, IntKind.i64.wrap (0 - p.2))
theorem invP_len (l : List Pw) : (invP l).length = l.length := by simp [invP]
theorem encPs_snoc (l : List Pw) (p : Pw) : encPs l ++ [encP p] = encPs (l ++ [p]) := by simp [encPs]
theorem invP_snoc {l : List Pw} {i : Nat} {p : Pw} (h : l[i]? = some p) : invP (l.take (i + 1)) = invP (l.take i) ++ [(p.1, IntKind.i64.wrap (0 - p.2))] := by
  rw [List.take_add_one, h]; simp [invP]
end Go.Pm
end

/-
  CHAPTER 6, PART 41: terms and products for runs by computation. Conditions: none.
-/
section
set_option linter.unusedVariables false
set_option linter.unusedSimpArgs false
set_option linter.unusedVariables false
set_option linter.unusedSimpArgs false
set_option maxRecDepth 4000
namespace Go.Pm
open Go.Proofs
def Tm.k : Tm → Int | .mk k _ _ _ => k
def Tm.s : Tm → ByteArray | .mk _ s _ _ => s
def Tm.o : Tm → Int | .mk _ _ o _ => o
def Tm.l : Tm → List Tm | .mk _ _ _ l => l
theorem enc_x (t : Tm) : enc t = .agg [.int .i64 t.k, .str t.s, .int .i64 t.o, .snap false (encs t.l)] := by cases t; exact enc_mk _ _ _ _
theorem encP_x (t : Tm) (n : Int) : encP (t, n) = .agg [.int .i64 t.k, .str t.s, .int .i64 t.o, .snap false (encs t.l), .int .i64 n] := by cases t; rfl
attribute [simp] isVals isVal nrms nrm isVals_encs nrms_encs isVal_enc nrm_enc nrms_encPs encPs_vals
@[simp] theorem fold_enc (t : Tm) : PV.agg [.int .i64 t.k, .str t.s, .int .i64 t.o, .snap false (encs t.l)] = enc t := (enc_x t).symm
@[simp] theorem fold_encP (t : Tm) (n : Int) : PV.agg [.int .i64 t.k, .str t.s, .int .i64 t.o, .snap false (encs t.l), .int .i64 n] = encP (t, n) := (encP_x t n).symm
theorem isVals_app (a b : List PV) : isVals (a ++ b) = (isVals a && isVals b) := by rw [isVals_eq, List.all_append, ← isVals_eq, ← isVals_eq]
attribute [simp] isVals_app
@[simp] theorem isVal_encP (p : Pw) : isVal (encP p) = true := by obtain ⟨t, n⟩ := p; rw [encP_x]; simp
@[simp] theorem nrm_encP (p : Pw) : nrm (encP p) = encP p := by obtain ⟨t, n⟩ := p; rw [encP_x]; simp [-fold_encP, -fold_enc]
@[simp] theorem encPs_nil : encPs [] = [] := rfl
@[simp] theorem encs_nil : encs [] = [] := by simp [encs]
@[simp] theorem encs_lenS (l : List Tm) : (encs l).length = l.length := encs_len l
@[simp] theorem encPs_lenS (l : List Pw) : (encPs l).length = l.length := encPs_len l
theorem at_encs {l p q : List Tm} {t : Tm} (e : l = p ++ t :: q) : (encs l)[p.length]? = some (.agg [.int .i64 t.k, .str t.s, .int .i64 t.o, .snap false (encs t.l)]) := by rw [encs_eq, e, ← enc_x]; simp
theorem at_encPs {l p q : List Pw} {t : Tm} {n : Int} (e : l = p ++ (t, n) :: q) : (encPs l)[p.length]? = some (.agg [.int .i64 t.k, .str t.s, .int .i64 t.o, .snap false (encs t.l), .int .i64 n]) := by rw [encPs, e, ← encP_x]; simp
theorem set_encPs (x q : List Pw) (p p' : Pw) : (encPs (x ++ p :: q)).set x.length (encP p') = encPs (x ++ p' :: q) := by simp [encPs]
attribute [local irreducible] thenQ blockQ loopQ bodyQ Ev EvOps CallEv FnEv EvD
end Go.Pm
end
