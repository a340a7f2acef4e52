/-
  A part of the library Pm and its contracts (joined by program): PmChrP PmChrQ PmCk0 PmLink9 PmGrow PmDel PmInsP PmIO PmIX PmIS PmIG. Conditions: none.
-/
import Derived.Test.YtejhjciockgicaaGreatPzAJ
import Derived.Test.YtejhjciockgicaaGreatPzAB
import Derived.Shelf.SlSortCmp.WholeK
import Derived.Test.YtejhjciockgicaaGreatPzAI
import Derived.Lib.Overlaps
/-
  CHAPTER 6, PART 53: characters, the program. Conditions: none.
-/
section
set_option linter.unusedVariables false
set_option linter.unusedSimpArgs false
set_option linter.unusedVariables false
set_option linter.unusedSimpArgs false
set_option maxRecDepth 4000
namespace Go.Pm
open Go.Proofs
attribute [local irreducible] thenQ blockQ loopQ bodyQ Ev EvOps CallEv FnEv EvD
theorem outside_fun (n : Int) : Fun C 39 [.int .i64 n] (.bool (decide (n < -35184372088832 ∨ 35184372088832 < n))) := by
  refine Fun.x T6 Tryz.func39 rfl ?_
  (repeat' (first | (refine Rn.go ?_; conv => whnf) | refine .mk ?_ | refine .tt ?_ | refine .ff ?_ | refine .m2 ?_ | refine .m3 ?_ | refine .mk (fun hc => ?_) (fun hc => ?_) | refine .lp (fun v H lp => ?_) | fail))
  all_goals exact ⟨_, rfl, by simp [tupOf, *]⟩
theorem cr1_fun (x : List Pw) (hb : ∀ p ∈ x, bulk p.1 < 100000000) (hl : x.length < 100000000) : Fun C 36 [.snap false (encPs x)] (.bool (decide (validP x ≠ 0))) := by
  have hv := pvalid_fun x hb hl
  refine Fun.x T6 Tryz.func36 rfl ?_
  (repeat' (first | (refine Rn.go ?_; conv => whnf) | refine .mk ?_ | refine .tt ?_ | refine .ff ?_ | refine .m2 ?_ | refine .m3 ?_ | refine .mk (fun hc => ?_) (fun hc => ?_) | refine .lp (fun v H lp => ?_) | fail))
  refine .p hv ?_
  (repeat' (first | (refine Rn.go ?_; conv => whnf) | refine .mk ?_ | refine .tt ?_ | refine .ff ?_ | refine .m2 ?_ | refine .m3 ?_ | refine .mk (fun hc => ?_) (fun hc => ?_) | refine .lp (fun v H lp => ?_) | fail))
  all_goals exact ⟨_, rfl, by simp [tupOf, *]⟩
theorem cr21_fun (p : Pw) (t : Tm) (hp : bulk p.1 < 1000000000) (ht : bulk t < 1000000000) : Fun C 43 [encP p, enc t] (.int .i64 (cmpT p.1 t)) := by
  have h1 := tcmp_fun p.1 t hp ht
  obtain ⟨u, n⟩ := p
  rw [encP_x, enc_x]
  refine Fun.x T6 Tryz.func43 rfl ?_
  (repeat' (first | (refine Rn.go ?_; conv => whnf) | refine .mk ?_ | refine .tt ?_ | refine .ff ?_ | refine .m2 ?_ | refine .m3 ?_ | refine .mk (fun hc => ?_) (fun hc => ?_) | refine .lp (fun v H lp => ?_) | fail))
  refine .p h1 ?_
  (repeat' (first | (refine Rn.go ?_; conv => whnf) | refine .mk ?_ | refine .tt ?_ | refine .ff ?_ | refine .m2 ?_ | refine .m3 ?_ | refine .mk (fun hc => ?_) (fun hc => ?_) | refine .lp (fun v H lp => ?_) | fail))
  exact ⟨_, rfl, rfl⟩
theorem binG_fun (g : FuncId) (hm : C.mode g = .pure) (l : List Pw) (t : Tm) (hs : Srt l) (hl : l.length < 100000000) (hcf : ∀ p ∈ l, Fun C g [encP p, enc t] (.int .i64 (cmpT p.1 t))) :
    Fun C 42 [.snap false (encPs l), enc t, .fn g []] (.tup [.int .i64 (lbP t l), .bool (fdP t l)]) := by
  have hle := lbP_le t l
  have hif := lbP_iff t l hs
  have hfd : fdP t l = match l[lbP t l]? with | some p => decide (cmpT p.1 t = 0) | none => false := rfl
  have hel := encPs_len l
  generalize fdP t l = FD at hfd ⊢
  generalize lbP t l = LB at hle hif hfd ⊢
  have elem : ∀ m, m < l.length → ∃ u n, l[m]? = some (u, n) ∧ (encPs l)[m]? = some (.agg [.int .i64 u.k, .str u.s, .int .i64 u.o, .snap false (encs u.l), .int .i64 n]) ∧ Fun C g [encP (u, n), enc t] (.int .i64 (cmpT u t)) := fun m hm => by
    rcases hp : l[m] with ⟨u, n⟩
    have h1 : l[m]? = some (u, n) := by rw [List.getElem?_eq_getElem hm, hp]
    exact ⟨u, n, h1, by rw [encPs, List.getElem?_map, h1, ← encP_x]; rfl, hcf (u, n) (List.mem_of_getElem? h1)⟩
  rw [enc_x]
  refine Fun.x T6 Tryz.func42 rfl ?_
  (repeat' (first | (refine Rn.go ?_; conv => whnf) | refine .mk ?_ | refine .tt ?_ | refine .ff ?_ | refine .m2 ?_ | refine .m3 ?_ | refine .mk (fun hc => ?_) (fun hc => ?_) | refine .lp (fun v H lp => ?_) | fail))
  refine LpX.nat T6 (fun k L H => ∃ i j : Nat, L = [(0, .snap false (encPs l)), (2, .fn g []), (4, .ptr 0 0 0 0), (8, .int .i64 (encPs l).length), (9, .int .i64 i), (10, .int .i64 j)] ∧ H = [⟨.m, 0, 4, [.agg [.int .i64 t.k, .str t.s, .int .i64 t.o, .snap false (encs t.l)]]⟩] ∧ k = j - i ∧ i ≤ LB ∧ LB ≤ j ∧ j ≤ l.length) l.length (.nx ⟨0, (encPs l).length, rfl, rfl, by omega, by omega, by omega, by omega⟩) ?_
  rintro k _ _ ρ ⟨i, j, rfl, rfl, hk, i1, i2, i3⟩
  by_cases hij : i < j
  · obtain ⟨m, hmm⟩ : ∃ m : Nat, ((i : Int) + j) / 2 = m := ⟨(i + j) / 2, by omega⟩
    obtain ⟨u, n, h1, hat, hcm⟩ := elem m (by omega)
    have hiff := hif m _ h1
    dsimp only at hiff
    (repeat' (first | (refine Rn.go ?_; conv => whnf) | refine .mk ?_ | refine .tt ?_ | refine .ff ?_ | refine .m2 ?_ | refine .m3 ?_ | refine .mk (fun hc => ?_) (fun hc => ?_) | refine .lp (fun v H lp => ?_) | fail))
    refine .mk (n := m) ?_ hmm hat
    (repeat' (first | (refine Rn.go ?_; conv => whnf) | refine .mk ?_ | refine .tt ?_ | refine .ff ?_ | refine .m2 ?_ | refine .m3 ?_ | refine .mk (fun hc => ?_) (fun hc => ?_) | refine .lp (fun v H lp => ?_) | fail))
    refine .p hcm ?_ hm
    (repeat' (first | (refine Rn.go ?_; conv => whnf) | refine .mk ?_ | refine .tt ?_ | refine .ff ?_ | refine .m2 ?_ | refine .m3 ?_ | refine .mk (fun hc => ?_) (fun hc => ?_) | refine .lp (fun v H lp => ?_) | fail))
    · exact .nx ⟨j - (m + 1), by omega, m + 1, j, rfl, rfl, rfl, by omega, by omega, by omega⟩
    · exact .nx ⟨m - i, by omega, i, m, rfl, rfl, rfl, by omega, by omega, by omega⟩
  · have hi : i = LB := by omega
    subst hi
    by_cases hil : i < l.length
    · obtain ⟨u, n, h1, hat, hcm⟩ := elem i hil
      rw [h1] at hfd
      dsimp only at hfd
      (repeat' (first | (refine Rn.go ?_; conv => whnf) | refine .mk ?_ | refine .tt ?_ | refine .ff ?_ | refine .m2 ?_ | refine .m3 ?_ | refine .mk (fun hc => ?_) (fun hc => ?_) | refine .lp (fun v H lp => ?_) | fail))
      refine .p hcm ?_ hm
      (repeat' (first | (refine Rn.go ?_; conv => whnf) | refine .mk ?_ | refine .tt ?_ | refine .ff ?_ | refine .m2 ?_ | refine .m3 ?_ | refine .mk (fun hc => ?_) (fun hc => ?_) | refine .lp (fun v H lp => ?_) | fail))
      all_goals exact ⟨_, rfl, by rw [hfd]; simp [tupOf, nrm, nrms, *]⟩
    · rw [List.getElem?_eq_none (by omega)] at hfd
      (repeat' (first | (refine Rn.go ?_; conv => whnf) | refine .mk ?_ | refine .tt ?_ | refine .ff ?_ | refine .m2 ?_ | refine .m3 ?_ | refine .mk (fun hc => ?_) (fun hc => ?_) | refine .lp (fun v H lp => ?_) | fail))
      exact ⟨_, rfl, by rw [hfd]; rfl⟩
theorem pwr_bin {vs : List Pw} (s : Srt vs) (t : Tm) : (fdP t vs = true ∧ ∃ x, vs[lbP t vs]? = some x ∧ pwr vs t = x.2) ∨ (fdP t vs = false ∧ pwr vs t = 0) := by
  have hif := lbP_iff t vs s
  have hfd : fdP t vs = match vs[lbP t vs]? with | some p => decide (cmpT p.1 t = 0) | none => false := rfl
  cases hx : vs[lbP t vs]? with
  | none =>
    rw [hx] at hfd
    refine .inr ⟨hfd, pwr_none fun y hy h0 => ?_⟩
    obtain ⟨k, hk⟩ := List.getElem?_of_mem hy
    have h1 := hif k y hk
    have h2 := lt_of_some hk
    have h3 : vs.length ≤ lbP t vs := List.getElem?_eq_none_iff.1 hx
    omega
  | some x =>
    rw [hx] at hfd
    have hlt := lt_of_some hx
    by_cases h0 : cmpT x.1 t = 0
    · refine .inl ⟨by rw [hfd]; exact decide_eq_true h0, x, rfl, ?_⟩
      have hsp : vs = vs.take (lbP t vs) ++ x :: vs.drop (lbP t vs + 1) := by
        have h1 := (List.take_append_drop (lbP t vs) vs).symm
        rw [List.drop_eq_getElem_cons hlt] at h1
        rw [List.getElem?_eq_getElem hlt] at hx
        rw [Option.some.inj hx] at h1
        exact h1
      conv => lhs; rw [hsp]
      refine pwr_at (fun y hy h1 => ?_) h0
      obtain ⟨k, hk⟩ := List.getElem?_of_mem hy
      rw [List.getElem?_take] at hk
      split at hk
      · have := (hif k y hk).2 (by assumption); omega
      · cases hk
    · refine .inr ⟨by rw [hfd]; exact decide_eq_false h0, pwr_none fun y hy h1 => ?_⟩
      obtain ⟨k, hk⟩ := List.getElem?_of_mem hy
      have hy1 := hif k y hk
      have hx1 := hif _ x hx
      have ht := cmpT_zero h1
      rcases Nat.lt_trichotomy k (lbP t vs) with h | h | h
      · omega
      · rw [h] at hk; rw [hx] at hk; obtain rfl := Option.some.inj hk; exact h0 h1
      · have : cmpT x.1 y.1 < 0 := by
          have h2 := lt_of_some hk
          have := (List.pairwise_iff_getElem.1 s) _ _ hlt h2 h
          rw [List.getElem?_eq_getElem hlt] at hx
          rw [List.getElem?_eq_getElem h2] at hk
          rwa [Option.some.inj hx, Option.some.inj hk] at this
        rw [ht] at this
        omega
def zeroQ (c s : Int) : Bool := decide (s = 0) || (decide (c ≠ 0) && decide (s.tmod c = 0))
theorem zero_ev (c : Int) (vs m : List Pw) (id : Nat) (H : AHeap) (h0 : H[id]? = some ⟨.m, 0, 2, [.agg [.int .i64 c, .snap false (encPs vs)]]⟩) (hcl : ∀ J, HV J → closedH (H ++ J) = true) (hc0 : c = 0 ∨ 1 ≤ c) (s : Srt vs) (hv : Bd 35184372088832 vs) (sv : Sm vs) (hm : Bd 1000 m) (lm : m.length ≤ 200) (sm : Sm m) :
    FnEv C 41 [.snap false (encPs m), .ptr id 0 0 0] H (fun r h' => r = .bool (zeroQ c (valS vs m)) ∧ Exd H h') := by
  have hel := encPs_len m
  have hbin := fun t (ht : bulk t < 1000000000) => binG_fun 43 rfl vs t s sv.2 (fun p hp => cr21_fun p t (sv.1 p hp) ht)
  refine FnEv.x T6 Tryz.func41 rfl ?_
  (repeat' (first | (refine Rn.go ?_; conv => whnf) | refine .mk ?_ | refine .tt ?_ | refine .ff ?_ | refine .m2 ?_ | refine .m3 ?_ | refine .mk (fun hc => ?_) (fun hc => ?_) | refine .lp (fun v H lp => ?_) | fail))
  refine LpX.zip T6 m (fun p q L K => L = [(1, .ptr id 0 0 0), (4, .int .i64 (valS vs p)), (9, .snap false (encPs m)), (10, .int .i64 (encPs m).length), (11, .int .i64 p.length)] ∧ Exd H K) (.nx ⟨rfl, Exd.refl _⟩) ?_ ?_
  · rintro p ⟨u, n⟩ q _ K ρ e ⟨rfl, hE⟩
    have hat := at_encPs e
    have hl2 := congrArg List.length e
    simp only [List.length_append, List.length_cons] at hl2
    have k0 := hE.at h0
    have hc1 : closedH (K ++ [⟨.m, 0, 5, [.agg [.int .i64 u.k, .str u.s, .int .i64 u.o, .snap false (encs u.l), .int .i64 n]]⟩]) = true := by
      obtain ⟨J, hJ, rfl⟩ := hE
      rw [List.append_assoc]
      exact hcl _ (hJ.app (HV.one (by simp)))
    have hb := hbin u (sm.1 (u, n) (by rw [e]; simp))
    have hn := hm (u, n) (by rw [e]; simp)
    have h1 := pwr_bd (by omega) hv u
    have h2 := mul_bd hn.1 hn.2 h1.1 h1.2
    have h3 := valS_bd hv (p := p) (fun y hy => hm y (by rw [e]; simp [hy]))
    have hsn := valS_snoc vs p (u, n)
    dsimp only at hn h2 hsn
    (repeat' (first | (refine Rn.go ?_; conv => whnf) | refine .mk ?_ | refine .tt ?_ | refine .ff ?_ | refine .m2 ?_ | refine .m3 ?_ | refine .mk (fun hc => ?_) (fun hc => ?_) | refine .lp (fun v H lp => ?_) | fail))
    refine .p hb ?_
    rcases pwr_bin s u with ⟨hf, ⟨y, ny⟩, hx, hp⟩ | ⟨hf, hp⟩
    · rw [hf]
      have hatv : (encPs vs)[lbP u vs]? = some (.agg [.int .i64 y.k, .str y.s, .int .i64 y.o, .snap false (encs y.l), .int .i64 ny]) := by rw [encPs, List.getElem?_map, hx, ← encP_x]; rfl
      dsimp only at hp
      rw [hp] at h1 h2 hsn
      (repeat' (first | (refine Rn.go ?_; conv => whnf) | refine .mk ?_ | refine .tt ?_ | refine .ff ?_ | refine .m2 ?_ | refine .m3 ?_ | refine .mk (fun hc => ?_) (fun hc => ?_) | refine .lp (fun v H lp => ?_) | fail))
      exact .nx ⟨by rw [hsn], hE.app (HV.one (by simp))⟩
    · rw [hf]
      rw [hp] at hsn
      (repeat' (first | (refine Rn.go ?_; conv => whnf) | refine .mk ?_ | refine .tt ?_ | refine .ff ?_ | refine .m2 ?_ | refine .m3 ?_ | refine .mk (fun hc => ?_) (fun hc => ?_) | refine .lp (fun v H lp => ?_) | fail))
      exact .nx ⟨by rw [hsn], hE.app (HV.one (by simp))⟩
  · rintro _ K ρ ⟨rfl, hE⟩
    have k0 := hE.at h0
    (repeat' (first | (refine Rn.go ?_; conv => whnf) | refine .mk ?_ | refine .tt ?_ | refine .ff ?_ | refine .m2 ?_ | refine .m3 ?_ | refine .mk (fun hc => ?_) (fun hc => ?_) | refine .lp (fun v H lp => ?_) | fail))
    all_goals exact ⟨by simp [tupOf, zeroQ, *], hE⟩
theorem idxPP_ev (l : List (List Pw)) (g : FuncId) (cs : List PV) (p : List Pw → Bool) (H : AHeap) (hl : l.length < 1000000000) (hp : ∀ x ∈ l, ∀ H', Exd H H' → ∀ Q : PV → AHeap → Prop, (∀ h', Exd H' h' → Q (.bool (p x)) h') → CallEv C 2 g (.snap false (encPs x) :: cs) H' Q) :
    FnEv C 76 [.snap false (encPPs l), .fn g cs] H (fun r h' => r = .int .i64 (idxI p l) ∧ Exd H h') := by
  have hel : (encPPs l).length = l.length := by simp
  refine FnEv.x T6 Tryz.func76 rfl ?_
  (repeat' (first | (refine Rn.go ?_; conv => whnf) | refine .mk ?_ | refine .tt ?_ | refine .ff ?_ | refine .m2 ?_ | refine .m3 ?_ | refine .mk (fun hc => ?_) (fun hc => ?_) | refine .lp (fun v H lp => ?_) | fail))
  refine LpX.zip T6 l (fun a q L K => L = [(0, .snap false (encPPs l)), (1, .fn g cs), (7, .int .i64 (encPPs l).length), (8, .int .i64 a.length)] ∧ Exd H K ∧ ∀ y ∈ a, p y = false) (.nx ⟨rfl, Exd.refl _, by simp⟩) ?_ ?_
  · rintro a x q _ K ρ e ⟨rfl, hE, ha⟩
    have hat := at_encPPs e
    have hl2 := congrArg List.length e
    simp only [List.length_append, List.length_cons] at hl2
    (repeat' (first | (refine Rn.go ?_; conv => whnf) | refine .mk ?_ | refine .tt ?_ | refine .ff ?_ | refine .m2 ?_ | refine .m3 ?_ | refine .mk (fun hc => ?_) (fun hc => ?_) | refine .lp (fun v H lp => ?_) | fail))
    refine hp x (by rw [e]; simp) _ hE _ (fun h' hE' => ?_)
    cases hb : p x
    · (repeat' (first | (refine Rn.go ?_; conv => whnf) | refine .mk ?_ | refine .tt ?_ | refine .ff ?_ | refine .m2 ?_ | refine .m3 ?_ | refine .mk (fun hc => ?_) (fun hc => ?_) | refine .lp (fun v H lp => ?_) | fail))
      exact .nx ⟨rfl, hE.trans hE', fun y hy => by rcases List.mem_append.1 hy with h | h; exact ha y h; simp at h; rw [h]; exact hb⟩
    · (repeat' (first | (refine Rn.go ?_; conv => whnf) | refine .mk ?_ | refine .tt ?_ | refine .ff ?_ | refine .m2 ?_ | refine .m3 ?_ | refine .mk (fun hc => ?_) (fun hc => ?_) | refine .lp (fun v H lp => ?_) | fail))
      exact ⟨by rw [e, idxI_at ha hb]; rfl, hE.trans hE'⟩
  · rintro _ K ρ ⟨rfl, hE, ha⟩
    (repeat' (first | (refine Rn.go ?_; conv => whnf) | refine .mk ?_ | refine .tt ?_ | refine .ff ?_ | refine .m2 ?_ | refine .m3 ?_ | refine .mk (fun hc => ?_) (fun hc => ?_) | refine .lp (fun v H lp => ?_) | fail))
    exact ⟨by rw [idxI_none ha]; rfl, hE⟩
theorem cntPP_ev (l : List (List Pw)) (g : FuncId) (cs : List PV) (p : List Pw → Bool) (H : AHeap) (hl : l.length < 1000000000) (hp : ∀ x ∈ l, ∀ H', Exd H H' → ∀ Q : PV → AHeap → Prop, (∀ h', Exd H' h' → Q (.bool (p x)) h') → CallEv C 2 g (.snap false (encPs x) :: cs) H' Q) :
    FnEv C 35 [.snap false (encPPs l), .fn g cs] H (fun r h' => r = .bool (l.any p) ∧ Exd H h') := by
  have hi := idxPP_ev l g cs p H hl hp
  have ha := idxI_any p l
  refine FnEv.x T6 Tryz.func35 rfl ?_
  (repeat' (first | (refine Rn.go ?_; conv => whnf) | refine .mk ?_ | refine .tt ?_ | refine .ff ?_ | refine .m2 ?_ | refine .m3 ?_ | refine .mk (fun hc => ?_) (fun hc => ?_) | refine .lp (fun v H lp => ?_) | fail))
  refine .ex hi (fun h' hE => ?_)
  (repeat' (first | (refine Rn.go ?_; conv => whnf) | refine .mk ?_ | refine .tt ?_ | refine .ff ?_ | refine .m2 ?_ | refine .m3 ?_ | refine .mk (fun hc => ?_) (fun hc => ?_) | refine .lp (fun v H lp => ?_) | fail))
  all_goals exact ⟨by rw [← ha]; simp [tupOf, *], hE⟩
/-- the second closure: it calls the first -/
theorem cr3_ev (c : Int) (vs m : List Pw) (id id9 : Nat) (H : AHeap) (h9 : H[id9]? = some ⟨.m, 0, 1, [.fn 41 [.ptr id 0 0 0]]⟩)
    (hz : FnEv C 41 [.snap false (encPs m), .ptr id 0 0 0] H (fun r h' => r = .bool (zeroQ c (valS vs m)) ∧ Exd H h')) :
    FnEv C 44 [.snap false (encPs m), .ptr id9 0 0 0] H (fun r h' => r = .bool (!(zeroQ c (valS vs m))) ∧ Exd H h') := by
  refine FnEv.x T6 Tryz.func44 rfl ?_
  (repeat' (first | (refine Rn.go ?_; conv => whnf) | refine .mk ?_ | refine .tt ?_ | refine .ff ?_ | refine .m2 ?_ | refine .m3 ?_ | refine .mk (fun hc => ?_) (fun hc => ?_) | refine .lp (fun v H lp => ?_) | fail))
  refine .ex hz (fun h' hE => ?_)
  cases hb : zeroQ c (valS vs m)
  all_goals ((repeat' (first | (refine Rn.go ?_; conv => whnf) | refine .mk ?_ | refine .tt ?_ | refine .ff ?_ | refine .m2 ?_ | refine .m3 ?_ | refine .mk (fun hc => ?_) (fun hc => ?_) | refine .lp (fun v H lp => ?_) | fail)); exact ⟨rfl, hE⟩)
end Go.Pm
end

/-
  CHAPTER 6, PART 54: the program's CheckRefute. Conditions: none.
-/
section
set_option linter.unusedVariables false
set_option linter.unusedSimpArgs false
set_option linter.unusedVariables false
set_option linter.unusedSimpArgs false
set_option maxRecDepth 4000
namespace Go.Pm
open Go.Proofs
attribute [local irreducible] thenQ blockQ loopQ bodyQ Ev EvOps CallEv FnEv EvD
theorem pcr_fun (c : Int) (vs m : List Pw) (l : List (List Pw)) (sv : Sm vs) (svb : ∀ p ∈ vs, bulk p.1 < 100000000) (sm : ∀ p ∈ m, bulk p.1 < 100000000) (lm : m.length < 100000000) (sl : ∀ x ∈ l, (∀ p ∈ x, bulk p.1 < 100000000) ∧ x.length < 100000000) (ll : l.length < 100000000) :
    Fun C 10 [.snap false (encPPs l), .snap false (encPs m), .agg [.int .i64 c, .snap false (encPs vs)]]
      (.bool (decide (validP m = 0) && rgtC c vs && l.all (fun x => decide (validP x = 0) && zeroQ c (valS vs x)) && !(zeroQ c (valS vs m)))) := by
  have hel := encPs_len m
  have helv := encPs_len vs
  have hvm := pvalid_fun m sm lm
  refine Fun.x T6 Tryz.func10 rfl ?_
  (repeat' (first | (refine Rn.go ?_; conv => whnf) | refine .mk ?_ | refine .tt ?_ | refine .ff ?_ | refine .m2 ?_ | refine .m3 ?_ | refine .mk (fun hc => ?_) (fun hc => ?_) | refine .lp (fun v H lp => ?_) | fail))
  refine .p hvm ?_
  (repeat' (first | (refine Rn.go ?_; conv => whnf) | refine .mk ?_ | refine .tt ?_ | refine .ff ?_ | refine .m2 ?_ | refine .m3 ?_ | refine .mk (fun hc => ?_) (fun hc => ?_) | refine .lp (fun v H lp => ?_) | fail))
  rotate_left
  · exact ⟨_, rfl, by simp [hc, tupOf]⟩
  have vm := hc
  clear hc
  refine .ex (cntPP_ev l _ [] (fun x => decide (validP x ≠ 0)) _ (by omega) (fun x hx H' _ Q hQ => .p (cr1_fun x (sl x hx).1 (sl x hx).2) (hQ _ (Exd.refl _)))) (fun h' hE => ?_)
  have hva : (l.any fun x => decide (validP x ≠ 0)) = !(l.all fun x => decide (validP x = 0)) := by
    rw [← Bool.not_not (l.any _), List.not_any_eq_all_not]; simp
  rw [hva]
  cases hla : l.all fun x => decide (validP x = 0)
  · (repeat' (first | (refine Rn.go ?_; conv => whnf) | refine .mk ?_ | refine .tt ?_ | refine .ff ?_ | refine .m2 ?_ | refine .m3 ?_ | refine .mk (fun hc => ?_) (fun hc => ?_) | refine .lp (fun v H lp => ?_) | fail))
    have : (l.all fun x => decide (validP x = 0) && zeroQ c (valS vs x)) = false := by
      rw [List.all_eq_false] at hla ⊢
      obtain ⟨x, hx, h1⟩ := hla
      exact ⟨x, hx, by simp at h1 ⊢; simp [h1]⟩
    exact ⟨_, rfl, by rw [this]; simp [tupOf]⟩
  have h0 := hE.at (i := 0) (o := ⟨.m, 0, 2, [.agg [.int .i64 c, .snap false (encPs vs)]]⟩) rfl
  have hH := hE.hv (HV.one rfl)
  clear hE hva
  (repeat' (first | (refine Rn.go ?_; conv => whnf) | refine .mk ?_ | refine .tt ?_ | refine .ff ?_ | refine .m2 ?_ | refine .m3 ?_ | refine .mk (fun hc => ?_) (fun hc => ?_) | refine .lp (fun v H lp => ?_) | fail))
  all_goals first
    | exact ⟨_, rfl, by rw [show rgtC c vs = false from by rw [rgtC, if_pos (by omega)]]; simp [tupOf]⟩
    | skip
  all_goals
    have hrg : rgtC c vs = rgtGo none vs := by rw [rgtC, if_neg (by omega)]
    refine LpX.zip T6 vs (fun p q L K => L = [(0, .snap false (encPPs l)), (1, .snap false (encPs m)), (5, .ptr 0 0 0 0), (37, .snap false (encPs vs)), (38, .int .i64 (encPs vs).length), (39, .int .i64 p.length)] ∧ HV K ∧ K[0]? = some ⟨.m, 0, 2, [.agg [.int .i64 c, .snap false (encPs vs)]]⟩ ∧ rgtC c vs = rgtGo (lastT none p) q) (.nx ⟨rfl, hH, h0, hrg⟩) ?_ ?_
  all_goals first
    | (rintro p ⟨u, n⟩ r _ h ρ e ⟨rfl, hH, h0, hg⟩
       have hat := at_encPs e
       have hl3 := congrArg List.length e
       simp only [List.length_append, List.length_cons] at hl3
       have hlv := sv.2
       have hsm := svb (u, n) (by rw [e]; simp)
       have hv := valid_fun u hsm
       have hsp : Fun C 38 [enc u] (.bool (special u)) := by obtain ⟨k1, s1, o1, l1⟩ := u; exact symbol_fun k1 s1 o1 l1
       have hou := outside_fun n
       rw [rgtGo_cons] at hg
       have bad : ∀ {K : AHeap}, (valid u ≠ 0 ∨ special u = true ∨ n = 0 ∨ n < -35184372088832 ∨ 35184372088832 < n ∨ bef (lastT none p) u = true) → ∃ r1, rb K (tupOf [.bool false]) = some r1 ∧ nrm r1 = .bool ((decide (validP m = 0) && rgtC c vs && l.all fun x => decide (validP x = 0) && zeroQ c (valS vs x)) && !(zeroQ c (valS vs m))) := fun hh => ⟨_, rfl, by rw [hg, if_pos hh]; simp [tupOf]⟩
       have nx : ¬ (valid u ≠ 0 ∨ special u = true ∨ n = 0 ∨ n < -35184372088832 ∨ 35184372088832 < n ∨ bef (lastT none p) u = true) → rgtC c vs = rgtGo (lastT none (p ++ [(u, n)])) r := fun hh => by rw [hg, if_neg hh, lastT_snoc]
       have hk0 : (h ++ [⟨.m, 0, 5, [.agg [.int .i64 u.k, .str u.s, .int .i64 u.o, .snap false (encs u.l), .int .i64 n]]⟩])[0]? = some ⟨.m, 0, 2, [.agg [.int .i64 c, .snap false (encPs vs)]]⟩ := by rw [List.getElem?_append_left (lt_of_some h0)]; exact h0
       have hkv : HV (h ++ [⟨.m, 0, 5, [.agg [.int .i64 u.k, .str u.s, .int .i64 u.o, .snap false (encs u.l), .int .i64 n]]⟩]) := hH.app (HV.one (by simp))
       clear hg
       (repeat' (first | (refine Rn.go ?_; conv => whnf) | refine .mk ?_ | refine .tt ?_ | refine .ff ?_ | refine .m2 ?_ | refine .m3 ?_ | refine .mk (fun hc => ?_) (fun hc => ?_) | refine .lp (fun v H lp => ?_) | fail))
       refine .p hv ?_
       (repeat' (first | (refine Rn.go ?_; conv => whnf) | refine .mk ?_ | refine .tt ?_ | refine .ff ?_ | refine .m2 ?_ | refine .m3 ?_ | refine .mk (fun hc => ?_) (fun hc => ?_) | refine .lp (fun v H lp => ?_) | fail))
       rotate_left
       · exact bad (.inl hc)
       have v0 := hc
       clear hc hv
       refine .p hsp ?_
       cases hs : special u
       rotate_left
       · (repeat' (first | (refine Rn.go ?_; conv => whnf) | refine .mk ?_ | refine .tt ?_ | refine .ff ?_ | refine .m2 ?_ | refine .m3 ?_ | refine .mk (fun hc => ?_) (fun hc => ?_) | refine .lp (fun v H lp => ?_) | fail))
         exact bad (.inr (.inl hs))
       (repeat' (first | (refine Rn.go ?_; conv => whnf) | refine .mk ?_ | refine .tt ?_ | refine .ff ?_ | refine .m2 ?_ | refine .m3 ?_ | refine .mk (fun hc => ?_) (fun hc => ?_) | refine .lp (fun v H lp => ?_) | fail))
       · exact bad (.inr (.inr (.inl hc)))
       have n0 := hc
       clear hc
       refine .p hou ?_
       by_cases ho : n < -35184372088832 ∨ 35184372088832 < n
       · rw [decide_eq_true ho]
         (repeat' (first | (refine Rn.go ?_; conv => whnf) | refine .mk ?_ | refine .tt ?_ | refine .ff ?_ | refine .m2 ?_ | refine .m3 ?_ | refine .mk (fun hc => ?_) (fun hc => ?_) | refine .lp (fun v H lp => ?_) | fail))
         exact bad (.inr (.inr (.inr (by rcases ho with h | h; exact .inl h; exact .inr (.inl h)))))
       rw [decide_eq_false ho]
       rcases List.eq_nil_or_concat p with rfl | ⟨p', ⟨y, ny⟩, rfl⟩
       · (repeat' (first | (refine Rn.go ?_; conv => whnf) | refine .mk ?_ | refine .tt ?_ | refine .ff ?_ | refine .m2 ?_ | refine .m3 ?_ | refine .mk (fun hc => ?_) (fun hc => ?_) | refine .lp (fun v H lp => ?_) | fail))
         exact .nx ⟨rfl, hkv, hk0, nx (by simp [v0, hs, lastT, bef]; omega)⟩
       · have hy : (encPs vs)[p'.length]? = some (.agg [.int .i64 y.k, .str y.s, .int .i64 y.o, .snap false (encs y.l), .int .i64 ny]) := at_encPs (q := (u, n) :: r) (by rw [e]; simp)
         have hcm := tcmp_fun y u (Nat.lt_trans (svb (y, ny) (by rw [e]; simp)) (by decide)) (Nat.lt_trans hsm (by decide))
         have hll : (p'.concat (y, ny)).length = p'.length + 1 := by simp
         have hbf : bef (lastT none (p'.concat (y, ny))) u = decide (0 ≤ cmpT y u) := by rw [List.concat_eq_append, lastT_snoc]; rfl
         (repeat' (first | (refine Rn.go ?_; conv => whnf) | refine .mk ?_ | refine .tt ?_ | refine .ff ?_ | refine .m2 ?_ | refine .m3 ?_ | refine .mk (fun hc => ?_) (fun hc => ?_) | refine .lp (fun v H lp => ?_) | fail))
         refine .mk (n := p'.length) ?_ (by omega) hy
         (repeat' (first | (refine Rn.go ?_; conv => whnf) | refine .mk ?_ | refine .tt ?_ | refine .ff ?_ | refine .m2 ?_ | refine .m3 ?_ | refine .mk (fun hc => ?_) (fun hc => ?_) | refine .lp (fun v H lp => ?_) | fail))
         refine .p hcm ?_
         (repeat' (first | (refine Rn.go ?_; conv => whnf) | refine .mk ?_ | refine .tt ?_ | refine .ff ?_ | refine .m2 ?_ | refine .m3 ?_ | refine .mk (fun hc => ?_) (fun hc => ?_) | refine .lp (fun v H lp => ?_) | fail))
         · exact bad (.inr (.inr (.inr (.inr (.inr (by rw [hbf]; exact decide_eq_true hc))))))
         · exact .nx ⟨rfl, hkv, hk0, nx (by rw [hbf]; simp [v0, hs]; omega)⟩)
    | (rintro _ h ρ ⟨rfl, hH, h0, hg⟩
       rw [rgtGo_nil] at hg
       obtain ⟨bv, st, _, _⟩ := rgtGo_ok (l := vs) (pr := none) (by rw [← hrg]; exact hg)
       obtain ⟨m1, m2, _, _, _⟩ := validP_zero vm
       have smm : Sm m := ⟨fun p hp => Nat.lt_trans (sm p hp) (by decide), lm⟩
       have hcc : c = 0 ∨ 1 ≤ c := by omega
       have hcl : ∀ J, HV J → closedH (h ++ [⟨.m, 0, 1, [.fn 41 [.ptr 0 0 0 0]]⟩] ++ J) = true := fun J hJ => closed_app (by
         rw [List.all_append, List.all_eq_true.2 (fun o ho => by rw [vis_vals _ _ (hH o ho).2]; simp), Bool.true_and]
         have : visible (h ++ [⟨.m, 0, 1, [.fn 41 [.ptr 0 0 0 0]]⟩] ++ J) 0 = true := vis_app (vis_app (vis_at h0 (by simp)))
         simp only [List.all_cons, List.all_nil, visRs, visR, this, Bool.and_true, Bool.or_true]) hJ
       have k0 : (h ++ [⟨.m, 0, 1, [.fn 41 [.ptr 0 0 0 0]]⟩])[0]? = some ⟨.m, 0, 2, [.agg [.int .i64 c, .snap false (encPs vs)]]⟩ := by rw [List.getElem?_append_left (lt_of_some h0)]; exact h0
       have k9 : (h ++ [⟨.m, 0, 1, [.fn 41 [.ptr 0 0 0 0]]⟩])[h.length]? = some ⟨.m, 0, 1, [.fn 41 [.ptr 0 0 0 0]]⟩ := by simp
       have hcl' : ∀ {h2}, Exd (h ++ [⟨.m, 0, 1, [.fn 41 [.ptr 0 0 0 0]]⟩]) h2 → closedH h2 = true := fun {h2} ⟨J, hJ, e⟩ => by rw [e]; exact hcl J hJ
       (repeat' (first | (refine Rn.go ?_; conv => whnf) | refine .mk ?_ | refine .tt ?_ | refine .ff ?_ | refine .m2 ?_ | refine .m3 ?_ | refine .mk (fun hc => ?_) (fun hc => ?_) | refine .lp (fun v H lp => ?_) | fail))
       clear hH h0
       generalize (h ++ [⟨.m, 0, 1, [.fn 41 [.ptr 0 0 0 0]]⟩]) = H at hcl hcl' k0 k9 ⊢
       have zev : ∀ x, validP x = 0 → (∀ p ∈ x, bulk p.1 < 100000000) → ∀ H', Exd H H' → FnEv C 41 [.snap false (encPs x), .ptr 0 0 0 0] H' (fun r h' => r = .bool (zeroQ c (valS vs x)) ∧ Exd H' h') := fun x hx hb H' hE => by
         obtain ⟨x1, x2, _, _, _⟩ := validP_zero hx
         exact zero_ev c vs x 0 H' (hE.at k0) (fun J hJ => hcl' (hE.app hJ)) hcc st bv sv x2 x1 ⟨fun p hp => Nat.lt_trans (hb p hp) (by decide), by omega⟩
       refine .ex (zev m vm sm H (Exd.refl _)) (fun h2 hE2 => ?_)
       have hq := hcl' hE2
       cases hz : zeroQ c (valS vs m)
       · (repeat' (first | (refine Rn.go ?_; conv => whnf) | refine .mk ?_ | refine .tt ?_ | refine .ff ?_ | refine .m2 ?_ | refine .m3 ?_ | refine .mk (fun hc => ?_) (fun hc => ?_) | refine .lp (fun v H lp => ?_) | fail))
         refine .ex (cntPP_ev l _ [.ptr h.length 0 0 0] (fun x => !(zeroQ c (valS vs x))) _ (by omega) (fun x hx H' hE' Q hQ => .ex (cr3_ev c vs x 0 h.length H' ((hE2.trans hE').at k9) (zev x (by simpa using List.all_eq_true.1 hla x hx) (sl x hx).1 H' (hE2.trans hE'))) hQ)) (fun h3 hE3 => ?_)
         have hq3 := hcl' (hE2.trans hE3)
         have hb : (!(l.any fun x => !(zeroQ c (valS vs x)))) = l.all (fun x => decide (validP x = 0) && zeroQ c (valS vs x)) := by
           rw [List.not_any_eq_all_not, Bool.eq_iff_iff, List.all_eq_true, List.all_eq_true]
           exact ⟨fun a x hx => by have := a x hx; have := List.all_eq_true.1 hla x hx; simp_all, fun a x hx => by have := a x hx; simp_all⟩
         rw [← hb, hg, vm]
         cases hany : l.any fun x => !(zeroQ c (valS vs x))
         all_goals
           (repeat' (first | (refine Rn.go ?_; conv => whnf) | refine .mk ?_ | refine .tt ?_ | refine .ff ?_ | refine .m2 ?_ | refine .m3 ?_ | refine .mk (fun hc => ?_) (fun hc => ?_) | refine .lp (fun v H lp => ?_) | fail))
           exact ⟨_, rfl, by simp [tupOf]⟩
       · (repeat' (first | (refine Rn.go ?_; conv => whnf) | refine .mk ?_ | refine .tt ?_ | refine .ff ?_ | refine .m2 ?_ | refine .m3 ?_ | refine .mk (fun hc => ?_) (fun hc => ?_) | refine .lp (fun v H lp => ?_) | fail))
         exact ⟨_, rfl, by simp [tupOf]⟩)
end Go.Pm
end

/-
  CHAPTER 6, PART 58: lists of numbers, as the checks use them. Conditions: none.
-/
section
set_option linter.unusedVariables false
set_option linter.unusedSimpArgs false
set_option linter.unusedVariables false
set_option linter.unusedSimpArgs false
set_option maxRecDepth 4000
namespace Go.Pm
open Go.Proofs
def encIs (l : List Int) : List PV := l.map fun x => .int .i64 x
theorem at_encIs {l p q : List Int} {x : Int} (e : l = p ++ x :: q) : (encIs l)[p.length]? = some (.int .i64 x) := by rw [encIs, e]; simp
@[simp] theorem encIs_len (l : List Int) : (encIs l).length = l.length := by simp [encIs]
@[simp] theorem encIs_vals (l : List Int) : isVals (encIs l) = true := by induction l with | nil => rfl | cons x l ih => simpa [encIs] using ih
@[simp] theorem encIs_nrms (l : List Int) : nrms (encIs l) = encIs l := by induction l with | nil => rfl | cons x l ih => simpa [encIs] using ih
attribute [local irreducible] thenQ blockQ loopQ bodyQ Ev EvOps CallEv FnEv EvD
theorem idxN_fun (g : FuncId) (hm : C.mode g = .pure) (p : Int → Bool) (l : List Int) (hl : l.length < 1000000000) (hp : ∀ x ∈ l, Fun C g [.int .i64 x] (.bool (p x))) : Fun C 84 [.snap false (encIs l), .fn g []] (.int .i64 (idxI p l)) := by
  have hel := encIs_len l
  refine Fun.x T6 Tryz.func84 rfl ?_
  (repeat' (first | (refine Rn.go ?_; conv => whnf) | refine .mk ?_ | refine .tt ?_ | refine .ff ?_ | refine .m2 ?_ | refine .m3 ?_ | refine .mk (fun hc => ?_) (fun hc => ?_) | refine .lp (fun v H lp => ?_) | fail))
  refine LpX.zip T6 l (fun a q L K => L = [(0, .snap false (encIs l)), (1, .fn g []), (7, .int .i64 (encIs l).length), (8, .int .i64 a.length)] ∧ K = [] ∧ ∀ y ∈ a, p y = false) (.nx ⟨rfl, rfl, by simp⟩) ?_ ?_
  · rintro a x q _ K ρ e ⟨rfl, rfl, ha⟩
    have hat := at_encIs e
    have hl2 := congrArg List.length e
    simp only [List.length_append, List.length_cons] at hl2
    have hpx := hp x (by rw [e]; simp)
    (repeat' (first | (refine Rn.go ?_; conv => whnf) | refine .mk ?_ | refine .tt ?_ | refine .ff ?_ | refine .m2 ?_ | refine .m3 ?_ | refine .mk (fun hc => ?_) (fun hc => ?_) | refine .lp (fun v H lp => ?_) | fail))
    refine .p hpx ?_ hm
    cases hb : p x
    · (repeat' (first | (refine Rn.go ?_; conv => whnf) | refine .mk ?_ | refine .tt ?_ | refine .ff ?_ | refine .m2 ?_ | refine .m3 ?_ | refine .mk (fun hc => ?_) (fun hc => ?_) | refine .lp (fun v H lp => ?_) | fail))
      exact .nx ⟨rfl, rfl, fun y hy => by rcases List.mem_append.1 hy with h | h; exact ha y h; simp at h; rw [h]; exact hb⟩
    · (repeat' (first | (refine Rn.go ?_; conv => whnf) | refine .mk ?_ | refine .tt ?_ | refine .ff ?_ | refine .m2 ?_ | refine .m3 ?_ | refine .mk (fun hc => ?_) (fun hc => ?_) | refine .lp (fun v H lp => ?_) | fail))
      exact ⟨_, rfl, by rw [e, idxI_at ha hb]; rfl⟩
  · rintro _ K ρ ⟨rfl, rfl, ha⟩
    (repeat' (first | (refine Rn.go ?_; conv => whnf) | refine .mk ?_ | refine .tt ?_ | refine .ff ?_ | refine .m2 ?_ | refine .m3 ?_ | refine .mk (fun hc => ?_) (fun hc => ?_) | refine .lp (fun v H lp => ?_) | fail))
    exact ⟨_, rfl, by rw [idxI_none ha]; rfl⟩
theorem cntN_fun (g : FuncId) (hm : C.mode g = .pure) (p : Int → Bool) (l : List Int) (hl : l.length < 1000000000) (hp : ∀ x ∈ l, Fun C g [.int .i64 x] (.bool (p x))) : Fun C 48 [.snap false (encIs l), .fn g []] (.bool (l.any p)) := by
  have hi := idxN_fun g hm p l hl hp
  have ha := idxI_any p l
  refine Fun.x T6 Tryz.func48 rfl ?_
  (repeat' (first | (refine Rn.go ?_; conv => whnf) | refine .mk ?_ | refine .tt ?_ | refine .ff ?_ | refine .m2 ?_ | refine .m3 ?_ | refine .mk (fun hc => ?_) (fun hc => ?_) | refine .lp (fun v H lp => ?_) | fail))
  refine .p hi ?_
  (repeat' (first | (refine Rn.go ?_; conv => whnf) | refine .mk ?_ | refine .tt ?_ | refine .ff ?_ | refine .m2 ?_ | refine .m3 ?_ | refine .mk (fun hc => ?_) (fun hc => ?_) | refine .lp (fun v H lp => ?_) | fail))
  all_goals exact ⟨_, rfl, by rw [← ha]; simp [tupOf, *]⟩
theorem ne0_fun (n : Int) : Fun C 53 [.int .i64 n] (.bool (decide (n ≠ 0))) := by
  refine Fun.x T6 Tryz.func53 rfl ?_
  (repeat' (first | (refine Rn.go ?_; conv => whnf) | refine .mk ?_ | refine .tt ?_ | refine .ff ?_ | refine .m2 ?_ | refine .m3 ?_ | refine .mk (fun hc => ?_) (fun hc => ?_) | refine .lp (fun v H lp => ?_) | fail))
  all_goals exact ⟨_, rfl, by simp [tupOf, *]⟩
end Go.Pm
end

/-
  CHAPTER 6, PART 74: the reading of a list of ints. Conditions: none.
-/
section
set_option linter.unusedVariables false
set_option linter.unusedSimpArgs false
set_option linter.unusedVariables false
set_option linter.unusedSimpArgs false
set_option maxRecDepth 100000
set_option maxHeartbeats 2000000
namespace Go.Pm
open Go.Proofs Go.ChangeShapes Go.WideShapes
open Go.Proofs.YtejhjciockgicaaGreat in
theorem read_is {H : Type} {ec : TypeId × Value → H} {w : World} {sp : Nat → Bool} {held : Bool} {n : Nat} {cs : List Value} {x : DataW H × List MemPlace} (h : DataW.trod ec C.P w 0 sp held n 36 cs = some x) :
    ∃ (c : Value) (l : List Int), cs = [c] ∧ SRel w NoB c (.snap false (encIs l)) ∧ l.length + 1 ≤ Rows.uptoBulk x.1 := by
  obtain ⟨c, l, hc, h1, h2⟩ := read_slice (E := Int) (fun e => .int .i64 e) (fun _ => 1) (kd_sl (T6.hkd 36 _ rfl)) coInt (by decide) (fun _ => rfl) (fun n cs x hx => by
    obtain ⟨k, rfl, rfl, hw⟩ := DataW.trod_int (kd_int (T6.hkd 3 _ rfl)) hx
    exact ⟨k, rfl, fun j hj => by obtain rfl : j = 0 := by omega
                                  exact .int _ _, by simp [Rows.uptoBulk]⟩) h
  refine ⟨c, l, hc, h1, ?_⟩
  rw [ones] at h2
  exact h2
open Go.Proofs.YtejhjciockgicaaGreat in
theorem read_isv {H : Type} {ec : TypeId × Value → H} {w : World} {base : Nat} {sp : Nat → Bool} {v : Value} {d : DataW H} {p : List MemPlace} (hok : Value.okWide C.P w .any base 36 v) (h : DataW.Trod ec C.P w 0 sp true 36 v d p) :
    ∃ l : List Int, SRel w NoB v (.snap false (encIs l)) ∧ l.length + 1 ≤ Rows.uptoBulk d := by
  obtain ⟨n, hn⟩ := h
  obtain ⟨a, len, cap, rfl⟩ := okWide_slice (kd_sl (T6.hkd 36 _ rfl)) hok
  obtain ⟨c, l, hc, h1, h2⟩ := read_is hn
  obtain rfl : Value.slice a len cap = c := by simpa [Value.cells] using hc
  exact ⟨l, h1, h2⟩
end Go.Pm
end

/-
  CHAPTER 6, PART 63: a world that grew, in the words of the kit's sorts. Conditions: none.
-/
section
set_option linter.unusedVariables false
set_option linter.unusedSimpArgs false
namespace Go.Pm
open Go.Proofs
theorem Grew.grow {w w' : World} (g : Grew w w') : ∃ q os', w' = Go.Sort.grow (w.drewN q) os' := by
  refine ⟨w'.drawn - w.drawn, w'.heap.extract w.heap.size w'.heap.size, ?_⟩
  have hh : w'.heap = w.heap ++ w'.heap.extract w.heap.size w'.heap.size := by
    apply Array.ext_getElem?
    intro i
    have hs := g.size
    by_cases hi : i < w.heap.size
    · rw [g.keep i hi, Array.getElem?_append_left hi]
    · rw [Array.getElem?_append_right (by omega), Array.getElem?_extract]
      by_cases h2 : i < w'.heap.size
      · rw [if_pos (by omega)]; congr 1; omega
      · rw [if_neg (by omega), Array.getElem?_eq_none (by omega)]
  obtain ⟨hp, tp, dr, os, out⟩ := w'
  have h1 := g.os; have h2 := g.tape; have h3 := g.output; have h4 := g.drawn
  simp only at h1 h2 h3 h4 hh
  subst h1 h2 h3
  simp only [Go.Sort.grow, World.drewN]
  rw [← hh]
  congr 1
  omega
end Go.Pm
end

/-
  PM, PART 29: slices.Delete. Conditions: none.
-/
section
set_option linter.unusedVariables false
set_option linter.unusedSimpArgs false
set_option linter.unusedVariables false
set_option linter.unusedSimpArgs false
set_option maxRecDepth 100000
set_option maxHeartbeats 4000000
namespace Go.Pm
open Go.Proofs
section
variable {C : Cfg} (T : Tab C.P)
variable {ops : Array Oper} {i : Nat} {d : Nat} {ty : TypeId} {pos : String} {af : Array Edge} {r : List Oper} {ρ : Nat → PV} {L : List (Nat × PV)} {h : AHeap} {Q : St → Prop}

theorem sliceHi_m {P : Program} {t el : TypeId} {id ep len b : Nat} {o : AObj} {k : IntKind} (hu : P.underlying t = some (.slice el)) (hs : tsize P el = some o.esz) (hg : getM h id ep = some o) (hb : b ≤ len) (hle : len ≤ o.es.length) :
    sliceP P h t (.mref id ep 0 len) none (some (.int k (b : Int))) none = some (.mref id ep 0 b) := by
  have h1 : ¬ ((len : Int) < (b : Int)) := by omega
  simp [sliceP, hu, hs, hg, hle, beyond, h1, boundP, hb]
theorem sliceLo_m {P : Program} {t el : TypeId} {id ep len a : Nat} {o : AObj} {k : IntKind} (hu : P.underlying t = some (.slice el)) (hs : tsize P el = some o.esz) (hg : getM h id ep = some o) (ha : a ≤ len) (hle : len ≤ o.es.length) :
    sliceP P h t (.mref id ep 0 len) (some (.int k (a : Int))) none none = some (if a = 0 then .mref id ep 0 len else if len - a = 0 then .snap false [] else .mref id ep a (len - a)) := by
  simp [sliceP, hu, hs, hg, hle, beyond, boundP, ha]
  by_cases h0 : a = 0
  · simp [h0]
  · by_cases h1 : len - a = 0 <;> simp [h0, h1]
theorem slice3_m {P : Program} {t el : TypeId} {id ep len a b : Nat} {o : AObj} {k k' k2 : IntKind} (hu : P.underlying t = some (.slice el)) (hs : tsize P el = some o.esz) (hg : getM h id ep = some o) (ha : a ≤ b) (hb : b ≤ len) (hne : a < len) (hle : len ≤ o.es.length) :
    sliceP P h t (.mref id ep 0 len) (some (.int k (a : Int))) (some (.int k' (b : Int))) (some (.int k2 (len : Int))) = some .any := by
  have h1 : ¬ len = a := by omega
  simp [sliceP, hu, hs, hg, hle, beyond, boundP, ha, hb, h1]
theorem sliceBeyond_m {P : Program} {t el : TypeId} {id ep len a b : Nat} {o : AObj} {k k' : IntKind} (hu : P.underlying t = some (.slice el)) (hs : tsize P el = some o.esz) (hg : getM h id ep = some o) (ha : a ≤ len) (hb : len < b) (hle : b ≤ o.es.length) :
    sliceP P h t (.mref id ep 0 len) (some (.int k (a : Int))) (some (.int k' (b : Int))) none = some (if a = 0 then .mref id ep 0 b else .mref id ep a (b - a)) := by
  have h1 : (len : Int) < (b : Int) := by omega
  have h2 : ¬ (b - a = 0) := by omega
  have h3 : len ≤ o.es.length := by omega
  have h4 : a ≤ b := by omega
  simp [sliceP, hu, hs, hg, h3, beyond, h1, boundP, hle, h4, h2]
  by_cases h0 : a = 0 <;> simp [h0]
theorem sliceBeyond0_m {P : Program} {t el : TypeId} {id ep len b : Nat} {o : AObj} {k' : IntKind} (hu : P.underlying t = some (.slice el)) (hs : tsize P el = some o.esz) (hg : getM h id ep = some o) (hb : len < b) (hle : b ≤ o.es.length) :
    sliceP P h t (.mref id ep 0 len) none (some (.int k' (b : Int))) none = some (.mref id ep 0 b) := by
  have h1 : (len : Int) < (b : Int) := by omega
  have h3 : len ≤ o.es.length := by omega
  simp [sliceP, hu, hs, hg, h3, beyond, h1, boundP, hle]

theorem R.slice {t : TypeId} {x : Operand} {lo hi mx : Option Operand} {p q : PV} {plo phi pmx : Option PV} (hx : evL L x = some p) (h1 : lo.map (ev (al L ρ)) = plo) (h2 : hi.map (ev (al L ρ)) = phi) (h3 : mx.map (ev (al L ρ)) = pmx) (hs : sliceP C.P h t p plo phi pmx = some q)
    (kk : EvOps C ops r ⟨al ((d, q) :: L) ρ, h⟩ Q) : EvOps C ops (⟨some d, .slice t x lo hi mx, ty, pos, af, none⟩ :: r) ⟨al L ρ, h⟩ Q :=
  EvOps.valL (fun run => by simp only [opVal, stepOp, evL_ev hx, h1, h2, h3, hs, Option.map_some]) kk
theorem D.slice {t : TypeId} {x : Operand} {lo hi mx : Option Operand} {p q : PV} {plo phi pmx : Option PV} (hcl : closedH h = true) (hx : evL L x = some p) (hv : visR (visible h) p = true) (h1 : lo.map (ev (al L ρ)) = plo) (h2 : hi.map (ev (al L ρ)) = phi) (h3 : mx.map (ev (al L ρ)) = pmx)
    (v1 : plo.all (visR (visible h)) = true) (v2 : phi.all (visR (visible h)) = true) (v3 : pmx.all (visR (visible h)) = true) (hs : sliceP C.P h t p plo phi pmx = some q)
    (kk : EvD C ops (i + 1) r ⟨⟨al ((d, q) :: L) ρ, h⟩, h.length, []⟩ Q) : EvD C ops i (⟨some d, .slice t x lo hi mx, ty, pos, af, none⟩ :: r) ⟨⟨al L ρ, h⟩, h.length, []⟩ Q := by
  refine EvD.read rfl hcl ?_ ⟨0, fun n lv _ _ => by simp only [opVal, stepOp, evL_ev hx, h1, h2, h3, hs, Option.map_some]⟩ kk
  rw [← h1] at v1; rw [← h2] at v2; rw [← h3] at v3
  rw [List.all_eq_true]
  intro y hy
  simp only [Op.operands] at hy
  cases lo <;> cases hi <;> cases mx <;> simp at hy v1 v2 v3 <;> rcases hy with rfl | hy <;> first
    | (rw [evL_ev hx]; exact hv)
    | (simp_all; done)
    | (rcases hy with rfl | hy <;> first | assumption | (rcases hy with rfl | rfl <;> assumption) | (subst hy; assumption))
theorem appendE2 {st xt el el' : TypeId} {sz by' id ep k : Nat} {z u : PV} {ys : List PV} {o : AObj} (hk : T.kd st = some (.sl el)) (hk' : T.kd xt = some (.sl el')) (hs : T.ts el = some (sz + 1)) (hb : T.tb el = some by') (hz : T.tz el = some z) (hby : by' ≤ 1000) (hl : (cells z).length = sz + 1) (ho : (cells z).all oneC = true)
    (hu : elems h u = some ys) (hy : esOk (sz + 1) ys) (hso : ys ≠ [] → sameObj id u = true) (hg : getM h id ep = some o) (hm : o.mu = .m) (hz' : o.esz = sz + 1) (hle : k + ys.length ≤ o.es.length) :
    appendP C.P 2 h st xt (.mref id ep 0 k) u = some (.mref id ep 0 (k + ys.length), h.set id { o with es := o.es.take k ++ ys ++ o.es.drop (k + ys.length) }) := by
  unfold appendP
  rw [kd_sl (T.hkd _ _ hk)]
  simp only [T.hts _ _ hs, T.htb _ _ hb, T.htz _ _ hz, appendee, kd_sl (T.hkd _ _ hk'), hu]
  unfold esOk at hy
  rw [if_pos ⟨by omega, by omega, ⟨hl, ho⟩, hy⟩]
  simp only [hg]
  rw [if_pos ⟨by omega, hz'.symm⟩]
  cases ys with
  | nil =>
    have e1 : o.es.take k ++ [] ++ o.es.drop (k + 0) = o.es := by simp
    have e2 : h.set id { o with es := o.es.take k ++ [] ++ o.es.drop (k + 0) } = h := by
      rw [e1]
      have h1 := (getM_some hg).1
      have hlt := lt_of_some h1
      rw [List.getElem?_eq_getElem hlt] at h1
      have : (h[id] : AObj) = { o with es := o.es } := Option.some.inj h1
      rw [← this]
      exact List.set_getElem_self hlt
    simp only [List.isEmpty_nil, if_true, List.length_nil, Nat.add_zero] at e2 ⊢
    rw [e2]
  | cons y ys =>
    have hne : (y :: ys).isEmpty = false := rfl
    simp only [hne, Bool.false_eq_true, if_false]
    rw [if_pos ⟨trivial, Nat.le_refl _, hm, hso (by simp), hle⟩]
theorem D.appendE2 {st xt el el' : TypeId} {sz by' id ep k L0 : Nat} {own : List Nat} {z u : PV} {ys : List PV} {o : AObj} {x y : Operand} (hl2 : level ops (before ops) i = 2) (hx : evL L x = some (.mref id ep 0 k)) (hyy : evL L y = some u) (hk : T.kd st = some (.sl el)) (hk' : T.kd xt = some (.sl el')) (hs : T.ts el = some (sz + 1)) (hb : T.tb el = some by') (hz : T.tz el = some z) (hby : by' ≤ 1000) (hl : (cells z).length = sz + 1) (ho : (cells z).all oneC = true)
    (hu : elems h u = some ys) (hy : esOk (sz + 1) ys) (hso : ys ≠ [] → sameObj id u = true) (hg : getM h id ep = some o) (hm : o.mu = .m) (hz' : o.esz = sz + 1) (hle : k + ys.length ≤ o.es.length)
    (kk : EvD C ops (i + 1) r ⟨⟨al ((d, .mref id ep 0 (k + ys.length)) :: L) ρ, h.set id { o with es := o.es.take k ++ ys ++ o.es.drop (k + ys.length) }⟩, (h.set id { o with es := o.es.take k ++ ys ++ o.es.drop (k + ys.length) }).length, []⟩ Q) :
    EvD C ops i (⟨some d, .call ⟨.builtin .append, #[x, y], #[st, xt]⟩, ty, pos, af, none⟩ :: r) ⟨⟨al L ρ, h⟩, L0, own⟩ Q := by
  refine EvD.two rfl hl2 ⟨0, fun n _ => ?_⟩ kk
  have hap := Pm.appendE2 T hk hk' hs hb hz hby hl ho hu hy hso hg hm hz' hle
  simp only [opVal, builtinP, List.map_cons, List.map_nil, evL_ev hx, evL_ev hyy, hap]
theorem R.clearM {t el : TypeId} {id ep off len : Nat} {z : PV} {o : AObj} {x : Operand} (hx : evL L x = some (.mref id ep off len)) (hk : T.kd t = some (.sl el)) (hs : T.ts el = some o.esz) (hz : T.tz el = some z) (hl : (cells z).length = o.esz) (ho : (cells z).all oneC = true) (hg : getM h id ep = some o) (hm : o.mu = .m) (hle : off + len ≤ o.es.length)
    (kk : EvOps C ops r ⟨al L ρ, h.set id { o with es := o.es.take off ++ List.replicate len z ++ o.es.drop (off + len) }⟩ Q) : EvOps C ops (⟨none, .call ⟨.builtin .clear, #[x], #[t]⟩, ty, pos, af, none⟩ :: r) ⟨al L ρ, h⟩ Q := by
  refine EvOps.val (v := .tup []) (h' := h.set id { o with es := o.es.take off ++ List.replicate len z ++ o.es.drop (off + len) }) rfl (fun run => ?_) kk
  simp only [opVal, builtinP, List.map_cons, List.map_nil, evL_ev hx, clearP, kd_sl (T.hkd _ _ hk), T.hts _ _ hs, T.htz _ _ hz, hg]
  rw [if_pos ⟨Nat.le_refl _, hm, trivial, hle, hl, ho⟩]
end
attribute [local irreducible] thenQ blockQ loopQ bodyQ Ev EvOps CallEv FnEv EvD
namespace Zero
theorem del_ev (N : Nat) {h : AHeap} {id ep len k : Nat} {o : AObj} (hg : getM h id ep = some o) (hm : o.mu = .m) (hz : o.esz = 5) (hle : len ≤ o.es.length) (hk : k < len) (hn : len < 100000000) (hok : (o.es.take len).all (okV 5) = true) (hcl : closedH h = true) :
    ∃ es3 : List PV, es3.length = o.es.length ∧ es3.take (len - 1) = (o.es.take len).take k ++ (o.es.take len).drop (k + 1) ∧
      FnEv C0 92 [.mref id ep 0 len, .int .i64 (k : Int), .int .i64 ((k : Int) + 1)] h (fun r h' => r = .mref id ep 0 (len - 1) ∧ h' = h.set id { o with es := es3 }) := by
  have hgs := (getM_some hg).1
  have hlt := lt_of_some hgs
  have hvis : visible h id = true := by
    unfold visible; rw [hgs]; simp [hm]
  obtain ⟨ys, hys⟩ : ∃ ys, ys = (o.es.drop (k + 1)).take (len - (k + 1)) := ⟨_, rfl⟩
  have hyl : ys.length = len - (k + 1) := by rw [hys]; simp; omega
  have hyok : esOk 5 ys := by
    unfold esOk
    rw [List.all_eq_true] at hok ⊢
    intro v hv
    rw [hys] at hv
    have hmem : v ∈ o.es.take len := by
      have : (o.es.drop (k + 1)).take (len - (k + 1)) = (o.es.take len).drop (k + 1) := by rw [List.drop_take]
      rw [this] at hv
      exact List.mem_of_mem_drop hv
    have := hok v hmem
    unfold okV at this
    simp only [Bool.and_eq_true] at this ⊢
    exact ⟨this.1.2, this.2⟩
  obtain ⟨es2, hes2⟩ : ∃ es2, es2 = o.es.take k ++ ys ++ o.es.drop (k + ys.length) := ⟨_, rfl⟩
  have hl2 : es2.length = o.es.length := by rw [hes2]; simp; omega
  refine ⟨es2.take (len - 1) ++ List.replicate 1 (.agg [.int .i64 0, .str ByteArray.empty, .int .i64 0, .snap true [], .int .i64 0]) ++ es2.drop (len - 1 + 1), by simp; omega, ?_, ?_⟩
  · have e1 : (es2.take (len - 1) ++ List.replicate 1 (.agg [.int .i64 0, .str ByteArray.empty, .int .i64 0, .snap true [], .int .i64 0] : PV) ++ es2.drop (len - 1 + 1)).take (len - 1) = es2.take (len - 1) := by
      rw [List.append_assoc, List.take_append_of_le_length (by simp; omega), List.take_take]; congr 1; omega
    rw [e1, hes2]
    have e2 : (o.es.take k ++ ys).length = len - 1 := by simp; omega
    rw [List.take_append_of_le_length (by omega), List.take_of_length_le (by omega), List.take_take, hys]
    congr 1
    · congr 1; omega
    · rw [List.drop_take]
  · refine FnEv.bodyL Tryz.func92 rfl ?_
    have hu : C0.P.underlying 26 = some (.slice 66) := kd_sl (T6.hkd 26 _ rfl)
    have hsz : tsize C0.P 66 = some o.esz := by rw [hz]; exact T6.hts 66 5 rfl
    have hsT : T6.ts 66 = some o.esz := by rw [hz]; rfl
    have hj : ((k : Int) + 1) = ((k + 1 : Nat) : Int) := by omega
    (repeat' (first | refine EvOps.nil ?_ | (apply R.move; exact rfl) | (apply R.assign; exact rfl) | refine Ev.seq ?_ | refine Ev.region ?_ | refine thenQ.normal ?_ | fail))
    apply R.lenM T6 (o := o); exact rfl; exact rfl; exact hg; exact (by omega)
    skip
    apply R.slice
    · exact rfl
    · exact rfl
    · exact rfl
    · exact rfl
    · show sliceP C0.P h 26 (.mref id ep 0 len) (some (.int .i64 (k : Int))) (some (.int .i64 ((k : Int) + 1))) (some (.int .i64 (len : Int))) = some .any
      rw [hj]
      exact slice3_m hu hsz hg (by omega) (by omega) (by omega) hle
    (repeat' (first | refine EvOps.nil ?_ | (apply R.move; exact rfl) | (apply R.cmp; exact rfl; exact rfl; exact rfl; all_goals intro hc; all_goals (try (exfalso; omega))) | refine Ev.seq ?_ | refine Ev.region ?_ | (apply Ev.condB; exact rfl) | refine Ev.skip ?_ | refine thenQ.normal ?_ | fail))
    apply R.lenM T6 (o := o); exact rfl; exact rfl; exact hg; exact (by omega)
    (repeat' (first | refine EvOps.nil ?_ | (apply R.assign; exact rfl) | refine Ev.seq ?_ | refine Ev.regionD ?_ | (apply D.move; exact rfl) | refine thenQ.normal ?_ | fail))
    apply D.slice
    · exact hcl
    · exact rfl
    · exact hvis
    · exact rfl
    · exact rfl
    · exact rfl
    · exact rfl
    · exact rfl
    · exact rfl
    · exact sliceHi_m (b := k) (k := .i64) hu hsz hg (by omega) hle
    (repeat' (first | (apply D.move; exact rfl) | fail))
    apply D.slice
    · exact hcl
    · exact rfl
    · exact hvis
    · exact rfl
    · exact rfl
    · exact rfl
    · exact rfl
    · exact rfl
    · exact rfl
    · show sliceP C0.P h 26 (.mref id ep 0 len) (some (.int .i64 ((k : Int) + 1))) none none = _
      rw [hj]
      exact sliceLo_m hu hsz hg (by omega) hle
    rw [if_neg (by omega)]
    apply D.appendE2 T6 (ys := ys) (o := o) (sz := 4)
    · exact rfl
    · exact rfl
    · exact rfl
    · exact rfl
    · exact rfl
    · exact rfl
    · exact rfl
    · exact rfl
    · exact (by decide)
    · exact rfl
    · exact rfl
    · split
      · have : ys = [] := List.eq_nil_of_length_eq_zero (by omega)
        rw [this]; rfl
      · simp only [elems, hg]
        rw [if_pos (by omega), hys]
    · exact hyok
    · intro hne
      rw [if_neg (fun hh => hne (List.eq_nil_of_length_eq_zero (by omega)))]
      simp [sameObj]
    · exact hg
    · exact hm
    · exact hz
    · omega
    have hkl : k + ys.length = len - 1 := by omega
    have hh2 : h.set id { o with es := o.es.take k ++ ys ++ o.es.drop (k + ys.length) } = h.set id { o with es := es2 } := by rw [hes2]
    have hep := (getM_some hg).2.1
    have hg2 : getM (h.set id { o with es := es2 }) id ep = some { o with es := es2 } := getM_at (List.getElem?_set_self hlt) hep (by show o.mu ≠ .x; rw [hm]; simp)
    refine EvD.heap hh2 ?_
    rw [hkl]
    clear hh2
    (repeat' (first | (apply R.move; exact rfl) | refine Ev.seq ?_ | refine Ev.region ?_ | refine EvD.nil ?_ | (apply D.assign; exact rfl) | refine thenQ.normal ?_ | fail))
    apply R.lenM T6 (o := { o with es := es2 }); exact rfl; exact rfl; exact hg2; exact (by show 0 + (len - 1) ≤ es2.length; omega)
    (repeat' (first | (apply R.move; exact rfl) | fail))
    apply R.slice
    · exact rfl
    · exact rfl
    · exact rfl
    · exact rfl
    · exact sliceBeyond_m (o := { o with es := es2 }) (len := len - 1) (a := len - 1) (b := len) (k := .i64) (k' := .i64) hu hsz hg2 (Nat.le_refl _) (by omega) (by show len ≤ es2.length; omega)
    by_cases h1 : len - 1 = 0
    · rw [if_pos h1]
      have hlen1 : len = 1 := by omega
      subst hlen1
      apply R.clearM T6 (o := { o with es := es2 }) (z := .agg [.int .i64 0, .str ByteArray.empty, .int .i64 0, .snap true [], .int .i64 0])
      · exact rfl
      · exact rfl
      · exact hsT
      · exact rfl
      · show 5 = o.esz; omega
      · rfl
      · exact hg2
      · exact hm
      · show 0 + 1 ≤ es2.length; omega
      (repeat' (first | refine EvOps.nil ?_ | (apply R.move; exact rfl) | (apply R.assign; exact rfl) | refine Ev.seq ?_ | refine Ev.region ?_ | refine Ev.ret ?_ | refine thenQ.normal ?_ | (apply bodyQ.ret; exact rfl) | fail))
      exact ⟨rfl, by rw [List.set_set]⟩
    · rw [if_neg h1]
      have h2 : len - (len - 1) = 1 := by omega
      rw [h2]
      apply R.clearM T6 (o := { o with es := es2 }) (z := .agg [.int .i64 0, .str ByteArray.empty, .int .i64 0, .snap true [], .int .i64 0])
      · exact rfl
      · exact rfl
      · exact hsT
      · exact rfl
      · show 5 = o.esz; omega
      · rfl
      · exact hg2
      · exact hm
      · show len - 1 + 1 ≤ es2.length; omega
      (repeat' (first | refine EvOps.nil ?_ | (apply R.move; exact rfl) | (apply R.assign; exact rfl) | refine Ev.seq ?_ | refine Ev.region ?_ | refine Ev.ret ?_ | refine thenQ.normal ?_ | (apply bodyQ.ret; exact rfl) | fail))
      exact ⟨rfl, by rw [List.set_set]⟩

theorem delete_sim : SimRun C0.P 92 deletePrim := by
  intro args h r h' e w F β vs H ha
  unfold deletePrim at e
  split at e
  · rename_i id ep len i j
    split at e
    · rename_i o hg
      split at e
      · rename_i hc
        obtain ⟨hm, hz, hle, hi0, rfl, hi, hn, hok, hcl⟩ := hc
        obtain ⟨rfl, rfl⟩ := Prod.mk.inj (Option.some.inj e)
        obtain ⟨k, rfl⟩ := Int.eq_ofNat_of_zero_le hi0
        have hk : k < len := by omega
        obtain ⟨es3, l3, t3, f3⟩ := del_ev 0 hg hm hz hle hk hn hok hcl
        unfold FnEv at f3
        obtain ⟨r3, h3, ⟨rfl, rfl⟩, n0, hn0⟩ := f3
        obtain ⟨g1, g2, g3⟩ := getM_some hg
        have hlt := lt_of_some g1
        refine (S0 n0 _ (.inr (if_pos (.inl rfl))) _ h _ _ (hn0 n0 (Nat.le_refl _)) w F β vs H ha).mono ?_
        rintro en w' ⟨v, β1, rfl, q1, q2, q3, _⟩
        have eo : (h.set id { o with es := es3 })[id]? = some { o with es := es3 } := List.getElem?_set_self hlt
        obtain ⟨bc, hb⟩ := beta_at q2.len eo
        obtain ⟨_, _, _, k2, _⟩ := q2.obj id _ bc eo hb (by show o.mu ≠ .x; rw [hm]; simp)
        have hes' : ((o.es.take len).take k ++ (o.es.take len).drop (k + 1)).length = len - 1 := by simp; omega
        have rs := q2.reshape eo hb hm ((o.es.take len).take k ++ (o.es.take len).drop (k + 1)) (ep + 1) (by show o.ep < ep + 1; omega) (by rw [hes']; simp only at k2; omega) (fun i e he => by
          left
          show es3[i]? = some e
          rw [← t3] at he
          rw [List.getElem?_take] at he
          split at he
          · exact he
          · cases he)
        have hset : (h.set id { o with es := es3 }).set id { ({ o with es := es3 } : AObj) with es := (o.es.take len).take k ++ (o.es.take len).drop (k + 1), ep := ep + 1 } = h.set id { o with ep := ep + 1, es := (o.es.take len).take (Int.toNat (k : Int)) ++ (o.es.take len).drop (Int.toNat (k : Int) + 1) } := by
          rw [List.set_set]; rfl
        have vr := VRel.reshape (A := Av F (h.set id { o with ep := ep + 1, es := (o.es.take len).take (Int.toNat (k : Int)) ++ (o.es.take len).drop (Int.toNat (k : Int) + 1) }) β1) eo hb hm q1 g2 (by show len - 1 ≤ es3.length; omega) ((o.es.take len).take k ++ (o.es.take len).drop (k + 1)) (ep + 1)
        rw [hset] at rs vr
        exact ⟨v, β1, rfl, vr, rs.1, q3.trans rs.2, fun hh => by omega⟩
      · cases e
    · cases e
  · cases e
end Zero
end Go.Pm
end

/-
  PM, PART 30: slices.Insert: at the end, and into nothing. Conditions: none.
-/
section
set_option linter.unusedVariables false
set_option linter.unusedSimpArgs false
set_option linter.unusedVariables false
set_option linter.unusedSimpArgs false
set_option maxRecDepth 100000
set_option maxHeartbeats 4000000
namespace Go.Pm
open Go.Proofs
variable {w : World} {F : Nat → Prop} {β : List (Nat × Nat)} {h : AHeap}
theorem R.appendMm {C : Cfg} (T : Tab C.P) {ops : Array Oper} {d : Nat} {ty : TypeId} {pos : String} {af : Array Edge} {r : List Oper} {ρ : Nat → PV} {L : List (Nat × PV)} {Q : St → Prop} {st xt el el' : TypeId} {sz by' id ep len : Nat} {z : PV} {full : Bool} {ys : List PV} {o : AObj} {x y : Operand} (hx : evL L x = some (.mref id ep 0 len)) (hyy : evL L y = some (.snap full ys)) (hk : T.kd st = some (.sl el)) (hk' : T.kd xt = some (.sl el')) (hs : T.ts el = some (sz + 1)) (hb : T.tb el = some by') (hz : T.tz el = some z) (hby : by' ≤ 1000) (hl : (cells z).length = sz + 1) (ho : (cells z).all oneC = true)
    (hy : esOk (sz + 1) ys) (hne : ys.isEmpty = false) (hn : len + ys.length < 1000000000) (hg : getM h id ep = some o) (hm : o.mu = .m) (hz' : o.esz = sz + 1) (hle : len ≤ o.es.length)
    (kk : EvOps C ops r ⟨al ((d, .mref id (ep + 1) 0 (len + ys.length)) :: L) ρ, h.set id { o with ep := ep + 1, es := o.es.take len ++ ys }⟩ Q) :
    EvOps C ops (⟨some d, .call ⟨.builtin .append, #[x, y], #[st, xt]⟩, ty, pos, af, none⟩ :: r) ⟨al L ρ, h⟩ Q := by
  refine EvOps.valL (fun run => ?_) kk
  have hap := appendP_m T (full := full) hk hk' hs hb hz hby hl ho hy hne hn hg hm hz' hle
  simp only [opVal, builtinP, List.map_cons, List.map_nil, evL_ev hx, evL_ev hyy, hap]
theorem sliceLo_s {P : Program} {t el : TypeId} {fl : Bool} {sz : Nat} {k : IntKind} (hu : P.underlying t = some (.slice el)) (hs : tsize P el = some sz) : sliceP P h t (.snap fl []) (some (.int k 0)) none none = some (.snap fl []) := by
  simp [sliceP, hu, hs, boundP]
attribute [local irreducible] thenQ blockQ loopQ bodyQ Ev EvOps CallEv FnEv EvD
theorem okV_esOk {sz : Nat} {e : PV} (h : okV sz e = true) : esOk sz [e] := by
  unfold okV at h
  simp only [Bool.and_eq_true] at h
  unfold esOk
  simp only [List.all_cons, List.all_nil, Bool.and_true, Bool.and_eq_true]
  exact ⟨h.1.2, h.2⟩
namespace Zero
theorem insNil_ev {h : AHeap} {fl : Bool} {e : PV} (he : okV 5 e = true) : FnEv C0 91 [.snap true [], .int .i64 0, .snap fl [e]] h (fun r h' => r = .mref h.length 0 0 1 ∧ h' = h ++ [⟨.m, 0, 5, [e]⟩]) := by
  refine FnEv.bodyL Tryz.func91 rfl ?_
  have hu : C0.P.underlying 26 = some (.slice 66) := kd_sl (T6.hkd 26 _ rfl)
  have hl1 : ([e] : List PV).length = 1 := rfl
  (repeat' (first | refine EvOps.nil ?_ | (apply R.move; exact rfl) | (apply R.assign; exact rfl) | refine Ev.seq ?_ | refine Ev.region ?_ | refine thenQ.normal ?_ | fail))
  apply R.slice
  · exact rfl
  · exact rfl
  · exact rfl
  · exact rfl
  · exact sliceLo_s hu (T6.hts 66 5 rfl)
  (repeat' (first | refine EvOps.nil ?_ | (apply R.move; exact rfl) | (apply R.assign; exact rfl) | (apply R.cmp; exact rfl; exact rfl; exact rfl; all_goals intro hc; all_goals (try (exfalso; omega))) | (apply R.lenS T6; exact rfl; exact rfl) | refine Ev.seq ?_ | refine Ev.region ?_ | (apply Ev.condB; exact rfl) | refine Ev.skip ?_ | refine thenQ.normal ?_ | fail))
  all_goals try (exfalso; revert hc; decide)
  all_goals (
    apply R.appendS1 T6; exact rfl; exact rfl; exact rfl; exact rfl; exact rfl; exact rfl; exact rfl; exact (by decide); exact rfl; exact rfl; exact okV_esOk he; exact (by simp); exact (by show 1 < _; decide)
    (repeat' (first | refine EvOps.nil ?_ | (apply R.assign; exact rfl) | refine Ev.ret ?_ | refine thenQ.normal ?_ | refine thenQ.ret ?_ | (apply bodyQ.ret; exact rfl) | fail))
    exact ⟨rfl, rfl⟩)
theorem insEnd_ev {h : AHeap} {fl : Bool} {e : PV} {id ep len : Nat} {o : AObj} (he : okV 5 e = true) (hg : getM h id ep = some o) (hm : o.mu = .m) (hz : o.esz = 5) (hle : len ≤ o.es.length) (hn : len < 100000000) :
    FnEv C0 91 [.mref id ep 0 len, .int .i64 (len : Int), .snap fl [e]] h (fun r h' => r = .mref id (ep + 1) 0 (len + 1) ∧ h' = h.set id { o with ep := ep + 1, es := o.es.take len ++ [e] }) := by
  refine FnEv.bodyL Tryz.func91 rfl ?_
  have hu : C0.P.underlying 26 = some (.slice 66) := kd_sl (T6.hkd 26 _ rfl)
  have hl1 : ([e] : List PV).length = 1 := rfl
  have hsz : tsize C0.P 66 = some o.esz := by rw [hz]; exact T6.hts 66 5 rfl
  (repeat' (first | refine EvOps.nil ?_ | (apply R.move; exact rfl) | (apply R.assign; exact rfl) | refine Ev.seq ?_ | refine Ev.region ?_ | refine thenQ.normal ?_ | fail))
  apply R.slice
  · exact rfl
  · exact rfl
  · exact rfl
  · exact rfl
  · exact sliceLo_m hu hsz hg (Nat.le_refl _) hle
  (repeat' (first | refine EvOps.nil ?_ | (apply R.move; exact rfl) | (apply R.assign; exact rfl) | (apply R.cmp; exact rfl; exact rfl; exact rfl; all_goals intro hc; all_goals (try (exfalso; omega))) | (apply R.lenS T6; exact rfl; exact rfl) | refine Ev.seq ?_ | refine Ev.region ?_ | (apply Ev.condB; exact rfl) | refine Ev.skip ?_ | refine thenQ.normal ?_ | fail))
  all_goals try (exfalso; revert hc; decide)
  all_goals (
    apply R.lenM T6 (o := o); exact rfl; exact rfl; exact hg; exact (by omega)
    (repeat' (first | refine EvOps.nil ?_ | (apply R.move; exact rfl) | (apply R.assign; exact rfl) | (apply R.cmp; exact rfl; exact rfl; exact rfl; all_goals intro hc; all_goals (try (exfalso; omega))) | refine Ev.seq ?_ | refine Ev.region ?_ | (apply Ev.condB; exact rfl) | refine thenQ.normal ?_ | fail))
    apply R.appendMm T6 (o := o); exact rfl; exact rfl; exact rfl; exact rfl; exact rfl; exact rfl; exact rfl; exact (by decide); exact rfl; exact rfl; exact okV_esOk he; exact rfl; exact (by show len + 1 < _; omega); exact hg; exact hm; exact hz; exact hle
    (repeat' (first | refine EvOps.nil ?_ | (apply R.assign; exact rfl) | refine Ev.ret ?_ | refine thenQ.normal ?_ | refine thenQ.ret ?_ | (apply bodyQ.ret; exact rfl) | fail))
    exact ⟨rfl, rfl⟩)
end Zero
end Go.Pm
end

/-
  PM, PART 31: slices.Insert in the middle: the capacity read, two slices that do not overlap, an append that must move. Conditions: none.
-/
section
set_option linter.unusedVariables false
set_option linter.unusedSimpArgs false
set_option linter.unusedVariables false
set_option linter.unusedSimpArgs false
set_option maxRecDepth 100000
set_option maxHeartbeats 4000000
namespace Go.Pm
open Go.Proofs
variable {w : World} {F : Nat → Prop} {β : List (Nat × Nat)} {h : AHeap}

theorem mref_at (H : HRel w F β h) {v : Value} {id ep off len : Nat} {o : AObj} (hv : VRel w (Av F h β) β h v (.mref id ep off len)) (hg : getM h id ep = some o) (hle : off + len ≤ o.es.length) :
    ∃ bc : Nat × Nat, β[id]? = some bc ∧ ∃ cap, v = .slice (some ⟨bc.1, off * o.esz, none⟩) len cap ∧ off + cap = bc.2 := by
  obtain ⟨e1, e2, e3⟩ := getM_some hg
  obtain ⟨bc, hb⟩ := beta_at H.len e1
  obtain ⟨_, _, m3⟩ := hv.mref_inv
  exact ⟨bc, hb, m3 o bc e1 hb e3 e2 hle⟩

theorem cap_osim {P : Program} {a : Act} {ρ : Nat → PV} (H : HRel w F β h) (R : ERel w (Av F h β) β h a ρ) {t el : TypeId} {x : Operand} {id ep len : Nat} {o : AObj} {bc : Nat × Nat} (hu : P.underlying t = some (.slice el)) (hx : ev ρ x = .mref id ep 0 len) (hg : getM h id ep = some o) (hb : β[id]? = some bc) (hle : len ≤ o.es.length) :
    ∀ oo : Oper, oo.op = .call ⟨.builtin .cap, #[x], #[t]⟩ → OSim P 2 w F β h (execOp a.eval oo) (.int .i64 (bc.2 : Int)) h := by
  intro oo ho
  have hv := R.ev x
  rw [hx] at hv
  obtain ⟨bc', hb', cap, e1, e2⟩ := mref_at H hv hg (by omega)
  obtain rfl := Option.some.inj (hb.symm.trans hb')
  have hc : cap = bc.2 := by omega
  subst hc
  obtain ⟨d, op, ty, pos, af, g⟩ := oo
  simp only at ho
  subst ho
  refine ⟨.int .i64 (bc.2 : Int), w, β, .inl ?_, .val (.int _ _), H, Stp.refl w h β, fun _ => Grew.refl w⟩
  have h1 : (Builtin.cap_ #[t] ty #[a.eval x]).run P w = .ok (.int .i64 (bc.2 : Int)) w := by
    simp [Builtin.cap_, e1, und_run hu, goInt]
  simp only [execOp, resolve, Sem.run_bind, Sem.run_pure, Result.andThen_ok, invoke, builtin]
  simp [h1]

theorem run_overlaps_apart2 {P : Program} (w : World) (tS tR e : TypeId) (ht : P.underlying tS = some (.slice e)) (size : Nat) (hz : ∀ w, (Go.sizeOf e).run P w = .ok size w)
    (a b : Addr) (la ca lb cb : Nat) (hne : a.block ≠ b.block) (tA tB : TypeId) (kA kB : Nat)
    (hsa : w.shape? a.block = some (tA, kA)) (hsb : w.shape? b.block = some (tB, kB)) (hkA : kA ≠ 0)
    (hfa : w.frozen? b = false) (hfe : w.frozen? { block := b.block, off := kB } = false) :
    (Extern.SlicesOverlaps.overlaps #[tS, tS] #[tR] #[.slice (some a) la ca, .slice (some b) lb cb]).run P w = .ok (.bool false) w := by
  have hnb : (a.block != b.block) = true := by simpa using hne
  have hnb' : (a.block == b.block) = false := by simpa using hne
  conv => lhs; arg 2; whnf
  have he : (#[tS, tS] : Array TypeId)[0] = tS := rfl
  have hbp : ∀ {α β : Type} (x : α) (f : α → Sem β), (pure x : Sem α).bind f = f x := fun _ _ => rfl
  by_cases h0 : la = 0 ∨ lb = 0 ∨ size = 0
  · simp [Sem.run, Sem.bind, hbp, he, ht, hz, h0]
  · cases kA with
    | zero => exact absurd rfl hkA
    | succ kA =>
      cases h3 : w.frozen? a <;> cases h4 : w.frozen? { block := a.block, off := kA + 1 } <;>
        simp [Sem.run, Sem.bind, hbp, he, ht, hz, h0, hnb, hnb', frozen, noView, viewAt, mayBeOne, stringish, shape, hsa, hsb, hfa, hfe, h3, h4]

theorem overlaps_osim {P : Program} {a : Act} {ρ : Nat → PV} (H : HRel w F β h) (R : ERel w (Av F h β) β h a ρ) {t el tR : TypeId} {sz : Nat} {x y : Operand} {f : FuncId} {fn : Func} {fl : Bool} {e1 : PV} {id ep off n : Nat} {o : AObj}
    (hu : P.underlying t = some (.slice el)) (hs : tsize P el = some sz) (hx : ev ρ x = .snap fl [e1]) (hy : ev ρ y = .mref id ep off n) (hg : getM h id ep = some o) (hm : o.mu = .m) (hle : off + n ≤ o.es.length)
    (hf : P.funcs[f]? = some fn) (hname : (fn.name == "runtime.NumGoroutine") = false) (hbd : fn.body.isNone = true) (hn : Extern.findNext fn = none) (he : Extern.find fn = some (Extern.SlicesOverlaps.overlaps #[t, t] #[tR])) {ats : Array TypeId} :
    ∀ oo : Oper, oo.op = .call ⟨.value (.func f), #[x, y], ats⟩ → OSim P 2 w F β h (execOp a.eval oo) (.bool false) h := by
  intro oo ho
  have hvx := R.ev x
  rw [hx] at hvx
  have hvy := R.ev y
  rw [hy] at hvy
  obtain ⟨bc, hb, cap, ey, e2⟩ := mref_at H hvy hg hle
  obtain ⟨g1, g2, g3⟩ := getM_some hg
  obtain ⟨T, cs, k1, k2, k3, k4, k5⟩ := H.obj id o bc g1 hb g3
  rcases hvx.snap_inv.snap_open with h0 | ⟨b, off', cap', sz', cvs, ex, hnA, hsz, hl1, hc1, hc2⟩
  · cases h0
  have hbb : b ≠ bc.1 := fun hh => hnA (.inr ⟨id, o, bc, g1, hb, hm, hh.symm⟩)
  have hcell := hc1 0 0 (by simp) hsz
  obtain ⟨tA, kA, hsa, hkA⟩ : ∃ tA kA, w.shape? b = some (tA, kA) ∧ kA ≠ 0 := by
    simp only [World.cell?] at hcell
    split at hcell
    · rename_i c el0 fr hh
      split at hcell
      · cases hcell
      · refine ⟨el0, c.size, by simp [World.shape?, hh], ?_⟩
        intro h0
        have := (Array.getElem?_eq_some_iff.1 hcell).1
        omega
    · cases hcell
  have hsb : w.shape? bc.1 = some (T, cs.size) := by simp [World.shape?, k1]
  have hfb : ∀ of, w.frozen? ⟨bc.1, of, none⟩ = false := fun of => by simp [World.frozen?, k1]
  have hov := run_overlaps_apart2 (P := P) w t tR el hu sz (fun w => tsize_run hs w) ⟨b, off', none⟩ ⟨bc.1, off * o.esz, none⟩ 1 cap' n cap hbb tA T kA cs.size hsa hsb hkA (hfb _) (hfb _)
  obtain ⟨d, op, ty, pos, af, g⟩ := oo
  simp only at ho
  subst ho
  refine ⟨.bool false, w, β, .inl ?_, .val (.bool _), H, Stp.refl w h β, fun _ => Grew.refl w⟩
  have hc := run_callFunc_extern hf hname hbd hn he #[a.eval x, a.eval y] w
  rw [ex, ey] at hc
  rw [show ([e1] : List PV).length = 1 from rfl] at hc
  rw [hov] at hc
  have hfv : a.eval (.func f) = .func (.func f) #[] #[] := rfl
  simp only [execOp, resolve, hfv, Deferred.ofValue, Sem.run_bind, Sem.run_pure, Result.andThen_ok, invoke]
  simp only [Array.append_empty, List.map_toArray, List.map_cons, List.map_nil, ex, ey]
  exact hc

theorem append_osim {P : Program} {a : Act} {ρ : Nat → PV} (H : HRel w F β h) (R : ERel w (Av F h β) β h a ρ) {st xt el : TypeId} {k : IntKind} {sz by' n : Nat} {z : PV} {x y : Operand} {id ep len : Nat} {o : AObj} {bc : Nat × Nat}
    (hu : P.underlying st = some (.slice el)) (hu2 : P.underlying xt = some (.int k)) (hs : tsize P el = some sz) (hpos : 0 < sz) (hb : tbytes P el = some by') (hby : by' ≤ 1000) (hz : tzero P el = some z) (hl : (cells z).length = sz) (hone : (cells z).all oneC = true)
    (hx : ev ρ x = .mref id ep 0 len) (hy : ev ρ y = .int k (n : Int)) (hg : getM h id ep = some o) (hbc : β[id]? = some bc) (hle : len ≤ o.es.length) (hsz : o.esz = sz) (hroom : bc.2 < len + n) (hn : len + n < 1000000000) :
    ∀ oo : Oper, oo.op = .call ⟨.builtin .append, #[x, y], #[st, xt]⟩ → OSim P 2 w F β h (execOp a.eval oo) (.mref h.length 0 0 (len + n)) (h ++ [⟨.m, 0, sz, o.es.take len ++ List.replicate n z⟩]) := by
  intro oo ho
  obtain ⟨d, op, ty, pos, af, g⟩ := oo
  simp only at ho
  subst ho
  have hvx := R.ev x
  rw [hx] at hvx
  have hvy := R.ev y
  rw [hy] at hvy
  obtain ⟨bc', hb', cap, ex, e2⟩ := mref_at H hvx hg (by omega)
  obtain rfl := Option.some.inj (hbc.symm.trans hb')
  have hcap : cap = bc.2 := by omega
  subst hcap
  obtain ⟨g1, g2, g3⟩ := getM_some hg
  obtain ⟨T, cs0, k1, k2, k3, k4, k5⟩ := H.obj id o bc g1 hbc g3
  have main : Sim P 2 w F β h (Builtin.append_ #[st, xt] ty #[a.eval x, a.eval y]) (.mref h.length 0 0 (len + n)) (h ++ [⟨.m, 0, sz, o.es.take len ++ List.replicate n z⟩]) := by
    have hyl : (List.replicate n z).length = n := List.length_replicate
    have hall : (List.replicate n z).all (fun v => decide ((Pm.cells v).length = sz) && (Pm.cells v).all oneC) = true := by
      rw [List.all_eq_true]
      intro v hv
      obtain rfl := List.eq_of_mem_replicate hv
      rw [hl, hone]; simp
    have happ : appendee P h z xt (.int k (n : Int)) = some (List.replicate n z) := by
      simp only [appendee, hu2]
      rw [if_pos (by omega)]
      simp
    obtain ⟨vz, z1, z2⟩ := tzero_run2 (P := P) hz
    obtain ⟨zb, d', a1, a2, news, a3, a4, a5, a6⟩ := appendee_run (st := st) (vz := vz) H hs hb hz hpos (by omega) hvy happ hall
    rw [hyl] at a5 a6
    have zsz : vz.cells.size = sz := by rw [((z2 w (Av F h β) β h).cells hone).1]; exact hl
    have hes : elems h (.mref id ep 0 len) = some ((o.es.drop 0).take len) := by simp only [elems, hg]; rw [if_pos (by omega)]
    have htl : ((o.es.drop 0).take len).length = len := by simp; omega
    obtain ⟨a', cap', ev', _, cs, f1, f2⟩ := elems_flat (P := P) (sz := sz) H hvx hes (fun y hy => by
      obtain ⟨k, hk⟩ := List.getElem?_of_mem hy
      rw [List.getElem?_take] at hk
      split at hk
      · simp at hk; rw [← hsz]; exact (k5 k y hk).1
      · cases hk)
    simp only [List.drop_zero] at f1 htl f2
    have hbig2 : len + n ≤ 17592186044416 := by omega
    have hbig : (len + n) * by' ≤ 17592186044416 := by
      have : (len + n) * by' ≤ 1000000000 * 1000 := Nat.mul_le_mul (by omega) hby
      omega
    obtain ⟨c, c1, hrun⟩ := append_grow (P := P) (w := w) (ty := ty) (ts := #[st, xt]) (args := #[a.eval x, a.eval y]) (olds := cs) (sLen := len) (sCap := bc.2) (base := some ⟨bc.1, 0 * o.esz, none⟩) rfl rfl (by rw [ex]; rfl) rfl hu hs a1 a2 hb (by omega) z1 a5 a6 (fun w' hw' => by
      have := f2 w' hw' len (by omega)
      rw [List.take_of_length_le (by rw [f1.1, htl]; exact Nat.le_refl _)] at this
      rw [← ex]
      exact this) (by omega) hbig hbig2
    have hfl := f1.append a3
    have arr : cs.toArray ++ news.toArray ++ Builtin.zeroCells vz.cells (c - (len + n)) = (cs ++ news ++ (Builtin.zeroCells vz.cells (c - (len + n))).toList).toArray := by apply Array.ext'; simp
    have arrsz : c * sz ≤ (cs.toArray ++ news.toArray ++ Builtin.zeroCells vz.cells (c - (len + n))).size := by
      simp only [Array.size_append, List.size_toArray, size_zeroCells, zsz, f1.1, a3.1, htl, hyl, ← Nat.add_mul]
      rw [show len + n + (c - (len + n)) = c by omega]
      exact Nat.le_refl _
    obtain ⟨HH, S⟩ := HRel.new H (w' := w.drew.alloc (.cells (cs.toArray ++ news.toArray ++ Builtin.zeroCells vz.cells (c - (len + n))) el)) el
      (cs.toArray ++ news.toArray ++ Builtin.zeroCells vz.cells (c - (len + n))) { mu := .m, ep := 0, esz := sz, es := o.es.take len ++ List.replicate n z } c rfl rfl rfl rfl rfl (by simp; omega)
      arrsz hpos (fun i e he => by
        rw [arr]
        exact hfl.obj (rest := (Builtin.zeroCells vz.cells (c - (len + n))).toList) i e he)
    exact ⟨_, _, _, hrun, H.mrefNew, HH, S, fun hh => by omega⟩
  obtain ⟨v, w', β', r1, r2, r3, r4, r5⟩ := main
  refine ⟨v, w', β', .inl ?_, r2, r3, r4, r5⟩
  simp only [execOp, resolve, Sem.run_bind, Sem.run_pure, Result.andThen_ok, invoke, builtin]
  simp only [List.map_toArray, List.map_cons, List.map_nil, r1, Result.andThen_ok]

/-- an object that has moved to a block of the later world; its cells as they are there -/
theorem HRel.setNew {w w' : World} {F : Nat → Prop} {β : List (Nat × Nat)} {h : AHeap} (H : HRel w F β h) {id : Nat} {o : AObj} {bc : Nat × Nat} (eo : h[id]? = some o) (eb : β[id]? = some bc) (em : o.mu = .m)
    (T : TypeId) (cs : Array Value) (es' : List PV) (ep' : Nat) (bc' : Nat × Nat)
    (hsz : w.heap.size ≤ w'.heap.size) (hat : w'.heap[bc'.1]? = some (.cells cs T (0, 0))) (hother : ∀ b, b < w.heap.size → w'.heap[b]? = w.heap[b]?)
    (hge : w.heap.size ≤ bc'.1) (hlt : o.ep < ep') (ho : w'.os = w.os) (ht : w'.tape = w.tape) (hu : w'.output = w.output)
    (h1 : es'.length ≤ bc'.2) (h2 : bc'.2 * o.esz ≤ cs.size)
    (h4 : ∀ (i : Nat) (e : PV), es'[i]? = some e → (cells e).length = o.esz ∧ ∀ (j : Nat) (p : PV), (cells e)[j]? = some p → ∃ v : Value, cs[i * o.esz + j]? = some v ∧ VRel w' (Av F (h.set id { o with es := es', ep := ep' }) (β.set id bc')) (β.set id bc') (h.set id { o with es := es', ep := ep' }) v p)
    (hd : w.drawn ≤ w'.drawn := by first | exact Nat.le_refl _ | exact Nat.le_succ _) :
    HRel w' F (β.set id bc') (h.set id { o with es := es', ep := ep' }) ∧ Stp w h β w' (h.set id { o with es := es', ep := ep' }) (β.set id bc') := by
  have hlen := H.len
  have hid := lt_of_some eo
  have hesz : 0 < o.esz := by
    obtain ⟨_, _, _, _, _, k, _⟩ := H.obj id o bc eo eb (by rw [em]; simp)
    exact k
  have hself : (h.set id { o with es := es', ep := ep' })[id]? = some { o with es := es', ep := ep' } := by simp [hid]
  have bself : (β.set id bc')[id]? = some bc' := by simp [hlen, hid]
  have hoth : ∀ k, k ≠ id → (h.set id { o with es := es', ep := ep' })[k]? = h[k]? := fun k hk => List.getElem?_set_ne (Ne.symm hk)
  have both : ∀ k, k ≠ id → (β.set id bc')[k]? = β[k]? := fun k hk => List.getElem?_set_ne (Ne.symm hk)
  have hs : Stp w h β w' (h.set id { o with es := es', ep := ep' }) (β.set id bc') := by
    refine ⟨hsz, by simp, fun b hb hm => hother b hb, ?_, ?_, ?_, ho, ht, hu, hd⟩
    · rintro b hb ⟨k, o', c', e1, e2, e3, rfl⟩
      by_cases hk : k = id
      · subst hk
        rw [bself] at e2
        obtain rfl := Option.some.inj e2
        omega
      · rw [hoth k hk] at e1; rw [both k hk] at e2
        exact ⟨k, o', c', e1, e2, e3, rfl⟩
    · intro k o' c' e1 e2 e3
      by_cases hk : k = id
      · subst hk
        rw [eo] at e1; rw [eb] at e2
        obtain rfl := Option.some.inj e1
        obtain rfl := Option.some.inj e2
        exact ⟨_, bc', hself, bself, by rw [em]; simp, Nat.le_of_lt hlt, fun e => by simp at e; omega⟩
      · exact ⟨o', c', by rw [hoth k hk]; exact e1, by rw [both k hk]; exact e2, e3, Nat.le_refl _, fun _ => ⟨rfl, rfl, rfl⟩⟩
    · intro k o' e1 e2
      have hk : k ≠ id := by
        rintro rfl
        rw [eo] at e1
        obtain rfl := Option.some.inj e1
        exact e2 em
      exact ⟨by rw [hoth k hk]; exact e1, both k hk⟩
  refine ⟨⟨by simp [hlen], fun b hb => Nat.lt_of_lt_of_le (H.fin b hb) hsz, ?_, ?_, ?_⟩, hs⟩
  · intro k o' c' e1 e2 e3
    by_cases hk : k = id
    · subst hk
      rw [hself] at e1; rw [bself] at e2
      obtain rfl := Option.some.inj e1
      obtain rfl := Option.some.inj e2
      exact ⟨T, cs, hat, h1, h2, hesz, h4⟩
    · rw [hoth k hk] at e1; rw [both k hk] at e2
      have r := H.obj k o' c' e1 e2 e3
      obtain ⟨T', cs', k1, _⟩ := _root_.id r
      exact ORel.mono hs (hother _ (Array.getElem?_eq_some_iff.1 k1).1) r
  · intro k k' o1 o2 bc1 bc2 hne e1 e2 e3 e4 m1 m2
    by_cases hk : k = id
    · subst hk
      have hk' : k' ≠ k := Ne.symm hne
      rw [hoth k' hk'] at e2; rw [both k' hk'] at e4; rw [bself] at e3
      obtain rfl := Option.some.inj e3
      obtain ⟨T', cs', k1, _⟩ := H.obj k' o2 bc2 e2 e4 m2
      have := (Array.getElem?_eq_some_iff.1 k1).1
      omega
    · rw [hoth k hk] at e1; rw [both k hk] at e3
      by_cases hk' : k' = id
      · subst hk'
        rw [bself] at e4
        obtain rfl := Option.some.inj e4
        have := Mb.lt H ⟨k, o1, bc1, e1, e3, m1, rfl⟩
        omega
      · rw [hoth k' hk'] at e2; rw [both k' hk'] at e4
        exact H.dist k k' o1 o2 bc1 bc2 hne e1 e2 e3 e4 m1 m2
  · intro k o' c' e1 e2 e3
    by_cases hk : k = id
    · subst hk
      rw [bself] at e2
      obtain rfl := Option.some.inj e2
      intro hf; have := H.fin _ hf; omega
    · rw [hoth k hk] at e1; rw [both k hk] at e2
      exact H.out k o' c' e1 e2 e3
end Go.Pm
end

/-
  PM, PART 32: slices.Insert in the middle, what its two roads share. Conditions: none.
-/
section
set_option linter.unusedVariables false
set_option linter.unusedSimpArgs false
set_option linter.unusedVariables false
set_option linter.unusedSimpArgs false
set_option maxRecDepth 100000
set_option maxHeartbeats 4000000
namespace Go.Pm
open Go.Proofs
section
variable {w : World} {F : Nat → Prop} {β : List (Nat × Nat)}
variable {C : Cfg} (T : Tab C.P)
variable {ops : Array Oper} {i : Nat} {d : Nat} {ty : TypeId} {pos : String} {af : Array Edge} {r : List Oper} {ρ : Nat → PV} {L : List (Nat × PV)} {h : AHeap} {Q : St → Prop}
theorem sliceLo_m1 {P : Program} {t el : TypeId} {id ep len a : Nat} {o : AObj} {k : IntKind} (hu : P.underlying t = some (.slice el)) (hs : tsize P el = some o.esz) (hg : getM h id ep = some o) (ha : a < len) (hle : len ≤ o.es.length) :
    sliceP P h t (.mref id ep 0 len) (some (.int k (a : Int))) none none = some (.mref id ep a (len - a)) := by
  rw [sliceLo_m hu hs hg (by omega) hle]
  by_cases h0 : a = 0
  · subst h0; simp
  · rw [if_neg h0, if_neg (by omega)]
theorem copyE2 {dt el : TypeId} {sz id ep off len : Nat} {u : PV} {ys : List PV} {o : AObj} (hk : T.kd dt = some (.sl el)) (hs : T.ts el = some sz) (hu : elems h u = some ys) (hg : getM h id ep = some o) (hm : o.mu = .m) (hz : o.esz = sz) (hle : off + len ≤ o.es.length)
    (hy : ys.all (fun v => decide ((cells v).length = sz)) = true) (hy1 : (ys.take (min ys.length len)).all (fun v => decide ((cells v).length = sz) && (cells v).all oneC) = true) :
    copyP C.P 2 h dt (.mref id ep off len) u = some (.int .i64 (min ys.length len : Nat), h.set id { o with es := o.es.take off ++ ys.take (min ys.length len) ++ o.es.drop (off + min ys.length len) }) := by
  unfold copyP
  rw [kd_sl (T.hkd _ _ hk), hu]
  simp only [T.hts _ _ hs, hg]
  rw [if_pos ⟨Nat.le_refl _, hm, hz.symm, hle, hy, hy1⟩]
theorem R.copy {dt xt el : TypeId} {sz id ep off len : Nat} {u : PV} {ys : List PV} {o : AObj} {x y : Operand} (hx : evL L x = some (.mref id ep off len)) (hyy : evL L y = some u) (hk : T.kd dt = some (.sl el)) (hs : T.ts el = some sz) (hu : elems h u = some ys) (hg : getM h id ep = some o) (hm : o.mu = .m) (hz : o.esz = sz) (hle : off + len ≤ o.es.length)
    (hy : ys.all (fun v => decide ((cells v).length = sz)) = true) (hy1 : (ys.take (min ys.length len)).all (fun v => decide ((cells v).length = sz) && (cells v).all oneC) = true)
    (kk : EvOps C ops r ⟨al ((d, .int .i64 (min ys.length len : Nat)) :: L) ρ, h.set id { o with es := o.es.take off ++ ys.take (min ys.length len) ++ o.es.drop (off + min ys.length len) }⟩ Q) :
    EvOps C ops (⟨some d, .call ⟨.builtin .copy, #[x, y], #[dt, xt]⟩, ty, pos, af, none⟩ :: r) ⟨al L ρ, h⟩ Q := by
  refine EvOps.valL (fun run => ?_) kk
  have hap := copyE2 T hk hs hu hg hm hz hle hy hy1
  simp only [opVal, builtinP, List.map_cons, List.map_nil, evL_ev hx, evL_ev hyy, hap]
theorem D.copy {dt xt el : TypeId} {sz id ep off len L0 : Nat} {own : List Nat} {u : PV} {ys : List PV} {o : AObj} {x y : Operand} (hl2 : level ops (before ops) i = 2) (hx : evL L x = some (.mref id ep off len)) (hyy : evL L y = some u) (hk : T.kd dt = some (.sl el)) (hs : T.ts el = some sz) (hu : elems h u = some ys) (hg : getM h id ep = some o) (hm : o.mu = .m) (hz : o.esz = sz) (hle : off + len ≤ o.es.length)
    (hy : ys.all (fun v => decide ((cells v).length = sz)) = true) (hy1 : (ys.take (min ys.length len)).all (fun v => decide ((cells v).length = sz) && (cells v).all oneC) = true)
    (kk : EvD C ops (i + 1) r ⟨⟨al ((d, .int .i64 (min ys.length len : Nat)) :: L) ρ, h.set id { o with es := o.es.take off ++ ys.take (min ys.length len) ++ o.es.drop (off + min ys.length len) }⟩, (h.set id { o with es := o.es.take off ++ ys.take (min ys.length len) ++ o.es.drop (off + min ys.length len) }).length, []⟩ Q) :
    EvD C ops i (⟨some d, .call ⟨.builtin .copy, #[x, y], #[dt, xt]⟩, ty, pos, af, none⟩ :: r) ⟨⟨al L ρ, h⟩, L0, own⟩ Q := by
  refine EvD.two rfl hl2 ⟨0, fun n _ => ?_⟩ kk
  have hap := copyE2 T hk hs hu hg hm hz hle hy hy1
  simp only [opVal, builtinP, List.map_cons, List.map_nil, evL_ev hx, evL_ev hyy, hap]
end
def tlC : Nat → Code → Code
  | 0, c => c
  | n + 1, .seq _ b => tlC n b
  | _, c => c
attribute [local irreducible] thenQ blockQ loopQ bodyQ Ev EvOps CallEv FnEv EvD
namespace Zero
noncomputable def c63 : Code := match Tryz.f91.body with | some c => c | none => .skip
theorem body63 : Tryz.f91.body = some c63 := rfl
variable {w : World} {F : Nat → Prop} {β : List (Nat × Nat)}
theorem ins_pre {h : AHeap} {id ep len i N : Nat} {o : AObj} {fl : Bool} {e : PV} {a : Act} {Q : Exit → Act → World → Prop} (hg : getM h id ep = some o) (hz : o.esz = 5) (hle : len ≤ o.es.length) (hi : i < len) (hn : len < 100000000) (hN : N = Tryz.f91.ntmps)
    (RR : SR N w F β ⟨envOf [.mref id ep 0 len, .int .i64 (i : Int), .snap fl [e]], h⟩ a)
    (k : ∀ a' w' β' ρ', SR N w' F β' ⟨al [(0, .mref id ep 0 len), (1, .int .i64 (i : Int)), (2, .snap fl [e]), (7, .int .i64 1), (8, .int .i64 (len : Int))] ρ', h⟩ a' → Stp w h β w' h β' → (tlC 6 c63).wp C0.P Q a' w') : c63.wp C0.P Q a w := by
  subst hN
  have hu : C0.P.underlying 26 = some (.slice 66) := kd_sl (T6.hkd 26 _ rfl)
  have hsz : tsize C0.P 66 = some o.esz := by rw [hz]; exact T6.hts 66 5 rfl
  have hl1 : ([e] : List PV).length = 1 := rfl
  refine wp_seq ?_
  refine ev_wp K0 mixed0 S0 (M := fun ex s' => ex = .normal ∧ ∃ ρ', s' = ⟨al [(0, .mref id ep 0 len), (1, .int .i64 (i : Int)), (2, .snap fl [e])] ρ', h⟩) rfl ?_ RR ?_
  · rw [envOf_al]
    (repeat' (first | refine EvOps.nil ?_ | (apply R.assign; exact rfl) | refine Ev.region ?_ | fail))
    exact ⟨rfl, _, St.keep ⟨rfl, rfl, rfl, trivial⟩⟩
  rintro ex s' a1 w1 β1 ⟨rfl, ρ1, rfl⟩ R1 S1
  refine wp_seq ?_
  refine ev_wp K0 mixed0 S0 (M := fun ex s' => ex = .normal ∧ ∃ ρ', s' = ⟨al [(0, .mref id ep 0 len), (1, .int .i64 (i : Int)), (2, .snap fl [e])] ρ', h⟩) rfl ?_ R1 ?_
  · (repeat' (first | (apply R.move; exact rfl) | refine Ev.region ?_ | fail))
    apply R.slice
    · exact rfl
    · exact rfl
    · exact rfl
    · exact rfl
    · exact sliceLo_m1 hu hsz hg hi hle
    (repeat' (first | refine EvOps.nil ?_ | fail))
    exact ⟨rfl, _, St.keep ⟨rfl, rfl, rfl, trivial⟩⟩
  rintro ex s' a2 w2 β2 ⟨rfl, ρ2, rfl⟩ R2 S2
  refine wp_seq ?_
  refine ev_wp K0 mixed0 S0 (M := fun ex s' => ex = .normal ∧ ∃ ρ', s' = ⟨al [(0, .mref id ep 0 len), (1, .int .i64 (i : Int)), (2, .snap fl [e]), (7, .int .i64 1)] ρ', h⟩) rfl ?_ R2 ?_
  · (repeat' (first | refine EvOps.nil ?_ | (apply R.move; exact rfl) | (apply R.assign; exact rfl) | (apply R.lenS T6; exact rfl; exact rfl) | refine Ev.region ?_ | fail))
    exact ⟨rfl, _, St.keep ⟨rfl, rfl, rfl, rfl, trivial⟩⟩
  rintro ex s' a3 w3 β3 ⟨rfl, ρ3, rfl⟩ R3 S3
  refine wp_seq ?_
  refine ev_wp K0 mixed0 S0 (M := fun ex s' => ex = .normal ∧ ∃ ρ', s' = ⟨al [(0, .mref id ep 0 len), (1, .int .i64 (i : Int)), (2, .snap fl [e]), (7, .int .i64 1)] ρ', h⟩) rfl ?_ R3 ?_
  · (repeat' (first | refine EvOps.nil ?_ | (apply R.move; exact rfl) | (apply R.cmp; exact rfl; exact rfl; exact rfl; all_goals intro hc; all_goals (try (exfalso; omega))) | refine Ev.seq ?_ | refine Ev.region ?_ | (apply Ev.condB; exact rfl) | refine Ev.skip ?_ | refine thenQ.normal ?_ | fail))
    exact ⟨rfl, _, St.keep ⟨rfl, rfl, rfl, rfl, trivial⟩⟩
  rintro ex s' a4 w4 β4 ⟨rfl, ρ4, rfl⟩ R4 S4
  refine wp_seq ?_
  refine ev_wp K0 mixed0 S0 (M := fun ex s' => ex = .normal ∧ ∃ ρ', s' = ⟨al [(0, .mref id ep 0 len), (1, .int .i64 (i : Int)), (2, .snap fl [e]), (7, .int .i64 1), (8, .int .i64 (len : Int))] ρ', h⟩) rfl ?_ R4 ?_
  · (repeat' (first | (apply R.move; exact rfl) | refine Ev.region ?_ | fail))
    apply R.lenM T6 (o := o); exact rfl; exact rfl; exact hg; exact (by omega)
    (repeat' (first | refine EvOps.nil ?_ | (apply R.assign; exact rfl) | fail))
    exact ⟨rfl, _, St.keep ⟨rfl, rfl, rfl, rfl, rfl, trivial⟩⟩
  rintro ex s' a5 w5 β5 ⟨rfl, ρ5, rfl⟩ R5 S5
  refine wp_seq ?_
  refine ev_wp K0 mixed0 S0 (M := fun ex s' => ex = .normal ∧ ∃ ρ', s' = ⟨al [(0, .mref id ep 0 len), (1, .int .i64 (i : Int)), (2, .snap fl [e]), (7, .int .i64 1), (8, .int .i64 (len : Int))] ρ', h⟩) rfl ?_ R5 ?_
  · (repeat' (first | refine EvOps.nil ?_ | (apply R.move; exact rfl) | (apply R.cmp; exact rfl; exact rfl; exact rfl; all_goals intro hc; all_goals (try (exfalso; omega))) | refine Ev.seq ?_ | refine Ev.region ?_ | (apply Ev.condB; exact rfl) | refine Ev.skip ?_ | refine thenQ.normal ?_ | fail))
    exact ⟨rfl, _, St.keep ⟨rfl, rfl, rfl, rfl, rfl, trivial⟩⟩
  rintro ex s' a6 w6 β6 ⟨rfl, ρ6, rfl⟩ R6 S6
  exact k _ _ _ _ R6 (((((S1.trans S2).trans S3).trans S4).trans S5).trans S6)
end Zero
end Go.Pm
end

/-
  PM, PART 33: slices.Insert in the middle where there is room. Conditions: none.
-/
section
set_option linter.unusedVariables false
set_option linter.unusedSimpArgs false
set_option linter.unusedVariables false
set_option linter.unusedSimpArgs false
set_option maxRecDepth 100000
set_option maxHeartbeats 4000000
namespace Go.Pm
open Go.Proofs
theorem shift_list {pre : List PV} {X e : PV} {i : Nat} (hi : i < pre.length) {ys es2 : List PV} (hys : ys = ((pre ++ [X]).drop i).take (pre.length + 1 - i)) (hes2 : es2 = (pre ++ [X]).take (i + 1) ++ ys.take (pre.length - i) ++ (pre ++ [X]).drop (i + 1 + (pre.length - i))) :
    ys.take (pre.length - i) = pre.drop i ∧ es2.length = pre.length + 1 ∧ es2.take i ++ [e] ++ es2.drop (i + 1) = pre.take i ++ [e] ++ pre.drop i := by
  have h1 : ys.take (pre.length - i) = pre.drop i := by
    rw [hys, List.take_take, List.drop_append_of_le_length (by omega)]
    rw [List.take_append_of_le_length (by simp; omega)]
    rw [List.take_of_length_le (by simp; omega)]
  have h2 : (pre ++ [X]).drop (i + 1 + (pre.length - i)) = [] := List.drop_eq_nil_of_le (by simp; omega)
  have h3 : es2 = (pre ++ [X]).take (i + 1) ++ pre.drop i := by rw [hes2, h1, h2]; simp
  have h4 : ((pre ++ [X]).take (i + 1)).length = i + 1 := by simp; omega
  refine ⟨h1, by rw [h3]; simp; omega, ?_⟩
  congr 1
  · congr 1
    rw [h3, List.take_append_of_le_length (by omega), List.take_take, List.take_append_of_le_length (by omega)]
    congr 1; omega
  · rw [h3, List.drop_append_of_le_length (by omega), List.drop_eq_nil_of_le (by omega), List.nil_append]
attribute [local irreducible] thenQ blockQ loopQ bodyQ Ev EvOps CallEv FnEv EvD
namespace Zero
variable {w : World} {F : Nat → Prop} {β : List (Nat × Nat)}
theorem ins_shift {h : AHeap} {id ep len i : Nat} {o : AObj} {fl : Bool} {e X : PV} {pre : List PV} {vs : List Value} (H : HRel w F β h) (ha : L2 (VRel w (Av F h β) β h) vs [.mref id ep 0 len, .int .i64 (i : Int), .snap fl [e]])
    (hg : getM h id ep = some o) (hm : o.mu = .m) (hz : o.esz = 5) (hes : o.es = pre ++ [X]) (hpl : pre.length = len) (hi : i < len) (hn : len < 100000000) (hok : pre.all (okV 5) = true) (hX : (cells X).length = 5) (he : okV 5 e = true) (hcl : closedH h = true) :
    CSim C0.P 2 w F β h 91 vs (.mref id ep 0 (len + 1)) (h.set id { o with es := pre.take i ++ [e] ++ pre.drop i }) := by
  have hel : o.es.length = len + 1 := by rw [hes]; simp [hpl]
  have hu : C0.P.underlying 26 = some (.slice 66) := kd_sl (T6.hkd 26 _ rfl)
  have hs63 : tsize C0.P 66 = some 5 := T6.hts 66 5 rfl
  have hsz : tsize C0.P 66 = some o.esz := by rw [hz]; exact hs63
  obtain ⟨g1, g2, g3⟩ := getM_some hg
  have hlt := lt_of_some g1
  obtain ⟨bc, hbc⟩ := beta_at H.len g1
  obtain ⟨T, cs, k1, k2, k3, k4, k5⟩ := H.obj id o bc g1 hbc g3
  have hcap : len + 1 ≤ bc.2 := by omega
  have hvis : visible h id = true := by unfold visible; rw [g1]; simp [hm]
  have hj : ((len : Int) + 1) = ((len + 1 : Nat) : Int) := by omega
  have hj2 : ((i : Int) + 1) = ((i + 1 : Nat) : Int) := by omega
  have hb' : ∀ {w' : World} {β' : List (Nat × Nat)}, Stp w h β w' h β' → β'[id]? = some bc := by
    intro w' β' S
    obtain ⟨o', bc', f1, f2, f3, f4, f5⟩ := S.refs id o bc g1 hbc g3
    obtain rfl := Option.some.inj (g1.symm.trans f1)
    rw [f2, (f5 rfl).2.2]
  refine csim_wp (P := C0.P) (c := c63) Tryz.func91 body63 H ha (fun a RR => ins_pre hg hz (by omega) hi hn rfl RR (fun a1 w1 β1 ρ1 R1 S1 => ?_))
  refine wp_seq ?_
  refine wp_seq ?_
  apply region_special K0 S0 (pre := [_, _, _, _]) (post := [_]) (R := R1) (M := fun s' => ∃ ρ', s' = ⟨al ((28, .int .i64 ((len : Int) + 1)) :: (29, .mref id ep 0 len) :: [(0, .mref id ep 0 len), (1, .int .i64 (i : Int)), (2, .snap fl [e]), (7, .int .i64 1), (8, .int .i64 (len : Int))]) ρ', h⟩) (M2 := fun s' => ∃ ρ', s' = ⟨al ((31, .bool false) :: [(0, .mref id ep 0 len), (1, .int .i64 (i : Int)), (2, .snap fl [e]), (7, .int .i64 1), (8, .int .i64 (len : Int))]) ρ', h⟩)
  · rfl
  · rfl
  · (repeat' (first | refine EvOps.nil ?_ | (apply R.move; exact rfl) | (apply R.arith; exact rfl; exact rfl; exact rfl; exact (wrapI (by omega) (by omega))) | fail))
    exact ⟨_, St.keep ⟨rfl, rfl, rfl, rfl, rfl, rfl, rfl, trivial⟩⟩
  · rintro s1 a2 w2 β2 ⟨ρ2, rfl⟩ R2 S2
    refine ⟨.int .i64 (bc.2 : Int), h, cap_osim (t := 26) (x := .tmp 29) R2.hr R2.er hu (lk_al (t := 29) rfl ρ2) hg (hb' (S1.trans S2)) (by omega) _ rfl, ?_⟩
    show EvOps C0 _ _ ⟨updO (al _ ρ2) (some 30) (.int .i64 (bc.2 : Int)), h⟩ _
    rw [al_cons]
    (repeat' (first | refine EvOps.nil ?_ | (apply R.cmp; exact rfl; exact rfl; exact rfl; all_goals intro hc; all_goals (try (exfalso; omega))) | fail))
    exact ⟨_, St.keep ⟨rfl, rfl, rfl, rfl, rfl, rfl, trivial⟩⟩
  rintro s3 a3 w3 β3 ⟨ρ3, rfl⟩ R3 S3
  refine ev_wp K0 mixed0 S0 (M := fun ex s' => ex = .normal ∧ ∃ ρ', s' = ⟨al [(0, .mref id ep 0 len), (1, .int .i64 (i : Int)), (2, .snap fl [e]), (7, .int .i64 1), (8, .int .i64 (len : Int))] ρ', h⟩) rfl ?_ R3 ?_
  · (repeat' (first | (apply Ev.condB; exact rfl) | refine Ev.skip ?_ | fail))
    exact ⟨rfl, _, St.keep ⟨rfl, rfl, rfl, rfl, rfl, trivial⟩⟩
  rintro ex s' a4 w4 β4 ⟨rfl, ρ4, rfl⟩ R4 S4
  refine wp_seq ?_
  refine ev_wp K0 mixed0 S0 (M := fun ex s' => ex = .normal ∧ ∃ ρ', s' = ⟨al [(0, .mref id ep 0 (len + 1)), (1, .int .i64 (i : Int)), (2, .snap fl [e]), (7, .int .i64 1)] ρ', h⟩) rfl ?_ R4 ?_
  · (repeat' (first | (apply R.move; exact rfl) | (apply R.arith; exact rfl; exact rfl; exact rfl; exact (wrapI (by omega) (by omega))) | refine Ev.region ?_ | fail))
    apply R.slice
    · exact rfl
    · exact rfl
    · exact rfl
    · exact rfl
    · show sliceP C0.P h 26 (.mref id ep 0 len) none (some (.int .i64 ((len : Int) + 1))) none = _
      rw [hj]
      exact sliceBeyond0_m hu hsz hg (by omega) (by omega)
    (repeat' (first | refine EvOps.nil ?_ | (apply R.assign; exact rfl) | fail))
    exact ⟨rfl, _, St.keep ⟨rfl, rfl, rfl, rfl, trivial⟩⟩
  rintro ex s' a5 w5 β5 ⟨rfl, ρ5, rfl⟩ R5 S5
  refine wp_seq ?_
  refine wp_seq ?_
  apply region_special K0 S0 (pre := [_, _, _, _, _, _]) (post := [_]) (R := R5) (M := fun s' => ∃ ρ', s' = ⟨al ((61, .snap fl [e]) :: (66, .mref id ep (i + 1) (len + 1 - (i + 1))) :: [(0, .mref id ep 0 (len + 1)), (1, .int .i64 (i : Int)), (2, .snap fl [e]), (7, .int .i64 1)]) ρ', h⟩) (M2 := fun s' => ∃ ρ', s' = ⟨al ((68, .bool true) :: [(0, .mref id ep 0 (len + 1)), (1, .int .i64 (i : Int)), (2, .snap fl [e]), (7, .int .i64 1)]) ρ', h⟩)
  · rfl
  · rfl
  · (repeat' (first | (apply R.move; exact rfl) | (apply R.arith; exact rfl; exact rfl; exact rfl; exact (wrapI (by omega) (by omega))) | fail))
    apply R.slice
    · exact rfl
    · exact rfl
    · exact rfl
    · exact rfl
    · show sliceP C0.P h 26 (.mref id ep 0 (len + 1)) (some (.int .i64 ((i : Int) + 1))) none none = _
      rw [hj2]
      exact sliceLo_m1 hu hsz hg (by omega) (by omega)
    (repeat' (first | refine EvOps.nil ?_ | fail))
    exact ⟨_, St.keep ⟨rfl, rfl, rfl, rfl, rfl, rfl, trivial⟩⟩
  · rintro s1 a6 w6 β6 ⟨ρ6, rfl⟩ R6 S6
    refine ⟨.bool false, h, overlaps_osim (t := 26) (tR := 4) (x := .tmp 61) (y := .tmp 66) (f := 113) R6.hr R6.er hu hs63 (lk_al (t := 61) rfl ρ6) (lk_al (t := 66) rfl ρ6) hg hm (by omega) Tryz.func113 (by kernel_rfl) (by kernel_rfl) (by kernel_rfl) (by kernel_rfl) _ rfl, ?_⟩
    show EvOps C0 _ _ ⟨updO (al _ ρ6) (some 67) (.bool false), h⟩ _
    rw [al_cons]
    (repeat' (first | refine EvOps.nil ?_ | (apply R.not; exact rfl; exact rfl) | fail))
    exact ⟨_, St.keep ⟨rfl, rfl, rfl, rfl, rfl, trivial⟩⟩
  rintro s7 a7 w7 β7 ⟨ρ7, rfl⟩ R7 S7
  obtain ⟨ys, hys⟩ : ∃ ys, ys = ((pre ++ [X]).drop i).take (pre.length + 1 - i) := ⟨_, rfl⟩
  obtain ⟨es2, hes2⟩ : ∃ es2, es2 = (pre ++ [X]).take (i + 1) ++ ys.take (pre.length - i) ++ (pre ++ [X]).drop (i + 1 + (pre.length - i)) := ⟨_, rfl⟩
  obtain ⟨l1, l2, l3⟩ := shift_list (e := e) (by omega) hys hes2
  rw [hpl] at l1 l2
  have hyl : ys.length = len + 1 - i := by rw [hys]; simp; omega
  have hymem : ∀ v ∈ ys, (cells v).length = 5 := by
    intro v hv
    rw [hys] at hv
    have := List.mem_of_mem_drop (List.mem_of_mem_take hv)
    rcases List.mem_append.1 this with hv | hv
    · have := List.all_eq_true.1 hok v hv
      unfold okV at this
      simp only [Bool.and_eq_true, decide_eq_true_eq] at this
      exact this.1.2
    · obtain rfl := List.mem_singleton.1 hv
      exact hX
  have he2 : (cells e).length = 5 ∧ (cells e).all oneC = true := by
    unfold okV at he
    simp only [Bool.and_eq_true, decide_eq_true_eq] at he
    exact ⟨he.1.2, he.2⟩
  have hmn : min ys.length (len + 1 - (i + 1)) = len - i := by omega
  have hh2 : h.set id { o with es := o.es.take (i + 1) ++ ys.take (min ys.length (len + 1 - (i + 1))) ++ o.es.drop (i + 1 + min ys.length (len + 1 - (i + 1))) } = h.set id { o with es := es2 } := by
    rw [hmn, hes, hes2, hpl]
  have hg2 : getM (h.set id { o with es := es2 }) id ep = some { o with es := es2 } := getM_at (List.getElem?_set_self hlt) g2 (by show o.mu ≠ .x; rw [hm]; simp)
  have hmn2 : min ([e] : List PV).length (len + 1 - i) = 1 := by show min 1 _ = 1; omega
  have hfin : (h.set id { o with es := es2 }).set id { ({ o with es := es2 } : AObj) with es := es2.take i ++ [e].take (min ([e] : List PV).length (len + 1 - i)) ++ es2.drop (i + min ([e] : List PV).length (len + 1 - i)) } = h.set id { o with es := pre.take i ++ [e] ++ pre.drop i } := by
    rw [List.set_set, hmn2, ← l3]; rfl
  refine ev_wp K0 mixed0 S0 (M := fun ex s' => ex = .ret ∧ ∃ ρ', s' = ⟨al [(6, .mref id ep 0 (len + 1))] ρ', h.set id { o with es := pre.take i ++ [e] ++ pre.drop i }⟩) rfl ?_ R7 ?_
  · (repeat' (first | refine Ev.seq ?_ | refine Ev.regionD ?_ | (apply D.move; exact rfl) | (apply D.arith; exact rfl; exact rfl; exact rfl; exact (wrapI (by omega) (by omega))) | (apply Ev.condB; exact rfl) | fail))
    apply D.slice
    · exact hcl
    · exact rfl
    · exact hvis
    · exact rfl
    · exact rfl
    · exact rfl
    · exact rfl
    · exact rfl
    · exact rfl
    · show sliceP C0.P h 26 (.mref id ep 0 (len + 1)) (some (.int .i64 ((i : Int) + 1))) none none = _
      rw [hj2]
      exact sliceLo_m1 hu hsz hg (by omega) (by omega)
    (repeat' (first | (apply D.move; exact rfl) | fail))
    apply D.slice
    · exact hcl
    · exact rfl
    · exact hvis
    · exact rfl
    · exact rfl
    · exact rfl
    · exact rfl
    · exact rfl
    · exact rfl
    · exact sliceLo_m1 hu hsz hg (by omega) (by omega)
    apply D.copy T6 (ys := ys) (o := o) (sz := 5)
    · exact rfl
    · exact rfl
    · exact rfl
    · exact rfl
    · exact rfl
    · simp only [elems, hg]
      rw [if_pos (by omega), hes, hys, hpl]
    · exact hg
    · exact hm
    · exact hz
    · omega
    · rw [List.all_eq_true]
      intro v hv
      simp [hymem v hv]
    · rw [hmn, l1, List.all_eq_true]
      intro v hv
      have := List.all_eq_true.1 hok v (List.mem_of_mem_drop hv)
      unfold okV at this
      simp only [Bool.and_eq_true] at this ⊢
      exact ⟨this.1.2, this.2⟩
    refine EvD.heap hh2 ?_
    (repeat' (first | (apply R.move; exact rfl) | refine Ev.seq ?_ | refine Ev.region ?_ | refine EvD.nil ?_ | refine thenQ.normal ?_ | fail))
    apply R.slice
    · exact rfl
    · exact rfl
    · exact rfl
    · exact rfl
    · exact sliceLo_m1 (o := { o with es := es2 }) hu hsz hg2 (by omega) (by show len + 1 ≤ es2.length; omega)
    (repeat' (first | (apply R.move; exact rfl) | fail))
    apply R.copy T6 (ys := [e]) (o := { o with es := es2 }) (sz := 5)
    · exact rfl
    · exact rfl
    · exact rfl
    · exact rfl
    · exact rfl
    · exact hg2
    · exact hm
    · exact hz
    · show i + (len + 1 - i) ≤ es2.length; omega
    · simp [he2.1]
    · simp only [hmn2, List.take_succ_cons, List.take_zero, List.all_cons, List.all_nil, he2.1, he2.2]; rfl
    (repeat' (first | refine EvOps.nil ?_ | (apply R.move; exact rfl) | (apply R.assign; exact rfl) | refine Ev.seq ?_ | refine Ev.region ?_ | refine Ev.ret ?_ | refine thenQ.normal ?_ | fail))
    exact ⟨rfl, _, (congrArg (fun hh => (⟨_, hh⟩ : St)) hfin).trans (St.keep ⟨rfl, trivial⟩)⟩
  rintro ex s8 a8 w8 β8 ⟨rfl, ρ8, rfl⟩ R8 S8
  refine ⟨.inr rfl, _, β8, R8, (((((S1.trans S3).trans S4).trans S5).trans S7).trans S8), [.mref id ep 0 (len + 1)], ?_, fun u hu' => ⟨β8, hu', R8.hr, (((((S1.trans S3).trans S4).trans S5).trans S7).trans S8)⟩⟩
  · exact resT_of (L := [(6, .mref id ep 0 (len + 1))]) rfl
  all_goals rfl
end Zero
end Go.Pm
end

/-
  PM, PART 34: slices.Insert in the middle where there is no room: all is made anew. Conditions: none.
-/
section
set_option linter.unusedVariables false
set_option linter.unusedSimpArgs false
set_option linter.unusedVariables false
set_option linter.unusedSimpArgs false
set_option maxRecDepth 100000
set_option maxHeartbeats 4000000
namespace Go.Pm
open Go.Proofs
mutual
theorem visR_mono {f g : Nat → Bool} (hfg : ∀ i, f i = true → g i = true) : ∀ p, visR f p = true → visR g p = true
  | .int .., _ | .bool _, _ | .str _, _ | .nilp, _ | .nilf, _ | .snap .., _ | .sptr _, _ | .undef, _ | .any, _ => rfl
  | .agg cs, h => by simp only [visR] at h ⊢; exact visRs_mono hfg cs h
  | .tup cs, h => by simp only [visR] at h ⊢; exact visRs_mono hfg cs h
  | .fn _ cs, h => by simp only [visR] at h ⊢; exact visRs_mono hfg cs h
  | .mref .., h => by simp only [visR] at h ⊢; exact hfg _ h
  | .ptr .., h => by simp only [visR] at h ⊢; exact hfg _ h
theorem visRs_mono {f g : Nat → Bool} (hfg : ∀ i, f i = true → g i = true) : ∀ cs, visRs f cs = true → visRs g cs = true
  | [], _ => rfl
  | c :: r, h => by
    simp only [visRs, Bool.and_eq_true] at h ⊢
    exact ⟨visR_mono hfg c h.1, visRs_mono hfg r h.2⟩
end
theorem closed_mono {h h' : AHeap} (hv : ∀ i, visible h i = true → visible h' i = true) (ho : ∀ o' ∈ h', o'.mu = .x ∨ visRs (visible h') o'.es = true ∨ ∃ o ∈ h, o.es = o'.es ∧ (o.mu = .x → o'.mu = .x)) (hcl : closedH h = true) : closedH h' = true := by
  unfold closedH at hcl ⊢
  rw [List.all_eq_true] at hcl ⊢
  intro o' h1
  rcases ho o' h1 with h2 | h2 | ⟨o, h2, h3, h4⟩
  · simp [h2]
  · rw [h2]; simp
  · have := hcl o h2
    simp only [Bool.or_eq_true, decide_eq_true_eq] at this ⊢
    rcases this with hh | hh
    · exact .inl (h4 hh)
    · exact .inr (by rw [← h3]; exact visRs_mono hv _ hh)
theorem closed_lock {h : AHeap} (hcl : closedH h = true) : closedH (h.map lock1) = true := by
  refine closed_mono (h := h) (fun i hi => ?_) (fun o' h1 => ?_) hcl
  · unfold visible at hi ⊢
    rw [List.getElem?_map]
    split at hi
    · rename_i o ho
      rw [ho]
      simp only [Option.map_some, decide_eq_true_eq] at hi ⊢
      exact fun hh => hi ((lock1_shape o).2.2.2.1.1 hh)
    · cases hi
  · obtain ⟨o, h2, rfl⟩ := List.mem_map.1 h1
    exact .inr (.inr ⟨o, h2, (lock1_shape o).2.2.1.symm, fun hh => (lock1_shape o).2.2.2.1.2 hh⟩)
theorem closed_push {h : AHeap} {n sz : Nat} {es : List PV} (hv : isVals es = true) (hcl : closedH h = true) : closedH (h ++ [⟨.m, n, sz, es⟩]) = true := by
  refine closed_mono (h := h) (fun i hi => ?_) (fun o' h1 => ?_) hcl
  · unfold visible at hi ⊢
    split at hi
    · rename_i o ho
      rw [List.getElem?_append_left (lt_of_some ho), ho]
      exact hi
    · cases hi
  · rcases List.mem_append.1 h1 with h1 | h1
    · exact .inr (.inr ⟨o', h1, rfl, fun hh => hh⟩)
    · obtain rfl := List.mem_singleton.1 h1
      exact .inr (.inl (vis_vals _ _ hv))
theorem grow_list {es : List PV} {Z e : PV} {i len : Nat} (hi : i < len) (hl : len ≤ es.length) {es1 es2 ys : List PV} (h1 : es1 = es.take i ++ List.replicate (len + 1 - i) Z) (h2 : es2 = es1.take i ++ [e] ++ es1.drop (i + 1)) (h3 : ys = (es.drop i).take (len - i)) :
    es1.length = len + 1 ∧ es2.length = len + 1 ∧ ys.length = len - i ∧ ys = (es.take len).drop i ∧ es2.take (i + 1) ++ ys ++ es2.drop (i + 1 + (len - i)) = (es.take len).take i ++ [e] ++ (es.take len).drop i := by
  have a1 : es1.length = len + 1 := by rw [h1]; simp; omega
  have a2 : es2.length = len + 1 := by rw [h2]; simp; omega
  have a3 : ys.length = len - i := by rw [h3]; simp; omega
  have a4 : ys = (es.take len).drop i := by rw [h3, List.drop_take]
  refine ⟨a1, a2, a3, a4, ?_⟩
  rw [List.drop_eq_nil_of_le (by omega), List.append_nil, a4]
  congr 1
  rw [h2, List.take_append_of_le_length (by simp; omega), List.take_of_length_le (by simp; exact Nat.min_le_left _ _)]
  congr 1
  rw [h1, List.take_append_of_le_length (by simp; omega), List.take_take, List.take_take]
  congr 1; omega
theorem at_push {h : AHeap} {o : AObj} (hm : o.mu ≠ .x) : getM (h ++ [o]) h.length o.ep = some o := getM_at (by simp) rfl hm
theorem at_old {h k : AHeap} {id ep : Nat} {o : AObj} (hg : getM h id ep = some o) : getM (h ++ k) id ep = some o := by
  obtain ⟨g1, g2, g3⟩ := getM_some hg
  exact getM_at (by rw [List.getElem?_append_left (lt_of_some g1)]; exact g1) g2 g3
theorem set_push {h : AHeap} {o o' : AObj} : (h ++ [o]).set h.length o' = h ++ [o'] := by
  rw [List.set_append_right _ _ (Nat.le_refl _)]; simp
attribute [local irreducible] thenQ blockQ loopQ bodyQ Ev EvOps CallEv FnEv EvD
namespace Zero
variable {w : World} {F : Nat → Prop} {β : List (Nat × Nat)}
theorem ins_grow {h : AHeap} {id ep len i : Nat} {o : AObj} {bc : Nat × Nat} {fl : Bool} {e : PV} {vs : List Value} (H : HRel w F β h) (ha : L2 (VRel w (Av F h β) β h) vs [.mref id ep 0 len, .int .i64 (i : Int), .snap fl [e]])
    (hg : getM h id ep = some o) (hz : o.esz = 5) (hle : len ≤ o.es.length) (hbc : β[id]? = some bc) (hcap : bc.2 < len + 1) (hi : i < len) (hn : len < 100000000) (hok : (o.es.take len).all (okV 5) = true) (he : okV 5 e = true) (hcl : closedH h = true) :
    CSim C0.P 2 w F β h 91 vs (.mref h.length 0 0 (len + 1)) (h ++ [⟨.m, 0, 5, (o.es.take len).take i ++ [e] ++ (o.es.take len).drop i⟩]) := by
  have hu : C0.P.underlying 26 = some (.slice 66) := kd_sl (T6.hkd 26 _ rfl)
  have hs63 : tsize C0.P 66 = some 5 := T6.hts 66 5 rfl
  have hsz : tsize C0.P 66 = some o.esz := by rw [hz]; exact hs63
  obtain ⟨g1, g2, g3⟩ := getM_some hg
  have hlt := lt_of_some g1
  have hj : ((i : Int) + 1) = ((i + 1 : Nat) : Int) := by omega
  have hj3 : ((len : Int) + 1 - (i : Int)) = ((len + 1 - i : Nat) : Int) := by omega
  have hin : i + (len + 1 - i) = len + 1 := by omega
  have hb' : ∀ {w' : World} {β' : List (Nat × Nat)}, Stp w h β w' h β' → β'[id]? = some bc := by
    intro w' β' S
    obtain ⟨o', bc', f1, f2, f3, f4, f5⟩ := S.refs id o bc g1 hbc g3
    obtain rfl := Option.some.inj (g1.symm.trans f1)
    rw [f2, (f5 rfl).2.2]
  obtain ⟨es1, hes1⟩ : ∃ es1, es1 = o.es.take i ++ List.replicate (len + 1 - i) (.agg [.int .i64 0, .str ByteArray.empty, .int .i64 0, .snap true [], .int .i64 0] : PV) := ⟨_, rfl⟩
  obtain ⟨es2, hes2⟩ : ∃ es2, es2 = es1.take i ++ [e] ++ es1.drop (i + 1) := ⟨_, rfl⟩
  obtain ⟨ys, hys⟩ : ∃ ys, ys = (o.es.drop i).take (len - i) := ⟨_, rfl⟩
  obtain ⟨l1, l2, l3, l4, l5⟩ := grow_list hi hle hes1 hes2 hys
  have he2 : (cells e).length = 5 ∧ (cells e).all oneC = true ∧ isVal e = true := by
    unfold okV at he
    simp only [Bool.and_eq_true, decide_eq_true_eq] at he
    exact ⟨he.1.2, he.2, he.1.1⟩
  have hyok : ys.all (okV 5) = true := by
    rw [l4, List.all_eq_true]
    intro v hv
    exact List.all_eq_true.1 hok v (List.mem_of_mem_drop hv)
  have hv1 : isVals es1 = true := by
    rw [hes1, isVals_eq, List.all_append, ← isVals_eq]
    have : isVals (o.es.take i) = true := by
      refine okV_vals (sz := 5) ?_
      rw [List.all_eq_true]
      intro v hv
      refine List.all_eq_true.1 hok v ?_
      have : o.es.take i = (o.es.take len).take i := by rw [List.take_take]; congr 1; omega
      rw [this] at hv
      exact List.mem_of_mem_take hv
    rw [this, Bool.true_and, List.all_eq_true]
    intro v hv
    obtain rfl := List.eq_of_mem_replicate hv
    rfl
  have hv2 : isVals es2 = true := by
    rw [isVals_eq, List.all_eq_true] at hv1 ⊢
    intro v hv
    rw [hes2] at hv
    rcases List.mem_append.1 hv with hv | hv
    · rcases List.mem_append.1 hv with hv | hv
      · exact hv1 v (List.mem_of_mem_take hv)
      · obtain rfl := List.mem_singleton.1 hv
        exact he2.2.2
    · exact hv1 v (List.mem_of_mem_drop hv)
  have hcl2 : closedH (h ++ [⟨.m, 0, 5, es2⟩]) = true := closed_push hv2 hcl
  have hgn : ∀ es, getM (h ++ [⟨.m, 0, 5, es⟩]) h.length 0 = some ⟨.m, 0, 5, es⟩ := fun es => at_push (o := ⟨.m, 0, 5, es⟩) (by simp)
  have hgo : ∀ es, getM (h ++ [⟨.m, 0, 5, es⟩]) id ep = some o := fun es => at_old hg
  have hvis : ∀ es, visible (h ++ [⟨.m, 0, 5, es⟩]) id = true := fun es => by unfold visible; rw [List.getElem?_append_left hlt, g1]; simpa using g3
  have hvisn : ∀ es, visible (h ++ [⟨.m, 0, 5, es⟩]) h.length = true := fun es => by unfold visible; simp
  refine csim_wp (P := C0.P) (c := c63) Tryz.func91 body63 H ha (fun a RR => ins_pre hg hz (by omega) hi hn rfl RR (fun a1 w1 β1 ρ1 R1 S1 => ?_))
  refine wp_seq ?_
  refine wp_seq ?_
  apply region_special K0 S0 (pre := [_, _, _, _]) (post := [_]) (R := R1) (M := fun s' => ∃ ρ', s' = ⟨al ((28, .int .i64 ((len : Int) + 1)) :: (29, .mref id ep 0 len) :: [(0, .mref id ep 0 len), (1, .int .i64 (i : Int)), (2, .snap fl [e]), (7, .int .i64 1), (8, .int .i64 (len : Int))]) ρ', h⟩) (M2 := fun s' => ∃ ρ', s' = ⟨al ((31, .bool true) :: [(0, .mref id ep 0 len), (1, .int .i64 (i : Int)), (2, .snap fl [e]), (7, .int .i64 1), (8, .int .i64 (len : Int))]) ρ', h⟩)
  · rfl
  · rfl
  · (repeat' (first | refine EvOps.nil ?_ | (apply R.move; exact rfl) | (apply R.arith; exact rfl; exact rfl; exact rfl; exact (wrapI (by omega) (by omega))) | fail))
    exact ⟨_, St.keep ⟨rfl, rfl, rfl, rfl, rfl, rfl, rfl, trivial⟩⟩
  · rintro s1 a2 w2 β2 ⟨ρ2, rfl⟩ R2 S2
    refine ⟨.int .i64 (bc.2 : Int), h, cap_osim (t := 26) (x := .tmp 29) R2.hr R2.er hu (lk_al (t := 29) rfl ρ2) hg (hb' (S1.trans S2)) (by omega) _ rfl, ?_⟩
    show EvOps C0 _ _ ⟨updO (al _ ρ2) (some 30) (.int .i64 (bc.2 : Int)), h⟩ _
    rw [al_cons]
    (repeat' (first | refine EvOps.nil ?_ | (apply R.cmp; exact rfl; exact rfl; exact rfl; all_goals intro hc; all_goals (try (exfalso; omega))) | fail))
    exact ⟨_, St.keep ⟨rfl, rfl, rfl, rfl, rfl, rfl, trivial⟩⟩
  rintro s3 a3 w3 β3 ⟨ρ3, rfl⟩ R3 S3
  have ht31 : a3.eval (.tmp 31) = .bool true := by
    have := R3.er.ev (.tmp 31)
    rw [show ev (al ((31, PV.bool true) :: [(0, .mref id ep 0 len), (1, .int .i64 (i : Int)), (2, .snap fl [e]), (7, .int .i64 1), (8, .int .i64 (len : Int))]) ρ3) (.tmp 31) = .bool true from lk_al (t := 31) rfl ρ3] at this
    exact this.bool_inv
  refine wp_cond_true ht31 ?_
  refine wp_seq ?_
  apply region_special K0 S0 (pre := [_, _, _, _, _, _, _, _]) (post := [_]) (R := R3) (M := fun s' => ∃ ρ', s' = ⟨al ((34, .mref id ep 0 i) :: (39, .int .i64 ((len : Int) + 1 - (i : Int))) :: [(0, .mref id ep 0 len), (1, .int .i64 (i : Int)), (2, .snap fl [e]), (7, .int .i64 1), (8, .int .i64 (len : Int))]) ρ', h⟩) (M2 := fun s' => ∃ ρ', s' = ⟨al ((9, .mref h.length 0 0 (len + 1)) :: [(0, .mref id ep 0 len), (1, .int .i64 (i : Int)), (2, .snap fl [e]), (7, .int .i64 1), (8, .int .i64 (len : Int))]) ρ', h ++ [⟨.m, 0, 5, es1⟩]⟩)
  case ho => rfl
  case hg => rfl
  · (repeat' (first | (apply R.move; exact rfl) | fail))
    apply R.slice
    · exact rfl
    · exact rfl
    · exact rfl
    · exact rfl
    · exact sliceHi_m hu hsz hg (by omega) hle
    (repeat' (first | refine EvOps.nil ?_ | (apply R.move; exact rfl) | (apply R.arith; exact rfl; exact rfl; exact rfl; exact (wrapI (by omega) (by omega))) | fail))
    exact ⟨_, St.keep ⟨rfl, rfl, rfl, rfl, rfl, rfl, rfl, trivial⟩⟩
  · rintro s1 a4 w4 β4 ⟨ρ4, rfl⟩ R4 S4
    have os := append_osim (P := C0.P) (st := 26) (xt := 3) (el := 66) (x := .tmp 34) (y := .tmp 39) (k := .i64) (n := len + 1 - i) (len := i) R4.hr R4.er hu (kd_int (T6.hkd 3 _ rfl)) hs63 (by decide) (T6.htb 66 _ rfl) (by decide) (T6.htz 66 (.agg [.int .i64 0, .str ByteArray.empty, .int .i64 0, .snap true [], .int .i64 0]) rfl) rfl rfl (lk_al (t := 34) rfl ρ4) (by rw [← hj3]; exact lk_al (t := 39) rfl ρ4) hg (hb' ((S1.trans S3).trans S4)) (by omega) hz (by omega) (by omega)
    rw [hin, ← hes1] at os
    refine ⟨.mref h.length 0 0 (len + 1), h ++ [⟨.m, 0, 5, es1⟩], os _ rfl, ?_⟩
    show EvOps C0 _ _ ⟨updO (al _ ρ4) (some 40) (.mref h.length 0 0 (len + 1)), _⟩ _
    rw [al_cons]
    (repeat' (first | refine EvOps.nil ?_ | (apply R.assign; exact rfl) | fail))
    exact ⟨_, St.keep ⟨rfl, rfl, rfl, rfl, rfl, rfl, trivial⟩⟩
  rintro s5 a5 w5 β5 ⟨ρ5, rfl⟩ R5 S5
  have hmn : min ([e] : List PV).length (len + 1 - i) = 1 := by show min 1 _ = 1; omega
  have hmn2 : min ys.length (len + 1 - (i + 1)) = len - i := by omega
  have hyt : ys.take (len - i) = ys := List.take_of_length_le (by omega)
  have hh2 : (h ++ [⟨.m, 0, 5, es1⟩] : AHeap).set h.length { (⟨.m, 0, 5, es1⟩ : AObj) with es := es1.take i ++ [e].take (min ([e] : List PV).length (len + 1 - i)) ++ es1.drop (i + min ([e] : List PV).length (len + 1 - i)) } = h ++ [⟨.m, 0, 5, es2⟩] := by
    rw [hmn, set_push, hes2]; rfl
  have hh3 : (h ++ [⟨.m, 0, 5, es2⟩] : AHeap).set h.length { (⟨.m, 0, 5, es2⟩ : AObj) with es := es2.take (i + 1) ++ ys.take (min ys.length (len + 1 - (i + 1))) ++ es2.drop (i + 1 + min ys.length (len + 1 - (i + 1))) } = h ++ [⟨.m, 0, 5, (o.es.take len).take i ++ [e] ++ (o.es.take len).drop i⟩] := by
    rw [hmn2, set_push, hyt, l5]
  refine ev_wp K0 mixed0 S0 (M := fun ex s' => ex = .ret ∧ ∃ ρ', s' = ⟨al [(6, .mref h.length 0 0 (len + 1))] ρ', h ++ [⟨.m, 0, 5, (o.es.take len).take i ++ [e] ++ (o.es.take len).drop i⟩]⟩) rfl ?_ R5 ?_
  · (repeat' (first | (apply R.move; exact rfl) | refine Ev.seq ?_ | refine Ev.region ?_ | fail))
    apply R.slice
    · exact rfl
    · exact rfl
    · exact rfl
    · exact rfl
    · exact sliceLo_m1 hu hs63 (hgn es1) (by omega) (by show len + 1 ≤ es1.length; omega)
    (repeat' (first | (apply R.move; exact rfl) | fail))
    apply R.copy T6 (ys := [e]) (o := ⟨.m, 0, 5, es1⟩) (sz := 5)
    · exact rfl
    · exact rfl
    · exact rfl
    · exact rfl
    · exact rfl
    · exact hgn es1
    · exact rfl
    · exact rfl
    · show i + (len + 1 - i) ≤ es1.length; omega
    · simp [he2.1]
    · simp only [hmn, List.take_succ_cons, List.take_zero, List.all_cons, List.all_nil, he2.1, he2.2.1]; rfl
    rw [hh2]
    (repeat' (first | refine EvOps.nil ?_ | refine Ev.seq ?_ | refine Ev.regionD ?_ | (apply D.move; exact rfl) | (apply D.arith; exact rfl; exact rfl; exact rfl; exact (wrapI (by omega) (by omega))) | refine thenQ.normal ?_ | fail))
    apply D.slice
    · exact hcl2
    · exact rfl
    · exact hvisn es2
    · exact rfl
    · exact rfl
    · exact rfl
    · exact rfl
    · exact rfl
    · exact rfl
    · show sliceP C0.P _ 26 (.mref h.length 0 0 (len + 1)) (some (.int .i64 ((i : Int) + 1))) none none = _
      rw [hj]
      exact sliceLo_m1 hu hs63 (hgn es2) (by omega) (by show len + 1 ≤ es2.length; omega)
    (repeat' (first | (apply D.move; exact rfl) | fail))
    apply D.slice
    · exact hcl2
    · exact rfl
    · exact hvis es2
    · exact rfl
    · exact rfl
    · exact rfl
    · exact rfl
    · exact rfl
    · exact rfl
    · exact sliceLo_m1 hu hsz (hgo es2) hi hle
    apply D.copy T6 (ys := ys) (o := ⟨.m, 0, 5, es2⟩) (sz := 5)
    · exact rfl
    · exact rfl
    · exact rfl
    · exact rfl
    · exact rfl
    · simp only [elems, hgo]
      rw [if_pos (by omega), hys]
    · exact hgn es2
    · exact rfl
    · exact rfl
    · show i + 1 + (len + 1 - (i + 1)) ≤ es2.length; omega
    · rw [List.all_eq_true]
      intro v hv
      have := List.all_eq_true.1 hyok v hv
      unfold okV at this
      simp only [Bool.and_eq_true] at this
      exact this.1.2
    · rw [hmn2, hyt, List.all_eq_true]
      intro v hv
      have := List.all_eq_true.1 hyok v hv
      unfold okV at this
      simp only [Bool.and_eq_true] at this ⊢
      exact ⟨this.1.2, this.2⟩
    refine EvD.heap hh3 ?_
    (repeat' (first | refine EvOps.nil ?_ | (apply R.move; exact rfl) | (apply R.assign; exact rfl) | refine Ev.seq ?_ | refine Ev.region ?_ | refine EvD.nil ?_ | refine Ev.ret ?_ | refine thenQ.normal ?_ | fail))
    exact ⟨rfl, _, St.keep ⟨rfl, trivial⟩⟩
  rintro ex s8 a8 w8 β8 ⟨rfl, ρ8, rfl⟩ R8 S8
  have SS := (((S1.trans S3).trans S5).trans S8)
  refine ⟨.inr rfl, _, β8, R8, SS, [.mref h.length 0 0 (len + 1)], ?_, fun u hu' => ⟨β8, hu', R8.hr, SS⟩⟩
  · exact resT_of (L := [(6, .mref h.length 0 0 (len + 1))]) rfl
  all_goals rfl
end Zero
end Go.Pm
end
