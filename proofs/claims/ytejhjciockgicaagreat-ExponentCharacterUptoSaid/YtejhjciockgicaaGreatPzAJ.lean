/-
  A part of the library Pm and its contracts (joined by program): PmChrR2 PmMade PmAll PmLink1 PmChrP PmChrQ PmLawM PmLawC PmDel PmInsP PmIO. Conditions: none.
-/
import Derived.Test.YtejhjciockgicaaGreatPzAI
import Derived.Test.YtejhjciockgicaaGreatPzAH
import Derived.Test.YtejhjciockgicaaGreatPzAF
import Derived.Lib.Overlaps
/-
  CHAPTER 6, PART 51: characters, the reference's right and CheckRefute. Conditions: none.
-/
section
set_option linter.unusedVariables false
set_option linter.unusedSimpArgs false
set_option linter.unusedVariables false
set_option linter.unusedSimpArgs false
set_option maxRecDepth 4000
namespace Go.Pm
open Go.Proofs
theorem at_encPPs {l p q : List (List Pw)} {x : List Pw} (e : l = p ++ x :: q) : (encPPs l)[p.length]? = some (.snap false (encPs x)) := by rw [encPPs, e]; simp
@[simp] theorem encPPs_lenS (l : List (List Pw)) : (encPPs l).length = l.length := by simp [encPPs]
@[simp] theorem encPPs_vals (l : List (List Pw)) : isVals (encPPs l) = true := by induction l with | nil => rfl | cons x l ih => simpa [encPPs] using ih
@[simp] theorem encPPs_nrms (l : List (List Pw)) : nrms (encPPs l) = encPPs l := by induction l with | nil => rfl | cons x l ih => simpa [encPPs] using ih
theorem rgtGo_split {p q : List Pw} {x : Pw} {l : List Pw} (e : l = p ++ x :: q) (i : Nat) (hp : p ≠ []) : ∃ y, p.getLast? = some y ∧ l[p.length - 1]? = some y := by
  refine ⟨p.getLast hp, List.getLast?_eq_some_getLast hp, ?_⟩
  rw [e, List.getElem?_append_left (by have := List.length_pos_iff.2 hp; omega), List.getLast_eq_getElem hp, List.getElem?_eq_getElem]
attribute [local irreducible] thenQ blockQ loopQ bodyQ Ev EvOps CallEv FnEv EvD
theorem right_fun (c : Int) (vs : List Pw) (sv : Sm vs) : Fun C 46 [.agg [.int .i64 c, .snap false (encPs vs)]] (.bool (rgtC c vs)) := by
  have hel := encPs_len vs
  have hl2 := sv.2
  refine Fun.x T6 Tryz.func46 rfl ?_
  (repeat' (first | (refine Rn.go ?_; conv => whnf) | refine .mk ?_ | refine .tt ?_ | refine .ff ?_ | refine .m2 ?_ | refine .m3 ?_ | refine .mk (fun hc => ?_) (fun hc => ?_) | refine .lp (fun v H lp => ?_) | fail))
  all_goals first | (refine ⟨_, rfl, ?_⟩; rw [rgtC, if_pos (by omega)]; rfl) | skip
  refine LpX.zip T6 vs (fun p q L H => L = [(1, .ptr 0 0 0 0), (3, .int .i64 p.length)] ∧ HV H ∧ H[0]? = some ⟨.m, 0, 2, [.agg [.int .i64 c, .snap false (encPs vs)]]⟩ ∧ rgtC c vs = rgtGo (lastT none p) q) (.nx ⟨rfl, HV.one rfl, rfl, by rw [rgtC, if_neg (by omega)]; rfl⟩) ?_ ?_
  · rintro p ⟨u, n⟩ r _ h ρ e ⟨rfl, hH, h0, hg⟩
    have hat := at_encPs e
    have hl3 := congrArg List.length e
    simp only [List.length_append, List.length_cons] at hl3
    have hsm := sv.1 (u, n) (by rw [e]; simp)
    have hv := rvalid_fun u hsm
    have hsp : Fun C 82 [enc u] (.bool (special u)) := by obtain ⟨k1, s1, o1, l1⟩ := u; exact rspecial_fun k1 s1 o1 l1
    rw [rgtGo_cons] at hg
    (repeat' (first | (refine Rn.go ?_; conv => whnf) | refine .mk ?_ | refine .tt ?_ | refine .ff ?_ | refine .m2 ?_ | refine .m3 ?_ | refine .mk (fun hc => ?_) (fun hc => ?_) | refine .lp (fun v H lp => ?_) | fail))
    refine .p hv ?_
    (repeat' (first | (refine Rn.go ?_; conv => whnf) | refine .mk ?_ | refine .tt ?_ | refine .ff ?_ | refine .m2 ?_ | refine .m3 ?_ | refine .mk (fun hc => ?_) (fun hc => ?_) | refine .lp (fun v H lp => ?_) | fail))
    rotate_left
    · exact ⟨_, rfl, by rw [hg, if_pos (.inl hc)]; rfl⟩
    have v0 := hc
    clear hc hv
    refine .p hsp ?_
    cases hs : special u
    rotate_left
    · (repeat' (first | (refine Rn.go ?_; conv => whnf) | refine .mk ?_ | refine .tt ?_ | refine .ff ?_ | refine .m2 ?_ | refine .m3 ?_ | refine .mk (fun hc => ?_) (fun hc => ?_) | refine .lp (fun v H lp => ?_) | fail))
      exact ⟨_, rfl, by rw [hg, if_pos (.inr (.inl hs))]; rfl⟩
    rw [hs] at hsp
    rcases List.eq_nil_or_concat p with rfl | ⟨p', ⟨y, ny⟩, rfl⟩
    · (repeat' (first | (refine Rn.go ?_; conv => whnf) | refine .mk ?_ | refine .tt ?_ | refine .ff ?_ | refine .m2 ?_ | refine .m3 ?_ | refine .mk (fun hc => ?_) (fun hc => ?_) | refine .lp (fun v H lp => ?_) | fail))
      all_goals first
        | (refine ⟨_, rfl, ?_⟩; rw [hg, if_pos (by simp only; omega)]; rfl)
        | (refine .nx ⟨rfl, hH.app (HV.one (by simp)), by rw [List.getElem?_append_left (lt_of_some h0)]; exact h0, ?_⟩
           rw [hg, if_neg (by simp [v0, hs, lastT, bef]; omega)]; rfl)
    · have hy : (encPs vs)[p'.length]? = some (.agg [.int .i64 y.k, .str y.s, .int .i64 y.o, .snap false (encs y.l), .int .i64 ny]) := at_encPs (q := (u, n) :: r) (by rw [e]; simp)
      have hcm := rcmp_fun y u (sv.1 (y, ny) (by rw [e]; simp)) hsm
      have hll : (p'.concat (y, ny)).length = p'.length + 1 := by simp
      rw [List.concat_eq_append, lastT_snoc, bef] at hg
      (repeat' (first | (refine Rn.go ?_; conv => whnf) | refine .mk ?_ | refine .tt ?_ | refine .ff ?_ | refine .m2 ?_ | refine .m3 ?_ | refine .mk (fun hc => ?_) (fun hc => ?_) | refine .lp (fun v H lp => ?_) | fail))
      all_goals first
        | (refine ⟨_, rfl, ?_⟩; rw [hg, if_pos (by simp only; omega)]; rfl)
        | skip
      refine .mk (n := p'.length) ?_ (by omega) hy
      (repeat' (first | (refine Rn.go ?_; conv => whnf) | refine .mk ?_ | refine .tt ?_ | refine .ff ?_ | refine .m2 ?_ | refine .m3 ?_ | refine .mk (fun hc => ?_) (fun hc => ?_) | refine .lp (fun v H lp => ?_) | fail))
      refine .p hcm ?_
      (repeat' (first | (refine Rn.go ?_; conv => whnf) | refine .mk ?_ | refine .tt ?_ | refine .ff ?_ | refine .m2 ?_ | refine .m3 ?_ | refine .mk (fun hc => ?_) (fun hc => ?_) | refine .lp (fun v H lp => ?_) | fail))
      · exact ⟨_, rfl, by rw [hg, if_pos (by simp only; simp [hc])]; rfl⟩
      · refine .nx ⟨rfl, hH.app (HV.one (by simp)), by rw [List.getElem?_append_left (lt_of_some h0)]; exact h0, ?_⟩
        rw [hg, if_neg (by simp [v0, hs]; omega), lastT_snoc]
  · rintro _ h ρ ⟨rfl, hH, h0, hg⟩
    (repeat' (first | (refine Rn.go ?_; conv => whnf) | refine .mk ?_ | refine .tt ?_ | refine .ff ?_ | refine .m2 ?_ | refine .m3 ?_ | refine .mk (fun hc => ?_) (fun hc => ?_) | refine .lp (fun v H lp => ?_) | fail))
    exact ⟨_, rfl, by rw [hg, rgtGo_nil]; rfl⟩
theorem rcr_fun (c : Int) (vs m : List Pw) (l : List (List Pw)) (sv : Sm vs) (sm : ∀ p ∈ m, bulk p.1 < 100000000) (lm : m.length < 100000000) (sl : ∀ x ∈ l, (∀ p ∈ x, bulk p.1 < 100000000) ∧ x.length < 100000000) (ll : l.length < 100000000) :
    Fun C 11 [.snap false (encPPs l), .snap false (encPs m), .agg [.int .i64 c, .snap false (encPs vs)]]
      (.bool (decide (validP m = 0) && rgtC c vs && l.all (fun x => decide (validP x = 0) && decide (valC c vs x = 0)) && decide (valC c vs m ≠ 0))) := by
  have hel := encPs_len m
  have hell : (encPPs l).length = l.length := by simp
  have hvm := rpvalid_fun m sm lm
  have hrg := right_fun c vs sv
  refine Fun.x T6 Tryz.func11 rfl ?_
  (repeat' (first | (refine Rn.go ?_; conv => whnf) | refine .mk ?_ | refine .tt ?_ | refine .ff ?_ | refine .m2 ?_ | refine .m3 ?_ | refine .mk (fun hc => ?_) (fun hc => ?_) | refine .lp (fun v H lp => ?_) | fail))
  refine .p hvm ?_
  (repeat' (first | (refine Rn.go ?_; conv => whnf) | refine .mk ?_ | refine .tt ?_ | refine .ff ?_ | refine .m2 ?_ | refine .m3 ?_ | refine .mk (fun hc => ?_) (fun hc => ?_) | refine .lp (fun v H lp => ?_) | fail))
  rotate_left
  · exact ⟨_, rfl, by simp [hc, tupOf]⟩
  have vm := hc
  clear hc
  refine .p hrg ?_
  cases hr : rgtC c vs
  · (repeat' (first | (refine Rn.go ?_; conv => whnf) | refine .mk ?_ | refine .tt ?_ | refine .ff ?_ | refine .m2 ?_ | refine .m3 ?_ | refine .mk (fun hc => ?_) (fun hc => ?_) | refine .lp (fun v H lp => ?_) | fail))
    exact ⟨_, rfl, by simp [tupOf]⟩
  obtain ⟨bv, _, _, _⟩ := rgtGo_ok (l := vs) (pr := none) (by unfold rgtC at hr; split at hr; cases hr; exact hr)
  have hcq : c = 0 ∨ 1 ≤ c ∧ c ≤ 35184372088832 := by unfold rgtC at hr; split at hr; cases hr; omega
  rw [hr] at hrg
  have fv : ∀ x, validP x = 0 → (∀ p ∈ x, bulk p.1 < 100000000) → Fun C 47 [.snap false (encPs x), .agg [.int .i64 c, .snap false (encPs vs)]] (.int .i64 (valC c vs x)) := fun x hx hb => by
    obtain ⟨h1, h2, _⟩ := validP_zero hx
    exact value_fun c vs x hcq bv sv h2 h1 ⟨fun p hp => by have := hb p hp; omega, by omega⟩
  have hval := fv m vm sm
  (repeat' (first | (refine Rn.go ?_; conv => whnf) | refine .mk ?_ | refine .tt ?_ | refine .ff ?_ | refine .m2 ?_ | refine .m3 ?_ | refine .mk (fun hc => ?_) (fun hc => ?_) | refine .lp (fun v H lp => ?_) | fail))
  refine LpX.zip T6 l (fun p q L H => L = [(0, .snap false (encPPs l)), (1, .snap false (encPs m)), (5, .ptr 0 0 0 0), (7, .int .i64 p.length)] ∧ H = [⟨.m, 0, 2, [.agg [.int .i64 c, .snap false (encPs vs)]]⟩] ∧ (p.all fun x => decide (validP x = 0) && decide (valC c vs x = 0)) = true) (.nx ⟨rfl, rfl, rfl⟩) ?_ ?_
  · rintro p x q _ _ ρ e ⟨rfl, rfl, hp⟩
    have hat := at_encPPs e
    have hl3 := congrArg List.length e
    simp only [List.length_append, List.length_cons] at hl3
    obtain ⟨s1, s2⟩ := sl x (by rw [e]; simp)
    have hvx := rpvalid_fun x s1 s2
    (repeat' (first | (refine Rn.go ?_; conv => whnf) | refine .mk ?_ | refine .tt ?_ | refine .ff ?_ | refine .m2 ?_ | refine .m3 ?_ | refine .mk (fun hc => ?_) (fun hc => ?_) | refine .lp (fun v H lp => ?_) | fail))
    refine .p hvx ?_
    (repeat' (first | (refine Rn.go ?_; conv => whnf) | refine .mk ?_ | refine .tt ?_ | refine .ff ?_ | refine .m2 ?_ | refine .m3 ?_ | refine .mk (fun hc => ?_) (fun hc => ?_) | refine .lp (fun v H lp => ?_) | fail))
    · have hvv := fv x hc s1
      refine .p hvv ?_
      (repeat' (first | (refine Rn.go ?_; conv => whnf) | refine .mk ?_ | refine .tt ?_ | refine .ff ?_ | refine .m2 ?_ | refine .m3 ?_ | refine .mk (fun hc => ?_) (fun hc => ?_) | refine .lp (fun v H lp => ?_) | fail))
      · exact .nx ⟨rfl, rfl, by rw [List.all_append, hp]; simp [*]⟩
      · exact ⟨_, rfl, by rw [e, List.all_append, List.all_cons]; simp [*, tupOf]⟩
    · exact ⟨_, rfl, by rw [e, List.all_append, List.all_cons]; simp [hc, tupOf]⟩
  · rintro _ _ ρ ⟨rfl, rfl, hp⟩
    (repeat' (first | (refine Rn.go ?_; conv => whnf) | refine .mk ?_ | refine .tt ?_ | refine .ff ?_ | refine .m2 ?_ | refine .m3 ?_ | refine .mk (fun hc => ?_) (fun hc => ?_) | refine .lp (fun v H lp => ?_) | fail))
    refine .p hval ?_
    (repeat' (first | (refine Rn.go ?_; conv => whnf) | refine .mk ?_ | refine .tt ?_ | refine .ff ?_ | refine .m2 ?_ | refine .m3 ?_ | refine .mk (fun hc => ?_) (fun hc => ?_) | refine .lp (fun v H lp => ?_) | fail))
    all_goals exact ⟨_, rfl, by rw [hp]; simp [*, tupOf]⟩
end Go.Pm
end

/-
  CHAPTER 6, PART 43: Atom, Made. Conditions: none.
-/
section
set_option linter.unusedVariables false
set_option linter.unusedSimpArgs false
set_option linter.unusedVariables false
set_option linter.unusedSimpArgs false
set_option maxRecDepth 4000
namespace Go.Pm
open Go.Proofs
def sAbc : ByteArray := ⟨#[97, 98, 99, 100, 101, 102]⟩
def atm (i : Nat) : Tm := .mk 2 (sAbc.extract i (i + 1)) 2 []
def madeI : Nat → List Int → List Pw
  | _, [] => []
  | i, x :: l => if x = 0 then madeI (i + 1) l else (atm i, x) :: madeI (i + 1) l
def made (l : List Int) : List Pw := madeI 0 (l.take 6)
theorem madeI_snoc (x : Int) : ∀ (i : Nat) (l : List Int), madeI i (l ++ [x]) = madeI i l ++ if x = 0 then [] else [(atm (i + l.length), x)]
  | i, [] => by simp [madeI]
  | i, y :: l => by
    have ih := madeI_snoc x (i + 1) l
    simp only [List.cons_append, madeI, ih, List.length_cons, show i + 1 + l.length = i + (l.length + 1) by omega]
    split <;> simp
theorem madeI_len : ∀ (i : Nat) (l : List Int), (madeI i l).length ≤ l.length
  | i, [] => by simp [madeI]
  | i, y :: l => by have := madeI_len (i + 1) l; simp only [madeI]; split <;> simp <;> omega
def encI8 (l : List Int) : List PV := l.map fun x => .int .i8 x
theorem at_encI8 {l p q : List Int} {x : Int} (e : l = p ++ x :: q) : (encI8 l)[p.length]? = some (.int .i8 x) := by rw [encI8, e]; simp
@[simp] theorem encI8_len (l : List Int) : (encI8 l).length = l.length := by simp [encI8]
@[simp] theorem encI8_vals (l : List Int) : isVals (encI8 l) = true := by induction l with | nil => rfl | cons x l ih => simpa [encI8] using ih
@[simp] theorem encI8_nrms (l : List Int) : nrms (encI8 l) = encI8 l := by induction l with | nil => rfl | cons x l ih => simpa [encI8] using ih
attribute [local irreducible] thenQ blockQ loopQ bodyQ Ev EvOps CallEv FnEv EvD
theorem atom_fun (s : ByteArray) (n : Int) : Fun C 24 [.str s, .int .i64 n] (enc (.mk 2 s n [])) := by
  rw [enc_mk]
  refine Fun.x T6 Tryz.func24 rfl ?_
  (repeat' (first | (refine Rn.go ?_; conv => whnf) | refine .mk ?_ | refine .tt ?_ | refine .ff ?_ | refine .m2 ?_ | refine .m3 ?_ | refine .mk (fun hc => ?_) (fun hc => ?_) | refine .lp (fun v H lp => ?_) | fail))
  exact ⟨_, rfl, by simp [tupOf, nrm, nrms]⟩
theorem made_fun (l : List Int) (hl : l.length < 1000000000) (hr : ∀ x ∈ l, -128 ≤ x ∧ x ≤ 127) : Fun C 30 [.snap false (encI8 l)] (.snap false (encPs (made l))) := by
  have hel := encI8_len l
  have hsz : (ByteArray.mk #[97, 98, 99, 100, 101, 102]).size = 6 := rfl
  refine Fun.x T6 Tryz.func30 rfl ?_
  (repeat' (first | (refine Rn.go ?_; conv => whnf) | refine .mk ?_ | refine .tt ?_ | refine .ff ?_ | refine .m2 ?_ | refine .m3 ?_ | refine .mk (fun hc => ?_) (fun hc => ?_) | refine .lp (fun v H lp => ?_) | fail))
  refine LpX.zip T6 (l.take 6) (fun p q L H => ∃ v, L = [(0, .snap false (encI8 l)), (3, v), (4, .int .i64 p.length)] ∧ HV H ∧ Out 5 H v (encPs (madeI 0 p))) (.nx ⟨_, rfl, HV.nil, .inl ⟨rfl, rfl⟩⟩) ?_ ?_
  · rintro p x q _ h ρ e ⟨v, rfl, hH, ho⟩
    have hl2 := congrArg List.length e
    simp only [List.length_append, List.length_cons, List.length_take] at hl2
    have e2 : l = p ++ x :: (q ++ l.drop 6) := by have := (List.take_append_drop 6 l).symm; rw [e] at this; simpa using this
    have hat := at_encI8 e2
    have hx := hr x (by rw [e2]; simp)
    have hll := madeI_len 0 p
    have hlp : (encPs (madeI 0 p)).length = (madeI 0 p).length := encPs_len _
    have hsn := madeI_snoc x 0 p
    rw [Nat.zero_add] at hsn
    have hatm := atom_fun ((ByteArray.mk #[97, 98, 99, 100, 101, 102]).extract p.length (p.length + 1)) 2
    rw [enc_mk] at hatm
    (repeat' (first | (refine Rn.go ?_; conv => whnf) | refine .mk ?_ | refine .tt ?_ | refine .ff ?_ | refine .m2 ?_ | refine .m3 ?_ | refine .mk (fun hc => ?_) (fun hc => ?_) | refine .lp (fun v H lp => ?_) | fail))
    · refine .nx ⟨v, rfl, hH, ?_⟩
      rw [hsn, if_pos hc]; simpa using ho
    · refine .p hatm ?_
      (repeat' (first | (refine Rn.go ?_; conv => whnf) | refine .mk ?_ | refine .tt ?_ | refine .ff ?_ | refine .m2 ?_ | refine .m3 ?_ | refine .mk (fun hc => ?_) (fun hc => ?_) | refine .lp (fun v H lp => ?_) | fail))
      refine .nx ⟨_, rfl, lp.hv, ?_⟩
      rw [hsn, if_neg hc]
      have := lp.out
      rwa [show ([PV.agg [.int .i64 2, .str ((ByteArray.mk #[97, 98, 99, 100, 101, 102]).extract p.length (p.length + 1)), .int .i64 2, .snap false (encs []), .int .i64 x]] : List PV) = encPs [(atm p.length, x)] from rfl, encPs, encPs, ← List.map_append] at this
  · rintro _ h ρ ⟨v, rfl, hH, ho⟩
    have hl6 : (l.take 6).length = min 6 l.length := by simp
    obtain ⟨r1, e1, e2⟩ := ho.rbA (encPs_vals _)
    have fin : ∃ r1, rb h (tupOf [v]) = some r1 ∧ nrm r1 = .snap false (encPs (made l)) := ⟨r1, by rcases ho with ⟨rfl, _⟩ | ⟨id, ep, rfl, _⟩ <;> exact e1, by simpa [made] using e2⟩
    (repeat' (first | (refine Rn.go ?_; conv => whnf) | refine .mk ?_ | refine .tt ?_ | refine .ff ?_ | refine .m2 ?_ | refine .m3 ?_ | refine .mk (fun hc => ?_) (fun hc => ?_) | refine .lp (fun v H lp => ?_) | fail))
    all_goals exact fin
theorem atm_ok : ∀ i, i < 6 → valid (atm i) = 0 ∧ special (atm i) = false ∧ bulk (atm i) < 100 := by decide +kernel
theorem atm_lt : ∀ i, i < 6 → ∀ j, j < i → cmpT (atm j) (atm i) < 0 := by decide +kernel
end Go.Pm
end

/-
  CHAPTER 6, PART 52: the reference's All. Conditions: none.
-/
section
set_option linter.unusedVariables false
set_option linter.unusedSimpArgs false
set_option linter.unusedVariables false
set_option linter.unusedSimpArgs false
set_option maxRecDepth 4000
namespace Go.Pm
open Go.Proofs
def stepA (mix : List Int) (m : List Pw) (i : Nat) (x : List Int) : List Pw :=
  match mix[i]? with
  | none => m
  | some k => if (timesT (made x) k).2 = 0 then (if (mulT m (timesT (made x) k).1).2 = 0 then (mulT m (timesT (made x) k).1).1 else m) else m
def allM (mix : List Int) : Nat → List (List Int) → List Pw → List Pw
  | _, [], m => m
  | i, x :: l, m => allM mix (i + 1) l (stepA mix m i x)
def SmA (m : List Pw) : Prop := (∀ p ∈ m, bulk p.1 < 10000000) ∧ m.length ≤ 200
theorem resP_sm {l : List Pw} (h : ∀ p ∈ l, bulk p.1 < 10000000) : SmA (resP l).1 := by
  unfold resP
  split
  · exact ⟨(fun p hp => by cases hp), by simp⟩
  · split
    · exact ⟨(fun p hp => by cases hp), by simp⟩
    · exact ⟨h, by simp only; omega⟩
theorem mulT_sm {a b : List Pw} (ha : ∀ p ∈ a, bulk p.1 < 10000000) (hb : ∀ p ∈ b, bulk p.1 < 10000000) : SmA (mulT a b).1 := by
  unfold mulT
  split
  · exact ⟨(fun p hp => by cases hp), by simp⟩
  · split
    · exact ⟨(fun p hp => by cases hp), by simp⟩
    · exact resP_sm (mulP_bulk ha hb)
theorem timesT_sm {a : List Pw} (m : Int) (ha : ∀ p ∈ a, bulk p.1 < 10000000) : SmA (timesT a m).1 := by
  unfold timesT
  split
  · exact ⟨(fun p hp => by cases hp), by simp⟩
  · split
    · exact ⟨(fun p hp => by cases hp), by simp⟩
    · refine resP_sm fun p hp => ?_
      unfold tmsP at hp
      split at hp
      · cases hp
      · obtain ⟨q, hq, rfl⟩ := List.mem_map.1 hp; exact ha q hq
theorem made_mem : ∀ (i : Nat) (l : List Int), ∀ p ∈ madeI i l, ∃ j, p.1 = atm j
  | _, [], p, hp => by simp [madeI] at hp
  | i, x :: l, p, hp => by
    simp only [madeI] at hp
    split at hp
    · exact made_mem (i + 1) l p hp
    · rcases List.mem_cons.1 hp with rfl | hp
      · exact ⟨i, rfl⟩
      · exact made_mem (i + 1) l p hp
theorem atm_bulk (i : Nat) : bulk (atm i) < 100 := by
  have : (sAbc.extract i (i + 1)).size ≤ 6 := by
    have : sAbc.size = 6 := rfl
    simp [ByteArray.size_extract]; omega
  simp only [atm, bulk, bulks]; omega
theorem made_sm (l : List Int) : SmA (made l) := by
  refine ⟨fun p hp => ?_, ?_⟩
  · obtain ⟨j, e⟩ := made_mem 0 _ p hp
    rw [e]; have := atm_bulk j; omega
  · have := madeI_len 0 (l.take 6)
    simp only [List.length_take] at this
    unfold made; omega
theorem stepA_sm {mix : List Int} {m : List Pw} (i : Nat) (x : List Int) (h : SmA m) : SmA (stepA mix m i x) := by
  unfold stepA
  split
  · exact h
  · split
    · split
      · exact mulT_sm h.1 (timesT_sm _ (made_sm x).1).1
      · exact h
    · exact h
theorem allM_sm {mix : List Int} : ∀ {l : List (List Int)} {i : Nat} {m : List Pw}, SmA m → SmA (allM mix i l m)
  | [], _, _, h => h
  | x :: l, i, m, h => allM_sm (l := l) (stepA_sm i x h)
def encLL (l : List (List Int)) : List PV := l.map fun x => .snap false (encI8 x)
theorem at_encLL {l p q : List (List Int)} {x : List Int} (e : l = p ++ x :: q) : (encLL l)[p.length]? = some (.snap false (encI8 x)) := by rw [encLL, e]; simp
@[simp] theorem encLL_len (l : List (List Int)) : (encLL l).length = l.length := by simp [encLL]
@[simp] theorem encLL_vals (l : List (List Int)) : isVals (encLL l) = true := by induction l with | nil => rfl | cons x l ih => simpa [encLL] using ih
@[simp] theorem encLL_nrms (l : List (List Int)) : nrms (encLL l) = encLL l := by induction l with | nil => rfl | cons x l ih => simpa [encLL] using ih
def i8L (l : List Int) : Prop := ∀ x ∈ l, -128 ≤ x ∧ x ≤ 127
attribute [local irreducible] thenQ blockQ loopQ bodyQ Ev EvOps CallEv FnEv EvD
theorem ret_ls {h : AHeap} {v : PV} {l : List (List Pw)} {m : List Pw} (o : Out 1 h v (encPPs l)) : ∃ r1, rb h (tupOf [v, .snap false (encPs m)]) = some r1 ∧ nrm r1 = .tup [.snap false (encPPs l), .snap false (encPs m)] := by
  obtain ⟨r1, h1, h2⟩ := o.rbA (encPPs_vals _)
  refine ⟨.tup [r1, .snap false (encPs m)], by simp only [tupOf, rb, rbAs, h1]; rfl, ?_⟩
  simp only [nrm, nrms, h2, encPPs_nrms, nrms_encPs]
theorem all_fun (l : List (List Int)) (mix rest : List Int) (hl : ∀ x ∈ l, i8L x ∧ x.length < 1000000000) (ll : l.length < 1000000000) (hm : i8L mix) (lm : mix.length < 1000000000) (hr : i8L rest) (lr : rest.length < 1000000000) :
    Fun C 9 [.agg [.snap false (encLL l), .snap false (encI8 mix), .snap false (encI8 rest)]] (.tup [.snap false (encPPs ((l.take 8).map made)), .snap false (encPs (allM mix 0 (l.take 8) (made rest)))]) := by
  have hel := encLL_len l
  have hmr := made_fun rest lr hr
  have hem := encI8_len mix
  refine Fun.x T6 Tryz.func9 rfl ?_
  (repeat' (first | (refine Rn.go ?_; conv => whnf) | refine .mk ?_ | refine .tt ?_ | refine .ff ?_ | refine .m2 ?_ | refine .m3 ?_ | refine .mk (fun hc => ?_) (fun hc => ?_) | refine .lp (fun v H lp => ?_) | fail))
  refine .p hmr ?_
  (repeat' (first | (refine Rn.go ?_; conv => whnf) | refine .mk ?_ | refine .tt ?_ | refine .ff ?_ | refine .m2 ?_ | refine .m3 ?_ | refine .mk (fun hc => ?_) (fun hc => ?_) | refine .lp (fun v H lp => ?_) | fail))
  refine LpX.zip T6 (l.take 8) (fun p q L H => ∃ v m, L = [(1, .ptr 0 0 0 0), (4, v), (5, .snap false (encPs m)), (6, .int .i64 p.length)] ∧ HV H ∧ H[0]? = some ⟨.m, 0, 3, [.agg [.snap false (encLL l), .snap false (encI8 mix), .snap false (encI8 rest)]]⟩ ∧ Out 1 H v (encPPs (p.map made)) ∧ (∀ ep n, v ≠ .mref 0 ep 0 n) ∧ SmA m ∧ allM mix 0 (l.take 8) (made rest) = allM mix p.length q m) (.nx ⟨_, _, rfl, HV.one rfl, rfl, .inl ⟨rfl, rfl⟩, (fun _ _ h => by cases h), made_sm _, rfl⟩) ?_ ?_
  · rintro p x q _ h ρ e ⟨v, m, rfl, hH, h0, ho, hv0, sm, hg⟩
    have hl2 := congrArg List.length e
    simp only [List.length_append, List.length_cons, List.length_take] at hl2
    have e2 : l = p ++ x :: (q ++ l.drop 8) := by have := (List.take_append_drop 8 l).symm; rw [e] at this; simpa using this
    have hat := at_encLL e2
    obtain ⟨hx1, hx2⟩ := hl x (by rw [e2]; simp)
    have hmx := made_fun x hx2 hx1
    have hlp : (encPPs (p.map made)).length = p.length := by simp
    (repeat' (first | (refine Rn.go ?_; conv => whnf) | refine .mk ?_ | refine .tt ?_ | refine .ff ?_ | refine .m2 ?_ | refine .m3 ?_ | refine .mk (fun hc => ?_) (fun hc => ?_) | refine .lp (fun v H lp => ?_) | fail))
    refine .p hmx ?_
    (repeat' (first | (refine Rn.go ?_; conv => whnf) | refine .mk ?_ | refine .tt ?_ | refine .ff ?_ | refine .m2 ?_ | refine .m3 ?_ | refine .mk (fun hc => ?_) (fun hc => ?_) | refine .lp (fun v H lp => ?_) | fail))
    obtain ⟨h0', hv0'⟩ := lp.obj h0 hv0
    have hH' := lp.hv
    have lpo := lp.out
    have hpp : encPPs (p.map made) ++ [.snap false (encPs (made x))] = encPPs ((p ++ [x]).map made) := by simp [encPPs]
    rw [hpp] at lpo
    have lpo' := lpo
    have hlp2 : (encPPs ((p ++ [x]).map made)).length = p.length + 1 := by simp
    rcases lpo with ⟨rfl, hn⟩ | ⟨id, ep, rfl, e1⟩
    · rw [hn] at hlp2; simp at hlp2
    have hat2 : (encPPs ((p ++ [x]).map made))[0 + p.length]? = some (.snap false (encPs (made x))) := by rw [Nat.zero_add]; simp [encPPs]
    by_cases hi : p.length < mix.length
    · obtain ⟨k, hk⟩ : ∃ k, mix[p.length]? = some k := ⟨mix[p.length], List.getElem?_eq_getElem hi⟩
      have hatm : (encI8 mix)[p.length]? = some (.int .i8 k) := by rw [encI8, List.getElem?_map, hk]; rfl
      have hk2 := hm k (List.mem_of_getElem? hk)
      have hst : stepA mix m p.length x = if (timesT (made x) k).2 = 0 then (if (mulT m (timesT (made x) k).1).2 = 0 then (mulT m (timesT (made x) k).1).1 else m) else m := by rw [stepA, hk]
      have hti := rtimes_fun (made x) k (made_sm x).1 (by have := (made_sm x).2; omega)
      have tsm := timesT_sm k (made_sm x).1
      have hmu := rmul_fun m (timesT (made x) k).1 sm.1 tsm.1 (by have := sm.2; omega) (by have := tsm.2; omega)
      have ssm := stepA_sm (mix := mix) p.length x sm
      rw [allM] at hg
      (repeat' (first | (refine Rn.go ?_; conv => whnf) | refine .mk ?_ | refine .tt ?_ | refine .ff ?_ | refine .m2 ?_ | refine .m3 ?_ | refine .mk (fun hc => ?_) (fun hc => ?_) | refine .lp (fun v H lp => ?_) | fail))
      refine .p hti ?_
      (repeat' (first | (refine Rn.go ?_; conv => whnf) | refine .mk ?_ | refine .tt ?_ | refine .ff ?_ | refine .m2 ?_ | refine .m3 ?_ | refine .mk (fun hc => ?_) (fun hc => ?_) | refine .lp (fun v H lp => ?_) | fail))
      · refine .p hmu ?_
        (repeat' (first | (refine Rn.go ?_; conv => whnf) | refine .mk ?_ | refine .tt ?_ | refine .ff ?_ | refine .m2 ?_ | refine .m3 ?_ | refine .mk (fun hc => ?_) (fun hc => ?_) | refine .lp (fun v H lp => ?_) | fail))
        · exact .nx ⟨_, _, rfl, hH', h0', lpo', hv0', by rw [hst, if_pos (by assumption), if_pos hc] at ssm; exact ssm, by rw [hg, hst, if_pos (by assumption), if_pos hc]; simp⟩
        · exact .nx ⟨_, _, rfl, hH', h0', lpo', hv0', sm, by rw [hg, hst, if_pos (by assumption), if_neg hc]; simp⟩
      · exact .nx ⟨_, _, rfl, hH', h0', lpo', hv0', sm, by rw [hg, hst, if_neg hc]; simp⟩
    · have hst : stepA mix m p.length x = m := by rw [stepA, List.getElem?_eq_none (by omega)]
      rw [allM, hst] at hg
      (repeat' (first | (refine Rn.go ?_; conv => whnf) | refine .mk ?_ | refine .tt ?_ | refine .ff ?_ | refine .m2 ?_ | refine .m3 ?_ | refine .mk (fun hc => ?_) (fun hc => ?_) | refine .lp (fun v H lp => ?_) | fail))
      exact .nx ⟨_, _, rfl, hH', h0', lpo', hv0', sm, by rw [hg]; simp⟩
  · rintro _ h ρ ⟨v, m, rfl, hH, h0, ho, hv0, sm, hg⟩
    have hl6 : (l.take 8).length = min 8 l.length := by simp
    rw [allM] at hg
    (repeat' (first | (refine Rn.go ?_; conv => whnf) | refine .mk ?_ | refine .tt ?_ | refine .ff ?_ | refine .m2 ?_ | refine .m3 ?_ | refine .mk (fun hc => ?_) (fun hc => ?_) | refine .lp (fun v H lp => ?_) | fail))
    all_goals (rw [hg]; exact ret_ls ho)
end Go.Pm
end

/-
  CHAPTER 6, PART 56: the reading of descriptions and of characters. Conditions: none.
-/
section
set_option linter.unusedVariables false
set_option linter.unusedSimpArgs false
set_option linter.unusedVariables false
set_option linter.unusedSimpArgs false
set_option maxRecDepth 100000
set_option maxHeartbeats 2000000
namespace Go.Pm
open Go.Proofs Go.ChangeShapes Go.WideShapes
theorem ones {α : Type} : ∀ (l : List α), (l.map fun _ => 1).sum = l.length
  | [] => rfl
  | _ :: l => by rw [List.map_cons, List.sum_cons, ones l, List.length_cons]; omega
theorem mem_sumN {α : Type} (f : α → Nat) : ∀ {l : List α} {x : α}, x ∈ l → f x ≤ (l.map f).sum
  | y :: l, x, h => by
    rw [List.map_cons, List.sum_cons]
    rcases List.mem_cons.1 h with rfl | h
    · omega
    · have := mem_sumN f h; omega
theorem len_sumN {α : Type} (f : α → Nat) (hf : ∀ x, 1 ≤ f x) : ∀ (l : List α), l.length ≤ (l.map f).sum
  | [] => by simp
  | y :: l => by have := len_sumN f hf l; have := hf y; rw [List.map_cons, List.sum_cons, List.length_cons]; omega
instance : Inhabited { x : Int // -128 ≤ x ∧ x ≤ 127 } := ⟨⟨0, by decide⟩⟩
instance : Inhabited { l : List Int // i8L l } := ⟨⟨[], by intro x h; cases h⟩⟩
theorem coI8 : C.P.cellsOf 62 = 1 := by kernel_rfl
theorem coI8s : C.P.cellsOf 23 = 1 := by kernel_rfl
theorem coLL : C.P.cellsOf 22 = 1 := by kernel_rfl
theorem coPws : C.P.cellsOf 26 = 1 := by kernel_rfl
theorem coInt : C.P.cellsOf 3 = 1 := by kernel_rfl
theorem coDr : C.P.cellsOf 25 = 3 := by kernel_rfl
theorem coCh : C.P.cellsOf 28 = 2 := by kernel_rfl
theorem unDr : ∃ fs, C.P.underlying 25 = some (.struct fs) ∧ fs.toList.map (fun f => (f.offset, f.type)) = [(0, 22), (1, 23), (2, 23)] := kd_st (T6.hkd 25 _ rfl)
theorem unCh : ∃ fs, C.P.underlying 28 = some (.struct fs) ∧ fs.toList.map (fun f => (f.offset, f.type)) = [(0, 3), (1, 26)] := kd_st (T6.hkd 28 _ rfl)
open Go.Proofs.YtejhjciockgicaaGreat in
theorem read_i8s {H : Type} {ec : TypeId × Value → H} {w : World} {sp : Nat → Bool} {held : Bool} {n : Nat} {cs : List Value} {x : DataW H × List MemPlace} (h : DataW.trod ec C.P w 0 sp held n 23 cs = some x) :
    ∃ (c : Value) (l : List Int), cs = [c] ∧ SRel w NoB c (.snap false (encI8 l)) ∧ i8L l ∧ l.length + 1 ≤ Rows.uptoBulk x.1 := by
  obtain ⟨c, l, hc, h1, h2⟩ := read_slice (E := { x : Int // -128 ≤ x ∧ x ≤ 127 }) (fun e => .int .i8 e.1) (fun _ => 1) (kd_sl (T6.hkd 23 _ rfl)) coI8 (by decide) (fun _ => rfl) (fun n cs x hx => by
    obtain ⟨k, rfl, rfl, hw⟩ := DataW.trod_int (kd_int (T6.hkd 62 _ rfl)) hx
    have hk : -128 ≤ k ∧ k ≤ 127 := by
      simp only [Lit.wf, decide_eq_true_eq, Bool.and_eq_true] at hw
      have h1 : IntKind.i8.min = -128 := rfl
      have h2 : IntKind.i8.max = 127 := rfl
      omega
    exact ⟨⟨k, hk⟩, rfl, fun j hj => by obtain rfl : j = 0 := by omega
                                        exact .int _ _, by simp [Rows.uptoBulk]⟩) h
  refine ⟨c, l.map (·.1), hc, by simpa [encI8] using h1, fun x hx => ?_, ?_⟩
  · obtain ⟨y, _, rfl⟩ := List.mem_map.1 hx; exact y.2
  · rw [ones] at h2
    simp only [List.length_map]; exact h2
open Go.Proofs.YtejhjciockgicaaGreat in
theorem read_LL {H : Type} {ec : TypeId × Value → H} {w : World} {sp : Nat → Bool} {held : Bool} {n : Nat} {cs : List Value} {x : DataW H × List MemPlace} (h : DataW.trod ec C.P w 0 sp held n 22 cs = some x) :
    ∃ (c : Value) (l : List (List Int)), cs = [c] ∧ SRel w NoB c (.snap false (encLL l)) ∧ (∀ y ∈ l, i8L y ∧ y.length < Rows.uptoBulk x.1) ∧ l.length < Rows.uptoBulk x.1 := by
  obtain ⟨c, l, hc, h1, h2⟩ := read_slice (E := { l : List Int // i8L l }) (fun e => .snap false (encI8 e.1)) (fun e => e.1.length + 1) (kd_sl (T6.hkd 22 _ rfl)) coI8s (by decide) (fun _ => rfl) (fun n cs x hx => by
    obtain ⟨c, l, rfl, a1, a2, a3⟩ := read_i8s hx
    exact ⟨⟨l, a2⟩, rfl, fun j hj => by obtain rfl : j = 0 := by omega
                                        exact a1, a3⟩) h
  refine ⟨c, l.map (·.1), hc, by simpa [encLL, List.map_map, Function.comp_def] using h1, fun y hy => ?_, ?_⟩
  · obtain ⟨z, hz, rfl⟩ := List.mem_map.1 hy
    have := mem_sumN (fun e : { l : List Int // i8L l } => e.1.length + 1) hz
    exact ⟨z.2, by omega⟩
  · have := len_sumN (fun e : { l : List Int // i8L l } => e.1.length + 1) (fun x => by omega) l
    simp only [List.length_map]; omega
theorem fldOf {fs : Array Field} {os : List (Nat × TypeId)} (hfs : fs.toList.map (fun f => (f.offset, f.type)) = os) {i a b : Nat} (hi : os[i]? = some (a, b)) : ∃ f, fs[i]? = some f ∧ f.offset = a ∧ f.type = b := by
  rw [← hfs, List.getElem?_map] at hi
  have : fs[i]? = fs.toList[i]? := by simp
  rw [this]
  cases hh : fs.toList[i]? with
  | none => rw [hh] at hi; cases hi
  | some f =>
    rw [hh] at hi
    simp only [Option.map_some, Option.some.injEq, Prod.mk.injEq] at hi
    exact ⟨f, rfl, hi.1, hi.2⟩
open Go.Proofs.YtejhjciockgicaaGreat in
theorem read_draft {H : Type} {ec : TypeId × Value → H} {w : World} {sp : Nat → Bool} {held : Bool} {n : Nat} {cs : List Value} {x : DataW H × List MemPlace} (h : DataW.trod ec C.P w 0 sp held n 25 cs = some x) :
    ∃ (l : List (List Int)) (mix rest : List Int), SRel w NoB (.agg cs.toArray) (.agg [.snap false (encLL l), .snap false (encI8 mix), .snap false (encI8 rest)]) ∧ (∀ y ∈ l, i8L y ∧ y.length < Rows.uptoBulk x.1) ∧ l.length < Rows.uptoBulk x.1 ∧ i8L mix ∧ mix.length < Rows.uptoBulk x.1 ∧ i8L rest ∧ rest.length < Rows.uptoBulk x.1 := by
  obtain ⟨fs, hu, hfs⟩ := unDr
  obtain ⟨xs, m, rfl, rfl, hlen, hxl, hf⟩ := DataW.trod_struct hu h
  rw [coDr] at hlen
  have hsz : fs.size = 3 := by have := congrArg List.length hfs; simpa using this
  rw [hsz] at hxl
  match cs, hlen, xs, hxl with
  | [c0, c1, c2], _, [x0, x1, x2], _ =>
    obtain ⟨f0, g0, a0, b0⟩ := fldOf hfs (i := 0) rfl
    obtain ⟨f1, g1, a1, b1⟩ := fldOf hfs (i := 1) rfl
    obtain ⟨f2, g2, a2, b2⟩ := fldOf hfs (i := 2) rfl
    have h0 := hf 0 f0 g0
    have h1 := hf 1 f1 g1
    have h2 := hf 2 f2 g2
    rw [a0, b0, coLL] at h0
    rw [a1, b1, coI8s] at h1
    rw [a2, b2, coI8s] at h2
    simp only [List.drop_zero, List.take_succ_cons, List.take_zero, List.drop_succ_cons, List.getElem?_cons_zero, List.getElem?_cons_succ] at h0 h1 h2
    obtain ⟨d0, l, e0, s0, r0, q0⟩ := read_LL h0
    obtain ⟨d1, mix, e1, s1, r1, q1⟩ := read_i8s h1
    obtain ⟨d2, rest, e2, s2, r2, q2⟩ := read_i8s h2
    obtain rfl : c0 = d0 := by simpa using e0
    obtain rfl : c1 = d1 := by simpa using e1
    obtain rfl : c2 = d2 := by simpa using e2
    refine ⟨l, mix, rest, .agg _ _ rfl (fun j hj => by
      match j, hj with
      | 0, _ => exact s0
      | 1, _ => exact s1
      | 2, _ => exact s2), ?_⟩
    simp only [List.map_cons, List.map_nil, Rows.uptoBulk, Rows.uptoBulkAll]
    exact ⟨fun y hy => ⟨(r0 y hy).1, by have := (r0 y hy).2; omega⟩, by omega, r1, by omega, r2, by omega⟩
open Go.Proofs.YtejhjciockgicaaGreat in
theorem read_chr {H : Type} {ec : TypeId × Value → H} {w : World} {sp : Nat → Bool} {held : Bool} {n : Nat} {cs : List Value} {x : DataW H × List MemPlace} (h : DataW.trod ec C.P w 0 sp held n 28 cs = some x) :
    ∃ (c : Int) (vs : List Pw), SRel w NoB (.agg cs.toArray) (.agg [.int .i64 c, .snap false (encPs vs)]) ∧ (vs.map fun p => bulk p.1 + 1).sum < Rows.uptoBulk x.1 := by
  obtain ⟨fs, hu, hfs⟩ := unCh
  obtain ⟨xs, m, rfl, rfl, hlen, hxl, hf⟩ := DataW.trod_struct hu h
  rw [coCh] at hlen
  have hsz : fs.size = 2 := by have := congrArg List.length hfs; simpa using this
  rw [hsz] at hxl
  match cs, hlen, xs, hxl with
  | [c0, c1], _, [x0, x1], _ =>
    obtain ⟨f0, g0, a0, b0⟩ := fldOf hfs (i := 0) rfl
    obtain ⟨f1, g1, a1, b1⟩ := fldOf hfs (i := 1) rfl
    have h0 := hf 0 f0 g0
    have h1 := hf 1 f1 g1
    rw [a0, b0, coInt] at h0
    rw [a1, b1, coPws] at h1
    simp only [List.drop_zero, List.take_succ_cons, List.take_zero, List.drop_succ_cons, List.getElem?_cons_zero, List.getElem?_cons_succ] at h0 h1
    obtain ⟨k, e0, e0', _⟩ := DataW.trod_int (kd_int (T6.hkd 3 _ rfl)) h0
    obtain ⟨d1, vs, e1, s1, q1⟩ := read_pws h1
    obtain rfl : c0 = .int .i64 k := by simpa using e0
    obtain rfl : c1 = d1 := by simpa using e1
    refine ⟨k, vs, .agg _ _ rfl (fun j hj => by
      match j, hj with
      | 0, _ => exact .int _ _
      | 1, _ => exact s1), ?_⟩
    simp only [List.map_cons, List.map_nil, Rows.uptoBulk, Rows.uptoBulkAll]
    omega
open Go.Proofs.YtejhjciockgicaaGreat in
theorem read_draftv {H : Type} {ec : TypeId × Value → H} {w : World} {base : Nat} {sp : Nat → Bool} {v : Value} {d : DataW H} {p : List MemPlace} (hok : Value.okWide C.P w .any base 25 v) (h : DataW.Trod ec C.P w 0 sp true 25 v d p) :
    ∃ (l : List (List Int)) (mix rest : List Int), SRel w NoB v (.agg [.snap false (encLL l), .snap false (encI8 mix), .snap false (encI8 rest)]) ∧ (∀ y ∈ l, i8L y ∧ y.length < Rows.uptoBulk d) ∧ l.length < Rows.uptoBulk d ∧ i8L mix ∧ mix.length < Rows.uptoBulk d ∧ i8L rest ∧ rest.length < Rows.uptoBulk d := by
  obtain ⟨n, hn⟩ := h
  obtain ⟨fs, hu, hfs⟩ := unDr
  obtain ⟨cs, rfl, _⟩ := okWide_struct hu hok
  have := read_draft hn
  simpa [Value.cells] using this
open Go.Proofs.YtejhjciockgicaaGreat in
theorem read_chrv {H : Type} {ec : TypeId × Value → H} {w : World} {base : Nat} {sp : Nat → Bool} {v : Value} {d : DataW H} {p : List MemPlace} (hok : Value.okWide C.P w .any base 28 v) (h : DataW.Trod ec C.P w 0 sp true 28 v d p) :
    ∃ (c : Int) (vs : List Pw), SRel w NoB v (.agg [.int .i64 c, .snap false (encPs vs)]) ∧ (vs.map fun p => bulk p.1 + 1).sum < Rows.uptoBulk d := by
  obtain ⟨n, hn⟩ := h
  obtain ⟨fs, hu, hfs⟩ := unCh
  obtain ⟨cs, rfl, _⟩ := okWide_struct hu hok
  have := read_chr hn
  simpa [Value.cells] using this
end Go.Pm
end

/-
  CHAPTER 6, PART 53: characters, the program. Conditions: none.
-/
section
set_option linter.unusedVariables false
set_option linter.unusedSimpArgs false
set_option linter.unusedVariables false
set_option linter.unusedSimpArgs false
set_option maxRecDepth 4000
namespace Go.Pm
open Go.Proofs
attribute [local irreducible] thenQ blockQ loopQ bodyQ Ev EvOps CallEv FnEv EvD
theorem outside_fun (n : Int) : Fun C 39 [.int .i64 n] (.bool (decide (n < -35184372088832 ∨ 35184372088832 < n))) := by
  refine Fun.x T6 Tryz.func39 rfl ?_
  (repeat' (first | (refine Rn.go ?_; conv => whnf) | refine .mk ?_ | refine .tt ?_ | refine .ff ?_ | refine .m2 ?_ | refine .m3 ?_ | refine .mk (fun hc => ?_) (fun hc => ?_) | refine .lp (fun v H lp => ?_) | fail))
  all_goals exact ⟨_, rfl, by simp [tupOf, *]⟩
theorem cr1_fun (x : List Pw) (hb : ∀ p ∈ x, bulk p.1 < 100000000) (hl : x.length < 100000000) : Fun C 36 [.snap false (encPs x)] (.bool (decide (validP x ≠ 0))) := by
  have hv := pvalid_fun x hb hl
  refine Fun.x T6 Tryz.func36 rfl ?_
  (repeat' (first | (refine Rn.go ?_; conv => whnf) | refine .mk ?_ | refine .tt ?_ | refine .ff ?_ | refine .m2 ?_ | refine .m3 ?_ | refine .mk (fun hc => ?_) (fun hc => ?_) | refine .lp (fun v H lp => ?_) | fail))
  refine .p hv ?_
  (repeat' (first | (refine Rn.go ?_; conv => whnf) | refine .mk ?_ | refine .tt ?_ | refine .ff ?_ | refine .m2 ?_ | refine .m3 ?_ | refine .mk (fun hc => ?_) (fun hc => ?_) | refine .lp (fun v H lp => ?_) | fail))
  all_goals exact ⟨_, rfl, by simp [tupOf, *]⟩
theorem cr21_fun (p : Pw) (t : Tm) (hp : bulk p.1 < 1000000000) (ht : bulk t < 1000000000) : Fun C 43 [encP p, enc t] (.int .i64 (cmpT p.1 t)) := by
  have h1 := tcmp_fun p.1 t hp ht
  obtain ⟨u, n⟩ := p
  rw [encP_x, enc_x]
  refine Fun.x T6 Tryz.func43 rfl ?_
  (repeat' (first | (refine Rn.go ?_; conv => whnf) | refine .mk ?_ | refine .tt ?_ | refine .ff ?_ | refine .m2 ?_ | refine .m3 ?_ | refine .mk (fun hc => ?_) (fun hc => ?_) | refine .lp (fun v H lp => ?_) | fail))
  refine .p h1 ?_
  (repeat' (first | (refine Rn.go ?_; conv => whnf) | refine .mk ?_ | refine .tt ?_ | refine .ff ?_ | refine .m2 ?_ | refine .m3 ?_ | refine .mk (fun hc => ?_) (fun hc => ?_) | refine .lp (fun v H lp => ?_) | fail))
  exact ⟨_, rfl, rfl⟩
theorem binG_fun (g : FuncId) (hm : C.mode g = .pure) (l : List Pw) (t : Tm) (hs : Srt l) (hl : l.length < 100000000) (hcf : ∀ p ∈ l, Fun C g [encP p, enc t] (.int .i64 (cmpT p.1 t))) :
    Fun C 42 [.snap false (encPs l), enc t, .fn g []] (.tup [.int .i64 (lbP t l), .bool (fdP t l)]) := by
  have hle := lbP_le t l
  have hif := lbP_iff t l hs
  have hfd : fdP t l = match l[lbP t l]? with | some p => decide (cmpT p.1 t = 0) | none => false := rfl
  have hel := encPs_len l
  generalize fdP t l = FD at hfd ⊢
  generalize lbP t l = LB at hle hif hfd ⊢
  have elem : ∀ m, m < l.length → ∃ u n, l[m]? = some (u, n) ∧ (encPs l)[m]? = some (.agg [.int .i64 u.k, .str u.s, .int .i64 u.o, .snap false (encs u.l), .int .i64 n]) ∧ Fun C g [encP (u, n), enc t] (.int .i64 (cmpT u t)) := fun m hm => by
    rcases hp : l[m] with ⟨u, n⟩
    have h1 : l[m]? = some (u, n) := by rw [List.getElem?_eq_getElem hm, hp]
    exact ⟨u, n, h1, by rw [encPs, List.getElem?_map, h1, ← encP_x]; rfl, hcf (u, n) (List.mem_of_getElem? h1)⟩
  rw [enc_x]
  refine Fun.x T6 Tryz.func42 rfl ?_
  (repeat' (first | (refine Rn.go ?_; conv => whnf) | refine .mk ?_ | refine .tt ?_ | refine .ff ?_ | refine .m2 ?_ | refine .m3 ?_ | refine .mk (fun hc => ?_) (fun hc => ?_) | refine .lp (fun v H lp => ?_) | fail))
  refine LpX.nat T6 (fun k L H => ∃ i j : Nat, L = [(0, .snap false (encPs l)), (2, .fn g []), (4, .ptr 0 0 0 0), (8, .int .i64 (encPs l).length), (9, .int .i64 i), (10, .int .i64 j)] ∧ H = [⟨.m, 0, 4, [.agg [.int .i64 t.k, .str t.s, .int .i64 t.o, .snap false (encs t.l)]]⟩] ∧ k = j - i ∧ i ≤ LB ∧ LB ≤ j ∧ j ≤ l.length) l.length (.nx ⟨0, (encPs l).length, rfl, rfl, by omega, by omega, by omega, by omega⟩) ?_
  rintro k _ _ ρ ⟨i, j, rfl, rfl, hk, i1, i2, i3⟩
  by_cases hij : i < j
  · obtain ⟨m, hmm⟩ : ∃ m : Nat, ((i : Int) + j) / 2 = m := ⟨(i + j) / 2, by omega⟩
    obtain ⟨u, n, h1, hat, hcm⟩ := elem m (by omega)
    have hiff := hif m _ h1
    dsimp only at hiff
    (repeat' (first | (refine Rn.go ?_; conv => whnf) | refine .mk ?_ | refine .tt ?_ | refine .ff ?_ | refine .m2 ?_ | refine .m3 ?_ | refine .mk (fun hc => ?_) (fun hc => ?_) | refine .lp (fun v H lp => ?_) | fail))
    refine .mk (n := m) ?_ hmm hat
    (repeat' (first | (refine Rn.go ?_; conv => whnf) | refine .mk ?_ | refine .tt ?_ | refine .ff ?_ | refine .m2 ?_ | refine .m3 ?_ | refine .mk (fun hc => ?_) (fun hc => ?_) | refine .lp (fun v H lp => ?_) | fail))
    refine .p hcm ?_ hm
    (repeat' (first | (refine Rn.go ?_; conv => whnf) | refine .mk ?_ | refine .tt ?_ | refine .ff ?_ | refine .m2 ?_ | refine .m3 ?_ | refine .mk (fun hc => ?_) (fun hc => ?_) | refine .lp (fun v H lp => ?_) | fail))
    · exact .nx ⟨j - (m + 1), by omega, m + 1, j, rfl, rfl, rfl, by omega, by omega, by omega⟩
    · exact .nx ⟨m - i, by omega, i, m, rfl, rfl, rfl, by omega, by omega, by omega⟩
  · have hi : i = LB := by omega
    subst hi
    by_cases hil : i < l.length
    · obtain ⟨u, n, h1, hat, hcm⟩ := elem i hil
      rw [h1] at hfd
      dsimp only at hfd
      (repeat' (first | (refine Rn.go ?_; conv => whnf) | refine .mk ?_ | refine .tt ?_ | refine .ff ?_ | refine .m2 ?_ | refine .m3 ?_ | refine .mk (fun hc => ?_) (fun hc => ?_) | refine .lp (fun v H lp => ?_) | fail))
      refine .p hcm ?_ hm
      (repeat' (first | (refine Rn.go ?_; conv => whnf) | refine .mk ?_ | refine .tt ?_ | refine .ff ?_ | refine .m2 ?_ | refine .m3 ?_ | refine .mk (fun hc => ?_) (fun hc => ?_) | refine .lp (fun v H lp => ?_) | fail))
      all_goals exact ⟨_, rfl, by rw [hfd]; simp [tupOf, nrm, nrms, *]⟩
    · rw [List.getElem?_eq_none (by omega)] at hfd
      (repeat' (first | (refine Rn.go ?_; conv => whnf) | refine .mk ?_ | refine .tt ?_ | refine .ff ?_ | refine .m2 ?_ | refine .m3 ?_ | refine .mk (fun hc => ?_) (fun hc => ?_) | refine .lp (fun v H lp => ?_) | fail))
      exact ⟨_, rfl, by rw [hfd]; rfl⟩
theorem pwr_bin {vs : List Pw} (s : Srt vs) (t : Tm) : (fdP t vs = true ∧ ∃ x, vs[lbP t vs]? = some x ∧ pwr vs t = x.2) ∨ (fdP t vs = false ∧ pwr vs t = 0) := by
  have hif := lbP_iff t vs s
  have hfd : fdP t vs = match vs[lbP t vs]? with | some p => decide (cmpT p.1 t = 0) | none => false := rfl
  cases hx : vs[lbP t vs]? with
  | none =>
    rw [hx] at hfd
    refine .inr ⟨hfd, pwr_none fun y hy h0 => ?_⟩
    obtain ⟨k, hk⟩ := List.getElem?_of_mem hy
    have h1 := hif k y hk
    have h2 := lt_of_some hk
    have h3 : vs.length ≤ lbP t vs := List.getElem?_eq_none_iff.1 hx
    omega
  | some x =>
    rw [hx] at hfd
    have hlt := lt_of_some hx
    by_cases h0 : cmpT x.1 t = 0
    · refine .inl ⟨by rw [hfd]; exact decide_eq_true h0, x, rfl, ?_⟩
      have hsp : vs = vs.take (lbP t vs) ++ x :: vs.drop (lbP t vs + 1) := by
        have h1 := (List.take_append_drop (lbP t vs) vs).symm
        rw [List.drop_eq_getElem_cons hlt] at h1
        rw [List.getElem?_eq_getElem hlt] at hx
        rw [Option.some.inj hx] at h1
        exact h1
      conv => lhs; rw [hsp]
      refine pwr_at (fun y hy h1 => ?_) h0
      obtain ⟨k, hk⟩ := List.getElem?_of_mem hy
      rw [List.getElem?_take] at hk
      split at hk
      · have := (hif k y hk).2 (by assumption); omega
      · cases hk
    · refine .inr ⟨by rw [hfd]; exact decide_eq_false h0, pwr_none fun y hy h1 => ?_⟩
      obtain ⟨k, hk⟩ := List.getElem?_of_mem hy
      have hy1 := hif k y hk
      have hx1 := hif _ x hx
      have ht := cmpT_zero h1
      rcases Nat.lt_trichotomy k (lbP t vs) with h | h | h
      · omega
      · rw [h] at hk; rw [hx] at hk; obtain rfl := Option.some.inj hk; exact h0 h1
      · have : cmpT x.1 y.1 < 0 := by
          have h2 := lt_of_some hk
          have := (List.pairwise_iff_getElem.1 s) _ _ hlt h2 h
          rw [List.getElem?_eq_getElem hlt] at hx
          rw [List.getElem?_eq_getElem h2] at hk
          rwa [Option.some.inj hx, Option.some.inj hk] at this
        rw [ht] at this
        omega
def zeroQ (c s : Int) : Bool := decide (s = 0) || (decide (c ≠ 0) && decide (s.tmod c = 0))
theorem zero_ev (c : Int) (vs m : List Pw) (id : Nat) (H : AHeap) (h0 : H[id]? = some ⟨.m, 0, 2, [.agg [.int .i64 c, .snap false (encPs vs)]]⟩) (hcl : ∀ J, HV J → closedH (H ++ J) = true) (hc0 : c = 0 ∨ 1 ≤ c) (s : Srt vs) (hv : Bd 35184372088832 vs) (sv : Sm vs) (hm : Bd 1000 m) (lm : m.length ≤ 200) (sm : Sm m) :
    FnEv C 41 [.snap false (encPs m), .ptr id 0 0 0] H (fun r h' => r = .bool (zeroQ c (valS vs m)) ∧ Exd H h') := by
  have hel := encPs_len m
  have hbin := fun t (ht : bulk t < 1000000000) => binG_fun 43 rfl vs t s sv.2 (fun p hp => cr21_fun p t (sv.1 p hp) ht)
  refine FnEv.x T6 Tryz.func41 rfl ?_
  (repeat' (first | (refine Rn.go ?_; conv => whnf) | refine .mk ?_ | refine .tt ?_ | refine .ff ?_ | refine .m2 ?_ | refine .m3 ?_ | refine .mk (fun hc => ?_) (fun hc => ?_) | refine .lp (fun v H lp => ?_) | fail))
  refine LpX.zip T6 m (fun p q L K => L = [(1, .ptr id 0 0 0), (4, .int .i64 (valS vs p)), (9, .snap false (encPs m)), (10, .int .i64 (encPs m).length), (11, .int .i64 p.length)] ∧ Exd H K) (.nx ⟨rfl, Exd.refl _⟩) ?_ ?_
  · rintro p ⟨u, n⟩ q _ K ρ e ⟨rfl, hE⟩
    have hat := at_encPs e
    have hl2 := congrArg List.length e
    simp only [List.length_append, List.length_cons] at hl2
    have k0 := hE.at h0
    have hc1 : closedH (K ++ [⟨.m, 0, 5, [.agg [.int .i64 u.k, .str u.s, .int .i64 u.o, .snap false (encs u.l), .int .i64 n]]⟩]) = true := by
      obtain ⟨J, hJ, rfl⟩ := hE
      rw [List.append_assoc]
      exact hcl _ (hJ.app (HV.one (by simp)))
    have hb := hbin u (sm.1 (u, n) (by rw [e]; simp))
    have hn := hm (u, n) (by rw [e]; simp)
    have h1 := pwr_bd (by omega) hv u
    have h2 := mul_bd hn.1 hn.2 h1.1 h1.2
    have h3 := valS_bd hv (p := p) (fun y hy => hm y (by rw [e]; simp [hy]))
    have hsn := valS_snoc vs p (u, n)
    dsimp only at hn h2 hsn
    (repeat' (first | (refine Rn.go ?_; conv => whnf) | refine .mk ?_ | refine .tt ?_ | refine .ff ?_ | refine .m2 ?_ | refine .m3 ?_ | refine .mk (fun hc => ?_) (fun hc => ?_) | refine .lp (fun v H lp => ?_) | fail))
    refine .p hb ?_
    rcases pwr_bin s u with ⟨hf, ⟨y, ny⟩, hx, hp⟩ | ⟨hf, hp⟩
    · rw [hf]
      have hatv : (encPs vs)[lbP u vs]? = some (.agg [.int .i64 y.k, .str y.s, .int .i64 y.o, .snap false (encs y.l), .int .i64 ny]) := by rw [encPs, List.getElem?_map, hx, ← encP_x]; rfl
      dsimp only at hp
      rw [hp] at h1 h2 hsn
      (repeat' (first | (refine Rn.go ?_; conv => whnf) | refine .mk ?_ | refine .tt ?_ | refine .ff ?_ | refine .m2 ?_ | refine .m3 ?_ | refine .mk (fun hc => ?_) (fun hc => ?_) | refine .lp (fun v H lp => ?_) | fail))
      exact .nx ⟨by rw [hsn], hE.app (HV.one (by simp))⟩
    · rw [hf]
      rw [hp] at hsn
      (repeat' (first | (refine Rn.go ?_; conv => whnf) | refine .mk ?_ | refine .tt ?_ | refine .ff ?_ | refine .m2 ?_ | refine .m3 ?_ | refine .mk (fun hc => ?_) (fun hc => ?_) | refine .lp (fun v H lp => ?_) | fail))
      exact .nx ⟨by rw [hsn], hE.app (HV.one (by simp))⟩
  · rintro _ K ρ ⟨rfl, hE⟩
    have k0 := hE.at h0
    (repeat' (first | (refine Rn.go ?_; conv => whnf) | refine .mk ?_ | refine .tt ?_ | refine .ff ?_ | refine .m2 ?_ | refine .m3 ?_ | refine .mk (fun hc => ?_) (fun hc => ?_) | refine .lp (fun v H lp => ?_) | fail))
    all_goals exact ⟨by simp [tupOf, zeroQ, *], hE⟩
theorem idxPP_ev (l : List (List Pw)) (g : FuncId) (cs : List PV) (p : List Pw → Bool) (H : AHeap) (hl : l.length < 1000000000) (hp : ∀ x ∈ l, ∀ H', Exd H H' → ∀ Q : PV → AHeap → Prop, (∀ h', Exd H' h' → Q (.bool (p x)) h') → CallEv C 2 g (.snap false (encPs x) :: cs) H' Q) :
    FnEv C 76 [.snap false (encPPs l), .fn g cs] H (fun r h' => r = .int .i64 (idxI p l) ∧ Exd H h') := by
  have hel : (encPPs l).length = l.length := by simp
  refine FnEv.x T6 Tryz.func76 rfl ?_
  (repeat' (first | (refine Rn.go ?_; conv => whnf) | refine .mk ?_ | refine .tt ?_ | refine .ff ?_ | refine .m2 ?_ | refine .m3 ?_ | refine .mk (fun hc => ?_) (fun hc => ?_) | refine .lp (fun v H lp => ?_) | fail))
  refine LpX.zip T6 l (fun a q L K => L = [(0, .snap false (encPPs l)), (1, .fn g cs), (7, .int .i64 (encPPs l).length), (8, .int .i64 a.length)] ∧ Exd H K ∧ ∀ y ∈ a, p y = false) (.nx ⟨rfl, Exd.refl _, by simp⟩) ?_ ?_
  · rintro a x q _ K ρ e ⟨rfl, hE, ha⟩
    have hat := at_encPPs e
    have hl2 := congrArg List.length e
    simp only [List.length_append, List.length_cons] at hl2
    (repeat' (first | (refine Rn.go ?_; conv => whnf) | refine .mk ?_ | refine .tt ?_ | refine .ff ?_ | refine .m2 ?_ | refine .m3 ?_ | refine .mk (fun hc => ?_) (fun hc => ?_) | refine .lp (fun v H lp => ?_) | fail))
    refine hp x (by rw [e]; simp) _ hE _ (fun h' hE' => ?_)
    cases hb : p x
    · (repeat' (first | (refine Rn.go ?_; conv => whnf) | refine .mk ?_ | refine .tt ?_ | refine .ff ?_ | refine .m2 ?_ | refine .m3 ?_ | refine .mk (fun hc => ?_) (fun hc => ?_) | refine .lp (fun v H lp => ?_) | fail))
      exact .nx ⟨rfl, hE.trans hE', fun y hy => by rcases List.mem_append.1 hy with h | h; exact ha y h; simp at h; rw [h]; exact hb⟩
    · (repeat' (first | (refine Rn.go ?_; conv => whnf) | refine .mk ?_ | refine .tt ?_ | refine .ff ?_ | refine .m2 ?_ | refine .m3 ?_ | refine .mk (fun hc => ?_) (fun hc => ?_) | refine .lp (fun v H lp => ?_) | fail))
      exact ⟨by rw [e, idxI_at ha hb]; rfl, hE.trans hE'⟩
  · rintro _ K ρ ⟨rfl, hE, ha⟩
    (repeat' (first | (refine Rn.go ?_; conv => whnf) | refine .mk ?_ | refine .tt ?_ | refine .ff ?_ | refine .m2 ?_ | refine .m3 ?_ | refine .mk (fun hc => ?_) (fun hc => ?_) | refine .lp (fun v H lp => ?_) | fail))
    exact ⟨by rw [idxI_none ha]; rfl, hE⟩
theorem cntPP_ev (l : List (List Pw)) (g : FuncId) (cs : List PV) (p : List Pw → Bool) (H : AHeap) (hl : l.length < 1000000000) (hp : ∀ x ∈ l, ∀ H', Exd H H' → ∀ Q : PV → AHeap → Prop, (∀ h', Exd H' h' → Q (.bool (p x)) h') → CallEv C 2 g (.snap false (encPs x) :: cs) H' Q) :
    FnEv C 35 [.snap false (encPPs l), .fn g cs] H (fun r h' => r = .bool (l.any p) ∧ Exd H h') := by
  have hi := idxPP_ev l g cs p H hl hp
  have ha := idxI_any p l
  refine FnEv.x T6 Tryz.func35 rfl ?_
  (repeat' (first | (refine Rn.go ?_; conv => whnf) | refine .mk ?_ | refine .tt ?_ | refine .ff ?_ | refine .m2 ?_ | refine .m3 ?_ | refine .mk (fun hc => ?_) (fun hc => ?_) | refine .lp (fun v H lp => ?_) | fail))
  refine .ex hi (fun h' hE => ?_)
  (repeat' (first | (refine Rn.go ?_; conv => whnf) | refine .mk ?_ | refine .tt ?_ | refine .ff ?_ | refine .m2 ?_ | refine .m3 ?_ | refine .mk (fun hc => ?_) (fun hc => ?_) | refine .lp (fun v H lp => ?_) | fail))
  all_goals exact ⟨by rw [← ha]; simp [tupOf, *], hE⟩
/-- the second closure: it calls the first -/
theorem cr3_ev (c : Int) (vs m : List Pw) (id id9 : Nat) (H : AHeap) (h9 : H[id9]? = some ⟨.m, 0, 1, [.fn 41 [.ptr id 0 0 0]]⟩)
    (hz : FnEv C 41 [.snap false (encPs m), .ptr id 0 0 0] H (fun r h' => r = .bool (zeroQ c (valS vs m)) ∧ Exd H h')) :
    FnEv C 44 [.snap false (encPs m), .ptr id9 0 0 0] H (fun r h' => r = .bool (!(zeroQ c (valS vs m))) ∧ Exd H h') := by
  refine FnEv.x T6 Tryz.func44 rfl ?_
  (repeat' (first | (refine Rn.go ?_; conv => whnf) | refine .mk ?_ | refine .tt ?_ | refine .ff ?_ | refine .m2 ?_ | refine .m3 ?_ | refine .mk (fun hc => ?_) (fun hc => ?_) | refine .lp (fun v H lp => ?_) | fail))
  refine .ex hz (fun h' hE => ?_)
  cases hb : zeroQ c (valS vs m)
  all_goals ((repeat' (first | (refine Rn.go ?_; conv => whnf) | refine .mk ?_ | refine .tt ?_ | refine .ff ?_ | refine .m2 ?_ | refine .m3 ?_ | refine .mk (fun hc => ?_) (fun hc => ?_) | refine .lp (fun v H lp => ?_) | fail)); exact ⟨rfl, hE⟩)
end Go.Pm
end

/-
  CHAPTER 6, PART 54: the program's CheckRefute. Conditions: none.
-/
section
set_option linter.unusedVariables false
set_option linter.unusedSimpArgs false
set_option linter.unusedVariables false
set_option linter.unusedSimpArgs false
set_option maxRecDepth 4000
namespace Go.Pm
open Go.Proofs
attribute [local irreducible] thenQ blockQ loopQ bodyQ Ev EvOps CallEv FnEv EvD
theorem pcr_fun (c : Int) (vs m : List Pw) (l : List (List Pw)) (sv : Sm vs) (svb : ∀ p ∈ vs, bulk p.1 < 100000000) (sm : ∀ p ∈ m, bulk p.1 < 100000000) (lm : m.length < 100000000) (sl : ∀ x ∈ l, (∀ p ∈ x, bulk p.1 < 100000000) ∧ x.length < 100000000) (ll : l.length < 100000000) :
    Fun C 10 [.snap false (encPPs l), .snap false (encPs m), .agg [.int .i64 c, .snap false (encPs vs)]]
      (.bool (decide (validP m = 0) && rgtC c vs && l.all (fun x => decide (validP x = 0) && zeroQ c (valS vs x)) && !(zeroQ c (valS vs m)))) := by
  have hel := encPs_len m
  have helv := encPs_len vs
  have hvm := pvalid_fun m sm lm
  refine Fun.x T6 Tryz.func10 rfl ?_
  (repeat' (first | (refine Rn.go ?_; conv => whnf) | refine .mk ?_ | refine .tt ?_ | refine .ff ?_ | refine .m2 ?_ | refine .m3 ?_ | refine .mk (fun hc => ?_) (fun hc => ?_) | refine .lp (fun v H lp => ?_) | fail))
  refine .p hvm ?_
  (repeat' (first | (refine Rn.go ?_; conv => whnf) | refine .mk ?_ | refine .tt ?_ | refine .ff ?_ | refine .m2 ?_ | refine .m3 ?_ | refine .mk (fun hc => ?_) (fun hc => ?_) | refine .lp (fun v H lp => ?_) | fail))
  rotate_left
  · exact ⟨_, rfl, by simp [hc, tupOf]⟩
  have vm := hc
  clear hc
  refine .ex (cntPP_ev l _ [] (fun x => decide (validP x ≠ 0)) _ (by omega) (fun x hx H' _ Q hQ => .p (cr1_fun x (sl x hx).1 (sl x hx).2) (hQ _ (Exd.refl _)))) (fun h' hE => ?_)
  have hva : (l.any fun x => decide (validP x ≠ 0)) = !(l.all fun x => decide (validP x = 0)) := by
    rw [← Bool.not_not (l.any _), List.not_any_eq_all_not]; simp
  rw [hva]
  cases hla : l.all fun x => decide (validP x = 0)
  · (repeat' (first | (refine Rn.go ?_; conv => whnf) | refine .mk ?_ | refine .tt ?_ | refine .ff ?_ | refine .m2 ?_ | refine .m3 ?_ | refine .mk (fun hc => ?_) (fun hc => ?_) | refine .lp (fun v H lp => ?_) | fail))
    have : (l.all fun x => decide (validP x = 0) && zeroQ c (valS vs x)) = false := by
      rw [List.all_eq_false] at hla ⊢
      obtain ⟨x, hx, h1⟩ := hla
      exact ⟨x, hx, by simp at h1 ⊢; simp [h1]⟩
    exact ⟨_, rfl, by rw [this]; simp [tupOf]⟩
  have h0 := hE.at (i := 0) (o := ⟨.m, 0, 2, [.agg [.int .i64 c, .snap false (encPs vs)]]⟩) rfl
  have hH := hE.hv (HV.one rfl)
  clear hE hva
  (repeat' (first | (refine Rn.go ?_; conv => whnf) | refine .mk ?_ | refine .tt ?_ | refine .ff ?_ | refine .m2 ?_ | refine .m3 ?_ | refine .mk (fun hc => ?_) (fun hc => ?_) | refine .lp (fun v H lp => ?_) | fail))
  all_goals first
    | exact ⟨_, rfl, by rw [show rgtC c vs = false from by rw [rgtC, if_pos (by omega)]]; simp [tupOf]⟩
    | skip
  all_goals
    have hrg : rgtC c vs = rgtGo none vs := by rw [rgtC, if_neg (by omega)]
    refine LpX.zip T6 vs (fun p q L K => L = [(0, .snap false (encPPs l)), (1, .snap false (encPs m)), (5, .ptr 0 0 0 0), (37, .snap false (encPs vs)), (38, .int .i64 (encPs vs).length), (39, .int .i64 p.length)] ∧ HV K ∧ K[0]? = some ⟨.m, 0, 2, [.agg [.int .i64 c, .snap false (encPs vs)]]⟩ ∧ rgtC c vs = rgtGo (lastT none p) q) (.nx ⟨rfl, hH, h0, hrg⟩) ?_ ?_
  all_goals first
    | (rintro p ⟨u, n⟩ r _ h ρ e ⟨rfl, hH, h0, hg⟩
       have hat := at_encPs e
       have hl3 := congrArg List.length e
       simp only [List.length_append, List.length_cons] at hl3
       have hlv := sv.2
       have hsm := svb (u, n) (by rw [e]; simp)
       have hv := valid_fun u hsm
       have hsp : Fun C 38 [enc u] (.bool (special u)) := by obtain ⟨k1, s1, o1, l1⟩ := u; exact symbol_fun k1 s1 o1 l1
       have hou := outside_fun n
       rw [rgtGo_cons] at hg
       have bad : ∀ {K : AHeap}, (valid u ≠ 0 ∨ special u = true ∨ n = 0 ∨ n < -35184372088832 ∨ 35184372088832 < n ∨ bef (lastT none p) u = true) → ∃ r1, rb K (tupOf [.bool false]) = some r1 ∧ nrm r1 = .bool ((decide (validP m = 0) && rgtC c vs && l.all fun x => decide (validP x = 0) && zeroQ c (valS vs x)) && !(zeroQ c (valS vs m))) := fun hh => ⟨_, rfl, by rw [hg, if_pos hh]; simp [tupOf]⟩
       have nx : ¬ (valid u ≠ 0 ∨ special u = true ∨ n = 0 ∨ n < -35184372088832 ∨ 35184372088832 < n ∨ bef (lastT none p) u = true) → rgtC c vs = rgtGo (lastT none (p ++ [(u, n)])) r := fun hh => by rw [hg, if_neg hh, lastT_snoc]
       have hk0 : (h ++ [⟨.m, 0, 5, [.agg [.int .i64 u.k, .str u.s, .int .i64 u.o, .snap false (encs u.l), .int .i64 n]]⟩])[0]? = some ⟨.m, 0, 2, [.agg [.int .i64 c, .snap false (encPs vs)]]⟩ := by rw [List.getElem?_append_left (lt_of_some h0)]; exact h0
       have hkv : HV (h ++ [⟨.m, 0, 5, [.agg [.int .i64 u.k, .str u.s, .int .i64 u.o, .snap false (encs u.l), .int .i64 n]]⟩]) := hH.app (HV.one (by simp))
       clear hg
       (repeat' (first | (refine Rn.go ?_; conv => whnf) | refine .mk ?_ | refine .tt ?_ | refine .ff ?_ | refine .m2 ?_ | refine .m3 ?_ | refine .mk (fun hc => ?_) (fun hc => ?_) | refine .lp (fun v H lp => ?_) | fail))
       refine .p hv ?_
       (repeat' (first | (refine Rn.go ?_; conv => whnf) | refine .mk ?_ | refine .tt ?_ | refine .ff ?_ | refine .m2 ?_ | refine .m3 ?_ | refine .mk (fun hc => ?_) (fun hc => ?_) | refine .lp (fun v H lp => ?_) | fail))
       rotate_left
       · exact bad (.inl hc)
       have v0 := hc
       clear hc hv
       refine .p hsp ?_
       cases hs : special u
       rotate_left
       · (repeat' (first | (refine Rn.go ?_; conv => whnf) | refine .mk ?_ | refine .tt ?_ | refine .ff ?_ | refine .m2 ?_ | refine .m3 ?_ | refine .mk (fun hc => ?_) (fun hc => ?_) | refine .lp (fun v H lp => ?_) | fail))
         exact bad (.inr (.inl hs))
       (repeat' (first | (refine Rn.go ?_; conv => whnf) | refine .mk ?_ | refine .tt ?_ | refine .ff ?_ | refine .m2 ?_ | refine .m3 ?_ | refine .mk (fun hc => ?_) (fun hc => ?_) | refine .lp (fun v H lp => ?_) | fail))
       · exact bad (.inr (.inr (.inl hc)))
       have n0 := hc
       clear hc
       refine .p hou ?_
       by_cases ho : n < -35184372088832 ∨ 35184372088832 < n
       · rw [decide_eq_true ho]
         (repeat' (first | (refine Rn.go ?_; conv => whnf) | refine .mk ?_ | refine .tt ?_ | refine .ff ?_ | refine .m2 ?_ | refine .m3 ?_ | refine .mk (fun hc => ?_) (fun hc => ?_) | refine .lp (fun v H lp => ?_) | fail))
         exact bad (.inr (.inr (.inr (by rcases ho with h | h; exact .inl h; exact .inr (.inl h)))))
       rw [decide_eq_false ho]
       rcases List.eq_nil_or_concat p with rfl | ⟨p', ⟨y, ny⟩, rfl⟩
       · (repeat' (first | (refine Rn.go ?_; conv => whnf) | refine .mk ?_ | refine .tt ?_ | refine .ff ?_ | refine .m2 ?_ | refine .m3 ?_ | refine .mk (fun hc => ?_) (fun hc => ?_) | refine .lp (fun v H lp => ?_) | fail))
         exact .nx ⟨rfl, hkv, hk0, nx (by simp [v0, hs, lastT, bef]; omega)⟩
       · have hy : (encPs vs)[p'.length]? = some (.agg [.int .i64 y.k, .str y.s, .int .i64 y.o, .snap false (encs y.l), .int .i64 ny]) := at_encPs (q := (u, n) :: r) (by rw [e]; simp)
         have hcm := tcmp_fun y u (Nat.lt_trans (svb (y, ny) (by rw [e]; simp)) (by decide)) (Nat.lt_trans hsm (by decide))
         have hll : (p'.concat (y, ny)).length = p'.length + 1 := by simp
         have hbf : bef (lastT none (p'.concat (y, ny))) u = decide (0 ≤ cmpT y u) := by rw [List.concat_eq_append, lastT_snoc]; rfl
         (repeat' (first | (refine Rn.go ?_; conv => whnf) | refine .mk ?_ | refine .tt ?_ | refine .ff ?_ | refine .m2 ?_ | refine .m3 ?_ | refine .mk (fun hc => ?_) (fun hc => ?_) | refine .lp (fun v H lp => ?_) | fail))
         refine .mk (n := p'.length) ?_ (by omega) hy
         (repeat' (first | (refine Rn.go ?_; conv => whnf) | refine .mk ?_ | refine .tt ?_ | refine .ff ?_ | refine .m2 ?_ | refine .m3 ?_ | refine .mk (fun hc => ?_) (fun hc => ?_) | refine .lp (fun v H lp => ?_) | fail))
         refine .p hcm ?_
         (repeat' (first | (refine Rn.go ?_; conv => whnf) | refine .mk ?_ | refine .tt ?_ | refine .ff ?_ | refine .m2 ?_ | refine .m3 ?_ | refine .mk (fun hc => ?_) (fun hc => ?_) | refine .lp (fun v H lp => ?_) | fail))
         · exact bad (.inr (.inr (.inr (.inr (.inr (by rw [hbf]; exact decide_eq_true hc))))))
         · exact .nx ⟨rfl, hkv, hk0, nx (by rw [hbf]; simp [v0, hs]; omega)⟩)
    | (rintro _ h ρ ⟨rfl, hH, h0, hg⟩
       rw [rgtGo_nil] at hg
       obtain ⟨bv, st, _, _⟩ := rgtGo_ok (l := vs) (pr := none) (by rw [← hrg]; exact hg)
       obtain ⟨m1, m2, _, _, _⟩ := validP_zero vm
       have smm : Sm m := ⟨fun p hp => Nat.lt_trans (sm p hp) (by decide), lm⟩
       have hcc : c = 0 ∨ 1 ≤ c := by omega
       have hcl : ∀ J, HV J → closedH (h ++ [⟨.m, 0, 1, [.fn 41 [.ptr 0 0 0 0]]⟩] ++ J) = true := fun J hJ => closed_app (by
         rw [List.all_append, List.all_eq_true.2 (fun o ho => by rw [vis_vals _ _ (hH o ho).2]; simp), Bool.true_and]
         have : visible (h ++ [⟨.m, 0, 1, [.fn 41 [.ptr 0 0 0 0]]⟩] ++ J) 0 = true := vis_app (vis_app (vis_at h0 (by simp)))
         simp only [List.all_cons, List.all_nil, visRs, visR, this, Bool.and_true, Bool.or_true]) hJ
       have k0 : (h ++ [⟨.m, 0, 1, [.fn 41 [.ptr 0 0 0 0]]⟩])[0]? = some ⟨.m, 0, 2, [.agg [.int .i64 c, .snap false (encPs vs)]]⟩ := by rw [List.getElem?_append_left (lt_of_some h0)]; exact h0
       have k9 : (h ++ [⟨.m, 0, 1, [.fn 41 [.ptr 0 0 0 0]]⟩])[h.length]? = some ⟨.m, 0, 1, [.fn 41 [.ptr 0 0 0 0]]⟩ := by simp
       have hcl' : ∀ {h2}, Exd (h ++ [⟨.m, 0, 1, [.fn 41 [.ptr 0 0 0 0]]⟩]) h2 → closedH h2 = true := fun {h2} ⟨J, hJ, e⟩ => by rw [e]; exact hcl J hJ
       (repeat' (first | (refine Rn.go ?_; conv => whnf) | refine .mk ?_ | refine .tt ?_ | refine .ff ?_ | refine .m2 ?_ | refine .m3 ?_ | refine .mk (fun hc => ?_) (fun hc => ?_) | refine .lp (fun v H lp => ?_) | fail))
       clear hH h0
       generalize (h ++ [⟨.m, 0, 1, [.fn 41 [.ptr 0 0 0 0]]⟩]) = H at hcl hcl' k0 k9 ⊢
       have zev : ∀ x, validP x = 0 → (∀ p ∈ x, bulk p.1 < 100000000) → ∀ H', Exd H H' → FnEv C 41 [.snap false (encPs x), .ptr 0 0 0 0] H' (fun r h' => r = .bool (zeroQ c (valS vs x)) ∧ Exd H' h') := fun x hx hb H' hE => by
         obtain ⟨x1, x2, _, _, _⟩ := validP_zero hx
         exact zero_ev c vs x 0 H' (hE.at k0) (fun J hJ => hcl' (hE.app hJ)) hcc st bv sv x2 x1 ⟨fun p hp => Nat.lt_trans (hb p hp) (by decide), by omega⟩
       refine .ex (zev m vm sm H (Exd.refl _)) (fun h2 hE2 => ?_)
       have hq := hcl' hE2
       cases hz : zeroQ c (valS vs m)
       · (repeat' (first | (refine Rn.go ?_; conv => whnf) | refine .mk ?_ | refine .tt ?_ | refine .ff ?_ | refine .m2 ?_ | refine .m3 ?_ | refine .mk (fun hc => ?_) (fun hc => ?_) | refine .lp (fun v H lp => ?_) | fail))
         refine .ex (cntPP_ev l _ [.ptr h.length 0 0 0] (fun x => !(zeroQ c (valS vs x))) _ (by omega) (fun x hx H' hE' Q hQ => .ex (cr3_ev c vs x 0 h.length H' ((hE2.trans hE').at k9) (zev x (by simpa using List.all_eq_true.1 hla x hx) (sl x hx).1 H' (hE2.trans hE'))) hQ)) (fun h3 hE3 => ?_)
         have hq3 := hcl' (hE2.trans hE3)
         have hb : (!(l.any fun x => !(zeroQ c (valS vs x)))) = l.all (fun x => decide (validP x = 0) && zeroQ c (valS vs x)) := by
           rw [List.not_any_eq_all_not, Bool.eq_iff_iff, List.all_eq_true, List.all_eq_true]
           exact ⟨fun a x hx => by have := a x hx; have := List.all_eq_true.1 hla x hx; simp_all, fun a x hx => by have := a x hx; simp_all⟩
         rw [← hb, hg, vm]
         cases hany : l.any fun x => !(zeroQ c (valS vs x))
         all_goals
           (repeat' (first | (refine Rn.go ?_; conv => whnf) | refine .mk ?_ | refine .tt ?_ | refine .ff ?_ | refine .m2 ?_ | refine .m3 ?_ | refine .mk (fun hc => ?_) (fun hc => ?_) | refine .lp (fun v H lp => ?_) | fail))
           exact ⟨_, rfl, by simp [tupOf]⟩
       · (repeat' (first | (refine Rn.go ?_; conv => whnf) | refine .mk ?_ | refine .tt ?_ | refine .ff ?_ | refine .m2 ?_ | refine .m3 ?_ | refine .mk (fun hc => ?_) (fun hc => ?_) | refine .lp (fun v H lp => ?_) | fail))
         exact ⟨_, rfl, by simp [tupOf]⟩)
end Go.Pm
end

/-
  CHAPTER 6, PART 47: ExponentMul, as a pure function. Conditions: none.
-/
section
set_option linter.unusedVariables false
set_option linter.unusedSimpArgs false
set_option linter.unusedVariables false
set_option linter.unusedSimpArgs false
set_option maxRecDepth 4000
namespace Go.Pm
open Go.Proofs
theorem awake_fn : Fun C 7 [] (.bool true) := Fun.of_run awake06
theorem bulks_sum2 : ∀ (l : List Pw), bulks (l.map (·.1)) ≤ (l.map fun p => bulk p.1 + 1).sum
  | [] => by simp [bulks]
  | p :: l => by have := bulks_sum2 l; simp only [List.map_cons, bulks, List.sum_cons]; omega
theorem len_sum2 : ∀ (l : List Pw), l.length ≤ (l.map fun p => bulk p.1 + 1).sum
  | [] => by simp
  | p :: l => by have := len_sum2 l; simp only [List.map_cons, List.length_cons, List.sum_cons]; omega
theorem mem_sum2 {l : List Pw} {p : Pw} (h : p ∈ l) : bulk p.1 ≤ (l.map fun p => bulk p.1 + 1).sum := by
  have := bulk_mem (List.mem_map_of_mem (f := (·.1)) h)
  have := bulks_sum2 l
  omega
attribute [local irreducible] thenQ blockQ loopQ bodyQ Ev EvOps CallEv FnEv EvD
theorem lawM_fun (a b : List Pw) (n : Int) (ha : (a.map fun p => bulk p.1 + 1).sum < 5000000) (hb : (b.map fun p => bulk p.1 + 1).sum < 5000000) : Fun C 5 [.snap false (encPs a), .snap false (encPs b), .int .i64 n] (.bool true) := by
  have h1 := bulks_sum2 a
  have h2 := len_sum2 a
  have h3 := bulks_sum2 b
  have h4 := len_sum2 b
  have hba : ∀ p ∈ a, bulk p.1 < 10000000 := fun p hp => by have := mem_sum2 hp; omega
  have hbb : ∀ p ∈ b, bulk p.1 < 10000000 := fun p hp => by have := mem_sum2 hp; omega
  have bsa : ∀ x y : List Tm, bulks (x ++ y) = bulks x + bulks y := fun x y => by induction x with | nil => simp [bulks] | cons t l ih => simp only [List.cons_append, bulks, ih]; omega
  have hfew := pfew_fun [a, b] (by simp [allT, bsa]; omega) (by simp) (fun p hp => by simp at hp; rcases hp with rfl | rfl <;> omega) 2 1000 (by omega)
  have hpp : encPPs [a, b] = [.snap false (encPs a), .snap false (encPs b)] := rfl
  rw [hpp] at hfew
  have m1 := pmul_fun a b hba hbb (by omega) (by omega)
  have m2 := rmul_fun a b hba hbb (by omega) (by omega)
  have t1 := ptimes_fun a n hba (by omega)
  have t2 := rtimes_fun a n hba (by omega)
  have s1 := sm_mulT hba hbb
  have s2 := sm_timesT n hba
  have s1 := same6_fun _ _ s1 s1
  have s2 := same6_fun _ _ s2 s2
  rw [sameP_self] at s1 s2
  have hela := encPs_len a
  have helb := encPs_len b
  generalize (if (2 : Int) < ((([a, b] : List (List Pw)).length : Nat) : Int) then false else few (allT [a, b]) 1000 1000) = fb at *
  generalize (mulT a b).1 = x at *
  generalize (mulT a b).2 = e at *
  generalize (timesT a n).1 = y at *
  generalize (timesT a n).2 = f at *
  have haw := awake_fn
  refine Fun.x T6 Tryz.func5 rfl ?_
  (repeat' (first | (refine Rn.go ?_; conv => whnf) | refine .mk ?_ | refine .tt ?_ | refine .ff ?_ | refine .m2 ?_ | refine .m3 ?_ | refine .mk (fun hc => ?_) (fun hc => ?_) | refine .lp (fun v H lp => ?_) | fail))
  refine .p haw ?_
  (repeat' (first | (refine Rn.go ?_; conv => whnf) | refine .mk ?_ | refine .tt ?_ | refine .ff ?_ | refine .m2 ?_ | refine .m3 ?_ | refine .mk (fun hc => ?_) (fun hc => ?_) | refine .lp (fun v H lp => ?_) | fail))
  refine .p hfew ?_
  cases fb
  · (repeat' (first | (refine Rn.go ?_; conv => whnf) | refine .mk ?_ | refine .tt ?_ | refine .ff ?_ | refine .m2 ?_ | refine .m3 ?_ | refine .mk (fun hc => ?_) (fun hc => ?_) | refine .lp (fun v H lp => ?_) | fail))
    refine .p haw ?_
    (repeat' (first | (refine Rn.go ?_; conv => whnf) | refine .mk ?_ | refine .tt ?_ | refine .ff ?_ | refine .m2 ?_ | refine .m3 ?_ | refine .mk (fun hc => ?_) (fun hc => ?_) | refine .lp (fun v H lp => ?_) | fail))
    exact ⟨_, rfl, rfl⟩
  (repeat' (first | (refine Rn.go ?_; conv => whnf) | refine .mk ?_ | refine .tt ?_ | refine .ff ?_ | refine .m2 ?_ | refine .m3 ?_ | refine .mk (fun hc => ?_) (fun hc => ?_) | refine .lp (fun v H lp => ?_) | fail))
  · refine .p haw ?_
    (repeat' (first | (refine Rn.go ?_; conv => whnf) | refine .mk ?_ | refine .tt ?_ | refine .ff ?_ | refine .m2 ?_ | refine .m3 ?_ | refine .mk (fun hc => ?_) (fun hc => ?_) | refine .lp (fun v H lp => ?_) | fail))
    exact ⟨_, rfl, rfl⟩
  · refine .p haw ?_
    (repeat' (first | (refine Rn.go ?_; conv => whnf) | refine .mk ?_ | refine .tt ?_ | refine .ff ?_ | refine .m2 ?_ | refine .m3 ?_ | refine .mk (fun hc => ?_) (fun hc => ?_) | refine .lp (fun v H lp => ?_) | fail))
    exact ⟨_, rfl, rfl⟩
  refine .p m1 ?_
  (repeat' (first | (refine Rn.go ?_; conv => whnf) | refine .mk ?_ | refine .tt ?_ | refine .ff ?_ | refine .m2 ?_ | refine .m3 ?_ | refine .mk (fun hc => ?_) (fun hc => ?_) | refine .lp (fun v H lp => ?_) | fail))
  refine .p m2 ?_
  (repeat' (first | (refine Rn.go ?_; conv => whnf) | refine .mk ?_ | refine .tt ?_ | refine .ff ?_ | refine .m2 ?_ | refine .m3 ?_ | refine .mk (fun hc => ?_) (fun hc => ?_) | refine .lp (fun v H lp => ?_) | fail))
  refine .p t1 ?_
  (repeat' (first | (refine Rn.go ?_; conv => whnf) | refine .mk ?_ | refine .tt ?_ | refine .ff ?_ | refine .m2 ?_ | refine .m3 ?_ | refine .mk (fun hc => ?_) (fun hc => ?_) | refine .lp (fun v H lp => ?_) | fail))
  refine .p t2 ?_
  (repeat' (first | (refine Rn.go ?_; conv => whnf) | refine .mk ?_ | refine .tt ?_ | refine .ff ?_ | refine .m2 ?_ | refine .m3 ?_ | refine .mk (fun hc => ?_) (fun hc => ?_) | refine .lp (fun v H lp => ?_) | fail))
  refine .p s1 ?_
  (repeat' (first | (refine Rn.go ?_; conv => whnf) | refine .mk ?_ | refine .tt ?_ | refine .ff ?_ | refine .m2 ?_ | refine .m3 ?_ | refine .mk (fun hc => ?_) (fun hc => ?_) | refine .lp (fun v H lp => ?_) | fail))
  refine .p s2 ?_
  (repeat' (first | (refine Rn.go ?_; conv => whnf) | refine .mk ?_ | refine .tt ?_ | refine .ff ?_ | refine .m2 ?_ | refine .m3 ?_ | refine .mk (fun hc => ?_) (fun hc => ?_) | refine .lp (fun v H lp => ?_) | fail))
  exact ⟨_, rfl, rfl⟩
end Go.Pm
end

/-
  CHAPTER 6, PART 55: ExponentCharacter, as a pure function. Conditions: none.
-/
section
set_option linter.unusedVariables false
set_option linter.unusedSimpArgs false
set_option linter.unusedVariables false
set_option linter.unusedSimpArgs false
set_option maxRecDepth 4000
namespace Go.Pm
open Go.Proofs
theorem modI_zero {n q : Int} (hq : 0 < q) : modI n q = 0 ↔ n.tmod q = 0 := by
  have h1 := Int.tmod_lt_of_pos n hq
  have h2 := Int.lt_tmod_of_pos n hq
  unfold modI
  generalize n.tmod q = r at *
  rw [Int.tmod_eq_emod_of_nonneg (by omega)]
  by_cases hr : r < 0
  · rw [Int.emod_eq_of_lt (by omega) (by omega)]; omega
  · rw [Int.add_emod_right, Int.emod_eq_of_lt (by omega) (by omega)]
theorem zeroQ_valC {c : Int} {vs : List Pw} (h : rgtC c vs = true) (x : List Pw) : zeroQ c (valS vs x) = decide (valC c vs x = 0) := by
  have hc : c = 0 ∨ 1 ≤ c := by unfold rgtC at h; split at h; cases h; omega
  unfold zeroQ valC
  rcases hc with rfl | hc
  · simp
  · rw [if_neg (by omega), Bool.eq_iff_iff]
    have := modI_zero (n := valS vs x) (q := c) (by omega)
    simp only [Bool.or_eq_true, Bool.and_eq_true, decide_eq_true_eq, this]
    constructor
    · rintro (h | ⟨_, h⟩)
      · rw [h]; exact Int.zero_tmod _
      · exact h
    · exact fun h => .inr ⟨by omega, h⟩
theorem chr_same (c : Int) (vs m : List Pw) (l : List (List Pw)) :
    (decide (validP m = 0) && rgtC c vs && l.all (fun x => decide (validP x = 0) && zeroQ c (valS vs x)) && !(zeroQ c (valS vs m))) =
    (decide (validP m = 0) && rgtC c vs && l.all (fun x => decide (validP x = 0) && decide (valC c vs x = 0)) && decide (valC c vs m ≠ 0)) := by
  cases h : rgtC c vs
  · simp
  · simp only [zeroQ_valC h]
    simp
attribute [local irreducible] thenQ blockQ loopQ bodyQ Ev EvOps CallEv FnEv EvD
theorem lawC_fun (l : List (List Int)) (mix rest : List Int) (c : Int) (vs : List Pw) (hl : ∀ x ∈ l, i8L x ∧ x.length < 5000000) (ll : l.length < 5000000) (hm : i8L mix) (lm : mix.length < 5000000) (hr : i8L rest) (lr : rest.length < 5000000) (hv : (vs.map fun p => bulk p.1 + 1).sum < 5000000) :
    Fun C 3 [.agg [.snap false (encLL l), .snap false (encI8 mix), .snap false (encI8 rest)], .agg [.int .i64 c, .snap false (encPs vs)]] (.bool true) := by
  have h1 := bulks_sum2 vs
  have h2 := len_sum2 vs
  have hba : ∀ p ∈ vs, bulk p.1 < 10000000 := fun p hp => by have := mem_sum2 hp; omega
  have bsa : ∀ x y : List Tm, bulks (x ++ y) = bulks x + bulks y := fun x y => by induction x with | nil => simp [bulks] | cons t l ih => simp only [List.cons_append, bulks, ih]; omega
  have hfew := pfew_fun [vs] (by simp [allT, bsa]; omega) (by simp) (fun p hp => by simp at hp; subst hp; omega) 1 1000 (by omega)
  have hpp : encPPs [vs] = [.snap false (encPs vs)] := rfl
  rw [hpp] at hfew
  have hall := all_fun l mix rest (fun x hx => ⟨(hl x hx).1, Nat.lt_trans (hl x hx).2 (by decide)⟩) (by omega) hm (by omega) hr (by omega)
  have smm := allM_sm (mix := mix) (l := l.take 8) (i := 0) (made_sm rest)
  have smv : Sm vs := ⟨fun p hp => Nat.lt_trans (hba p hp) (by decide), by omega⟩
  have sll : ∀ x ∈ (l.take 8).map made, (∀ p ∈ x, bulk p.1 < 100000000) ∧ x.length < 100000000 := fun x hx => by
    obtain ⟨y, _, rfl⟩ := List.mem_map.1 hx
    have := made_sm y
    exact ⟨fun p hp => Nat.lt_trans (this.1 p hp) (by decide), by have := this.2; omega⟩
  have lll : ((l.take 8).map made).length < 100000000 := by simp; omega
  have hsm : ∀ p ∈ allM mix 0 (l.take 8) (made rest), bulk p.1 < 100000000 := fun p hp => Nat.lt_trans (smm.1 p hp) (by decide)
  have hsl : (allM mix 0 (l.take 8) (made rest)).length < 100000000 := by have := smm.2; omega
  generalize (l.take 8).map made = G at *
  generalize allM mix 0 (l.take 8) (made rest) = m at *
  have m1 := pcr_fun c vs m G smv (fun p hp => Nat.lt_trans (hba p hp) (by decide)) hsm hsl sll lll
  have m2 := rcr_fun c vs m G smv hsm hsl sll lll
  rw [chr_same] at m1
  have hel := encLL_len l
  have hev := encPs_len vs
  generalize (decide (validP m = 0) && rgtC c vs && G.all (fun x => decide (validP x = 0) && decide (valC c vs x = 0)) && decide (valC c vs m ≠ 0)) = B at m1 m2
  generalize (if (1 : Int) < ((([vs] : List (List Pw)).length : Nat) : Int) then false else few (allT [vs]) 1000 1000) = fb at *
  have haw := awake_fn
  refine Fun.x T6 Tryz.func3 rfl ?_
  (repeat' (first | (refine Rn.go ?_; conv => whnf) | refine .mk ?_ | refine .tt ?_ | refine .ff ?_ | refine .m2 ?_ | refine .m3 ?_ | refine .mk (fun hc => ?_) (fun hc => ?_) | refine .lp (fun v H lp => ?_) | fail))
  refine .p haw ?_
  (repeat' (first | (refine Rn.go ?_; conv => whnf) | refine .mk ?_ | refine .tt ?_ | refine .ff ?_ | refine .m2 ?_ | refine .m3 ?_ | refine .mk (fun hc => ?_) (fun hc => ?_) | refine .lp (fun v H lp => ?_) | fail))
  · refine .p haw ?_
    (repeat' (first | (refine Rn.go ?_; conv => whnf) | refine .mk ?_ | refine .tt ?_ | refine .ff ?_ | refine .m2 ?_ | refine .m3 ?_ | refine .mk (fun hc => ?_) (fun hc => ?_) | refine .lp (fun v H lp => ?_) | fail))
    exact ⟨_, rfl, rfl⟩
  refine .p hfew ?_
  cases fb
  · (repeat' (first | (refine Rn.go ?_; conv => whnf) | refine .mk ?_ | refine .tt ?_ | refine .ff ?_ | refine .m2 ?_ | refine .m3 ?_ | refine .mk (fun hc => ?_) (fun hc => ?_) | refine .lp (fun v H lp => ?_) | fail))
    refine .p haw ?_
    (repeat' (first | (refine Rn.go ?_; conv => whnf) | refine .mk ?_ | refine .tt ?_ | refine .ff ?_ | refine .m2 ?_ | refine .m3 ?_ | refine .mk (fun hc => ?_) (fun hc => ?_) | refine .lp (fun v H lp => ?_) | fail))
    exact ⟨_, rfl, rfl⟩
  (repeat' (first | (refine Rn.go ?_; conv => whnf) | refine .mk ?_ | refine .tt ?_ | refine .ff ?_ | refine .m2 ?_ | refine .m3 ?_ | refine .mk (fun hc => ?_) (fun hc => ?_) | refine .lp (fun v H lp => ?_) | fail))
  · refine .p haw ?_
    (repeat' (first | (refine Rn.go ?_; conv => whnf) | refine .mk ?_ | refine .tt ?_ | refine .ff ?_ | refine .m2 ?_ | refine .m3 ?_ | refine .mk (fun hc => ?_) (fun hc => ?_) | refine .lp (fun v H lp => ?_) | fail))
    exact ⟨_, rfl, rfl⟩
  refine .p hall ?_
  (repeat' (first | (refine Rn.go ?_; conv => whnf) | refine .mk ?_ | refine .tt ?_ | refine .ff ?_ | refine .m2 ?_ | refine .m3 ?_ | refine .mk (fun hc => ?_) (fun hc => ?_) | refine .lp (fun v H lp => ?_) | fail))
  refine .p m1 ?_
  (repeat' (first | (refine Rn.go ?_; conv => whnf) | refine .mk ?_ | refine .tt ?_ | refine .ff ?_ | refine .m2 ?_ | refine .m3 ?_ | refine .mk (fun hc => ?_) (fun hc => ?_) | refine .lp (fun v H lp => ?_) | fail))
  refine .p m2 ?_
  cases B
  all_goals
    (repeat' (first | (refine Rn.go ?_; conv => whnf) | refine .mk ?_ | refine .tt ?_ | refine .ff ?_ | refine .m2 ?_ | refine .m3 ?_ | refine .mk (fun hc => ?_) (fun hc => ?_) | refine .lp (fun v H lp => ?_) | fail))
    exact ⟨_, rfl, rfl⟩
end Go.Pm
end

/-
  PM, PART 29: slices.Delete. Conditions: none.
-/
section
set_option linter.unusedVariables false
set_option linter.unusedSimpArgs false
set_option linter.unusedVariables false
set_option linter.unusedSimpArgs false
set_option maxRecDepth 100000
set_option maxHeartbeats 4000000
namespace Go.Pm
open Go.Proofs
section
variable {C : Cfg} (T : Tab C.P)
variable {ops : Array Oper} {i : Nat} {d : Nat} {ty : TypeId} {pos : String} {af : Array Edge} {r : List Oper} {ρ : Nat → PV} {L : List (Nat × PV)} {h : AHeap} {Q : St → Prop}

theorem sliceHi_m {P : Program} {t el : TypeId} {id ep len b : Nat} {o : AObj} {k : IntKind} (hu : P.underlying t = some (.slice el)) (hs : tsize P el = some o.esz) (hg : getM h id ep = some o) (hb : b ≤ len) (hle : len ≤ o.es.length) :
    sliceP P h t (.mref id ep 0 len) none (some (.int k (b : Int))) none = some (.mref id ep 0 b) := by
  have h1 : ¬ ((len : Int) < (b : Int)) := by omega
  simp [sliceP, hu, hs, hg, hle, beyond, h1, boundP, hb]
theorem sliceLo_m {P : Program} {t el : TypeId} {id ep len a : Nat} {o : AObj} {k : IntKind} (hu : P.underlying t = some (.slice el)) (hs : tsize P el = some o.esz) (hg : getM h id ep = some o) (ha : a ≤ len) (hle : len ≤ o.es.length) :
    sliceP P h t (.mref id ep 0 len) (some (.int k (a : Int))) none none = some (if a = 0 then .mref id ep 0 len else if len - a = 0 then .snap false [] else .mref id ep a (len - a)) := by
  simp [sliceP, hu, hs, hg, hle, beyond, boundP, ha]
  by_cases h0 : a = 0
  · simp [h0]
  · by_cases h1 : len - a = 0 <;> simp [h0, h1]
theorem slice3_m {P : Program} {t el : TypeId} {id ep len a b : Nat} {o : AObj} {k k' k2 : IntKind} (hu : P.underlying t = some (.slice el)) (hs : tsize P el = some o.esz) (hg : getM h id ep = some o) (ha : a ≤ b) (hb : b ≤ len) (hne : a < len) (hle : len ≤ o.es.length) :
    sliceP P h t (.mref id ep 0 len) (some (.int k (a : Int))) (some (.int k' (b : Int))) (some (.int k2 (len : Int))) = some .any := by
  have h1 : ¬ len = a := by omega
  simp [sliceP, hu, hs, hg, hle, beyond, boundP, ha, hb, h1]
theorem sliceBeyond_m {P : Program} {t el : TypeId} {id ep len a b : Nat} {o : AObj} {k k' : IntKind} (hu : P.underlying t = some (.slice el)) (hs : tsize P el = some o.esz) (hg : getM h id ep = some o) (ha : a ≤ len) (hb : len < b) (hle : b ≤ o.es.length) :
    sliceP P h t (.mref id ep 0 len) (some (.int k (a : Int))) (some (.int k' (b : Int))) none = some (if a = 0 then .mref id ep 0 b else .mref id ep a (b - a)) := by
  have h1 : (len : Int) < (b : Int) := by omega
  have h2 : ¬ (b - a = 0) := by omega
  have h3 : len ≤ o.es.length := by omega
  have h4 : a ≤ b := by omega
  simp [sliceP, hu, hs, hg, h3, beyond, h1, boundP, hle, h4, h2]
  by_cases h0 : a = 0 <;> simp [h0]
theorem sliceBeyond0_m {P : Program} {t el : TypeId} {id ep len b : Nat} {o : AObj} {k' : IntKind} (hu : P.underlying t = some (.slice el)) (hs : tsize P el = some o.esz) (hg : getM h id ep = some o) (hb : len < b) (hle : b ≤ o.es.length) :
    sliceP P h t (.mref id ep 0 len) none (some (.int k' (b : Int))) none = some (.mref id ep 0 b) := by
  have h1 : (len : Int) < (b : Int) := by omega
  have h3 : len ≤ o.es.length := by omega
  simp [sliceP, hu, hs, hg, h3, beyond, h1, boundP, hle]

theorem R.slice {t : TypeId} {x : Operand} {lo hi mx : Option Operand} {p q : PV} {plo phi pmx : Option PV} (hx : evL L x = some p) (h1 : lo.map (ev (al L ρ)) = plo) (h2 : hi.map (ev (al L ρ)) = phi) (h3 : mx.map (ev (al L ρ)) = pmx) (hs : sliceP C.P h t p plo phi pmx = some q)
    (kk : EvOps C ops r ⟨al ((d, q) :: L) ρ, h⟩ Q) : EvOps C ops (⟨some d, .slice t x lo hi mx, ty, pos, af, none⟩ :: r) ⟨al L ρ, h⟩ Q :=
  EvOps.valL (fun run => by simp only [opVal, stepOp, evL_ev hx, h1, h2, h3, hs, Option.map_some]) kk
theorem D.slice {t : TypeId} {x : Operand} {lo hi mx : Option Operand} {p q : PV} {plo phi pmx : Option PV} (hcl : closedH h = true) (hx : evL L x = some p) (hv : visR (visible h) p = true) (h1 : lo.map (ev (al L ρ)) = plo) (h2 : hi.map (ev (al L ρ)) = phi) (h3 : mx.map (ev (al L ρ)) = pmx)
    (v1 : plo.all (visR (visible h)) = true) (v2 : phi.all (visR (visible h)) = true) (v3 : pmx.all (visR (visible h)) = true) (hs : sliceP C.P h t p plo phi pmx = some q)
    (kk : EvD C ops (i + 1) r ⟨⟨al ((d, q) :: L) ρ, h⟩, h.length, []⟩ Q) : EvD C ops i (⟨some d, .slice t x lo hi mx, ty, pos, af, none⟩ :: r) ⟨⟨al L ρ, h⟩, h.length, []⟩ Q := by
  refine EvD.read rfl hcl ?_ ⟨0, fun n lv _ _ => by simp only [opVal, stepOp, evL_ev hx, h1, h2, h3, hs, Option.map_some]⟩ kk
  rw [← h1] at v1; rw [← h2] at v2; rw [← h3] at v3
  rw [List.all_eq_true]
  intro y hy
  simp only [Op.operands] at hy
  cases lo <;> cases hi <;> cases mx <;> simp at hy v1 v2 v3 <;> rcases hy with rfl | hy <;> first
    | (rw [evL_ev hx]; exact hv)
    | (simp_all; done)
    | (rcases hy with rfl | hy <;> first | assumption | (rcases hy with rfl | rfl <;> assumption) | (subst hy; assumption))
theorem appendE2 {st xt el el' : TypeId} {sz by' id ep k : Nat} {z u : PV} {ys : List PV} {o : AObj} (hk : T.kd st = some (.sl el)) (hk' : T.kd xt = some (.sl el')) (hs : T.ts el = some (sz + 1)) (hb : T.tb el = some by') (hz : T.tz el = some z) (hby : by' ≤ 1000) (hl : (cells z).length = sz + 1) (ho : (cells z).all oneC = true)
    (hu : elems h u = some ys) (hy : esOk (sz + 1) ys) (hso : ys ≠ [] → sameObj id u = true) (hg : getM h id ep = some o) (hm : o.mu = .m) (hz' : o.esz = sz + 1) (hle : k + ys.length ≤ o.es.length) :
    appendP C.P 2 h st xt (.mref id ep 0 k) u = some (.mref id ep 0 (k + ys.length), h.set id { o with es := o.es.take k ++ ys ++ o.es.drop (k + ys.length) }) := by
  unfold appendP
  rw [kd_sl (T.hkd _ _ hk)]
  simp only [T.hts _ _ hs, T.htb _ _ hb, T.htz _ _ hz, appendee, kd_sl (T.hkd _ _ hk'), hu]
  unfold esOk at hy
  rw [if_pos ⟨by omega, by omega, ⟨hl, ho⟩, hy⟩]
  simp only [hg]
  rw [if_pos ⟨by omega, hz'.symm⟩]
  cases ys with
  | nil =>
    have e1 : o.es.take k ++ [] ++ o.es.drop (k + 0) = o.es := by simp
    have e2 : h.set id { o with es := o.es.take k ++ [] ++ o.es.drop (k + 0) } = h := by
      rw [e1]
      have h1 := (getM_some hg).1
      have hlt := lt_of_some h1
      rw [List.getElem?_eq_getElem hlt] at h1
      have : (h[id] : AObj) = { o with es := o.es } := Option.some.inj h1
      rw [← this]
      exact List.set_getElem_self hlt
    simp only [List.isEmpty_nil, if_true, List.length_nil, Nat.add_zero] at e2 ⊢
    rw [e2]
  | cons y ys =>
    have hne : (y :: ys).isEmpty = false := rfl
    simp only [hne, Bool.false_eq_true, if_false]
    rw [if_pos ⟨trivial, Nat.le_refl _, hm, hso (by simp), hle⟩]
theorem D.appendE2 {st xt el el' : TypeId} {sz by' id ep k L0 : Nat} {own : List Nat} {z u : PV} {ys : List PV} {o : AObj} {x y : Operand} (hl2 : level ops (before ops) i = 2) (hx : evL L x = some (.mref id ep 0 k)) (hyy : evL L y = some u) (hk : T.kd st = some (.sl el)) (hk' : T.kd xt = some (.sl el')) (hs : T.ts el = some (sz + 1)) (hb : T.tb el = some by') (hz : T.tz el = some z) (hby : by' ≤ 1000) (hl : (cells z).length = sz + 1) (ho : (cells z).all oneC = true)
    (hu : elems h u = some ys) (hy : esOk (sz + 1) ys) (hso : ys ≠ [] → sameObj id u = true) (hg : getM h id ep = some o) (hm : o.mu = .m) (hz' : o.esz = sz + 1) (hle : k + ys.length ≤ o.es.length)
    (kk : EvD C ops (i + 1) r ⟨⟨al ((d, .mref id ep 0 (k + ys.length)) :: L) ρ, h.set id { o with es := o.es.take k ++ ys ++ o.es.drop (k + ys.length) }⟩, (h.set id { o with es := o.es.take k ++ ys ++ o.es.drop (k + ys.length) }).length, []⟩ Q) :
    EvD C ops i (⟨some d, .call ⟨.builtin .append, #[x, y], #[st, xt]⟩, ty, pos, af, none⟩ :: r) ⟨⟨al L ρ, h⟩, L0, own⟩ Q := by
  refine EvD.two rfl hl2 ⟨0, fun n _ => ?_⟩ kk
  have hap := Pm.appendE2 T hk hk' hs hb hz hby hl ho hu hy hso hg hm hz' hle
  simp only [opVal, builtinP, List.map_cons, List.map_nil, evL_ev hx, evL_ev hyy, hap]
theorem R.clearM {t el : TypeId} {id ep off len : Nat} {z : PV} {o : AObj} {x : Operand} (hx : evL L x = some (.mref id ep off len)) (hk : T.kd t = some (.sl el)) (hs : T.ts el = some o.esz) (hz : T.tz el = some z) (hl : (cells z).length = o.esz) (ho : (cells z).all oneC = true) (hg : getM h id ep = some o) (hm : o.mu = .m) (hle : off + len ≤ o.es.length)
    (kk : EvOps C ops r ⟨al L ρ, h.set id { o with es := o.es.take off ++ List.replicate len z ++ o.es.drop (off + len) }⟩ Q) : EvOps C ops (⟨none, .call ⟨.builtin .clear, #[x], #[t]⟩, ty, pos, af, none⟩ :: r) ⟨al L ρ, h⟩ Q := by
  refine EvOps.val (v := .tup []) (h' := h.set id { o with es := o.es.take off ++ List.replicate len z ++ o.es.drop (off + len) }) rfl (fun run => ?_) kk
  simp only [opVal, builtinP, List.map_cons, List.map_nil, evL_ev hx, clearP, kd_sl (T.hkd _ _ hk), T.hts _ _ hs, T.htz _ _ hz, hg]
  rw [if_pos ⟨Nat.le_refl _, hm, trivial, hle, hl, ho⟩]
end
attribute [local irreducible] thenQ blockQ loopQ bodyQ Ev EvOps CallEv FnEv EvD
namespace Zero
theorem del_ev (N : Nat) {h : AHeap} {id ep len k : Nat} {o : AObj} (hg : getM h id ep = some o) (hm : o.mu = .m) (hz : o.esz = 5) (hle : len ≤ o.es.length) (hk : k < len) (hn : len < 100000000) (hok : (o.es.take len).all (okV 5) = true) (hcl : closedH h = true) :
    ∃ es3 : List PV, es3.length = o.es.length ∧ es3.take (len - 1) = (o.es.take len).take k ++ (o.es.take len).drop (k + 1) ∧
      FnEv C0 92 [.mref id ep 0 len, .int .i64 (k : Int), .int .i64 ((k : Int) + 1)] h (fun r h' => r = .mref id ep 0 (len - 1) ∧ h' = h.set id { o with es := es3 }) := by
  have hgs := (getM_some hg).1
  have hlt := lt_of_some hgs
  have hvis : visible h id = true := by
    unfold visible; rw [hgs]; simp [hm]
  obtain ⟨ys, hys⟩ : ∃ ys, ys = (o.es.drop (k + 1)).take (len - (k + 1)) := ⟨_, rfl⟩
  have hyl : ys.length = len - (k + 1) := by rw [hys]; simp; omega
  have hyok : esOk 5 ys := by
    unfold esOk
    rw [List.all_eq_true] at hok ⊢
    intro v hv
    rw [hys] at hv
    have hmem : v ∈ o.es.take len := by
      have : (o.es.drop (k + 1)).take (len - (k + 1)) = (o.es.take len).drop (k + 1) := by rw [List.drop_take]
      rw [this] at hv
      exact List.mem_of_mem_drop hv
    have := hok v hmem
    unfold okV at this
    simp only [Bool.and_eq_true] at this ⊢
    exact ⟨this.1.2, this.2⟩
  obtain ⟨es2, hes2⟩ : ∃ es2, es2 = o.es.take k ++ ys ++ o.es.drop (k + ys.length) := ⟨_, rfl⟩
  have hl2 : es2.length = o.es.length := by rw [hes2]; simp; omega
  refine ⟨es2.take (len - 1) ++ List.replicate 1 (.agg [.int .i64 0, .str ByteArray.empty, .int .i64 0, .snap true [], .int .i64 0]) ++ es2.drop (len - 1 + 1), by simp; omega, ?_, ?_⟩
  · have e1 : (es2.take (len - 1) ++ List.replicate 1 (.agg [.int .i64 0, .str ByteArray.empty, .int .i64 0, .snap true [], .int .i64 0] : PV) ++ es2.drop (len - 1 + 1)).take (len - 1) = es2.take (len - 1) := by
      rw [List.append_assoc, List.take_append_of_le_length (by simp; omega), List.take_take]; congr 1; omega
    rw [e1, hes2]
    have e2 : (o.es.take k ++ ys).length = len - 1 := by simp; omega
    rw [List.take_append_of_le_length (by omega), List.take_of_length_le (by omega), List.take_take, hys]
    congr 1
    · congr 1; omega
    · rw [List.drop_take]
  · refine FnEv.bodyL Tryz.func92 rfl ?_
    have hu : C0.P.underlying 26 = some (.slice 66) := kd_sl (T6.hkd 26 _ rfl)
    have hsz : tsize C0.P 66 = some o.esz := by rw [hz]; exact T6.hts 66 5 rfl
    have hsT : T6.ts 66 = some o.esz := by rw [hz]; rfl
    have hj : ((k : Int) + 1) = ((k + 1 : Nat) : Int) := by omega
    (repeat' (first | refine EvOps.nil ?_ | (apply R.move; exact rfl) | (apply R.assign; exact rfl) | refine Ev.seq ?_ | refine Ev.region ?_ | refine thenQ.normal ?_ | fail))
    apply R.lenM T6 (o := o); exact rfl; exact rfl; exact hg; exact (by omega)
    skip
    apply R.slice
    · exact rfl
    · exact rfl
    · exact rfl
    · exact rfl
    · show sliceP C0.P h 26 (.mref id ep 0 len) (some (.int .i64 (k : Int))) (some (.int .i64 ((k : Int) + 1))) (some (.int .i64 (len : Int))) = some .any
      rw [hj]
      exact slice3_m hu hsz hg (by omega) (by omega) (by omega) hle
    (repeat' (first | refine EvOps.nil ?_ | (apply R.move; exact rfl) | (apply R.cmp; exact rfl; exact rfl; exact rfl; all_goals intro hc; all_goals (try (exfalso; omega))) | refine Ev.seq ?_ | refine Ev.region ?_ | (apply Ev.condB; exact rfl) | refine Ev.skip ?_ | refine thenQ.normal ?_ | fail))
    apply R.lenM T6 (o := o); exact rfl; exact rfl; exact hg; exact (by omega)
    (repeat' (first | refine EvOps.nil ?_ | (apply R.assign; exact rfl) | refine Ev.seq ?_ | refine Ev.regionD ?_ | (apply D.move; exact rfl) | refine thenQ.normal ?_ | fail))
    apply D.slice
    · exact hcl
    · exact rfl
    · exact hvis
    · exact rfl
    · exact rfl
    · exact rfl
    · exact rfl
    · exact rfl
    · exact rfl
    · exact sliceHi_m (b := k) (k := .i64) hu hsz hg (by omega) hle
    (repeat' (first | (apply D.move; exact rfl) | fail))
    apply D.slice
    · exact hcl
    · exact rfl
    · exact hvis
    · exact rfl
    · exact rfl
    · exact rfl
    · exact rfl
    · exact rfl
    · exact rfl
    · show sliceP C0.P h 26 (.mref id ep 0 len) (some (.int .i64 ((k : Int) + 1))) none none = _
      rw [hj]
      exact sliceLo_m hu hsz hg (by omega) hle
    rw [if_neg (by omega)]
    apply D.appendE2 T6 (ys := ys) (o := o) (sz := 4)
    · exact rfl
    · exact rfl
    · exact rfl
    · exact rfl
    · exact rfl
    · exact rfl
    · exact rfl
    · exact rfl
    · exact (by decide)
    · exact rfl
    · exact rfl
    · split
      · have : ys = [] := List.eq_nil_of_length_eq_zero (by omega)
        rw [this]; rfl
      · simp only [elems, hg]
        rw [if_pos (by omega), hys]
    · exact hyok
    · intro hne
      rw [if_neg (fun hh => hne (List.eq_nil_of_length_eq_zero (by omega)))]
      simp [sameObj]
    · exact hg
    · exact hm
    · exact hz
    · omega
    have hkl : k + ys.length = len - 1 := by omega
    have hh2 : h.set id { o with es := o.es.take k ++ ys ++ o.es.drop (k + ys.length) } = h.set id { o with es := es2 } := by rw [hes2]
    have hep := (getM_some hg).2.1
    have hg2 : getM (h.set id { o with es := es2 }) id ep = some { o with es := es2 } := getM_at (List.getElem?_set_self hlt) hep (by show o.mu ≠ .x; rw [hm]; simp)
    refine EvD.heap hh2 ?_
    rw [hkl]
    clear hh2
    (repeat' (first | (apply R.move; exact rfl) | refine Ev.seq ?_ | refine Ev.region ?_ | refine EvD.nil ?_ | (apply D.assign; exact rfl) | refine thenQ.normal ?_ | fail))
    apply R.lenM T6 (o := { o with es := es2 }); exact rfl; exact rfl; exact hg2; exact (by show 0 + (len - 1) ≤ es2.length; omega)
    (repeat' (first | (apply R.move; exact rfl) | fail))
    apply R.slice
    · exact rfl
    · exact rfl
    · exact rfl
    · exact rfl
    · exact sliceBeyond_m (o := { o with es := es2 }) (len := len - 1) (a := len - 1) (b := len) (k := .i64) (k' := .i64) hu hsz hg2 (Nat.le_refl _) (by omega) (by show len ≤ es2.length; omega)
    by_cases h1 : len - 1 = 0
    · rw [if_pos h1]
      have hlen1 : len = 1 := by omega
      subst hlen1
      apply R.clearM T6 (o := { o with es := es2 }) (z := .agg [.int .i64 0, .str ByteArray.empty, .int .i64 0, .snap true [], .int .i64 0])
      · exact rfl
      · exact rfl
      · exact hsT
      · exact rfl
      · show 5 = o.esz; omega
      · rfl
      · exact hg2
      · exact hm
      · show 0 + 1 ≤ es2.length; omega
      (repeat' (first | refine EvOps.nil ?_ | (apply R.move; exact rfl) | (apply R.assign; exact rfl) | refine Ev.seq ?_ | refine Ev.region ?_ | refine Ev.ret ?_ | refine thenQ.normal ?_ | (apply bodyQ.ret; exact rfl) | fail))
      exact ⟨rfl, by rw [List.set_set]⟩
    · rw [if_neg h1]
      have h2 : len - (len - 1) = 1 := by omega
      rw [h2]
      apply R.clearM T6 (o := { o with es := es2 }) (z := .agg [.int .i64 0, .str ByteArray.empty, .int .i64 0, .snap true [], .int .i64 0])
      · exact rfl
      · exact rfl
      · exact hsT
      · exact rfl
      · show 5 = o.esz; omega
      · rfl
      · exact hg2
      · exact hm
      · show len - 1 + 1 ≤ es2.length; omega
      (repeat' (first | refine EvOps.nil ?_ | (apply R.move; exact rfl) | (apply R.assign; exact rfl) | refine Ev.seq ?_ | refine Ev.region ?_ | refine Ev.ret ?_ | refine thenQ.normal ?_ | (apply bodyQ.ret; exact rfl) | fail))
      exact ⟨rfl, by rw [List.set_set]⟩

theorem delete_sim : SimRun C0.P 92 deletePrim := by
  intro args h r h' e w F β vs H ha
  unfold deletePrim at e
  split at e
  · rename_i id ep len i j
    split at e
    · rename_i o hg
      split at e
      · rename_i hc
        obtain ⟨hm, hz, hle, hi0, rfl, hi, hn, hok, hcl⟩ := hc
        obtain ⟨rfl, rfl⟩ := Prod.mk.inj (Option.some.inj e)
        obtain ⟨k, rfl⟩ := Int.eq_ofNat_of_zero_le hi0
        have hk : k < len := by omega
        obtain ⟨es3, l3, t3, f3⟩ := del_ev 0 hg hm hz hle hk hn hok hcl
        unfold FnEv at f3
        obtain ⟨r3, h3, ⟨rfl, rfl⟩, n0, hn0⟩ := f3
        obtain ⟨g1, g2, g3⟩ := getM_some hg
        have hlt := lt_of_some g1
        refine (S0 n0 _ (.inr (if_pos (.inl rfl))) _ h _ _ (hn0 n0 (Nat.le_refl _)) w F β vs H ha).mono ?_
        rintro en w' ⟨v, β1, rfl, q1, q2, q3, _⟩
        have eo : (h.set id { o with es := es3 })[id]? = some { o with es := es3 } := List.getElem?_set_self hlt
        obtain ⟨bc, hb⟩ := beta_at q2.len eo
        obtain ⟨_, _, _, k2, _⟩ := q2.obj id _ bc eo hb (by show o.mu ≠ .x; rw [hm]; simp)
        have hes' : ((o.es.take len).take k ++ (o.es.take len).drop (k + 1)).length = len - 1 := by simp; omega
        have rs := q2.reshape eo hb hm ((o.es.take len).take k ++ (o.es.take len).drop (k + 1)) (ep + 1) (by show o.ep < ep + 1; omega) (by rw [hes']; simp only at k2; omega) (fun i e he => by
          left
          show es3[i]? = some e
          rw [← t3] at he
          rw [List.getElem?_take] at he
          split at he
          · exact he
          · cases he)
        have hset : (h.set id { o with es := es3 }).set id { ({ o with es := es3 } : AObj) with es := (o.es.take len).take k ++ (o.es.take len).drop (k + 1), ep := ep + 1 } = h.set id { o with ep := ep + 1, es := (o.es.take len).take (Int.toNat (k : Int)) ++ (o.es.take len).drop (Int.toNat (k : Int) + 1) } := by
          rw [List.set_set]; rfl
        have vr := VRel.reshape (A := Av F (h.set id { o with ep := ep + 1, es := (o.es.take len).take (Int.toNat (k : Int)) ++ (o.es.take len).drop (Int.toNat (k : Int) + 1) }) β1) eo hb hm q1 g2 (by show len - 1 ≤ es3.length; omega) ((o.es.take len).take k ++ (o.es.take len).drop (k + 1)) (ep + 1)
        rw [hset] at rs vr
        exact ⟨v, β1, rfl, vr, rs.1, q3.trans rs.2, fun hh => by omega⟩
      · cases e
    · cases e
  · cases e
end Zero
end Go.Pm
end

/-
  PM, PART 30: slices.Insert: at the end, and into nothing. Conditions: none.
-/
section
set_option linter.unusedVariables false
set_option linter.unusedSimpArgs false
set_option linter.unusedVariables false
set_option linter.unusedSimpArgs false
set_option maxRecDepth 100000
set_option maxHeartbeats 4000000
namespace Go.Pm
open Go.Proofs
variable {w : World} {F : Nat → Prop} {β : List (Nat × Nat)} {h : AHeap}
theorem R.appendMm {C : Cfg} (T : Tab C.P) {ops : Array Oper} {d : Nat} {ty : TypeId} {pos : String} {af : Array Edge} {r : List Oper} {ρ : Nat → PV} {L : List (Nat × PV)} {Q : St → Prop} {st xt el el' : TypeId} {sz by' id ep len : Nat} {z : PV} {full : Bool} {ys : List PV} {o : AObj} {x y : Operand} (hx : evL L x = some (.mref id ep 0 len)) (hyy : evL L y = some (.snap full ys)) (hk : T.kd st = some (.sl el)) (hk' : T.kd xt = some (.sl el')) (hs : T.ts el = some (sz + 1)) (hb : T.tb el = some by') (hz : T.tz el = some z) (hby : by' ≤ 1000) (hl : (cells z).length = sz + 1) (ho : (cells z).all oneC = true)
    (hy : esOk (sz + 1) ys) (hne : ys.isEmpty = false) (hn : len + ys.length < 1000000000) (hg : getM h id ep = some o) (hm : o.mu = .m) (hz' : o.esz = sz + 1) (hle : len ≤ o.es.length)
    (kk : EvOps C ops r ⟨al ((d, .mref id (ep + 1) 0 (len + ys.length)) :: L) ρ, h.set id { o with ep := ep + 1, es := o.es.take len ++ ys }⟩ Q) :
    EvOps C ops (⟨some d, .call ⟨.builtin .append, #[x, y], #[st, xt]⟩, ty, pos, af, none⟩ :: r) ⟨al L ρ, h⟩ Q := by
  refine EvOps.valL (fun run => ?_) kk
  have hap := appendP_m T (full := full) hk hk' hs hb hz hby hl ho hy hne hn hg hm hz' hle
  simp only [opVal, builtinP, List.map_cons, List.map_nil, evL_ev hx, evL_ev hyy, hap]
theorem sliceLo_s {P : Program} {t el : TypeId} {fl : Bool} {sz : Nat} {k : IntKind} (hu : P.underlying t = some (.slice el)) (hs : tsize P el = some sz) : sliceP P h t (.snap fl []) (some (.int k 0)) none none = some (.snap fl []) := by
  simp [sliceP, hu, hs, boundP]
attribute [local irreducible] thenQ blockQ loopQ bodyQ Ev EvOps CallEv FnEv EvD
theorem okV_esOk {sz : Nat} {e : PV} (h : okV sz e = true) : esOk sz [e] := by
  unfold okV at h
  simp only [Bool.and_eq_true] at h
  unfold esOk
  simp only [List.all_cons, List.all_nil, Bool.and_true, Bool.and_eq_true]
  exact ⟨h.1.2, h.2⟩
namespace Zero
theorem insNil_ev {h : AHeap} {fl : Bool} {e : PV} (he : okV 5 e = true) : FnEv C0 91 [.snap true [], .int .i64 0, .snap fl [e]] h (fun r h' => r = .mref h.length 0 0 1 ∧ h' = h ++ [⟨.m, 0, 5, [e]⟩]) := by
  refine FnEv.bodyL Tryz.func91 rfl ?_
  have hu : C0.P.underlying 26 = some (.slice 66) := kd_sl (T6.hkd 26 _ rfl)
  have hl1 : ([e] : List PV).length = 1 := rfl
  (repeat' (first | refine EvOps.nil ?_ | (apply R.move; exact rfl) | (apply R.assign; exact rfl) | refine Ev.seq ?_ | refine Ev.region ?_ | refine thenQ.normal ?_ | fail))
  apply R.slice
  · exact rfl
  · exact rfl
  · exact rfl
  · exact rfl
  · exact sliceLo_s hu (T6.hts 66 5 rfl)
  (repeat' (first | refine EvOps.nil ?_ | (apply R.move; exact rfl) | (apply R.assign; exact rfl) | (apply R.cmp; exact rfl; exact rfl; exact rfl; all_goals intro hc; all_goals (try (exfalso; omega))) | (apply R.lenS T6; exact rfl; exact rfl) | refine Ev.seq ?_ | refine Ev.region ?_ | (apply Ev.condB; exact rfl) | refine Ev.skip ?_ | refine thenQ.normal ?_ | fail))
  all_goals try (exfalso; revert hc; decide)
  all_goals (
    apply R.appendS1 T6; exact rfl; exact rfl; exact rfl; exact rfl; exact rfl; exact rfl; exact rfl; exact (by decide); exact rfl; exact rfl; exact okV_esOk he; exact (by simp); exact (by show 1 < _; decide)
    (repeat' (first | refine EvOps.nil ?_ | (apply R.assign; exact rfl) | refine Ev.ret ?_ | refine thenQ.normal ?_ | refine thenQ.ret ?_ | (apply bodyQ.ret; exact rfl) | fail))
    exact ⟨rfl, rfl⟩)
theorem insEnd_ev {h : AHeap} {fl : Bool} {e : PV} {id ep len : Nat} {o : AObj} (he : okV 5 e = true) (hg : getM h id ep = some o) (hm : o.mu = .m) (hz : o.esz = 5) (hle : len ≤ o.es.length) (hn : len < 100000000) :
    FnEv C0 91 [.mref id ep 0 len, .int .i64 (len : Int), .snap fl [e]] h (fun r h' => r = .mref id (ep + 1) 0 (len + 1) ∧ h' = h.set id { o with ep := ep + 1, es := o.es.take len ++ [e] }) := by
  refine FnEv.bodyL Tryz.func91 rfl ?_
  have hu : C0.P.underlying 26 = some (.slice 66) := kd_sl (T6.hkd 26 _ rfl)
  have hl1 : ([e] : List PV).length = 1 := rfl
  have hsz : tsize C0.P 66 = some o.esz := by rw [hz]; exact T6.hts 66 5 rfl
  (repeat' (first | refine EvOps.nil ?_ | (apply R.move; exact rfl) | (apply R.assign; exact rfl) | refine Ev.seq ?_ | refine Ev.region ?_ | refine thenQ.normal ?_ | fail))
  apply R.slice
  · exact rfl
  · exact rfl
  · exact rfl
  · exact rfl
  · exact sliceLo_m hu hsz hg (Nat.le_refl _) hle
  (repeat' (first | refine EvOps.nil ?_ | (apply R.move; exact rfl) | (apply R.assign; exact rfl) | (apply R.cmp; exact rfl; exact rfl; exact rfl; all_goals intro hc; all_goals (try (exfalso; omega))) | (apply R.lenS T6; exact rfl; exact rfl) | refine Ev.seq ?_ | refine Ev.region ?_ | (apply Ev.condB; exact rfl) | refine Ev.skip ?_ | refine thenQ.normal ?_ | fail))
  all_goals try (exfalso; revert hc; decide)
  all_goals (
    apply R.lenM T6 (o := o); exact rfl; exact rfl; exact hg; exact (by omega)
    (repeat' (first | refine EvOps.nil ?_ | (apply R.move; exact rfl) | (apply R.assign; exact rfl) | (apply R.cmp; exact rfl; exact rfl; exact rfl; all_goals intro hc; all_goals (try (exfalso; omega))) | refine Ev.seq ?_ | refine Ev.region ?_ | (apply Ev.condB; exact rfl) | refine thenQ.normal ?_ | fail))
    apply R.appendMm T6 (o := o); exact rfl; exact rfl; exact rfl; exact rfl; exact rfl; exact rfl; exact rfl; exact (by decide); exact rfl; exact rfl; exact okV_esOk he; exact rfl; exact (by show len + 1 < _; omega); exact hg; exact hm; exact hz; exact hle
    (repeat' (first | refine EvOps.nil ?_ | (apply R.assign; exact rfl) | refine Ev.ret ?_ | refine thenQ.normal ?_ | refine thenQ.ret ?_ | (apply bodyQ.ret; exact rfl) | fail))
    exact ⟨rfl, rfl⟩)
end Zero
end Go.Pm
end

/-
  PM, PART 31: slices.Insert in the middle: the capacity read, two slices that do not overlap, an append that must move. Conditions: none.
-/
section
set_option linter.unusedVariables false
set_option linter.unusedSimpArgs false
set_option linter.unusedVariables false
set_option linter.unusedSimpArgs false
set_option maxRecDepth 100000
set_option maxHeartbeats 4000000
namespace Go.Pm
open Go.Proofs
variable {w : World} {F : Nat → Prop} {β : List (Nat × Nat)} {h : AHeap}

theorem mref_at (H : HRel w F β h) {v : Value} {id ep off len : Nat} {o : AObj} (hv : VRel w (Av F h β) β h v (.mref id ep off len)) (hg : getM h id ep = some o) (hle : off + len ≤ o.es.length) :
    ∃ bc : Nat × Nat, β[id]? = some bc ∧ ∃ cap, v = .slice (some ⟨bc.1, off * o.esz, none⟩) len cap ∧ off + cap = bc.2 := by
  obtain ⟨e1, e2, e3⟩ := getM_some hg
  obtain ⟨bc, hb⟩ := beta_at H.len e1
  obtain ⟨_, _, m3⟩ := hv.mref_inv
  exact ⟨bc, hb, m3 o bc e1 hb e3 e2 hle⟩

theorem cap_osim {P : Program} {a : Act} {ρ : Nat → PV} (H : HRel w F β h) (R : ERel w (Av F h β) β h a ρ) {t el : TypeId} {x : Operand} {id ep len : Nat} {o : AObj} {bc : Nat × Nat} (hu : P.underlying t = some (.slice el)) (hx : ev ρ x = .mref id ep 0 len) (hg : getM h id ep = some o) (hb : β[id]? = some bc) (hle : len ≤ o.es.length) :
    ∀ oo : Oper, oo.op = .call ⟨.builtin .cap, #[x], #[t]⟩ → OSim P 2 w F β h (execOp a.eval oo) (.int .i64 (bc.2 : Int)) h := by
  intro oo ho
  have hv := R.ev x
  rw [hx] at hv
  obtain ⟨bc', hb', cap, e1, e2⟩ := mref_at H hv hg (by omega)
  obtain rfl := Option.some.inj (hb.symm.trans hb')
  have hc : cap = bc.2 := by omega
  subst hc
  obtain ⟨d, op, ty, pos, af, g⟩ := oo
  simp only at ho
  subst ho
  refine ⟨.int .i64 (bc.2 : Int), w, β, .inl ?_, .val (.int _ _), H, Stp.refl w h β, fun _ => Grew.refl w⟩
  have h1 : (Builtin.cap_ #[t] ty #[a.eval x]).run P w = .ok (.int .i64 (bc.2 : Int)) w := by
    simp [Builtin.cap_, e1, und_run hu, goInt]
  simp only [execOp, resolve, Sem.run_bind, Sem.run_pure, Result.andThen_ok, invoke, builtin]
  simp [h1]

theorem run_overlaps_apart2 {P : Program} (w : World) (tS tR e : TypeId) (ht : P.underlying tS = some (.slice e)) (size : Nat) (hz : ∀ w, (Go.sizeOf e).run P w = .ok size w)
    (a b : Addr) (la ca lb cb : Nat) (hne : a.block ≠ b.block) (tA tB : TypeId) (kA kB : Nat)
    (hsa : w.shape? a.block = some (tA, kA)) (hsb : w.shape? b.block = some (tB, kB)) (hkA : kA ≠ 0)
    (hfa : w.frozen? b = false) (hfe : w.frozen? { block := b.block, off := kB } = false) :
    (Extern.SlicesOverlaps.overlaps #[tS, tS] #[tR] #[.slice (some a) la ca, .slice (some b) lb cb]).run P w = .ok (.bool false) w := by
  have hnb : (a.block != b.block) = true := by simpa using hne
  have hnb' : (a.block == b.block) = false := by simpa using hne
  conv => lhs; arg 2; whnf
  have he : (#[tS, tS] : Array TypeId)[0] = tS := rfl
  have hbp : ∀ {α β : Type} (x : α) (f : α → Sem β), (pure x : Sem α).bind f = f x := fun _ _ => rfl
  by_cases h0 : la = 0 ∨ lb = 0 ∨ size = 0
  · simp [Sem.run, Sem.bind, hbp, he, ht, hz, h0]
  · cases kA with
    | zero => exact absurd rfl hkA
    | succ kA =>
      cases h3 : w.frozen? a <;> cases h4 : w.frozen? { block := a.block, off := kA + 1 } <;>
        simp [Sem.run, Sem.bind, hbp, he, ht, hz, h0, hnb, hnb', frozen, noView, viewAt, mayBeOne, stringish, shape, hsa, hsb, hfa, hfe, h3, h4]

theorem overlaps_osim {P : Program} {a : Act} {ρ : Nat → PV} (H : HRel w F β h) (R : ERel w (Av F h β) β h a ρ) {t el tR : TypeId} {sz : Nat} {x y : Operand} {f : FuncId} {fn : Func} {fl : Bool} {e1 : PV} {id ep off n : Nat} {o : AObj}
    (hu : P.underlying t = some (.slice el)) (hs : tsize P el = some sz) (hx : ev ρ x = .snap fl [e1]) (hy : ev ρ y = .mref id ep off n) (hg : getM h id ep = some o) (hm : o.mu = .m) (hle : off + n ≤ o.es.length)
    (hf : P.funcs[f]? = some fn) (hname : (fn.name == "runtime.NumGoroutine") = false) (hbd : fn.body.isNone = true) (hn : Extern.findNext fn = none) (he : Extern.find fn = some (Extern.SlicesOverlaps.overlaps #[t, t] #[tR])) {ats : Array TypeId} :
    ∀ oo : Oper, oo.op = .call ⟨.value (.func f), #[x, y], ats⟩ → OSim P 2 w F β h (execOp a.eval oo) (.bool false) h := by
  intro oo ho
  have hvx := R.ev x
  rw [hx] at hvx
  have hvy := R.ev y
  rw [hy] at hvy
  obtain ⟨bc, hb, cap, ey, e2⟩ := mref_at H hvy hg hle
  obtain ⟨g1, g2, g3⟩ := getM_some hg
  obtain ⟨T, cs, k1, k2, k3, k4, k5⟩ := H.obj id o bc g1 hb g3
  rcases hvx.snap_inv.snap_open with h0 | ⟨b, off', cap', sz', cvs, ex, hnA, hsz, hl1, hc1, hc2⟩
  · cases h0
  have hbb : b ≠ bc.1 := fun hh => hnA (.inr ⟨id, o, bc, g1, hb, hm, hh.symm⟩)
  have hcell := hc1 0 0 (by simp) hsz
  obtain ⟨tA, kA, hsa, hkA⟩ : ∃ tA kA, w.shape? b = some (tA, kA) ∧ kA ≠ 0 := by
    simp only [World.cell?] at hcell
    split at hcell
    · rename_i c el0 fr hh
      split at hcell
      · cases hcell
      · refine ⟨el0, c.size, by simp [World.shape?, hh], ?_⟩
        intro h0
        have := (Array.getElem?_eq_some_iff.1 hcell).1
        omega
    · cases hcell
  have hsb : w.shape? bc.1 = some (T, cs.size) := by simp [World.shape?, k1]
  have hfb : ∀ of, w.frozen? ⟨bc.1, of, none⟩ = false := fun of => by simp [World.frozen?, k1]
  have hov := run_overlaps_apart2 (P := P) w t tR el hu sz (fun w => tsize_run hs w) ⟨b, off', none⟩ ⟨bc.1, off * o.esz, none⟩ 1 cap' n cap hbb tA T kA cs.size hsa hsb hkA (hfb _) (hfb _)
  obtain ⟨d, op, ty, pos, af, g⟩ := oo
  simp only at ho
  subst ho
  refine ⟨.bool false, w, β, .inl ?_, .val (.bool _), H, Stp.refl w h β, fun _ => Grew.refl w⟩
  have hc := run_callFunc_extern hf hname hbd hn he #[a.eval x, a.eval y] w
  rw [ex, ey] at hc
  rw [show ([e1] : List PV).length = 1 from rfl] at hc
  rw [hov] at hc
  have hfv : a.eval (.func f) = .func (.func f) #[] #[] := rfl
  simp only [execOp, resolve, hfv, Deferred.ofValue, Sem.run_bind, Sem.run_pure, Result.andThen_ok, invoke]
  simp only [Array.append_empty, List.map_toArray, List.map_cons, List.map_nil, ex, ey]
  exact hc

theorem append_osim {P : Program} {a : Act} {ρ : Nat → PV} (H : HRel w F β h) (R : ERel w (Av F h β) β h a ρ) {st xt el : TypeId} {k : IntKind} {sz by' n : Nat} {z : PV} {x y : Operand} {id ep len : Nat} {o : AObj} {bc : Nat × Nat}
    (hu : P.underlying st = some (.slice el)) (hu2 : P.underlying xt = some (.int k)) (hs : tsize P el = some sz) (hpos : 0 < sz) (hb : tbytes P el = some by') (hby : by' ≤ 1000) (hz : tzero P el = some z) (hl : (cells z).length = sz) (hone : (cells z).all oneC = true)
    (hx : ev ρ x = .mref id ep 0 len) (hy : ev ρ y = .int k (n : Int)) (hg : getM h id ep = some o) (hbc : β[id]? = some bc) (hle : len ≤ o.es.length) (hsz : o.esz = sz) (hroom : bc.2 < len + n) (hn : len + n < 1000000000) :
    ∀ oo : Oper, oo.op = .call ⟨.builtin .append, #[x, y], #[st, xt]⟩ → OSim P 2 w F β h (execOp a.eval oo) (.mref h.length 0 0 (len + n)) (h ++ [⟨.m, 0, sz, o.es.take len ++ List.replicate n z⟩]) := by
  intro oo ho
  obtain ⟨d, op, ty, pos, af, g⟩ := oo
  simp only at ho
  subst ho
  have hvx := R.ev x
  rw [hx] at hvx
  have hvy := R.ev y
  rw [hy] at hvy
  obtain ⟨bc', hb', cap, ex, e2⟩ := mref_at H hvx hg (by omega)
  obtain rfl := Option.some.inj (hbc.symm.trans hb')
  have hcap : cap = bc.2 := by omega
  subst hcap
  obtain ⟨g1, g2, g3⟩ := getM_some hg
  obtain ⟨T, cs0, k1, k2, k3, k4, k5⟩ := H.obj id o bc g1 hbc g3
  have main : Sim P 2 w F β h (Builtin.append_ #[st, xt] ty #[a.eval x, a.eval y]) (.mref h.length 0 0 (len + n)) (h ++ [⟨.m, 0, sz, o.es.take len ++ List.replicate n z⟩]) := by
    have hyl : (List.replicate n z).length = n := List.length_replicate
    have hall : (List.replicate n z).all (fun v => decide ((Pm.cells v).length = sz) && (Pm.cells v).all oneC) = true := by
      rw [List.all_eq_true]
      intro v hv
      obtain rfl := List.eq_of_mem_replicate hv
      rw [hl, hone]; simp
    have happ : appendee P h z xt (.int k (n : Int)) = some (List.replicate n z) := by
      simp only [appendee, hu2]
      rw [if_pos (by omega)]
      simp
    obtain ⟨vz, z1, z2⟩ := tzero_run2 (P := P) hz
    obtain ⟨zb, d', a1, a2, news, a3, a4, a5, a6⟩ := appendee_run (st := st) (vz := vz) H hs hb hz hpos (by omega) hvy happ hall
    rw [hyl] at a5 a6
    have zsz : vz.cells.size = sz := by rw [((z2 w (Av F h β) β h).cells hone).1]; exact hl
    have hes : elems h (.mref id ep 0 len) = some ((o.es.drop 0).take len) := by simp only [elems, hg]; rw [if_pos (by omega)]
    have htl : ((o.es.drop 0).take len).length = len := by simp; omega
    obtain ⟨a', cap', ev', _, cs, f1, f2⟩ := elems_flat (P := P) (sz := sz) H hvx hes (fun y hy => by
      obtain ⟨k, hk⟩ := List.getElem?_of_mem hy
      rw [List.getElem?_take] at hk
      split at hk
      · simp at hk; rw [← hsz]; exact (k5 k y hk).1
      · cases hk)
    simp only [List.drop_zero] at f1 htl f2
    have hbig2 : len + n ≤ 17592186044416 := by omega
    have hbig : (len + n) * by' ≤ 17592186044416 := by
      have : (len + n) * by' ≤ 1000000000 * 1000 := Nat.mul_le_mul (by omega) hby
      omega
    obtain ⟨c, c1, hrun⟩ := append_grow (P := P) (w := w) (ty := ty) (ts := #[st, xt]) (args := #[a.eval x, a.eval y]) (olds := cs) (sLen := len) (sCap := bc.2) (base := some ⟨bc.1, 0 * o.esz, none⟩) rfl rfl (by rw [ex]; rfl) rfl hu hs a1 a2 hb (by omega) z1 a5 a6 (fun w' hw' => by
      have := f2 w' hw' len (by omega)
      rw [List.take_of_length_le (by rw [f1.1, htl]; exact Nat.le_refl _)] at this
      rw [← ex]
      exact this) (by omega) hbig hbig2
    have hfl := f1.append a3
    have arr : cs.toArray ++ news.toArray ++ Builtin.zeroCells vz.cells (c - (len + n)) = (cs ++ news ++ (Builtin.zeroCells vz.cells (c - (len + n))).toList).toArray := by apply Array.ext'; simp
    have arrsz : c * sz ≤ (cs.toArray ++ news.toArray ++ Builtin.zeroCells vz.cells (c - (len + n))).size := by
      simp only [Array.size_append, List.size_toArray, size_zeroCells, zsz, f1.1, a3.1, htl, hyl, ← Nat.add_mul]
      rw [show len + n + (c - (len + n)) = c by omega]
      exact Nat.le_refl _
    obtain ⟨HH, S⟩ := HRel.new H (w' := w.drew.alloc (.cells (cs.toArray ++ news.toArray ++ Builtin.zeroCells vz.cells (c - (len + n))) el)) el
      (cs.toArray ++ news.toArray ++ Builtin.zeroCells vz.cells (c - (len + n))) { mu := .m, ep := 0, esz := sz, es := o.es.take len ++ List.replicate n z } c rfl rfl rfl rfl rfl (by simp; omega)
      arrsz hpos (fun i e he => by
        rw [arr]
        exact hfl.obj (rest := (Builtin.zeroCells vz.cells (c - (len + n))).toList) i e he)
    exact ⟨_, _, _, hrun, H.mrefNew, HH, S, fun hh => by omega⟩
  obtain ⟨v, w', β', r1, r2, r3, r4, r5⟩ := main
  refine ⟨v, w', β', .inl ?_, r2, r3, r4, r5⟩
  simp only [execOp, resolve, Sem.run_bind, Sem.run_pure, Result.andThen_ok, invoke, builtin]
  simp only [List.map_toArray, List.map_cons, List.map_nil, r1, Result.andThen_ok]

/-- an object that has moved to a block of the later world; its cells as they are there -/
theorem HRel.setNew {w w' : World} {F : Nat → Prop} {β : List (Nat × Nat)} {h : AHeap} (H : HRel w F β h) {id : Nat} {o : AObj} {bc : Nat × Nat} (eo : h[id]? = some o) (eb : β[id]? = some bc) (em : o.mu = .m)
    (T : TypeId) (cs : Array Value) (es' : List PV) (ep' : Nat) (bc' : Nat × Nat)
    (hsz : w.heap.size ≤ w'.heap.size) (hat : w'.heap[bc'.1]? = some (.cells cs T (0, 0))) (hother : ∀ b, b < w.heap.size → w'.heap[b]? = w.heap[b]?)
    (hge : w.heap.size ≤ bc'.1) (hlt : o.ep < ep') (ho : w'.os = w.os) (ht : w'.tape = w.tape) (hu : w'.output = w.output)
    (h1 : es'.length ≤ bc'.2) (h2 : bc'.2 * o.esz ≤ cs.size)
    (h4 : ∀ (i : Nat) (e : PV), es'[i]? = some e → (cells e).length = o.esz ∧ ∀ (j : Nat) (p : PV), (cells e)[j]? = some p → ∃ v : Value, cs[i * o.esz + j]? = some v ∧ VRel w' (Av F (h.set id { o with es := es', ep := ep' }) (β.set id bc')) (β.set id bc') (h.set id { o with es := es', ep := ep' }) v p)
    (hd : w.drawn ≤ w'.drawn := by first | exact Nat.le_refl _ | exact Nat.le_succ _) :
    HRel w' F (β.set id bc') (h.set id { o with es := es', ep := ep' }) ∧ Stp w h β w' (h.set id { o with es := es', ep := ep' }) (β.set id bc') := by
  have hlen := H.len
  have hid := lt_of_some eo
  have hesz : 0 < o.esz := by
    obtain ⟨_, _, _, _, _, k, _⟩ := H.obj id o bc eo eb (by rw [em]; simp)
    exact k
  have hself : (h.set id { o with es := es', ep := ep' })[id]? = some { o with es := es', ep := ep' } := by simp [hid]
  have bself : (β.set id bc')[id]? = some bc' := by simp [hlen, hid]
  have hoth : ∀ k, k ≠ id → (h.set id { o with es := es', ep := ep' })[k]? = h[k]? := fun k hk => List.getElem?_set_ne (Ne.symm hk)
  have both : ∀ k, k ≠ id → (β.set id bc')[k]? = β[k]? := fun k hk => List.getElem?_set_ne (Ne.symm hk)
  have hs : Stp w h β w' (h.set id { o with es := es', ep := ep' }) (β.set id bc') := by
    refine ⟨hsz, by simp, fun b hb hm => hother b hb, ?_, ?_, ?_, ho, ht, hu, hd⟩
    · rintro b hb ⟨k, o', c', e1, e2, e3, rfl⟩
      by_cases hk : k = id
      · subst hk
        rw [bself] at e2
        obtain rfl := Option.some.inj e2
        omega
      · rw [hoth k hk] at e1; rw [both k hk] at e2
        exact ⟨k, o', c', e1, e2, e3, rfl⟩
    · intro k o' c' e1 e2 e3
      by_cases hk : k = id
      · subst hk
        rw [eo] at e1; rw [eb] at e2
        obtain rfl := Option.some.inj e1
        obtain rfl := Option.some.inj e2
        exact ⟨_, bc', hself, bself, by rw [em]; simp, Nat.le_of_lt hlt, fun e => by simp at e; omega⟩
      · exact ⟨o', c', by rw [hoth k hk]; exact e1, by rw [both k hk]; exact e2, e3, Nat.le_refl _, fun _ => ⟨rfl, rfl, rfl⟩⟩
    · intro k o' e1 e2
      have hk : k ≠ id := by
        rintro rfl
        rw [eo] at e1
        obtain rfl := Option.some.inj e1
        exact e2 em
      exact ⟨by rw [hoth k hk]; exact e1, both k hk⟩
  refine ⟨⟨by simp [hlen], fun b hb => Nat.lt_of_lt_of_le (H.fin b hb) hsz, ?_, ?_, ?_⟩, hs⟩
  · intro k o' c' e1 e2 e3
    by_cases hk : k = id
    · subst hk
      rw [hself] at e1; rw [bself] at e2
      obtain rfl := Option.some.inj e1
      obtain rfl := Option.some.inj e2
      exact ⟨T, cs, hat, h1, h2, hesz, h4⟩
    · rw [hoth k hk] at e1; rw [both k hk] at e2
      have r := H.obj k o' c' e1 e2 e3
      obtain ⟨T', cs', k1, _⟩ := _root_.id r
      exact ORel.mono hs (hother _ (Array.getElem?_eq_some_iff.1 k1).1) r
  · intro k k' o1 o2 bc1 bc2 hne e1 e2 e3 e4 m1 m2
    by_cases hk : k = id
    · subst hk
      have hk' : k' ≠ k := Ne.symm hne
      rw [hoth k' hk'] at e2; rw [both k' hk'] at e4; rw [bself] at e3
      obtain rfl := Option.some.inj e3
      obtain ⟨T', cs', k1, _⟩ := H.obj k' o2 bc2 e2 e4 m2
      have := (Array.getElem?_eq_some_iff.1 k1).1
      omega
    · rw [hoth k hk] at e1; rw [both k hk] at e3
      by_cases hk' : k' = id
      · subst hk'
        rw [bself] at e4
        obtain rfl := Option.some.inj e4
        have := Mb.lt H ⟨k, o1, bc1, e1, e3, m1, rfl⟩
        omega
      · rw [hoth k' hk'] at e2; rw [both k' hk'] at e4
        exact H.dist k k' o1 o2 bc1 bc2 hne e1 e2 e3 e4 m1 m2
  · intro k o' c' e1 e2 e3
    by_cases hk : k = id
    · subst hk
      rw [bself] at e2
      obtain rfl := Option.some.inj e2
      intro hf; have := H.fin _ hf; omega
    · rw [hoth k hk] at e1; rw [both k hk] at e2
      exact H.out k o' c' e1 e2 e3
end Go.Pm
end
