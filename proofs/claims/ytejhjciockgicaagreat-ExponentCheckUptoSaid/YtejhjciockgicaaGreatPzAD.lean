/-
  A part of the library Pm and its contracts (joined by program): PmTab PmTerm PmSpec PmPow PmVal PmBack PmName PmSize PmValid PmCmp PmRef. Conditions: none.
-/
import Derived.Test.YtejhjciockgicaaGreatPzAC
import Derived.Test.YtejhjciockgicaaGreatPzAA
import Derived.Lib.Bytealg
/-
  PM: the tables of the seat's program, printed by tab.sh, checked by the kernel. Conditions: none.
-/
section
set_option linter.unusedVariables false
set_option linter.unusedSimpArgs false
set_option maxRecDepth 20000
namespace Go.Pm
def tsL : List (Option Nat) := [some (1), some (1), some (1), some (1), some (1), some (1), some (1), some (4), some (4), some (1), some (1), some (1), some (1), some (2), some (2), some (1), some (1), some (1), some (1), some (1), some (1), some (1), some (1), some (1), some (3), some (3), some (1), some (2), some (2), some (1), some (1), some (1), some (1), some (1), some (1), some (1), some (1), some (1), some (1), some (1), some (1), some (1), some (1), some (1), some (1), some (1), some (1), some (1), some (1), some (1), some (1), some (1), some (4), some (4), some (1), some (1), some (1), some (1), some (1), some (1), some (1), some (1), some (1), some (1), some (1), some (5), some (5), some (1), some (1), some (1), some (1), some (1), some (1), some (1), some (1), some (1), some (1), some (1), some (1), some (1), some (1), some (1), some (1), some (1), some (1), some (1), some (1), some (1), some (1), some (1), some (1), some (1), some (1), some (3), some (3), some (1), some (3), some (3), some (1), some (1), some (1), some (4), some (4), some (1), some (1), some (1), some (1), some (1), some (1), some (1), some (1), some (1), some (1), some (1), some (1), some (1), some (1), some (1), some (1), some (1), some (1), some (1), some (1), some (1), some (1), some (1), some (1), some (1), some (1), some (1), some (1), some (1), some (1), some (1), some (1), some (1), some (1), some (1), some (1), some (1), some (1), some (1), some (1), some (1), some (1), some (1), some (1), some (1), some (1), some (1), some (1), some (1), some (1), some (1), some (1), some (1), some (1), some (1), some (1), some (1), some (1), some (1), some (1), some (2), some (1), some (1), some (1), some (1), some (1), some (1), some (1), some (1), some (1), some (1), some (1), some (1), some (1), some (1), some (1), some (1), some (1), some (4), some (4), some (0), some (0), some (0), some (1), some (1), some (1), some (1), some (1), some (1), some (1), some (11), some (11), some (1), some (1), some (1)]
def tbL : List (Option Nat) := [some (0), some (8), some (8), some (8), some (1), some (1), some (1), some (24), some (24), some (16), some (16), some (16), some (8), some (24), some (24), some (8), some (8), some (8), some (8), some (8), some (16), some (4), some (24), some (24), some (72), some (72), some (24), some (32), some (32), some (8), some (8), some (24), some (0), some (8), some (8), some (8), some (24), some (8), some (8), some (8), some (8), some (0), some (8), some (8), some (8), some (8), some (0), some (8), some (0), some (8), some (8), some (24), some (56), some (56), some (8), some (8), some (8), some (8), some (8), some (0), some (8), some (8), some (1), some (8), some (8), some (64), some (64), some (8), some (8), some (8), some (8), some (8), some (8), some (8), some (8), some (0), some (8), some (8), some (8), some (8), some (8), some (8), some (8), some (8), some (8), some (8), some (8), some (8), some (8), some (8), some (8), some (0), some (8), some (56), some (56), some (24), some (72), some (72), some (0), some (8), some (24), some (80), some (80), some (8), some (8), some (8), some (8), some (8), some (8), some (0), some (8), some (8), some (8), some (8), some (8), some (8), some (8), some (8), some (8), some (8), some (8), some (8), some (8), some (8), some (8), some (8), some (8), some (8), some (8), some (0), some (8), some (8), some (0), some (8), some (0), some (8), some (8), some (8), some (24), some (8), some (8), some (8), some (8), some (8), some (8), some (8), some (8), some (24), some (8), some (0), some (8), some (8), some (8), some (8), some (0), some (8), some (8), some (8), some (8), some (8), some (4), some (8), some (8), some (48), some (24), some (0), some (8), some (8), some (8), some (8), some (8), some (8), some (8), some (8), some (16), some (16), some (8), some (0), some (8), some (8), some (8), some (40), some (40), some (0), some (0), some (0), some (8), some (1), some (1), some (8), some (8), some (4), some (4), some (48), some (48), some (16), some (16), some (8)]
def taL : List (Option Bool) := [some (false), some (false), some (false), some (false), some (false), some (false), some (false), some (true), some (true), some (false), some (false), some (false), some (false), some (true), some (true), some (false), some (false), some (false), some (true), some (true), some (false), some (false), some (false), some (false), some (true), some (true), some (false), some (true), some (true), some (false), some (false), some (false), some (false), some (false), some (false), some (false), some (false), some (false), some (false), some (false), some (false), some (false), some (false), some (false), some (false), some (false), some (false), some (false), some (false), some (false), some (false), some (false), some (true), some (true), some (false), some (false), some (false), some (false), some (false), some (false), some (false), some (false), some (false), some (false), some (false), some (true), some (true), some (false), some (false), some (false), some (false), some (false), some (false), some (false), some (false), some (false), some (false), some (false), some (false), some (false), some (false), some (false), some (false), some (false), some (false), some (false), some (false), some (false), some (false), some (false), some (false), some (false), some (false), some (true), some (true), some (false), some (true), some (true), some (false), some (false), some (false), some (true), some (true), some (false), some (false), some (false), some (false), some (false), some (false), some (false), some (false), some (false), some (false), some (false), some (false), some (false), some (false), some (false), some (false), some (false), some (false), some (false), some (false), some (false), some (false), some (false), some (false), some (false), some (false), some (false), some (false), some (false), some (false), some (false), some (false), some (false), some (false), some (false), some (false), some (false), some (false), some (false), some (false), some (false), some (false), some (false), some (false), some (false), some (false), some (false), some (false), some (false), some (false), some (false), some (false), some (false), some (false), some (false), some (false), some (false), some (false), some (false), some (false), some (true), some (false), some (false), some (false), some (false), some (false), some (false), some (false), some (false), some (false), some (false), some (false), some (false), some (false), some (false), some (false), some (false), some (false), some (true), some (true), some (true), some (true), some (true), some (false), some (false), some (false), some (false), some (false), some (false), some (false), some (true), some (true), some (true), some (true), some (false)]
def kdL : List (Option Kd) := [some (.other), some (.other), some (.int .i64), some (.int .i64), some (.bool), some (.int .u8), some (.int .u8), some (.st [(0, 2), (1, 3), (2, 4), (3, 6)]), some (.st [(0, 2), (1, 3), (2, 4), (3, 6)]), some (.str), some (.str), some (.str), some (.int .u64), some (.st [(0, 9), (1, 12)]), some (.st [(0, 9), (1, 12)]), some (.other), some (.other), some (.other), some (.st [(0, 17)]), some (.st [(0, 17)]), some (.other), some (.int .i32), some (.sl 23), some (.sl 62), some (.st [(0, 22), (1, 23), (2, 23)]), some (.st [(0, 22), (1, 23), (2, 23)]), some (.sl 66), some (.st [(0, 3), (1, 26)]), some (.st [(0, 3), (1, 26)]), some (.other), some (.other), some (.sl 26), some (.other), some (.other), some (.other), some (.other), some (.sl 3), some (.other), some (.other), some (.other), some (.int .i64), some (.other), some (.other), some (.other), some (.other), some (.other), some (.other), some (.other), some (.other), some (.other), some (.other), some (.sl 53), some (.st [(0, 3), (1, 9), (2, 3), (3, 51)]), some (.st [(0, 3), (1, 9), (2, 3), (3, 51)]), some (.other), some (.other), some (.other), some (.other), some (.other), some (.other), some (.other), some (.other), some (.int .i8), some (.other), some (.other), some (.st [(0, 53), (4, 3)]), some (.st [(0, 53), (4, 3)]), some (.other), some (.other), some (.other), some (.other), some (.other), some (.other), some (.other), some (.other), some (.other), some (.other), some (.other), some (.other), some (.other), some (.other), some (.other), some (.other), some (.other), some (.other), some (.other), some (.other), some (.other), some (.other), some (.other), some (.other), some (.other), some (.other), some (.st [(0, 36), (1, 36), (2, 4)]), some (.st [(0, 36), (1, 36), (2, 4)]), some (.sl 36), some (.st [(0, 51), (1, 95), (2, 36)]), some (.st [(0, 51), (1, 95), (2, 36)]), some (.other), some (.other), some (.sl 90), some (.st [(0, 51), (1, 100), (2, 36), (3, 4)]), some (.st [(0, 51), (1, 100), (2, 36), (3, 4)]), some (.other), some (.other), some (.other), some (.other), some (.other), some (.other), some (.other), some (.other), some (.other), some (.other), some (.other), some (.other), some (.other), some (.other), some (.other), some (.other), some (.int .u64), some (.other), some (.other), some (.other), some (.other), some (.other), some (.other), some (.other), some (.other), some (.other), some (.other), some (.other), some (.other), some (.other), some (.other), some (.other), some (.other), some (.other), some (.other), some (.sl 51), some (.other), some (.other), some (.other), some (.other), some (.other), some (.other), some (.other), some (.other), some (.sl 4), some (.other), some (.other), some (.other), some (.other), some (.other), some (.int .i64), some (.other), some (.other), some (.other), some (.other), some (.other), some (.other), some (.int .u32), some (.other), some (.int .u64), some (.arr 2 36), some (.sl 163), some (.other), some (.other), some (.other), some (.int .u64), some (.other), some (.other), some (.other), some (.other), some (.other), some (.other), some (.other), some (.other), some (.other), some (.other), some (.other), some (.other), some (.st [(0, 17), (1, 17), (2, 17), (3, 9)]), some (.st [(0, 17), (1, 17), (2, 17), (3, 9)]), some (.arr 0 16), some (.st [(0, 183)]), some (.st [(0, 183)]), some (.other), some (.int .u8), some (.int .u8), some (.other), some (.other), some (.int .i32), some (.int .i32), some (.st [(0, 12), (1, 12), (2, 160), (3, 187), (4, 5), (5, 5), (6, 188), (7, 189), (8, 190), (9, 191), (10, 192)]), some (.st [(0, 12), (1, 12), (2, 160), (3, 187), (4, 5), (5, 5), (6, 188), (7, 189), (8, 190), (9, 191), (10, 192)]), some (.st [(0, 9)]), some (.st [(0, 9)]), some (.other)]
def tzL : List (Option PV) := [none, some (.nilf), some (.int .i64 (0)), some (.int .i64 (0)), some (.bool false), some (.int .u8 (0)), some (.int .u8 (0)), some (.agg [.int .i64 (0), .int .i64 (0), .bool false, .int .u8 (0)]), some (.agg [.int .i64 (0), .int .i64 (0), .bool false, .int .u8 (0)]), some (.str ByteArray.empty), some (.str ByteArray.empty), some (.str ByteArray.empty), some (.int .u64 (0)), some (.agg [.str ByteArray.empty, .int .u64 (0)]), some (.agg [.str ByteArray.empty, .int .u64 (0)]), some (.nilp), some (.nilp), some (.nilp), some (.agg [.nilp]), some (.agg [.nilp]), none, some (.int .i32 (0)), some (.snap true []), some (.snap true []), some (.agg [.snap true [], .snap true [], .snap true []]), some (.agg [.snap true [], .snap true [], .snap true []]), some (.snap true []), some (.agg [.int .i64 (0), .snap true []]), some (.agg [.int .i64 (0), .snap true []]), some (.nilf), some (.nilf), some (.snap true []), none, some (.nilf), some (.nilf), some (.nilf), some (.snap true []), some (.nilf), some (.nilf), some (.nilf), some (.int .i64 (0)), none, some (.nilf), some (.nilf), some (.nilf), some (.nilf), none, some (.nilf), none, some (.nilf), some (.nilf), some (.snap true []), some (.agg [.int .i64 (0), .str ByteArray.empty, .int .i64 (0), .snap true []]), some (.agg [.int .i64 (0), .str ByteArray.empty, .int .i64 (0), .snap true []]), some (.nilf), some (.nilf), some (.nilf), some (.nilf), some (.nilf), none, some (.nilf), some (.nilf), some (.int .i8 (0)), some (.nilf), some (.nilf), some (.agg [.int .i64 (0), .str ByteArray.empty, .int .i64 (0), .snap true [], .int .i64 (0)]), some (.agg [.int .i64 (0), .str ByteArray.empty, .int .i64 (0), .snap true [], .int .i64 (0)]), some (.nilf), some (.nilf), some (.nilf), some (.nilf), some (.nilf), some (.nilf), some (.nilf), some (.nilf), none, some (.nilf), some (.nilf), some (.nilf), some (.nilf), some (.nilf), some (.nilf), some (.nilf), some (.nilf), some (.nilf), some (.nilf), some (.nilf), some (.nilf), some (.nilf), some (.nilp), some (.nilp), none, some (.nilf), some (.agg [.snap true [], .snap true [], .bool false]), some (.agg [.snap true [], .snap true [], .bool false]), some (.snap true []), some (.agg [.snap true [], .snap true [], .snap true []]), some (.agg [.snap true [], .snap true [], .snap true []]), none, some (.nilf), some (.snap true []), some (.agg [.snap true [], .snap true [], .snap true [], .bool false]), some (.agg [.snap true [], .snap true [], .snap true [], .bool false]), some (.nilf), some (.nilf), some (.nilf), some (.nilf), some (.nilf), some (.nilf), none, some (.nilf), some (.nilf), some (.nilf), some (.nilf), some (.nilf), some (.nilp), some (.nilf), some (.nilf), some (.nilf), some (.int .u64 (0)), some (.nilf), some (.nilf), some (.nilf), some (.nilf), some (.nilf), some (.nilf), some (.nilf), some (.nilf), some (.nilf), none, some (.nilf), some (.nilf), none, some (.nilf), none, some (.nilf), some (.nilf), some (.nilf), some (.snap true []), some (.nilf), some (.nilf), some (.nilf), some (.nilf), some (.nilf), some (.nilf), some (.nilf), some (.nilf), some (.snap true []), some (.nilf), none, some (.nilf), some (.nilf), some (.nilf), some (.int .i64 (0)), none, some (.nilf), some (.nilf), some (.nilf), some (.nilf), some (.nilf), some (.int .u32 (0)), some (.nilf), some (.int .u64 (0)), some (.agg [.snap true [], .snap true []]), some (.snap true []), none, some (.nilf), some (.nilf), some (.int .u64 (0)), some (.nilf), some (.nilf), some (.nilf), some (.nilf), some (.nilf), none, none, some (.nilp), none, some (.nilf), some (.nilp), some (.nilf), some (.agg [.nilp, .nilp, .nilp, .str ByteArray.empty]), some (.agg [.nilp, .nilp, .nilp, .str ByteArray.empty]), some (.agg []), some (.agg []), some (.agg []), some (.nilf), some (.int .u8 (0)), some (.int .u8 (0)), some (.nilf), some (.nilp), some (.int .i32 (0)), some (.int .i32 (0)), some (.agg [.int .u64 (0), .int .u64 (0), .int .u32 (0), .int .u8 (0), .int .u8 (0), .int .u8 (0), .int .u8 (0), .nilf, .nilp, .int .i32 (0), .int .i32 (0)]), some (.agg [.int .u64 (0), .int .u64 (0), .int .u32 (0), .int .u8 (0), .int .u8 (0), .int .u8 (0), .int .u8 (0), .nilf, .nilp, .int .i32 (0), .int .i32 (0)]), some (.agg [.str ByteArray.empty]), some (.agg [.str ByteArray.empty]), some (.nilp)]
def tN : Nat := 198
theorem tsOk : (List.range tN).map (tsize C.P) = tsL := by kernel_rfl
theorem taOk : (List.range tN).map (tagg C.P) = taL := by kernel_rfl
theorem tbOk : (List.range tN).map (tbytes C.P) = tbL := by kernel_rfl
theorem kdOk : (List.range tN).map (fun t => (C.P.underlying t).map kdOf) = kdL := by kernel_rfl
theorem tzOk : (List.range tN).map (fun t => if (tzL.getD t none).isSome then tzero C.P t else none) = tzL := by kernel_rfl
theorem tabGet {α : Type} {f : Nat → Option α} {l : List (Option α)} (h : (List.range tN).map f = l) (t : Nat) (n : α) (e : (l[t]?).bind id = some n) : f t = some n := by
  subst h
  rw [List.getElem?_map] at e
  cases hr : (List.range tN)[t]? with
  | none => rw [hr] at e; simp at e
  | some k =>
    rw [hr] at e
    have hk : k = t := by
      have := List.getElem?_eq_some_iff.1 hr
      obtain ⟨h1, h2⟩ := this
      simp at h2
      exact h2.symm
    subst hk
    simpa using e
def T6 : Tab C.P where
  ts t := (tsL[t]?).bind id
  ta t := (taL[t]?).bind id
  tb t := (tbL[t]?).bind id
  kd t := (kdL[t]?).bind id
  tz t := (tzL[t]?).bind id
  hts := tabGet tsOk
  hta := tabGet taOk
  htb := tabGet tbOk
  hkd := tabGet kdOk
  htz t n e := by
    have := tabGet tzOk t n e
    split at this
    · exact this
    · cases this
end Go.Pm
end

/-
  CHAPTER 6, PART 1: terms, and what they are as values. Conditions: none.
-/
section
set_option linter.unusedVariables false
set_option linter.unusedSimpArgs false
set_option linter.unusedVariables false
namespace Go.Pm

inductive Tm where
  | mk (kind : Int) (name : ByteArray) (sort : Int) (kids : List Tm)
def Tm.kids : Tm → List Tm | .mk _ _ _ k => k
mutual
def enc : Tm → PV
  | .mk k s o l => .agg [.int .i64 k, .str s, .int .i64 o, .snap false (encs l)]
def encs : List Tm → List PV
  | [] => []
  | t :: l => enc t :: encs l
end

mutual
theorem isVal_enc : ∀ t, isVal (enc t) = true
  | .mk k s o l => by simp [enc, isVal, isVals]
end
theorem isVals_encs (l : List Tm) : isVals (encs l) = true := by
  induction l with
  | nil => rfl
  | cons t l ih => simp [encs, isVals, isVal_enc, ih]
mutual
theorem nrm_enc : ∀ t, nrm (enc t) = enc t
  | .mk k s o l => by simp [enc, nrm, nrms, nrms_encs l]
theorem nrms_encs : ∀ l, nrms (encs l) = encs l
  | [] => rfl
  | t :: l => by simp [encs, nrms, nrm_enc t, nrms_encs l]
end
theorem encs_len (l : List Tm) : (encs l).length = l.length := by
  induction l with
  | nil => rfl
  | cons t l ih => simp [encs, ih]
theorem encs_eq (l : List Tm) : encs l = l.map enc := by
  induction l with
  | nil => rfl
  | cons t l ih => simp [encs, ih]
theorem enc_agg (t : Tm) : ∃ a b c d, enc t = .agg [a, b, c, d] := by cases t; exact ⟨_, _, _, _, by rw [enc]⟩

mutual
def bulk : Tm → Nat
  | .mk k s o l => 1 + s.size + bulks l
def bulks : List Tm → Nat
  | [] => 0
  | t :: l => bulk t + bulks l
end
theorem bulk_pos (t : Tm) : 0 < bulk t := by cases t; simp [bulk]; omega
theorem len_bulks (l : List Tm) : l.length ≤ bulks l := by
  induction l with
  | nil => simp
  | cons t l ih => have := bulk_pos t; simp [bulks]; omega
theorem bulk_mem {l : List Tm} {t : Tm} (h : t ∈ l) : bulk t ≤ bulks l := by
  induction l with
  | nil => cases h
  | cons u l ih =>
    simp only [bulks]
    rcases List.mem_cons.1 h with rfl | h
    · omega
    · have := ih h; omega
theorem Tm.ind {P : Tm → Prop} (h : ∀ k s o l, (∀ t ∈ l, P t) → P (.mk k s o l)) : ∀ t, P t := by
  intro t
  have key : ∀ n t, bulk t ≤ n → P t := by
    intro n
    induction n with
    | zero => intro t ht; have := bulk_pos t; omega
    | succ n ih =>
      intro t ht
      obtain ⟨k, s, o, l⟩ := t
      refine h k s o l (fun u hu => ih u ?_)
      have := bulk_mem hu
      simp [bulk] at ht
      omega
  exact key (bulk t) t (Nat.le_refl _)


/-- an element of a list of terms -/
theorem encs_at {l : List Tm} {i : Nat} (hc : (i : Int) < ((encs l).length : Int)) : ∃ t a1 a2 a3 a4, t ∈ l ∧ enc t = .agg [a1, a2, a3, a4] ∧ (encs l)[i]? = some (.agg [a1, a2, a3, a4]) ∧ l.drop i = t :: l.drop (i + 1) ∧ i < l.length ∧ l[i]? = some t := by
  have hil : i < l.length := by have := encs_len l; omega
  obtain ⟨a1, a2, a3, a4, ha⟩ := enc_agg l[i]
  refine ⟨l[i], a1, a2, a3, a4, List.getElem_mem hil, ha, ?_, List.drop_eq_getElem_cons hil, hil, List.getElem?_eq_getElem hil⟩
  rw [encs_eq, List.getElem?_map, List.getElem?_eq_getElem hil, ← ha]
  rfl
theorem encs_end {l : List Tm} {i : Nat} (hc : ¬ (i : Int) < ((encs l).length : Int)) : l.drop i = [] := List.drop_eq_nil_of_le (by have := encs_len l; omega)

theorem enc_mk (k : Int) (s : ByteArray) (o : Int) (l : List Tm) : enc (.mk k s o l) = .agg [.int .i64 k, .str s, .int .i64 o, .snap false (encs l)] := by rw [enc]
theorem encs_at' {l : List Tm} {i : Nat} (hc : (i : Int) < ((encs l).length : Int)) : ∃ k s o l', .mk k s o l' ∈ l ∧ (encs l)[i]? = some (.agg [.int .i64 k, .str s, .int .i64 o, .snap false (encs l')]) ∧ l.drop i = .mk k s o l' :: l.drop (i + 1) ∧ i < l.length ∧ l[i]? = some (.mk k s o l') := by
  obtain ⟨t, a1, a2, a3, a4, h1, h2, h3, h4, h5, h6⟩ := encs_at hc
  obtain ⟨k, s, o, l'⟩ := t
  rw [enc_mk] at h2
  exact ⟨k, s, o, l', h1, by rw [h3, ← h2], h4, h5, h6⟩

mutual
/-- the number of nodes -/
def size : Tm → Int
  | .mk _ _ _ l => 1 + sizes l
def sizes : List Tm → Int
  | [] => 0
  | t :: l => size t + sizes l
end
mutual
theorem size_bulk : ∀ t, 0 < size t ∧ size t ≤ (bulk t : Int)
  | .mk k s o l => by
    have := sizes_bulk l
    simp only [size, bulk]
    omega
theorem sizes_bulk : ∀ l, 0 ≤ sizes l ∧ sizes l ≤ (bulks l : Int)
  | [] => by simp [sizes, bulks]
  | t :: l => by
    have h1 := size_bulk t
    have h2 := sizes_bulk l
    simp only [sizes, bulks]
    omega
end
theorem sizes_append (a b : List Tm) : sizes (a ++ b) = sizes a + sizes b := by
  induction a with
  | nil => simp [sizes]
  | cons t a ih => simp [sizes, ih]; omega

end Go.Pm
end

/-
  CHAPTER 6, PLAIN LAW 1: the order of terms. Conditions: none.
-/
section
set_option linter.unusedVariables false
set_option linter.unusedSimpArgs false
set_option linter.unusedVariables false
set_option linter.unusedSimpArgs false
namespace Go.Pm

def cmpN (a b : Int) : Int := if a < b then -1 else if b < a then 1 else 0
mutual
def cmpT : Tm → Tm → Int
  | .mk k s o l, .mk k' s' o' l' =>
    if cmpN (size (.mk k s o l)) (size (.mk k' s' o' l')) ≠ 0 then cmpN (size (.mk k s o l)) (size (.mk k' s' o' l')) else
    if cmpN k k' ≠ 0 then cmpN k k' else
    if Op.bytesLess s.toList s'.toList = true then -1 else
    if (!(Op.bytesLess s.toList s'.toList || s.toList == s'.toList)) = true then 1 else
    if cmpN o o' ≠ 0 then cmpN o o' else
    if cmpN l.length l'.length ≠ 0 then cmpN l.length l'.length else cmps l l'
def cmps : List Tm → List Tm → Int
  | [], _ => 0
  | _ :: _, [] => 0
  | t :: l, t' :: l' => if cmpT t t' ≠ 0 then cmpT t t' else cmps l l'
end

def lexI (x y : Int) : Int := if x ≠ 0 then x else y
def cmpBs : List UInt8 → List UInt8 → Int := Lib.compareBytes

theorem bl_cmp : ∀ a b : List UInt8, Op.bytesLess a b = decide (cmpBs a b < 0) ∧ ((a == b) = decide (cmpBs a b = 0))
  | [], [] => by simp [Op.bytesLess, cmpBs, Lib.compareBytes]
  | [], _ :: _ => by simp [Op.bytesLess, cmpBs, Lib.compareBytes]
  | _ :: _, [] => by simp [Op.bytesLess, cmpBs, Lib.compareBytes]
  | a :: x, b :: y => by
    obtain ⟨h1, h2⟩ := bl_cmp x y
    have hc : cmpBs (a :: x) (b :: y) = if a < b then -1 else if b < a then 1 else cmpBs x y := rfl
    have key : a < b ∨ b < a ∨ a = b := by
      rcases Nat.lt_trichotomy a.toNat b.toNat with h | h | h
      · exact .inl (UInt8.lt_iff_toNat_lt.2 h)
      · exact .inr (.inr (UInt8.toNat_inj.1 h))
      · exact .inr (.inl (UInt8.lt_iff_toNat_lt.2 h))
    have asym : ∀ p q : UInt8, p < q → ¬ q < p := fun p q h1 h2 => by
      have := UInt8.lt_iff_toNat_lt.1 h1
      have := UInt8.lt_iff_toNat_lt.1 h2
      omega
    have irr : ∀ p : UInt8, ¬ p < p := fun p h1 => asym p p h1 h1
    rcases key with h | h | h
    · have hne : a ≠ b := fun e => irr b (e ▸ h)
      rw [hc, if_pos h]
      simp [Op.bytesLess, h, hne]
    · have hne : a ≠ b := fun e => irr b (e ▸ h)
      have hn := asym _ _ h
      rw [hc, if_neg hn, if_pos h]
      simp [Op.bytesLess, hn, hne]
    · subst h
      rw [hc, if_neg (irr a), if_neg (irr a)]
      simp only [Op.bytesLess, h1, irr, decide_false, Bool.false_or, BEq.rfl, Bool.true_and, true_and]
      rw [← h2]
      simp [List.cons_beq_cons]

/-- three comparisons that fit -/
structure Tri (x y z : Int) : Prop where
  e1 : x = 0 → z = y
  e2 : y = 0 → z = x
  lt : x < 0 → y < 0 → z < 0
theorem Tri.lex {x y z x' y' z' : Int} (a : Tri x y z) (b : x = 0 → y = 0 → Tri x' y' z') : Tri (lexI x x') (lexI y y') (lexI z z') := by
  obtain ⟨e1, e2, lt⟩ := a
  unfold lexI
  by_cases hx : x = 0 <;> by_cases hy : y = 0
  · have hz : z = 0 := by rw [e1 hx, hy]
    rw [if_neg (by simp [hx]), if_neg (by simp [hy]), if_neg (by simp [hz])]
    exact b hx hy
  · have hz : z = y := e1 hx
    rw [if_neg (by simp [hx]), if_pos hy, hz, if_pos hy]
    exact ⟨fun _ => rfl, fun h => absurd h hy, fun _ h => h⟩
  · have hz : z = x := e2 hy
    rw [if_neg (by simp [hy] : ¬ y ≠ 0), if_pos hx, hz, if_pos hx]
    exact ⟨fun h => absurd h hx, fun _ => rfl, fun h _ => h⟩
  · rw [if_pos hx, if_pos hy]
    refine ⟨fun h => absurd h hx, fun h => absurd h hy, fun h1 h2 => ?_⟩
    have := lt h1 h2
    rw [if_pos (by omega)]
    exact this
theorem lex_neg (x y : Int) : lexI (-x) (-y) = - lexI x y := by unfold lexI; split <;> split <;> omega
theorem lex_zero {x y : Int} : lexI x y = 0 ↔ x = 0 ∧ y = 0 := by unfold lexI; split <;> omega
theorem lex_zero' {x y : Int} (h : lexI x y = 0) : x = 0 ∧ y = 0 := lex_zero.1 h

theorem cmpN_tri (a b c : Int) : Tri (cmpN a b) (cmpN b c) (cmpN a c) := by
  unfold cmpN
  constructor <;> (repeat' split) <;> omega
theorem cmpN_neg (a b : Int) : cmpN b a = - cmpN a b := by unfold cmpN; (repeat' split) <;> omega
theorem cmpN_zero {a b : Int} (h : cmpN a b = 0) : a = b := by unfold cmpN at h; (repeat' split at h) <;> omega
theorem cmpN_self (a : Int) : cmpN a a = 0 := by unfold cmpN; (repeat' split) <;> omega
theorem cmpN_rng (a b : Int) : cmpN a b = -1 ∨ cmpN a b = 0 ∨ cmpN a b = 1 := by unfold cmpN; (repeat' split) <;> omega

theorem cmpBs_cons (a b : UInt8) (x y : List UInt8) : cmpBs (a :: x) (b :: y) = lexI (cmpN a.toNat b.toNat) (cmpBs x y) := by
  have hc : cmpBs (a :: x) (b :: y) = if a < b then -1 else if b < a then 1 else cmpBs x y := rfl
  rw [hc]
  by_cases h1 : a < b
  · have := UInt8.lt_iff_toNat_lt.1 h1
    have e : cmpN a.toNat b.toNat = -1 := by unfold cmpN; rw [if_pos (by omega)]
    rw [if_pos h1, e]; rfl
  · by_cases h2 : b < a
    · have := UInt8.lt_iff_toNat_lt.1 h2
      have e : cmpN a.toNat b.toNat = 1 := by unfold cmpN; rw [if_neg (by omega), if_pos (by omega)]
      rw [if_neg h1, if_pos h2, e]; rfl
    · have h1' : ¬ a.toNat < b.toNat := fun h => h1 (UInt8.lt_iff_toNat_lt.2 h)
      have h2' : ¬ b.toNat < a.toNat := fun h => h2 (UInt8.lt_iff_toNat_lt.2 h)
      have e : cmpN a.toNat b.toNat = 0 := by unfold cmpN; rw [if_neg (by omega), if_neg (by omega)]
      rw [if_neg h1, if_neg h2, e]; rfl
theorem cmpBs_tri : ∀ a b c : List UInt8, Tri (cmpBs a b) (cmpBs b c) (cmpBs a c)
  | [], [], [] => by constructor <;> decide
  | [], [], _ :: _ => by constructor <;> intros <;> simp_all [cmpBs, Lib.compareBytes]
  | [], _ :: _, [] => by constructor <;> intros <;> simp_all [cmpBs, Lib.compareBytes]
  | [], b :: y, c :: z => by
    have e1 : cmpBs [] (b :: y) = -1 := rfl
    have e2 : cmpBs [] (c :: z) = -1 := rfl
    rw [e1, e2]
    constructor <;> intros <;> omega
  | _ :: _, [], [] => by constructor <;> intros <;> simp_all [cmpBs, Lib.compareBytes]
  | a :: x, [], c :: z => by
    have e1 : cmpBs (a :: x) [] = 1 := rfl
    have e2 : cmpBs [] (c :: z) = -1 := rfl
    rw [e1, e2]
    constructor <;> intros <;> omega
  | a :: x, b :: y, [] => by
    have e1 : cmpBs (a :: x) [] = 1 := rfl
    have e2 : cmpBs (b :: y) [] = 1 := rfl
    rw [e1, e2]
    constructor <;> intros <;> omega
  | a :: x, b :: y, c :: z => by
    rw [cmpBs_cons, cmpBs_cons, cmpBs_cons]
    exact (cmpN_tri _ _ _).lex (fun _ _ => cmpBs_tri x y z)
theorem cmpBs_neg : ∀ a b : List UInt8, cmpBs b a = - cmpBs a b
  | [], [] => rfl
  | [], _ :: _ => rfl
  | _ :: _, [] => rfl
  | a :: x, b :: y => by rw [cmpBs_cons, cmpBs_cons, cmpBs_neg x y, cmpN_neg a.toNat b.toNat, lex_neg]
theorem cmpBs_zero : ∀ {a b : List UInt8}, cmpBs a b = 0 → a = b
  | [], [], _ => rfl
  | [], _ :: _, h => by cases h
  | _ :: _, [], h => by cases h
  | a :: x, b :: y, h => by
    rw [cmpBs_cons] at h
    obtain ⟨h1, h2⟩ := lex_zero' h
    have := cmpN_zero h1
    rw [cmpBs_zero h2, UInt8.toNat_inj.1 (by omega : a.toNat = b.toNat)]

def cmpS (s s' : ByteArray) : Int := cmpBs s.toList s'.toList
theorem cmpBs_rng : ∀ a b : List UInt8, cmpBs a b = -1 ∨ cmpBs a b = 0 ∨ cmpBs a b = 1
  | [], [] => .inr (.inl rfl)
  | [], _ :: _ => .inl rfl
  | _ :: _, [] => .inr (.inr rfl)
  | a :: x, b :: y => by
    rw [cmpBs_cons]
    have h1 := cmpN_rng a.toNat b.toNat
    have h2 := cmpBs_rng x y
    unfold lexI
    split <;> omega
theorem bArr_eq {a b : ByteArray} (h : a.toList = b.toList) : a = b := by
  rw [ByteArray.toList_eq, ByteArray.toList_eq] at h
  cases a; cases b
  simp at h
  subst h
  rfl

theorem cmpT_lex (k s o l k' s' o' l') : cmpT (.mk k s o l) (.mk k' s' o' l') = lexI (cmpN (size (.mk k s o l)) (size (.mk k' s' o' l'))) (lexI (cmpN k k') (lexI (cmpS s s') (lexI (cmpN o o') (lexI (cmpN l.length l'.length) (cmps l l'))))) := by
  rw [cmpT]
  obtain ⟨b1, b2⟩ := bl_cmp s.toList s'.toList
  have b3 := cmpBs_rng s.toList s'.toList
  rw [b1, b2]
  unfold lexI cmpS
  split
  · rfl
  · split
    · rfl
    · rcases b3 with b3 | b3 | b3
      · rw [if_pos (by simp [b3])]; simp [b3]
      · rw [if_neg (by simp [b3]), if_neg (by simp [b3])]; simp [b3]
      · rw [if_neg (by simp [b3]), if_pos (by simp [b3])]; simp [b3]
theorem cmps_lex (t t' l l') : cmps (t :: l) (t' :: l') = lexI (cmpT t t') (cmps l l') := by rw [cmps]; rfl

theorem cmps_neg : ∀ {l l' : List Tm}, l.length = l'.length → (∀ t ∈ l, ∀ t', cmpT t' t = - cmpT t t') → cmps l' l = - cmps l l'
  | [], [], _, _ => by simp [cmps]
  | t :: l, t' :: l', hl, h => by
    rw [cmps_lex, cmps_lex, h t (by simp) t', cmps_neg (by simpa using hl) (fun u hu => h u (by simp [hu])), lex_neg]
theorem cmpT_neg (t : Tm) : ∀ t', cmpT t' t = - cmpT t t' := by
  induction t using Tm.ind with
  | h k s o l ih =>
    rintro ⟨k', s', o', l'⟩
    rw [cmpT_lex, cmpT_lex, cmpN_neg (size (.mk k s o l)), cmpN_neg k, show cmpS s' s = - cmpS s s' from cmpBs_neg _ _, cmpN_neg o, cmpN_neg (l.length : Int)]
    rw [← lex_neg, ← lex_neg, ← lex_neg, ← lex_neg]
    congr 4
    unfold lexI
    split
    · rw [if_pos (by omega)]
    · rename_i h
      rw [if_neg (by omega)]
      refine cmps_neg ?_ ih
      have h' : cmpN (l.length : Int) l'.length = 0 := by omega
      have := cmpN_zero h'
      omega

theorem cmps_zero : ∀ {l l' : List Tm}, l.length = l'.length → (∀ t ∈ l, ∀ t', cmpT t t' = 0 → t = t') → cmps l l' = 0 → l = l'
  | [], [], _, _, _ => rfl
  | t :: l, t' :: l', hl, h, e => by
    rw [cmps_lex] at e
    obtain ⟨e1, e2⟩ := lex_zero' e
    rw [h t (by simp) t' e1, cmps_zero (by simpa using hl) (fun u hu => h u (by simp [hu])) e2]
theorem cmpT_zero {t : Tm} : ∀ {t' : Tm}, cmpT t t' = 0 → t = t' := by
  induction t using Tm.ind with
  | h k s o l ih =>
    rintro ⟨k', s', o', l'⟩ h
    rw [cmpT_lex] at h
    obtain ⟨_, h⟩ := lex_zero' h
    obtain ⟨h1, h⟩ := lex_zero' h
    obtain ⟨h2, h⟩ := lex_zero' h
    obtain ⟨h3, h⟩ := lex_zero' h
    obtain ⟨h4, h⟩ := lex_zero' h
    have h4' := cmpN_zero h4
    rw [cmpN_zero h1, bArr_eq (cmpBs_zero h2), cmpN_zero h3, cmps_zero (by omega) (fun t ht t' e => ih t ht e) h]
theorem cmpT_self (t : Tm) : cmpT t t = 0 := by have := cmpT_neg t t; omega

theorem cmps_tri : ∀ {l l' l'' : List Tm}, l.length = l'.length → l'.length = l''.length → (∀ t ∈ l, ∀ t' t'', Tri (cmpT t t') (cmpT t' t'') (cmpT t t'')) → Tri (cmps l l') (cmps l' l'') (cmps l l'')
  | [], [], [], _, _, _ => by simp [cmps]; constructor <;> omega
  | t :: l, t' :: l', t'' :: l'', h1, h2, h => by
    rw [cmps_lex, cmps_lex, cmps_lex]
    exact (h t (by simp) t' t'').lex (fun _ _ => cmps_tri (by simpa using h1) (by simpa using h2) (fun u hu => h u (by simp [hu])))
theorem cmpT_tri (t : Tm) : ∀ t' t'', Tri (cmpT t t') (cmpT t' t'') (cmpT t t'') := by
  induction t using Tm.ind with
  | h k s o l ih =>
    rintro ⟨k', s', o', l'⟩ ⟨k2, s2, o2, l2⟩
    rw [cmpT_lex, cmpT_lex, cmpT_lex]
    refine (cmpN_tri _ _ _).lex fun _ _ => (cmpN_tri _ _ _).lex fun _ _ => (cmpBs_tri _ _ _).lex fun _ _ => (cmpN_tri _ _ _).lex fun _ _ => (cmpN_tri _ _ _).lex fun h1 h2 => ?_
    have h1' := cmpN_zero h1
    have h2' := cmpN_zero h2
    exact cmps_tri (by omega) (by omega) ih
theorem cmpT_trans {a b c : Tm} (h1 : cmpT a b < 0) (h2 : cmpT b c < 0) : cmpT a c < 0 := (cmpT_tri a b c).lt h1 h2

end Go.Pm
end

/-
  CHAPTER 6, PLAIN LAW 2: products as lists of powers. Conditions: none.
-/
section
set_option linter.unusedVariables false
set_option linter.unusedSimpArgs false
set_option linter.unusedVariables false
set_option linter.unusedSimpArgs false
namespace Go.Pm

abbrev Pw := Tm × Int
def encP : Pw → PV
  | (.mk k s o l, n) => .agg [.int .i64 k, .str s, .int .i64 o, .snap false (encs l), .int .i64 n]
def encPs (l : List Pw) : List PV := l.map encP

/-- the reference's addP -/
def addP (t : Tm) (n : Int) : Bool → List Pw → List Pw
  | d, [] => if d then [] else [(t, n)]
  | d, p :: l => (if d = false ∧ cmpT t p.1 < 0 then [(t, n)] else []) ++ ((if (if cmpT t p.1 = 0 then p.2 + n else p.2) ≠ 0 then [(p.1, if cmpT t p.1 = 0 then p.2 + n else p.2)] else []) ++ addP t n (d || decide (cmpT t p.1 ≤ 0)) l)
/-- the program's insert -/
def insP (t : Tm) (n : Int) : List Pw → List Pw
  | [] => [(t, n)]
  | p :: l => if cmpT p.1 t < 0 then p :: insP t n l else if cmpT p.1 t = 0 then (if p.2 + n = 0 then l else (p.1, p.2 + n) :: l) else (t, n) :: p :: l

def Srt (l : List Pw) : Prop := l.Pairwise fun p q => cmpT p.1 q.1 < 0
def Nz (l : List Pw) : Prop := ∀ p ∈ l, p.2 ≠ 0

theorem addP_done (t : Tm) (n : Int) : ∀ (l : List Pw), Nz l → (∀ p ∈ l, cmpT t p.1 < 0) → addP t n true l = l
  | [], _, _ => rfl
  | p :: l, h1, h2 => by
    have e := h2 p (by simp)
    have z := h1 p (by simp)
    have ih := addP_done t n l (fun q hq => h1 q (by simp [hq])) (fun q hq => h2 q (by simp [hq]))
    simp only [addP, Bool.true_eq_false, false_and, if_false, List.nil_append, Bool.true_or, ih]
    rw [if_neg (show ¬ cmpT t p.1 = 0 by omega), if_pos z]
    rfl
theorem addP_ins (t : Tm) (n : Int) : ∀ (l : List Pw), Srt l → Nz l → addP t n false l = insP t n l
  | [], _, _ => by simp [addP, insP]
  | p :: l, h1, h2 => by
    have z := h2 p (by simp)
    obtain ⟨s1, s2⟩ := List.pairwise_cons.1 h1
    have nz : Nz l := fun q hq => h2 q (by simp [hq])
    have ng := cmpT_neg p.1 t
    rw [addP, insP]
    by_cases c1 : cmpT p.1 t < 0
    · rw [if_pos c1, if_neg (by omega), if_neg (show ¬ cmpT t p.1 = 0 by omega), if_pos z, show (false || decide (cmpT t p.1 ≤ 0)) = false by simp; omega, addP_ins t n l s2 nz]
      rfl
    · by_cases c2 : cmpT p.1 t = 0
      · have e := cmpT_zero c2
        have hd := addP_done t n l nz (fun q hq => by rw [← e]; exact s1 q hq)
        rw [if_neg c1, if_pos c2, if_neg (by omega), if_pos (show cmpT t p.1 = 0 by omega), show (false || decide (cmpT t p.1 ≤ 0)) = true by simp; omega, hd]
        by_cases c3 : p.2 + n = 0
        · rw [if_pos c3, if_neg (by omega)]; rfl
        · rw [if_neg c3, if_pos c3]; rfl
      · have hd := addP_done t n l nz (fun q hq => cmpT_trans (show cmpT t p.1 < 0 by omega) (s1 q hq))
        rw [if_neg c1, if_neg c2, if_pos ⟨rfl, by omega⟩, if_neg (show ¬ cmpT t p.1 = 0 by omega), if_pos z, show (false || decide (cmpT t p.1 ≤ 0)) = true by simp; omega, hd]
        rfl

theorem insP_mem {t : Tm} {n : Int} : ∀ {l : List Pw} {p : Pw}, p ∈ insP t n l → p.1 = t ∨ ∃ q ∈ l, q.1 = p.1
  | [], p, h => by simp [insP] at h; exact .inl (by rw [h])
  | q :: l, p, h => by
    rw [insP] at h
    split at h
    · rcases List.mem_cons.1 h with rfl | h
      · exact .inr ⟨p, by simp, rfl⟩
      · rcases insP_mem h with h | ⟨r, h, e⟩
        · exact .inl h
        · exact .inr ⟨r, by simp [h], e⟩
    · split at h
      · split at h
        · exact .inr ⟨p, by simp [h], rfl⟩
        · rcases List.mem_cons.1 h with rfl | h
          · exact .inr ⟨q, by simp, rfl⟩
          · exact .inr ⟨p, by simp [h], rfl⟩
      · rcases List.mem_cons.1 h with rfl | h
        · exact .inl rfl
        · exact .inr ⟨p, h, rfl⟩
theorem insP_nz {t : Tm} {n : Int} (hn : n ≠ 0) : ∀ {l : List Pw}, Nz l → Nz (insP t n l)
  | [], _ => by intro p hp; simp [insP] at hp; subst hp; exact hn
  | q :: l, h => by
    have h1 : Nz l := fun r hr => h r (by simp [hr])
    rw [insP]
    split
    · intro p hp
      rcases List.mem_cons.1 hp with rfl | hp
      · exact h p (by simp)
      · exact insP_nz hn h1 p hp
    · split
      · split
        · exact h1
        · intro p hp
          rcases List.mem_cons.1 hp with rfl | hp
          · assumption
          · exact h1 p hp
      · intro p hp
        rcases List.mem_cons.1 hp with rfl | hp
        · exact hn
        · exact h p hp
theorem insP_srt {t : Tm} {n : Int} : ∀ {l : List Pw}, Srt l → Srt (insP t n l)
  | [], _ => by simp [insP, Srt]
  | q :: l, h => by
    obtain ⟨s1, s2⟩ := List.pairwise_cons.1 h
    rw [insP]
    have ng := cmpT_neg q.1 t
    split
    · rename_i c
      refine List.pairwise_cons.2 ⟨fun p hp => ?_, insP_srt s2⟩
      rcases insP_mem hp with e | ⟨r, hr, e⟩
      · rw [e]; exact c
      · rw [← e]; exact s1 r hr
    · split
      · split
        · exact s2
        · exact List.pairwise_cons.2 ⟨s1, s2⟩
      · refine List.pairwise_cons.2 ⟨fun p hp => ?_, h⟩
        have c : cmpT t q.1 < 0 := by omega
        rcases List.mem_cons.1 hp with rfl | hp
        · exact c
        · exact cmpT_trans c (s1 p hp)
theorem insP_len {t : Tm} {n : Int} : ∀ (l : List Pw), (insP t n l).length ≤ l.length + 1
  | [] => by simp [insP]
  | q :: l => by
    have := insP_len (t := t) (n := n) l
    rw [insP]
    (repeat' split) <;> simp <;> omega

/-- the power of a factor -/
def pw : List Pw → Tm → Int
  | [], _ => 0
  | p :: l, u => (if cmpT p.1 u = 0 then p.2 else 0) + pw l u
theorem pw_ins (t : Tm) (n : Int) : ∀ (l : List Pw) (u : Tm), pw (insP t n l) u = pw l u + (if cmpT t u = 0 then n else 0)
  | [], u => by simp [insP, pw]
  | p :: l, u => by
    have ih := pw_ins t n l u
    rw [insP]
    split
    · simp only [pw]; omega
    · split
      · rename_i c
        have e := cmpT_zero c
        split
        · simp only [pw]; rw [e]; split <;> omega
        · simp only [pw]; rw [e]; split <;> omega
      · simp only [pw]; omega
theorem pw_lt : ∀ {l : List Pw} {u : Tm}, (∀ p ∈ l, cmpT u p.1 < 0) → pw l u = 0
  | [], _, _ => rfl
  | p :: l, u, h => by
    have := h p (by simp)
    have ng := cmpT_neg p.1 u
    rw [pw, if_neg (by omega), pw_lt (fun q hq => h q (by simp [hq]))]; rfl
theorem srt_uniq : ∀ {l l' : List Pw}, Srt l → Nz l → Srt l' → Nz l' → (∀ u, pw l u = pw l' u) → l = l'
  | [], [], _, _, _, _, _ => rfl
  | [], q :: l', _, _, s', z', h => by
    obtain ⟨s1, s2⟩ := List.pairwise_cons.1 s'
    have := h q.1
    rw [pw, pw, if_pos (cmpT_self _), pw_lt s1] at this
    exact absurd (by omega) (z' q (by simp))
  | p :: l, [], s, z, _, _, h => by
    obtain ⟨s1, s2⟩ := List.pairwise_cons.1 s
    have := h p.1
    rw [pw, pw, if_pos (cmpT_self _), pw_lt s1] at this
    exact absurd (by omega) (z p (by simp))
  | p :: l, q :: l', s, z, s', z', h => by
    obtain ⟨s1, s2⟩ := List.pairwise_cons.1 s
    obtain ⟨s1', s2'⟩ := List.pairwise_cons.1 s'
    have ng := cmpT_neg p.1 q.1
    by_cases c1 : cmpT p.1 q.1 < 0
    · have := h p.1
      rw [pw, if_pos (cmpT_self _), pw_lt s1, pw_lt (l := q :: l') (u := p.1)] at this
      · exact absurd (by omega) (z p (by simp))
      · intro r hr
        rcases List.mem_cons.1 hr with rfl | hr
        · exact c1
        · exact cmpT_trans c1 (s1' r hr)
    · by_cases c2 : cmpT q.1 p.1 < 0
      · have := h q.1
        rw [pw_lt (l := p :: l) (u := q.1), pw, if_pos (cmpT_self _), pw_lt s1'] at this
        · exact absurd (by omega) (z' q (by simp))
        · intro r hr
          rcases List.mem_cons.1 hr with rfl | hr
          · exact c2
          · exact cmpT_trans c2 (s1 r hr)
      · have e := cmpT_zero (show cmpT p.1 q.1 = 0 by omega)
        have h2 := h p.1
        rw [pw, pw, if_pos (cmpT_self _), ← e, if_pos (cmpT_self _), pw_lt s1, pw_lt (by rw [e]; exact s1')] at h2
        have hp : p = q := Prod.ext e (by omega)
        subst hp
        congr 1
        refine srt_uniq s2 (fun r hr => z r (by simp [hr])) s2' (fun r hr => z' r (by simp [hr])) (fun u => ?_)
        have := h u
        rw [pw, pw] at this
        omega
theorem pw_srt {l : List Pw} (s : Srt l) {p : Pw} (hp : p ∈ l) : pw l p.1 = p.2 := by
  induction l with
  | nil => cases hp
  | cons q l ih =>
    obtain ⟨s1, s2⟩ := List.pairwise_cons.1 s
    rcases List.mem_cons.1 hp with rfl | hp
    · rw [pw, if_pos (cmpT_self _), pw_lt s1]; omega
    · have := s1 p hp
      rw [pw, if_neg (by omega), ih s2 hp]; omega

/-! ### the product of a term -/
def nmMul : List UInt8 := [109, 117, 108]
def nmInv : List UInt8 := [105, 110, 118]
def nmOne : List UInt8 := [111, 110, 101]
def special : Tm → Bool
  | .mk k s o l => decide (k = 3) && (decide (s.toList = nmMul) || decide (s.toList = nmInv) || decide (s.toList = nmOne))
mutual
def arity : Tm → Bool
  | .mk k s o l => if special (.mk k s o l) = false then true else
    if (s.toList = nmMul ∧ l.length < 2) ∨ (s.toList = nmInv ∧ l.length ≠ 1) ∨ (s.toList = nmOne ∧ l.length ≠ 0) then false else arities l
def arities : List Tm → Bool
  | [] => true
  | t :: l => if arity t = false then false else arities l
end
mutual
def coll (a : List Pw) : Tm → Int → List Pw
  | .mk k s o l, n => if special (.mk k s o l) = false then insP (.mk k s o l) n a else colls a l (if s.toList = nmInv then -n else n)
def colls (a : List Pw) : List Tm → Int → List Pw
  | [], _ => a
  | t :: l, n => colls (coll a t n) l n
end
mutual
def rcoll (a : List Pw) : Tm → Int → List Pw
  | .mk k s o l, n => if special (.mk k s o l) = false then addP (.mk k s o l) n false a else rcolls a l (if s.toList = nmInv then -n else n)
def rcolls (a : List Pw) : List Tm → Int → List Pw
  | [], _ => a
  | t :: l, n => rcolls (rcoll a t n) l n
end
mutual
theorem coll_ok : ∀ (t : Tm) (a : List Pw) (n : Int), Srt a → Nz a → n ≠ 0 → Srt (coll a t n) ∧ Nz (coll a t n) ∧ rcoll a t n = coll a t n
  | .mk k s o l, a, n, h1, h2, h3 => by
    rw [coll, rcoll]
    split
    · exact ⟨insP_srt h1, insP_nz h3 h2, addP_ins _ _ _ h1 h2⟩
    · exact colls_ok l a _ h1 h2 (by split <;> omega)
theorem colls_ok : ∀ (l : List Tm) (a : List Pw) (n : Int), Srt a → Nz a → n ≠ 0 → Srt (colls a l n) ∧ Nz (colls a l n) ∧ rcolls a l n = colls a l n
  | [], a, n, h1, h2, _ => by rw [colls, rcolls]; exact ⟨h1, h2, rfl⟩
  | t :: l, a, n, h1, h2, h3 => by
    obtain ⟨g1, g2, g3⟩ := coll_ok t a n h1 h2 h3
    rw [colls, rcolls, g3]
    exact colls_ok l _ n g1 g2 h3
end
mutual
theorem coll_len : ∀ (t : Tm) (a : List Pw) (n : Int), ((coll a t n).length : Int) ≤ a.length + size t
  | .mk k s o l, a, n => by
    rw [coll]
    have := sizes_bulk l
    split
    · have := insP_len (t := .mk k s o l) (n := n) a
      simp only [size]; omega
    · have := colls_len l a (if s.toList = nmInv then -n else n)
      simp only [size]; omega
theorem colls_len : ∀ (l : List Tm) (a : List Pw) (n : Int), ((colls a l n).length : Int) ≤ a.length + sizes l
  | [], a, n => by simp [colls, sizes]
  | t :: l, a, n => by
    have h1 := coll_len t a n
    have h2 := colls_len l (coll a t n) n
    rw [colls, sizes]
    omega
end
/-- powers within a bound -/
def Bd (B : Int) (l : List Pw) : Prop := ∀ p ∈ l, -B ≤ p.2 ∧ p.2 ≤ B
theorem insP_bd {B : Int} {t : Tm} {n : Int} (h1 : -1 ≤ n) (h2 : n ≤ 1) (hB : 0 ≤ B) : ∀ {l : List Pw}, Bd B l → Bd (B + 1) (insP t n l)
  | [], _ => by intro p hp; simp [insP] at hp; subst hp; simp only; omega
  | q :: l, h => by
    have hl : Bd B l := fun r hr => h r (by simp [hr])
    have hl1 : Bd (B + 1) l := fun r hr => by have := hl r hr; omega
    have hq := h q (by simp)
    rw [insP]
    split
    · intro p hp
      rcases List.mem_cons.1 hp with rfl | hp
      · omega
      · exact insP_bd h1 h2 hB hl p hp
    · split
      · split
        · exact hl1
        · intro p hp
          rcases List.mem_cons.1 hp with rfl | hp
          · simp only; omega
          · exact hl1 p hp
      · intro p hp
        rcases List.mem_cons.1 hp with rfl | hp
        · simp only; omega
        · have := h p hp; omega
mutual
theorem coll_bd : ∀ (t : Tm) (a : List Pw) (n B : Int), -1 ≤ n → n ≤ 1 → 0 ≤ B → Bd B a → Bd (B + size t) (coll a t n)
  | .mk k s o l, a, n, B, h1, h2, h3, h4 => by
    rw [coll]
    have := sizes_bulk l
    split
    · intro p hp
      have := insP_bd h1 h2 h3 h4 p hp
      simp only [size]; omega
    · intro p hp
      have := colls_bd l a (if s.toList = nmInv then -n else n) B (by split <;> omega) (by split <;> omega) h3 h4 p hp
      simp only [size]; omega
theorem colls_bd : ∀ (l : List Tm) (a : List Pw) (n B : Int), -1 ≤ n → n ≤ 1 → 0 ≤ B → Bd B a → Bd (B + sizes l) (colls a l n)
  | [], a, n, B, h1, h2, h3, h4 => by rw [colls, sizes]; intro p hp; have := h4 p hp; omega
  | t :: l, a, n, B, h1, h2, h3, h4 => by
    have hs := size_bulk t
    have g := coll_bd t a n B h1 h2 h3 h4
    have g2 := colls_bd l (coll a t n) n (B + size t) h1 h2 (by omega) g
    rw [colls, sizes]
    intro p hp
    have := g2 p hp
    omega
end

end Go.Pm
end

/-
  CHAPTER 6, PLAIN LAW 3: names, and which terms are valid. Conditions: none.
-/
section
set_option linter.unusedVariables false
set_option linter.unusedSimpArgs false
set_option linter.unusedVariables false
set_option linter.unusedSimpArgs false
namespace Go.Pm

def letterI (c : Int) : Bool := decide ((97 ≤ c ∧ c ≤ 122) ∨ (65 ≤ c ∧ c ≤ 90))
def digitI (c : Int) : Bool := decide (48 ≤ c ∧ c ≤ 57)
def partI (c : Int) : Bool := letterI c || digitI c || decide (c = 95) || decide (c = 35)
def allPart : List UInt8 → Bool
  | [] => true
  | c :: l => partI c.toNat && allPart l
def isNameL : List UInt8 → Bool
  | [] => false
  | c :: l => decide (l.length < 24) && letterI c.toNat && allPart (c :: l)
def isName (s : ByteArray) : Bool := isNameL s.toList

theorem bsize (s : ByteArray) : s.toList.length = s.size := by rw [ByteArray.toList_eq]; exact Array.length_toList
theorem bget {s : ByteArray} {i : Nat} {c : UInt8} (h : s.toList[i]? = some c) : s[i]? = some c := by
  have hlt := lt_of_some h
  rw [ByteArray.toList_eq, Array.getElem?_toList] at h
  have hlt' : i < s.size := by rw [← bsize]; exact hlt
  rw [getElem?_pos s i hlt']
  rw [Array.getElem?_eq_getElem hlt'] at h
  exact h

def node : Tm → Int
  | .mk k s o l => if (k ≠ 1 ∧ k ≠ 2 ∧ k ≠ 3) ∨ o < 0 ∨ 5 < o ∨ (k = 3 ∧ o ≠ 0) ∨ (k ≠ 3 ∧ 0 < l.length) then 1 else if isName s = false then 2 else if 8 < l.length then 3 else 0
mutual
def nodes : Tm → Int
  | .mk k s o l => if node (.mk k s o l) ≠ 0 then node (.mk k s o l) else nodess l
def nodess : List Tm → Int
  | [] => 0
  | t :: l => if nodes t ≠ 0 then nodes t else nodess l
end
mutual
def depth : Tm → Int
  | .mk _ _ _ l => depths l + 1
def depths : List Tm → Int
  | [] => 0
  | t :: l => max (depth t) (depths l)
end
def valid (t : Tm) : Int := if nodes t ≠ 0 then nodes t else if 400 < size t ∨ 40 < depth t then 3 else 0
mutual
theorem depth_size : ∀ t, 0 < depth t ∧ depth t ≤ size t
  | .mk k s o l => by have := depths_sizes l; simp only [depth, size]; omega
theorem depths_sizes : ∀ l, 0 ≤ depths l ∧ depths l ≤ sizes l
  | [] => by simp [depths, sizes]
  | t :: l => by
    have h1 := depth_size t
    have h2 := depths_sizes l
    simp only [depths, sizes]; omega
end
end Go.Pm
end

/-
  CHAPTER 6, PLAIN LAW 4: the term of a product, and its product. Conditions: none.
-/
section
set_option linter.unusedVariables false
set_option linter.unusedSimpArgs false
set_option linter.unusedVariables false
set_option linter.unusedSimpArgs false
namespace Go.Pm

def sMul : ByteArray := ⟨#[109, 117, 108]⟩
def sInv : ByteArray := ⟨#[105, 110, 118]⟩
def sOne : ByteArray := ⟨#[111, 110, 101]⟩
theorem sMul_l : sMul.toList = nmMul := by rw [ByteArray.toList_eq]; rfl
theorem sInv_l : sInv.toList = nmInv := by rw [ByteArray.toList_eq]; rfl
theorem sOne_l : sOne.toList = nmOne := by rw [ByteArray.toList_eq]; rfl
def invT (t : Tm) : Tm := .mk 3 sInv 0 [t]
def posT (l : List Pw) : List Tm := l.flatMap fun p => List.replicate p.2.toNat p.1
def negT (l : List Pw) : List Tm := l.flatMap fun p => List.replicate (-p.2).toNat (invT p.1)
def opsT (l : List Pw) : List Tm := posT l ++ negT l
def joinT : List Tm → Tm
  | [] => .mk 3 sOne 0 []
  | [t] => t
  | l => .mk 3 sMul 0 l

theorem spc_inv (l) : special (.mk 3 sInv 0 l) = true := by simp [special, sInv_l, nmInv]
theorem spc_mul (l) : special (.mk 3 sMul 0 l) = true := by simp [special, sMul_l, nmMul]
theorem spc_one (l) : special (.mk 3 sOne 0 l) = true := by simp [special, sOne_l, nmOne]

theorem coll_plain {t : Tm} (h : special t = false) (a : List Pw) (n : Int) : coll a t n = insP t n a := by
  obtain ⟨k, s, o, l⟩ := t
  rw [coll, if_pos h]
theorem coll_inv {t : Tm} (h : special t = false) (a : List Pw) (n : Int) : coll a (invT t) n = insP t (-n) a := by
  unfold invT
  rw [coll, if_neg (by rw [spc_inv]; simp), if_pos sInv_l, colls, colls, coll_plain h]
theorem colls_append (a : List Pw) : ∀ (x y : List Tm) (n : Int), colls a (x ++ y) n = colls (colls a x n) y n := by
  intro x
  induction x generalizing a with
  | nil => intro y n; simp [colls]
  | cons t x ih => intro y n; simp only [List.cons_append, colls]; exact ih _ _ _
theorem pw_rep {t : Tm} (h : special t = false) (u : Tm) : ∀ (k : Nat) (a : List Pw), pw (colls a (List.replicate k t) 1) u = pw a u + (if cmpT t u = 0 then (k : Int) else 0)
  | 0, a => by simp [colls]
  | k + 1, a => by
    rw [List.replicate_succ, colls, pw_rep h u k, coll_plain h, pw_ins]
    split <;> omega
theorem pw_repi {t : Tm} (h : special t = false) (u : Tm) : ∀ (k : Nat) (a : List Pw), pw (colls a (List.replicate k (invT t)) 1) u = pw a u - (if cmpT t u = 0 then (k : Int) else 0)
  | 0, a => by simp [colls]
  | k + 1, a => by
    rw [List.replicate_succ, colls, pw_repi h u k, coll_inv h, pw_ins]
    split <;> omega
def NS (l : List Pw) : Prop := ∀ p ∈ l, special p.1 = false
def pwP : List Pw → Tm → Int
  | [], _ => 0
  | p :: l, u => (if cmpT p.1 u = 0 then (p.2.toNat : Int) else 0) + pwP l u
def pwN : List Pw → Tm → Int
  | [], _ => 0
  | p :: l, u => (if cmpT p.1 u = 0 then ((-p.2).toNat : Int) else 0) + pwN l u
theorem pw_pos (u : Tm) : ∀ (l : List Pw) (a : List Pw), NS l → pw (colls a (posT l) 1) u = pw a u + pwP l u
  | [], a, _ => by simp [posT, colls, pwP]
  | p :: l, a, h => by
    have : posT (p :: l) = List.replicate p.2.toNat p.1 ++ posT l := by simp [posT]
    rw [this, colls_append, pw_pos u l _ (fun q hq => h q (by simp [hq])), pw_rep (h p (by simp)), pwP]
    omega
theorem pw_neg (u : Tm) : ∀ (l : List Pw) (a : List Pw), NS l → pw (colls a (negT l) 1) u = pw a u - pwN l u
  | [], a, _ => by simp [negT, colls, pwN]
  | p :: l, a, h => by
    have : negT (p :: l) = List.replicate (-p.2).toNat (invT p.1) ++ negT l := by simp [negT]
    rw [this, colls_append, pw_neg u l _ (fun q hq => h q (by simp [hq])), pw_repi (h p (by simp)), pwN]
    omega
theorem pw_split (u : Tm) : ∀ l : List Pw, pw l u = pwP l u - pwN l u
  | [] => rfl
  | p :: l => by
    rw [pw, pwP, pwN, pw_split u l]
    split <;> omega
theorem coll_join (a : List Pw) : ∀ l : List Tm, coll a (joinT l) 1 = colls a l 1
  | [] => by
    unfold joinT
    rw [coll, if_neg (by rw [spc_one]; simp), if_neg (by rw [sOne_l]; decide)]
  | [t] => by simp only [joinT, colls]
  | t :: u :: l => by
    unfold joinT
    rw [coll, if_neg (by rw [spc_mul]; simp), if_neg (by rw [sMul_l]; decide)]
theorem coll_back {l : List Pw} (s : Srt l) (z : Nz l) (h : NS l) : coll [] (joinT (opsT l)) 1 = l := by
  have e : [] = ([] : List Pw) := rfl
  obtain ⟨g1, g2, _⟩ := colls_ok (opsT l) [] 1 (by simp [Srt]) (fun p hp => by cases hp) (by decide)
  rw [coll_join]
  refine srt_uniq g1 g2 s z (fun u => ?_)
  rw [opsT, colls_append, pw_neg u l _ h, pw_pos u l _ h, pw_split u l, pw]
  omega

/-! ### what the factors of a product are -/
mutual
theorem coll_all {Q : Tm → Prop} {P : Tm → Prop} (hP : ∀ k s o l, Q (.mk k s o l) → special (.mk k s o l) = false → P (.mk k s o l)) (hQ : ∀ k s o l, Q (.mk k s o l) → ∀ t ∈ l, Q t) :
    ∀ (t : Tm) (a : List Pw) (n : Int), Q t → (∀ p ∈ a, P p.1) → ∀ p ∈ coll a t n, P p.1
  | .mk k s o l, a, n, h1, h2 => by
    rw [coll]
    split
    · rename_i hs
      intro p hp
      rcases insP_mem hp with e | ⟨q, hq, e⟩
      · rw [e]; exact hP k s o l h1 hs
      · rw [← e]; exact h2 q hq
    · exact colls_all hP hQ l a _ (hQ k s o l h1) h2
theorem colls_all {Q : Tm → Prop} {P : Tm → Prop} (hP : ∀ k s o l, Q (.mk k s o l) → special (.mk k s o l) = false → P (.mk k s o l)) (hQ : ∀ k s o l, Q (.mk k s o l) → ∀ t ∈ l, Q t) :
    ∀ (l : List Tm) (a : List Pw) (n : Int), (∀ t ∈ l, Q t) → (∀ p ∈ a, P p.1) → ∀ p ∈ colls a l n, P p.1
  | [], a, n, h1, h2 => by rw [colls]; exact h2
  | t :: l, a, n, h1, h2 => by
    rw [colls]
    exact colls_all hP hQ l _ n (fun u hu => h1 u (by simp [hu])) (coll_all hP hQ t a n (h1 t (by simp)) h2)
end
theorem nodess_mem : ∀ {l : List Tm}, nodess l = 0 → ∀ t ∈ l, nodes t = 0
  | [], _, t, h => by cases h
  | u :: l, e, t, h => by
    rw [nodess] at e
    split at e
    · rename_i hu; exact absurd e hu
    · rename_i hu
      rcases List.mem_cons.1 h with rfl | h
      · omega
      · exact nodess_mem e t h
theorem sizes_mem : ∀ {l : List Tm}, ∀ t ∈ l, size t ≤ sizes l
  | [], t, h => by cases h
  | u :: l, t, h => by
    have h1 := size_bulk u
    have h2 := sizes_bulk l
    rw [sizes]
    rcases List.mem_cons.1 h with rfl | h
    · omega
    · have := sizes_mem t h; omega
theorem depths_mem : ∀ {l : List Tm}, ∀ t ∈ l, depth t ≤ depths l
  | [], t, h => by cases h
  | u :: l, t, h => by
    rw [depths]
    rcases List.mem_cons.1 h with rfl | h
    · omega
    · have := depths_mem t h; omega
/-- valid, with room -/
def VQ (S D : Int) (t : Tm) : Prop := nodes t = 0 ∧ size t ≤ S ∧ depth t ≤ D
theorem VQ.kids {S D k s o l} (h : VQ S D (.mk k s o l)) : ∀ t ∈ l, VQ S D t := by
  obtain ⟨h1, h2, h3⟩ := h
  rw [nodes] at h1
  split at h1
  · rename_i hn; exact absurd h1 hn
  · intro t ht
    have := sizes_mem t ht
    have := depths_mem t ht
    have := sizes_bulk l
    simp only [size] at h2
    simp only [depth] at h3
    exact ⟨nodess_mem h1 t ht, by omega, by omega⟩
theorem valid_zero {t : Tm} : valid t = 0 ↔ VQ 400 40 t := by
  unfold valid VQ
  constructor
  · intro h
    split at h
    · rename_i hn; exact absurd h hn
    · rename_i hn
      split at h
      · cases h
      · exact ⟨by omega, by omega, by omega⟩
  · rintro ⟨h1, h2, h3⟩
    rw [if_neg (by omega), if_neg (by omega)]
theorem coll_VQ {t : Tm} (h : VQ 400 40 t) : ∀ p ∈ coll [] t 1, VQ 400 40 p.1 ∧ special p.1 = false :=
  coll_all (Q := VQ 400 40) (P := fun t => VQ 400 40 t ∧ special t = false) (fun k s o l h1 h2 => ⟨h1, h2⟩) (fun k s o l h1 => h1.kids) t [] 1 h (fun p hp => by cases hp)

theorem node_app {s : ByteArray} {l : List Tm} (h1 : isName s = true) (h2 : l.length ≤ 8) : node (.mk 3 s 0 l) = 0 := by
  simp only [node]
  rw [if_neg (by omega), if_neg (by rw [h1]; simp), if_neg (by omega)]
theorem nodess_zero : ∀ {l : List Tm}, (∀ t ∈ l, nodes t = 0) → nodess l = 0
  | [], _ => rfl
  | t :: l, h => by rw [nodess, if_neg (by rw [h t (by simp)]; simp), nodess_zero (fun u hu => h u (by simp [hu]))]
theorem nodes_app {s : ByteArray} {l : List Tm} (h1 : isName s = true) (h2 : l.length ≤ 8) (h3 : ∀ t ∈ l, nodes t = 0) : nodes (.mk 3 s 0 l) = 0 := by
  rw [nodes, if_neg (by rw [node_app h1 h2]; simp), nodess_zero h3]
theorem nm_mul : isName sMul = true := by unfold isName; rw [sMul_l]; decide
theorem nm_inv : isName sInv = true := by unfold isName; rw [sInv_l]; decide
theorem nm_one : isName sOne = true := by unfold isName; rw [sOne_l]; decide
theorem opsT_nodes {l : List Pw} (h : ∀ p ∈ l, nodes p.1 = 0) : ∀ t ∈ opsT l, nodes t = 0 := by
  intro t ht
  unfold opsT posT negT at ht
  rcases List.mem_append.1 ht with ht | ht
  · obtain ⟨p, hp, ht⟩ := List.mem_flatMap.1 ht
    rw [(List.mem_replicate.1 ht).2]; exact h p hp
  · obtain ⟨p, hp, ht⟩ := List.mem_flatMap.1 ht
    rw [(List.mem_replicate.1 ht).2]
    exact nodes_app nm_inv (by simp) (fun u hu => by simp at hu; rw [hu]; exact h p hp)
theorem join_nodes {l : List Tm} (h : ∀ t ∈ l, nodes t = 0) (h8 : l.length ≤ 8) : nodes (joinT l) = 0 := by
  match l with
  | [] => exact nodes_app nm_one (by simp) (fun u hu => by cases hu)
  | [t] => exact h t (by simp)
  | t :: u :: l => exact nodes_app nm_mul h8 h
theorem arity_plain {t : Tm} (h : special t = false) : arity t = true := by
  obtain ⟨k, s, o, l⟩ := t
  rw [arity, if_pos h]
theorem arity_inv {t : Tm} (h : special t = false) : arity (invT t) = true := by
  unfold invT
  rw [arity, if_neg (by rw [spc_inv]; simp), if_neg (by rw [sInv_l]; simp [nmInv, nmMul, nmOne]), arities, if_neg (by rw [arity_plain h]; simp), arities]
theorem arities_all : ∀ {l : List Tm}, (∀ t ∈ l, arity t = true) → arities l = true
  | [], _ => rfl
  | t :: l, h => by rw [arities, if_neg (by rw [h t (by simp)]; simp), arities_all (fun u hu => h u (by simp [hu]))]
theorem opsT_arity {l : List Pw} (h : NS l) : ∀ t ∈ opsT l, arity t = true := by
  intro t ht
  unfold opsT posT negT at ht
  rcases List.mem_append.1 ht with ht | ht
  · obtain ⟨p, hp, ht⟩ := List.mem_flatMap.1 ht
    rw [(List.mem_replicate.1 ht).2]; exact arity_plain (h p hp)
  · obtain ⟨p, hp, ht⟩ := List.mem_flatMap.1 ht
    rw [(List.mem_replicate.1 ht).2]; exact arity_inv (h p hp)
theorem join_arity {l : List Tm} (h : ∀ t ∈ l, arity t = true) : arity (joinT l) = true := by
  match l with
  | [] =>
    unfold joinT
    rw [arity, if_neg (by rw [spc_one]; simp), if_neg (by rw [sOne_l]; simp [nmInv, nmMul, nmOne]), arities]
  | [t] => exact h t (by simp)
  | t :: u :: l =>
    unfold joinT
    rw [arity, if_neg (by rw [spc_mul]; simp), if_neg (by rw [sMul_l]; simp [nmInv, nmMul, nmOne]), arities_all h]

end Go.Pm
end

/-
  CHAPTER 6, PART 5: names. Conditions: none.
-/
section
set_option linter.unusedVariables false
set_option linter.unusedSimpArgs false
set_option linter.unusedVariables false
set_option maxRecDepth 4000
set_option maxHeartbeats 4000000
namespace Go.Pm
open Go.Proofs
attribute [local irreducible] thenQ blockQ loopQ bodyQ Ev EvOps CallEv FnEv EvD

theorem partI_eq (c : Int) : partI c = decide ((97 ≤ c ∧ c ≤ 122) ∨ (65 ≤ c ∧ c ≤ 90) ∨ (48 ≤ c ∧ c ≤ 57) ∨ c = 95 ∨ c = 35) := by
  unfold partI letterI digitI
  simp only [← Bool.decide_or]
  congr 1
  apply propext
  omega
theorem letter_fun (c : Int) : Fun C 145 [.int .u8 c] (.bool (letterI c)) := by
  refine Fun.of (FnEv.bodyL Tryz.func145 rfl ?_)
  (repeat' (first | refine EvOps.nil ?_ | (apply R.gOn; exact rfl; exact rfl; exact rfl) | (apply R.gOff; exact rfl; exact rfl; exact rfl) | (apply R.gUn; exact rfl; exact rfl) | (apply R.move; exact rfl) | (apply R.assign; exact rfl) | (apply R.pickT; exact rfl; exact rfl) | (apply R.pickF; exact rfl; exact rfl) | (apply R.cmp; exact rfl; exact rfl; exact rfl; all_goals intro hc) | refine Ev.seq ?_ | refine Ev.region ?_ | refine Ev.ret ?_ | refine thenQ.normal ?_ | (apply bodyQ.ret; exact rfl) | fail))
  all_goals (refine ⟨_, rfl, congrArg PV.bool ?_⟩; unfold letterI; first | exact (decide_eq_true (by omega)).symm | exact (decide_eq_false (by omega)).symm)
theorem digit_fun (c : Int) : Fun C 146 [.int .u8 c] (.bool (digitI c)) := by
  refine Fun.of (FnEv.bodyL Tryz.func146 rfl ?_)
  (repeat' (first | refine EvOps.nil ?_ | (apply R.gOn; exact rfl; exact rfl; exact rfl) | (apply R.gOff; exact rfl; exact rfl; exact rfl) | (apply R.move; exact rfl) | (apply R.assign; exact rfl) | (apply R.pickT; exact rfl; exact rfl) | (apply R.pickF; exact rfl; exact rfl) | (apply R.cmp; exact rfl; exact rfl; exact rfl; all_goals intro hc) | refine Ev.seq ?_ | refine Ev.region ?_ | refine Ev.ret ?_ | refine thenQ.normal ?_ | (apply bodyQ.ret; exact rfl) | fail))
  all_goals (refine ⟨_, rfl, congrArg PV.bool ?_⟩; unfold digitI; first | exact (decide_eq_true (by omega)).symm | exact (decide_eq_false (by omega)).symm)
theorem part_fun (c : Int) : Fun C 121 [.int .u8 c] (.bool (partI c)) := by
  refine Fun.of (FnEv.bodyL Tryz.func121 rfl ?_)
  (repeat' (first | refine EvOps.nil ?_ | (apply R.gOn; exact rfl; exact rfl; exact rfl) | (apply R.gOff; exact rfl; exact rfl; exact rfl) | (apply R.gUn; exact rfl; exact rfl) | (apply R.move; exact rfl) | (apply R.assign; exact rfl) | (apply R.pickT; exact rfl; exact rfl) | (apply R.pickF; exact rfl; exact rfl) | (apply R.cmp; exact rfl; exact rfl; exact rfl; all_goals intro hc) | refine Ev.seq ?_ | refine Ev.region ?_ | refine Ev.ret ?_ | refine thenQ.normal ?_ | (apply bodyQ.ret; exact rfl) | fail))
  all_goals (refine ⟨_, rfl, congrArg PV.bool ?_⟩; rw [partI_eq]; first | exact (decide_eq_true (by omega)).symm | exact (decide_eq_false (by omega)).symm)

theorem allPart_drop (s : ByteArray) (i : Nat) (h : i < s.toList.length) : allPart (s.toList.drop i) = (partI (s.toList[i]).toNat && allPart (s.toList.drop (i + 1))) := by
  rw [List.drop_eq_getElem_cons h, allPart]
theorem size_cases (s : ByteArray) : (s.size = 0 ∧ s.toList = []) ∨ ∃ c l, s.toList = c :: l ∧ s[0]? = some c ∧ s.size = l.length + 1 := by
  have hl := bsize s
  cases h : s.toList with
  | nil => rw [h] at hl; exact .inl ⟨by simpa using hl.symm, rfl⟩
  | cons c l => exact .inr ⟨c, l, rfl, bget (i := 0) (by rw [h]; rfl), by rw [← hl, h]; rfl⟩
theorem risName_fun (s : ByteArray) (hb : s.size < 1000000000) : Fun C 137 [.str s] (.bool (isName s)) := by
  refine Fun.of (FnEv.bodyL Tryz.func137 rfl ?_)
  have hl := bsize s
  rcases size_cases s with ⟨h0, hn⟩ | ⟨c, l, hcl, hc0, hsz⟩
  · have hs : isName s = false := by unfold isName; rw [hn]; rfl
    (repeat' (first | refine EvOps.nil ?_ | (apply R.gOn; exact rfl; exact rfl; exact rfl) | (apply R.gOff; exact rfl; exact rfl; exact rfl) | (apply R.move; exact rfl) | (apply R.assign; exact rfl) | (apply R.pickT; exact rfl; exact rfl) | (apply R.pickF; exact rfl; exact rfl) | (apply R.cmp; exact rfl; exact rfl; exact rfl; all_goals intro hc) | (apply R.lenStr T6; exact rfl; exact rfl) | refine Ev.seq ?_ | refine Ev.region ?_ | (apply Ev.condB; exact rfl) | refine Ev.ret ?_ | refine thenQ.normal ?_ | refine thenQ.ret ?_ | (apply bodyQ.ret; exact rfl) | fail))
    · exact ⟨_, rfl, by rw [hs]; rfl⟩
    · omega
    · omega
  · have hs : isName s = (decide (l.length < 24) && letterI c.toNat && allPart s.toList) := by unfold isName; rw [hcl]; rfl
    (repeat' (first | refine EvOps.nil ?_ | (apply R.gOn; exact rfl; exact rfl; exact rfl) | (apply R.gOff; exact rfl; exact rfl; exact rfl) | (apply R.move; exact rfl) | (apply R.assign; exact rfl) | (apply R.pickT; exact rfl; exact rfl) | (apply R.pickF; exact rfl; exact rfl) | (apply R.cmp; exact rfl; exact rfl; exact rfl; all_goals intro hc) | (apply R.lenStr T6; exact rfl; exact rfl) | refine Ev.seq ?_ | refine Ev.region ?_ | (apply Ev.condB; exact rfl) | refine Ev.ret ?_ | refine thenQ.normal ?_ | refine thenQ.ret ?_ | (apply bodyQ.ret; exact rfl) | fail))
    · omega
    · refine ⟨_, rfl, ?_⟩
      rw [hs, decide_eq_false (by omega)]; rfl
    · refine R.indexStr T6 (i := 0) rfl rfl rfl hc0 ?_
      (repeat' (first | (apply R.gOn; exact rfl; exact rfl; exact rfl) | fail))
      refine R.call rfl rfl (CallEv.pure rfl rfl (letter_fun c.toNat) ?_)
      cases hlet : letterI c.toNat
      · (repeat' (first | refine EvOps.nil ?_ | (apply R.gOn; exact rfl; exact rfl; exact rfl) | (apply R.assign; exact rfl) | (apply R.pickF; exact rfl; exact rfl) | (apply R.not; exact rfl; exact rfl) | refine Ev.seq ?_ | refine Ev.region ?_ | (apply Ev.condB; exact rfl) | refine Ev.ret ?_ | refine thenQ.normal ?_ | refine thenQ.ret ?_ | (apply bodyQ.ret; exact rfl) | fail))
        refine ⟨_, rfl, ?_⟩
        rw [hs, hlet]; simp [nrm, tupOf]
      · (repeat' (first | refine EvOps.nil ?_ | (apply R.gOn; exact rfl; exact rfl; exact rfl) | (apply R.assign; exact rfl) | (apply R.pickF; exact rfl; exact rfl) | (apply R.not; exact rfl; exact rfl) | refine Ev.seq ?_ | refine Ev.region ?_ | (apply Ev.condB; exact rfl) | refine Ev.skip ?_ | refine Ev.block ?_ | refine thenQ.normal ?_ | fail))
        have hs' : isName s = allPart (s.toList.drop 0) := by rw [hs, hlet, decide_eq_true (by omega)]; simp
        refine Ev.loop (I := fun k' st => ∃ (i : Nat) (ρ' : Nat → PV), st = ⟨al [(0, .str s), (3, .int .i64 i)] ρ', []⟩ ∧ k' + i = s.size ∧ isName s = allPart (s.toList.drop i)) s.size ?_ ?_
        · exact ⟨0, _, St.keep ⟨rfl, rfl, trivial⟩, rfl, hs'⟩
        · rintro k' _ ⟨i, ρ', rfl, hk, hb'⟩
          (repeat' (first | refine EvOps.nil ?_ | (apply R.move; exact rfl) | (apply R.assign; exact rfl) | (apply R.cmp; exact rfl; exact rfl; exact rfl; all_goals intro hc) | (apply R.lenStr T6; exact rfl; exact rfl) | refine Ev.seq ?_ | refine Ev.region ?_ | (apply Ev.condB; exact rfl) | refine Ev.ret ?_ | refine Ev.skip ?_ | refine Ev.exit ?_ | refine Ev.block ?_ | refine thenQ.normal ?_ | refine thenQ.exit ?_ | refine blockQ.hit ?_ | refine loopQ.exit ?_ | (apply bodyQ.ret; exact rfl) | fail))
          · have hil : i < s.toList.length := by omega
            have hat := bget (List.getElem?_eq_getElem hil)
            rw [allPart_drop s i hil] at hb'
            refine R.indexStr T6 rfl rfl rfl hat ?_
            generalize hx : s.toList[i] = x at hb' hat
            have hpe := partI_eq x.toNat
            skip
            refine R.call rfl rfl (CallEv.pure rfl rfl (letter_fun x.toNat) ?_)
            cases hlet : letterI x.toNat
            · (repeat' (first | (apply R.gOn; exact rfl; exact rfl; exact rfl) | (apply R.move; exact rfl) | (apply R.not; exact rfl; exact rfl) | fail))
              refine R.indexStr T6 rfl rfl rfl hat ?_
              (repeat' (first | (apply R.gOn; exact rfl; exact rfl; exact rfl) | fail))
              refine R.call rfl rfl (CallEv.pure rfl rfl (digit_fun x.toNat) ?_)
              cases hdig : digitI x.toNat
              · (repeat' (first | (apply R.gOn; exact rfl; exact rfl; exact rfl) | (apply R.move; exact rfl) | (apply R.pickT; exact rfl; exact rfl) | (apply R.not; exact rfl; exact rfl) | fail))
                refine R.indexStr T6 rfl rfl rfl hat ?_
                (repeat' (first | refine EvOps.nil ?_ | (apply R.gOn; exact rfl; exact rfl; exact rfl) | (apply R.gOff; exact rfl; exact rfl; exact rfl) | (apply R.move; exact rfl) | (apply R.assign; exact rfl) | (apply R.pickT; exact rfl; exact rfl) | (apply R.pickF; exact rfl; exact rfl) | (apply R.cmp; exact rfl; exact rfl; exact rfl; all_goals intro hc) | (apply R.arith; exact rfl; exact rfl; exact rfl; exact (wrapI (by omega) (by omega))) | refine Ev.region ?_ | (apply Ev.condB; exact rfl) | refine Ev.skip ?_ | refine thenQ.normal ?_ | refine blockQ.normal ?_ | refine loopQ.normal ?_ | fail))
                · refine R.indexStr T6 rfl rfl rfl hat ?_
                  (repeat' (first | refine EvOps.nil ?_ | (apply R.gOn; exact rfl; exact rfl; exact rfl) | (apply R.move; exact rfl) | (apply R.assign; exact rfl) | (apply R.pickT; exact rfl; exact rfl) | (apply R.cmp; exact rfl; exact rfl; exact rfl; all_goals intro hc) | (apply R.arith; exact rfl; exact rfl; exact rfl; exact (wrapI (by omega) (by omega))) | refine Ev.seq ?_ | refine Ev.region ?_ | (apply Ev.condB; exact rfl) | refine Ev.ret ?_ | refine Ev.skip ?_ | refine thenQ.normal ?_ | refine thenQ.ret ?_ | refine blockQ.normal ?_ | refine blockQ.ret ?_ | refine loopQ.normal ?_ | refine loopQ.ret ?_ | (apply bodyQ.ret; exact rfl) | fail))
                  · rename_i h95
                    have h35 := hc
                    refine ⟨_, rfl, ?_⟩
                    rw [hb']
                    unfold partI
                    rw [hlet, hdig, decide_eq_false (by omega), decide_eq_false (by omega)]; rfl
                  · refine ⟨k' - 1, by omega, i + 1, _, St.keep ⟨rfl, rfl, trivial⟩, by omega, ?_⟩
                    rw [hb']
                    unfold partI
                    rw [decide_eq_true (show (x.toNat : Int) = 35 by omega)]; simp
                · refine ⟨k' - 1, by omega, i + 1, _, St.keep ⟨rfl, rfl, trivial⟩, by omega, ?_⟩
                  rw [hb']
                  unfold partI
                  rw [decide_eq_true (show (x.toNat : Int) = 95 by omega)]; simp
              · (repeat' (first | refine EvOps.nil ?_ | (apply R.gOn; exact rfl; exact rfl; exact rfl) | (apply R.gOff; exact rfl; exact rfl; exact rfl) | (apply R.move; exact rfl) | (apply R.assign; exact rfl) | (apply R.pickT; exact rfl; exact rfl) | (apply R.pickF; exact rfl; exact rfl) | (apply R.arith; exact rfl; exact rfl; exact rfl; exact (wrapI (by omega) (by omega))) | (apply R.not; exact rfl; exact rfl) | refine Ev.region ?_ | (apply Ev.condB; exact rfl) | refine Ev.skip ?_ | refine thenQ.normal ?_ | refine blockQ.normal ?_ | refine loopQ.normal ?_ | fail))
                refine ⟨k' - 1, by omega, i + 1, _, St.keep ⟨rfl, rfl, trivial⟩, by omega, ?_⟩
                rw [hb']
                unfold partI
                rw [hdig]; simp
            · (repeat' (first | refine EvOps.nil ?_ | (apply R.gOff; exact rfl; exact rfl; exact rfl) | (apply R.move; exact rfl) | (apply R.assign; exact rfl) | (apply R.pickF; exact rfl; exact rfl) | (apply R.arith; exact rfl; exact rfl; exact rfl; exact (wrapI (by omega) (by omega))) | (apply R.not; exact rfl; exact rfl) | refine Ev.region ?_ | (apply Ev.condB; exact rfl) | refine Ev.skip ?_ | refine thenQ.normal ?_ | refine blockQ.normal ?_ | refine loopQ.normal ?_ | fail))
              refine ⟨k' - 1, by omega, i + 1, _, St.keep ⟨rfl, rfl, trivial⟩, by omega, ?_⟩
              rw [hb']
              unfold partI
              rw [hlet]; simp
          · refine ⟨_, rfl, ?_⟩
            rw [hb', List.drop_eq_nil_of_le (by omega)]; rfl

theorem emp_l : (ByteArray.mk #[]).toList = [] := by rw [ByteArray.toList_eq]
theorem isName_fun (s : ByteArray) (hb : s.size < 1000000000) : Fun C 107 [.str s] (.bool (isName s)) := by
  refine Fun.of (FnEv.bodyL Tryz.func107 rfl ?_)
  have hl := bsize s
  rcases size_cases s with ⟨h0, hn⟩ | ⟨c, l, hcl, hc0, hsz⟩
  · have hs : isName s = false := by unfold isName; rw [hn]; rfl
    have hemp : s.toList = (ByteArray.mk #[]).toList := by rw [hn, emp_l]
    (repeat' (first | refine EvOps.nil ?_ | (apply R.gOff; exact rfl; exact rfl; exact rfl) | (apply R.gUn; exact rfl; exact rfl) | (apply R.move; exact rfl) | (apply R.assign; exact rfl) | (apply R.pickT; exact rfl; exact rfl) | (apply R.streqT; exact rfl; exact rfl; exact (by assumption)) | refine Ev.seq ?_ | refine Ev.region ?_ | (apply Ev.condB; exact rfl) | refine Ev.ret ?_ | refine thenQ.normal ?_ | refine thenQ.ret ?_ | (apply bodyQ.ret; exact rfl) | fail))
    exact ⟨_, rfl, by rw [hs]; rfl⟩
  · have hs : isName s = (decide (l.length < 24) && letterI c.toNat && allPart s.toList) := by unfold isName; rw [hcl]; rfl
    have hpe := partI_eq c.toNat
    have hle : letterI c.toNat = decide ((97 ≤ (c.toNat : Int) ∧ (c.toNat : Int) ≤ 122) ∨ (65 ≤ (c.toNat : Int) ∧ (c.toNat : Int) ≤ 90)) := rfl
    (repeat' (first | (apply R.indexStr T6 (i := 0); exact rfl; exact rfl; exact rfl; assumption) | refine EvOps.nil ?_ | (apply R.gOn; exact rfl; exact rfl; exact rfl) | (apply R.gOff; exact rfl; exact rfl; exact rfl) | (apply R.gUn; exact rfl; exact rfl) | (apply R.move; exact rfl) | (apply R.assign; exact rfl) | (apply R.pickT; exact rfl; exact rfl) | (apply R.pickF; exact rfl; exact rfl) | (apply R.cmp; exact rfl; exact rfl; exact rfl; all_goals intro hc; all_goals (try (exfalso; omega))) | (apply R.streq; exact rfl; exact rfl; all_goals intro hc) | (apply R.lenStr T6; exact rfl; exact rfl) | refine Ev.seq ?_ | refine Ev.region ?_ | (apply Ev.condB; exact rfl) | refine Ev.ret ?_ | refine thenQ.normal ?_ | refine thenQ.ret ?_ | (apply bodyQ.ret; exact rfl) | fail))
    · rw [hcl, emp_l] at hc; cases hc
    · refine ⟨_, rfl, ?_⟩
      rw [hs, decide_eq_false (by omega)]; rfl
    · have h24 := hc
      clear hc
      refine R.call rfl rfl (CallEv.pure rfl rfl (part_fun c.toNat) ?_)
      cases hpa : partI c.toNat
      · (repeat' (first | refine EvOps.nil ?_ | (apply R.gOn; exact rfl; exact rfl; exact rfl) | (apply R.gOff; exact rfl; exact rfl; exact rfl) | (apply R.gUn; exact rfl; exact rfl) | (apply R.move; exact rfl) | (apply R.assign; exact rfl) | (apply R.pickT; exact rfl; exact rfl) | (apply R.pickF; exact rfl; exact rfl) | (apply R.not; exact rfl; exact rfl) | refine Ev.seq ?_ | refine Ev.region ?_ | (apply Ev.condB; exact rfl) | refine Ev.ret ?_ | refine thenQ.normal ?_ | refine thenQ.ret ?_ | (apply bodyQ.ret; exact rfl) | fail))
        refine ⟨_, rfl, ?_⟩
        rw [hpa] at hpe
        have := of_decide_eq_false hpe.symm
        rw [hs, hle, decide_eq_false (p := (97 ≤ (c.toNat : Int) ∧ (c.toNat : Int) ≤ 122) ∨ (65 ≤ (c.toNat : Int) ∧ (c.toNat : Int) ≤ 90) ) (by omega)]; simp [nrm, tupOf]
      · rw [hpa] at hpe
        have hpe := of_decide_eq_true hpe.symm
        by_cases hg : (97 ≤ (c.toNat : Int) ∧ (c.toNat : Int) ≤ 122) ∨ (65 ≤ (c.toNat : Int) ∧ (c.toNat : Int) ≤ 90)
        · have hs' : isName s = allPart (s.toList.drop 0) := by rw [hs, hle, decide_eq_true hg, decide_eq_true (by omega)]; simp
          (repeat' (first | (apply R.indexStr T6 (i := 0); exact rfl; exact rfl; exact rfl; assumption) | refine EvOps.nil ?_ | (apply R.gOn; exact rfl; exact rfl; exact rfl) | (apply R.move; exact rfl) | (apply R.pickT; exact rfl; exact rfl) | (apply R.pickF; exact rfl; exact rfl) | (apply R.cmp; exact rfl; exact rfl; exact rfl; all_goals intro hc; all_goals (try (exfalso; omega))) | (apply R.not; exact rfl; exact rfl) | (apply R.lenStr T6; exact rfl; exact rfl) | refine Ev.seq ?_ | refine Ev.region ?_ | (apply Ev.condB; exact rfl) | refine Ev.skip ?_ | refine Ev.block ?_ | refine thenQ.normal ?_ | fail))
          refine Ev.loop (I := fun k' st => ∃ (i : Nat) (ρ' : Nat → PV), st = ⟨al [(0, .str s), (38, .int .i64 s.size), (39, .int .i64 i)] ρ', []⟩ ∧ k' + i = s.size ∧ isName s = allPart (s.toList.drop i)) s.size ?_ ?_
          · exact ⟨0, _, St.keep ⟨rfl, rfl, rfl, trivial⟩, rfl, hs'⟩
          · rintro k' _ ⟨i, ρ', rfl, hk, hb'⟩
            (repeat' (first | refine EvOps.nil ?_ | (apply R.move; exact rfl) | (apply R.assign; exact rfl) | (apply R.cmp; exact rfl; exact rfl; exact rfl; all_goals intro hc) | refine Ev.seq ?_ | refine Ev.region ?_ | (apply Ev.condB; exact rfl) | refine Ev.ret ?_ | refine Ev.skip ?_ | refine Ev.exit ?_ | refine Ev.block ?_ | refine thenQ.normal ?_ | refine thenQ.exit ?_ | refine blockQ.hit ?_ | refine loopQ.exit ?_ | (apply bodyQ.ret; exact rfl) | fail))
            · have hil : i < s.toList.length := by omega
              have hat := bget (List.getElem?_eq_getElem hil)
              rw [allPart_drop s i hil] at hb'
              refine R.indexStr T6 rfl rfl rfl hat ?_
              generalize hx : s.toList[i] = x at hb' hat
              skip
              refine R.call rfl rfl (CallEv.pure rfl rfl (part_fun x.toNat) ?_)
              cases hpx : partI x.toNat
              · (repeat' (first | refine EvOps.nil ?_ | (apply R.assign; exact rfl) | (apply R.not; exact rfl; exact rfl) | refine Ev.seq ?_ | refine Ev.region ?_ | (apply Ev.condB; exact rfl) | refine Ev.ret ?_ | refine thenQ.normal ?_ | refine thenQ.ret ?_ | refine blockQ.ret ?_ | refine loopQ.ret ?_ | (apply bodyQ.ret; exact rfl) | fail))
                refine ⟨_, rfl, ?_⟩
                rw [hb', hpx]; rfl
              · (repeat' (first | refine EvOps.nil ?_ | (apply R.move; exact rfl) | (apply R.arith; exact rfl; exact rfl; exact rfl; exact (wrapI (by omega) (by omega))) | (apply R.not; exact rfl; exact rfl) | refine Ev.region ?_ | (apply Ev.condB; exact rfl) | refine Ev.skip ?_ | refine thenQ.normal ?_ | refine blockQ.normal ?_ | refine loopQ.normal ?_ | fail))
                refine ⟨k' - 1, by omega, i + 1, _, St.keep ⟨rfl, rfl, rfl, trivial⟩, by omega, ?_⟩
                rw [hb', hpx]; rfl
            · refine ⟨_, rfl, ?_⟩
              rw [hb', List.drop_eq_nil_of_le (by omega)]; rfl
        · have hs' : isName s = false := by rw [hs, hle, decide_eq_false hg]; simp
          (repeat' (first | (apply R.indexStr T6 (i := 0); exact rfl; exact rfl; exact rfl; assumption) | refine EvOps.nil ?_ | (apply R.gOn; exact rfl; exact rfl; exact rfl) | (apply R.gOff; exact rfl; exact rfl; exact rfl) | (apply R.move; exact rfl) | (apply R.assign; exact rfl) | (apply R.pickT; exact rfl; exact rfl) | (apply R.pickF; exact rfl; exact rfl) | (apply R.cmp; exact rfl; exact rfl; exact rfl; all_goals intro hc; all_goals (try (exfalso; omega))) | (apply R.not; exact rfl; exact rfl) | refine Ev.seq ?_ | refine Ev.region ?_ | (apply Ev.condB; exact rfl) | refine Ev.ret ?_ | refine thenQ.normal ?_ | refine thenQ.ret ?_ | (apply bodyQ.ret; exact rfl) | fail))
          all_goals exact ⟨_, rfl, by rw [hs']; rfl⟩

end Go.Pm
end

/-
  CHAPTER 6, PART 3: sizes. Conditions: none.
-/
section
set_option linter.unusedVariables false
set_option linter.unusedSimpArgs false
set_option linter.unusedVariables false
set_option maxRecDepth 4000
set_option maxHeartbeats 4000000
namespace Go.Pm
open Go.Proofs
attribute [local irreducible] thenQ blockQ loopQ bodyQ Ev EvOps CallEv FnEv

theorem number_fun (a b : Int) : Fun C 105 [.int .i64 a, .int .i64 b] (.int .i64 (cmpN a b)) := by
  refine Fun.of (FnEv.bodyL Tryz.func105 rfl ?_)
  (repeat' (first | refine EvOps.nil ?_ | (apply R.move; exact rfl) | (apply R.assign; exact rfl) | (apply R.cmp; exact rfl; exact rfl; exact rfl; all_goals intro hc) | refine Ev.seq ?_ | refine Ev.region ?_ | (apply Ev.condB; exact rfl) | refine Ev.ret ?_ | refine Ev.skip ?_ | refine thenQ.normal ?_ | refine thenQ.ret ?_ | (apply bodyQ.ret; exact rfl) | fail))
  all_goals (refine ⟨_, rfl, congrArg (PV.int .i64) ?_⟩; unfold cmpN; (repeat' split) <;> omega)

theorem sign_fun (a b : Int) : Fun C 78 [.int .i64 a, .int .i64 b] (.int .i64 (cmpN a b)) := by
  refine Fun.of (FnEv.bodyL Tryz.func78 rfl ?_)
  (repeat' (first | refine EvOps.nil ?_ | (apply R.move; exact rfl) | (apply R.assign; exact rfl) | (apply R.cmp; exact rfl; exact rfl; exact rfl; all_goals intro hc) | refine Ev.seq ?_ | refine Ev.region ?_ | (apply Ev.condB; exact rfl) | refine Ev.ret ?_ | refine Ev.skip ?_ | refine Ev.block ?_ | refine thenQ.normal ?_ | refine thenQ.ret ?_ | refine blockQ.normal ?_ | refine blockQ.ret ?_ | (apply bodyQ.ret; exact rfl) | fail))
  all_goals (refine ⟨_, rfl, congrArg (PV.int .i64) ?_⟩; unfold cmpN; (repeat' split) <;> omega)

theorem size_ev (k s o l) (hbk : bulks l < 1000000000) (ih : ∀ t ∈ l, Fun C 106 [enc t] (.int .i64 (size t))) : Fun C 106 [enc (.mk k s o l)] (.int .i64 (size (.mk k s o l))) := by
  refine Fun.of (FnEv.bodyL Tryz.func106 rfl ?_)
  rw [enc_mk]
  have hlen := len_bulks l
  have hel := encs_len l
  have hsz := sizes_bulk l
  (repeat' (first | refine EvOps.nil ?_ | (apply R.assign; exact rfl) | (apply R.box; exact rfl; exact rfl; exact rfl; exact .nil) | refine Ev.seq ?_ | refine Ev.region ?_ | refine Ev.block ?_ | refine thenQ.normal ?_ | fail))
  refine Ev.loop (I := fun k' st => ∃ (i : Nat) (n : Int) (ρ' : Nat → PV), st = ⟨al [(1, .ptr 0 0 0 0), (3, .int .i64 n), (4, .int .i64 i)] ρ', [⟨.m, 0, 4, [.agg [.int .i64 k, .str s, .int .i64 o, .snap false (encs l)]]⟩]⟩ ∧ k' + i = l.length ∧ 0 ≤ n ∧ 1 + sizes l = n + sizes (l.drop i)) l.length ?_ ?_
  · exact ⟨0, 1, _, St.keep ⟨rfl, rfl, rfl, trivial⟩, rfl, by omega, rfl⟩
  · rintro k' _ ⟨i, n, ρ', rfl, hk, hn, hb'⟩
    (repeat' (first | refine EvOps.nil ?_ | (apply R.move; exact rfl) | (apply R.assign; exact rfl) | (apply R.load1 T6; exact rfl; exact rfl; exact rfl; exact rfl) | (apply R.fieldAddr T6; exact rfl; exact rfl; exact rfl; exact rfl) | (apply R.cmp; exact rfl; exact rfl; exact rfl; all_goals intro hc) | (apply R.lenS T6; exact rfl; exact rfl) | refine Ev.seq ?_ | refine Ev.region ?_ | (apply Ev.condB; exact rfl) | refine Ev.ret ?_ | refine Ev.skip ?_ | refine Ev.exit ?_ | refine Ev.block ?_ | refine thenQ.normal ?_ | refine thenQ.exit ?_ | refine blockQ.hit ?_ | refine loopQ.exit ?_ | (apply bodyQ.ret; exact rfl) | fail))
    · obtain ⟨k1, s1, o1, l1, hmem, hat, hd, hil, _⟩ := encs_at' hc
      refine R.indexS T6 rfl rfl rfl rfl hat rfl rfl ?_
      have hbm := bulk_mem hmem
      have hsm := size_bulk (.mk k1 s1 o1 l1)
      have hdr := sizes_bulk (l.drop (i + 1))
      rw [hd, sizes] at hb'
      (repeat' (first | (apply R.loadA T6; exact rfl; exact rfl; exact rfl; exact rfl; exact (by repeat constructor)) | fail))
      refine R.call rfl rfl ?_
      show CallEv C 2 _ [.agg [.int .i64 k1, .str s1, .int .i64 o1, .snap false (encs l1)]] _ _
      rw [← enc_mk]
      refine CallEv.pure (r := .int .i64 (size (.mk k1 s1 o1 l1))) rfl (by simp [isVals, isVal_enc]) (by simpa [nrms, nrm_enc] using ih _ hmem) ?_
      (repeat' (first | refine EvOps.nil ?_ | (apply R.move; exact rfl) | (apply R.assign; exact rfl) | (apply R.arith; exact rfl; exact rfl; exact rfl; exact (wrapI (by omega) (by omega))) | refine Ev.region ?_ | refine thenQ.normal ?_ | refine blockQ.normal ?_ | refine loopQ.normal ?_ | fail))
      exact ⟨k' - 1, by omega, i + 1, n + size (.mk k1 s1 o1 l1), _, St.keep ⟨rfl, rfl, rfl, trivial⟩, by omega, by omega, by omega⟩
    · refine ⟨_, rfl, ?_⟩
      simp only [nrm, tupOf, size]
      rw [encs_end hc, sizes] at hb'
      rw [hb']; simp

theorem size_fun (t : Tm) (hb : bulk t < 1000000000) : Fun C 106 [enc t] (.int .i64 (size t)) := by
  induction t using Tm.ind with
  | h k s o l ih =>
    simp only [bulk] at hb
    exact size_ev k s o l (by omega) (fun t ht => ih t ht (by have := bulk_mem ht; omega))

theorem tsize_ev (k s o l) (hbk : bulks l < 1000000000) (ih : ∀ t ∈ l, Fun C 79 [enc t] (.int .i64 (size t))) : Fun C 79 [enc (.mk k s o l)] (.int .i64 (size (.mk k s o l))) := by
  refine Fun.of (FnEv.bodyL Tryz.func79 rfl ?_)
  rw [enc_mk]
  have hlen := len_bulks l
  have hel := encs_len l
  have hsz := sizes_bulk l
  (repeat' (first | refine EvOps.nil ?_ | (apply R.move; exact rfl) | (apply R.assign; exact rfl) | (apply R.load1 T6; exact rfl; exact rfl; exact rfl; exact rfl) | (apply R.fieldAddr T6; exact rfl; exact rfl; exact rfl; exact rfl) | (apply R.lenS T6; exact rfl; exact rfl) | (apply R.box; exact rfl; exact rfl; exact rfl; exact .nil) | refine Ev.seq ?_ | refine Ev.region ?_ | refine Ev.block ?_ | refine thenQ.normal ?_ | fail))
  refine Ev.loop (I := fun k' st => ∃ (i : Nat) (n : Int) (J : AHeap) (ρ' : Nat → PV), st = ⟨al [(1, .ptr 0 0 0 0), (3, .int .i64 n), (7, .snap false (encs l)), (8, .int .i64 (encs l).length), (9, .int .i64 i)] ρ', ⟨.m, 0, 4, [.agg [.int .i64 k, .str s, .int .i64 o, .snap false (encs l)]]⟩ :: J⟩ ∧ k' + i = l.length ∧ 0 ≤ n ∧ 1 + sizes l = n + sizes (l.drop i)) l.length ?_ ?_
  · exact ⟨0, 1, [], _, St.keep ⟨rfl, rfl, rfl, rfl, rfl, trivial⟩, rfl, by omega, rfl⟩
  · rintro k' _ ⟨i, n, J, ρ', rfl, hk, hn, hb'⟩
    (repeat' (first | refine EvOps.nil ?_ | (apply R.move; exact rfl) | (apply R.assign; exact rfl) | (apply R.cmp; exact rfl; exact rfl; exact rfl; all_goals intro hc) | refine Ev.seq ?_ | refine Ev.region ?_ | (apply Ev.condB; exact rfl) | refine Ev.ret ?_ | refine Ev.skip ?_ | refine Ev.exit ?_ | refine Ev.block ?_ | refine thenQ.normal ?_ | refine thenQ.exit ?_ | refine blockQ.hit ?_ | refine loopQ.exit ?_ | (apply bodyQ.ret; exact rfl) | fail))
    · obtain ⟨k1, s1, o1, l1, hmem, hat, hd, hil, _⟩ := encs_at' hc
      refine R.indexS T6 rfl rfl rfl rfl hat rfl rfl ?_
      have hbm := bulk_mem hmem
      have hsm := size_bulk (.mk k1 s1 o1 l1)
      have hdr := sizes_bulk (l.drop (i + 1))
      rw [hd, sizes] at hb'
      (repeat' (first | refine EvOps.nil ?_ | (apply R.move; exact rfl) | (apply R.loadA T6; exact rfl; exact rfl; exact rfl; exact rfl; exact (by repeat constructor)) | (apply R.allocN T6; exact rfl; exact rfl; exact rfl) | (apply R.storeN T6; exact rfl; exact rfl; exact rfl; exact rfl; exact rfl; exact rfl) | (apply R.loadAN T6; exact rfl; exact rfl; exact rfl; exact (by repeat constructor)) | refine Ev.region ?_ | refine thenQ.normal ?_ | fail))
      refine R.call rfl rfl ?_
      show CallEv C 2 _ [.agg [.int .i64 k1, .str s1, .int .i64 o1, .snap false (encs l1)]] _ _
      rw [← enc_mk]
      refine CallEv.pure (r := .int .i64 (size (.mk k1 s1 o1 l1))) rfl (by simp [isVals, isVal_enc]) (by simpa [nrms, nrm_enc] using ih _ hmem) ?_
      (repeat' (first | refine EvOps.nil ?_ | (apply R.move; exact rfl) | (apply R.assign; exact rfl) | (apply R.arith; exact rfl; exact rfl; exact rfl; exact (wrapI (by omega) (by omega))) | refine Ev.region ?_ | refine thenQ.normal ?_ | refine blockQ.normal ?_ | refine loopQ.normal ?_ | fail))
      exact ⟨k' - 1, by omega, i + 1, n + size (.mk k1 s1 o1 l1), _, _, St.keep ⟨rfl, rfl, rfl, rfl, rfl, trivial⟩, by omega, by omega, by omega⟩
    · refine ⟨_, rfl, ?_⟩
      simp only [nrm, tupOf, size]
      rw [encs_end hc, sizes] at hb'
      rw [hb']; simp

theorem tsize_fun (t : Tm) (hb : bulk t < 1000000000) : Fun C 79 [enc t] (.int .i64 (size t)) := by
  induction t using Tm.ind with
  | h k s o l ih =>
    simp only [bulk] at hb
    exact tsize_ev k s o l (by omega) (fun t ht => ih t ht (by have := bulk_mem ht; omega))

end Go.Pm
end

/-
  CHAPTER 6, PART 6: the reference's Valid. Conditions: none.
-/
section
set_option linter.unusedVariables false
set_option linter.unusedSimpArgs false
set_option linter.unusedVariables false
set_option linter.unusedSimpArgs false
set_option maxRecDepth 4000
set_option maxHeartbeats 4000000
namespace Go.Pm
open Go.Proofs
attribute [local irreducible] thenQ blockQ loopQ bodyQ Ev EvOps CallEv FnEv EvD

theorem rnode_fun (k s o l) (hb : bulk (.mk k s o l) < 1000000000) : Fun C 123 [enc (.mk k s o l)] (.int .i64 (node (.mk k s o l))) := by
  refine Fun.of (FnEv.bodyL Tryz.func123 rfl ?_)
  rw [enc_mk]
  have hel := encs_len l
  have hlen := len_bulks l
  have hbs : s.size < 1000000000 := by simp only [bulk] at hb; omega
  (repeat' (first | refine EvOps.nil ?_ | (apply R.gOn; exact rfl; exact rfl; exact rfl) | (apply R.gOff; exact rfl; exact rfl; exact rfl) | (apply R.gUn; exact rfl; exact rfl) | (apply R.move; exact rfl) | (apply R.assign; exact rfl) | (apply R.pickT; exact rfl; exact rfl) | (apply R.pickF; exact rfl; exact rfl) | (apply R.load1 T6; exact rfl; exact rfl; exact rfl; exact rfl) | (apply R.fieldAddr T6; exact rfl; exact rfl; exact rfl; exact rfl) | (apply R.cmp; exact rfl; exact rfl; exact rfl; all_goals intro hc; all_goals (try (exfalso; omega))) | (apply R.not; exact rfl; exact rfl) | (apply R.lenS T6; exact rfl; exact rfl) | (apply R.box; exact rfl; exact rfl; exact rfl; exact .nil) | refine Ev.seq ?_ | refine Ev.region ?_ | (apply Ev.condB; exact rfl) | refine Ev.ret ?_ | refine Ev.skip ?_ | refine thenQ.normal ?_ | refine thenQ.ret ?_ | (apply bodyQ.ret; exact rfl) | fail))
  all_goals first
    | (refine ⟨_, rfl, congrArg (PV.int .i64) ?_⟩; rw [node, if_pos (by omega)])
    | (refine R.call rfl rfl (CallEv.pure rfl rfl (risName_fun s hbs) ?_); cases hN : isName s <;> (repeat' (first | refine EvOps.nil ?_ | (apply R.assign; exact rfl) | (apply R.load1 T6; exact rfl; exact rfl; exact rfl; exact rfl) | (apply R.fieldAddr T6; exact rfl; exact rfl; exact rfl; exact rfl) | (apply R.cmp; exact rfl; exact rfl; exact rfl; all_goals intro hc; all_goals (try (exfalso; omega))) | (apply R.not; exact rfl; exact rfl) | (apply R.lenS T6; exact rfl; exact rfl) | refine Ev.seq ?_ | refine Ev.region ?_ | (apply Ev.condB; exact rfl) | refine Ev.ret ?_ | refine Ev.skip ?_ | refine thenQ.normal ?_ | refine thenQ.ret ?_ | (apply bodyQ.ret; exact rfl) | fail)))
  all_goals first
    | (refine ⟨_, rfl, congrArg (PV.int .i64) ?_⟩; rw [node, if_neg (by omega), if_pos hN])
    | (refine ⟨_, rfl, congrArg (PV.int .i64) ?_⟩; rw [node, if_neg (by omega), if_neg (by rw [hN]; simp), if_pos (by omega)])
    | (refine ⟨_, rfl, congrArg (PV.int .i64) ?_⟩; rw [node, if_neg (by omega), if_neg (by rw [hN]; simp), if_neg (by omega)])

theorem rnodes_ev (k s o l) (hb : bulk (.mk k s o l) < 1000000000) (ih : ∀ t ∈ l, Fun C 109 [enc t] (.int .i64 (nodes t))) : Fun C 109 [enc (.mk k s o l)] (.int .i64 (nodes (.mk k s o l))) := by
  have hno := rnode_fun k s o l hb
  refine Fun.of (FnEv.bodyL Tryz.func109 rfl ?_)
  rw [enc_mk] at hno ⊢
  have hlen := len_bulks l
  have hel := encs_len l
  simp only [bulk] at hb
  (repeat' (first | refine EvOps.nil ?_ | (apply R.assign; exact rfl) | (apply R.loadA T6; exact rfl; exact rfl; exact rfl; exact rfl; exact (by repeat constructor)) | (apply R.box; exact rfl; exact rfl; exact rfl; exact .nil) | refine Ev.seq ?_ | refine Ev.region ?_ | refine thenQ.normal ?_ | fail))
  refine R.call rfl rfl (CallEv.pure rfl (by simp [isVals, isVal]) (by simpa [nrms, nrm, nrms_encs] using hno) ?_)
  (repeat' (first | refine EvOps.nil ?_ | (apply R.move; exact rfl) | (apply R.assign; exact rfl) | (apply R.cmp; exact rfl; exact rfl; exact rfl; all_goals intro hc) | refine Ev.seq ?_ | refine Ev.region ?_ | (apply Ev.condB; exact rfl) | refine Ev.ret ?_ | refine Ev.skip ?_ | refine Ev.block ?_ | refine thenQ.normal ?_ | refine thenQ.ret ?_ | (apply bodyQ.ret; exact rfl) | fail))
  · refine ⟨_, rfl, ?_⟩
    rw [nodes, if_pos (by assumption)]; rfl
  · have h0 : nodes (.mk k s o l) = nodess l := by rw [nodes, if_neg (by assumption)]
    refine Ev.loop (I := fun k' st => ∃ (i : Nat) (ρ' : Nat → PV), st = ⟨al [(1, .ptr 0 0 0 0), (4, .int .i64 i)] ρ', [⟨.m, 0, 4, [.agg [.int .i64 k, .str s, .int .i64 o, .snap false (encs l)]]⟩]⟩ ∧ k' + i = l.length ∧ nodess l = nodess (l.drop i)) l.length ?_ ?_
    · exact ⟨0, _, St.keep ⟨rfl, rfl, trivial⟩, rfl, rfl⟩
    · rintro k' _ ⟨i, ρ', rfl, hk, hb'⟩
      (repeat' (first | refine EvOps.nil ?_ | (apply R.move; exact rfl) | (apply R.assign; exact rfl) | (apply R.load1 T6; exact rfl; exact rfl; exact rfl; exact rfl) | (apply R.fieldAddr T6; exact rfl; exact rfl; exact rfl; exact rfl) | (apply R.cmp; exact rfl; exact rfl; exact rfl; all_goals intro hc) | (apply R.lenS T6; exact rfl; exact rfl) | refine Ev.seq ?_ | refine Ev.region ?_ | (apply Ev.condB; exact rfl) | refine Ev.ret ?_ | refine Ev.skip ?_ | refine Ev.exit ?_ | refine Ev.block ?_ | refine thenQ.normal ?_ | refine thenQ.exit ?_ | refine blockQ.hit ?_ | refine loopQ.exit ?_ | (apply bodyQ.ret; exact rfl) | fail))
      · obtain ⟨k1, s1, o1, l1, hmem, hat, hd, hil, _⟩ := encs_at' hc
        refine R.indexS T6 rfl rfl rfl rfl hat rfl rfl ?_
        have hih := ih _ hmem
        rw [enc_mk] at hih
        rw [hd, nodess] at hb'
        (repeat' (first | (apply R.loadA T6; exact rfl; exact rfl; exact rfl; exact rfl; exact (by repeat constructor)) | fail))
        refine R.call rfl rfl (CallEv.pure rfl (by simp [isVals, isVal]) (by simpa [nrms, nrm, nrms_encs] using hih) ?_)
        (repeat' (first | refine EvOps.nil ?_ | (apply R.move; exact rfl) | (apply R.assign; exact rfl) | (apply R.cmp; exact rfl; exact rfl; exact rfl; all_goals intro hc) | (apply R.arith; exact rfl; exact rfl; exact rfl; exact (wrapI (by omega) (by omega))) | refine Ev.seq ?_ | refine Ev.region ?_ | (apply Ev.condB; exact rfl) | refine Ev.ret ?_ | refine Ev.skip ?_ | refine thenQ.normal ?_ | refine thenQ.ret ?_ | refine blockQ.normal ?_ | refine blockQ.ret ?_ | refine loopQ.normal ?_ | refine loopQ.ret ?_ | (apply bodyQ.ret; exact rfl) | fail))
        · refine ⟨_, rfl, ?_⟩
          rw [h0, hb', if_pos (by assumption)]; rfl
        · refine ⟨k' - 1, by omega, i + 1, _, St.keep ⟨rfl, rfl, trivial⟩, by omega, ?_⟩
          rw [hb', if_neg (by assumption)]
      · refine ⟨_, rfl, ?_⟩
        rw [h0, hb', encs_end hc]; rfl
theorem rnodes_fun (t : Tm) (hb : bulk t < 1000000000) : Fun C 109 [enc t] (.int .i64 (nodes t)) := by
  induction t using Tm.ind with
  | h k s o l ih =>
    exact rnodes_ev k s o l hb (fun t ht => ih t ht (by have := bulk_mem ht; simp only [bulk] at hb; omega))

theorem rdepth_ev (k s o l) (hb : bulk (.mk k s o l) < 1000000000) (ih : ∀ t ∈ l, Fun C 110 [enc t] (.int .i64 (depth t))) : Fun C 110 [enc (.mk k s o l)] (.int .i64 (depth (.mk k s o l))) := by
  refine Fun.of (FnEv.bodyL Tryz.func110 rfl ?_)
  rw [enc_mk]
  have hlen := len_bulks l
  have hel := encs_len l
  have hsz := sizes_bulk l
  have hds := depths_sizes l
  simp only [bulk] at hb
  (repeat' (first | refine EvOps.nil ?_ | (apply R.assign; exact rfl) | (apply R.box; exact rfl; exact rfl; exact rfl; exact .nil) | refine Ev.seq ?_ | refine Ev.region ?_ | refine Ev.block ?_ | refine thenQ.normal ?_ | fail))
  refine Ev.loop (I := fun k' st => ∃ (i : Nat) (n : Int) (ρ' : Nat → PV), st = ⟨al [(1, .ptr 0 0 0 0), (3, .int .i64 n), (4, .int .i64 i)] ρ', [⟨.m, 0, 4, [.agg [.int .i64 k, .str s, .int .i64 o, .snap false (encs l)]]⟩]⟩ ∧ k' + i = l.length ∧ 0 ≤ n ∧ depths l = max n (depths (l.drop i))) l.length ?_ ?_
  · exact ⟨0, 0, _, St.keep ⟨rfl, rfl, rfl, trivial⟩, rfl, by omega, by simp only [List.drop_zero]; omega⟩
  · rintro k' _ ⟨i, n, ρ', rfl, hk, hn, hb'⟩
    (repeat' (first | refine EvOps.nil ?_ | (apply R.move; exact rfl) | (apply R.assign; exact rfl) | (apply R.load1 T6; exact rfl; exact rfl; exact rfl; exact rfl) | (apply R.fieldAddr T6; exact rfl; exact rfl; exact rfl; exact rfl) | (apply R.cmp; exact rfl; exact rfl; exact rfl; all_goals intro hc) | (apply R.arith; exact rfl; exact rfl; exact rfl; exact (wrapI (by omega) (by omega))) | (apply R.lenS T6; exact rfl; exact rfl) | refine Ev.seq ?_ | refine Ev.region ?_ | (apply Ev.condB; exact rfl) | refine Ev.ret ?_ | refine Ev.skip ?_ | refine Ev.exit ?_ | refine Ev.block ?_ | refine thenQ.normal ?_ | refine thenQ.exit ?_ | refine blockQ.hit ?_ | refine loopQ.exit ?_ | (apply bodyQ.ret; exact rfl) | fail))
    · obtain ⟨k1, s1, o1, l1, hmem, hat, hd, hil, _⟩ := encs_at' hc
      refine R.indexS T6 rfl rfl rfl rfl hat rfl rfl ?_
      have hih := ih _ hmem
      rw [enc_mk] at hih
      rw [hd, depths] at hb'
      have hpo := depth_size (.mk k1 s1 o1 l1)
      (repeat' (first | (apply R.loadA T6; exact rfl; exact rfl; exact rfl; exact rfl; exact (by repeat constructor)) | fail))
      refine R.call rfl rfl (CallEv.pure rfl (by simp [isVals, isVal]) (by simpa [nrms, nrm, nrms_encs] using hih) ?_)
      (repeat' (first | refine EvOps.nil ?_ | (apply R.move; exact rfl) | (apply R.assign; exact rfl) | (apply R.arith; exact rfl; exact rfl; exact rfl; exact (wrapI (by omega) (by omega))) | (apply R.max; exact rfl; exact rfl) | refine Ev.region ?_ | refine thenQ.normal ?_ | refine blockQ.normal ?_ | refine loopQ.normal ?_ | fail))
      exact ⟨k' - 1, by omega, i + 1, _, _, St.keep ⟨rfl, rfl, rfl, trivial⟩, by omega, by omega, by omega⟩
    · rw [encs_end hc, depths] at hb'
      skip
      refine ⟨_, rfl, congrArg (PV.int .i64) ?_⟩
      rw [depth]; omega
theorem rdepth_fun (t : Tm) (hb : bulk t < 1000000000) : Fun C 110 [enc t] (.int .i64 (depth t)) := by
  induction t using Tm.ind with
  | h k s o l ih =>
    exact rdepth_ev k s o l hb (fun t ht => ih t ht (by have := bulk_mem ht; simp only [bulk] at hb; omega))

theorem rvalid_fun (t : Tm) (hb : bulk t < 1000000000) : Fun C 81 [enc t] (.int .i64 (valid t)) := by
  have h1 := rnodes_fun t hb
  have h2 := size_fun t hb
  have h3 := rdepth_fun t hb
  obtain ⟨k, s, o, l⟩ := t
  refine Fun.of (FnEv.bodyL Tryz.func81 rfl ?_)
  rw [enc_mk] at h1 h2 h3 ⊢
  (repeat' (first | refine EvOps.nil ?_ | (apply R.assign; exact rfl) | (apply R.loadA T6; exact rfl; exact rfl; exact rfl; exact rfl; exact (by repeat constructor)) | (apply R.box; exact rfl; exact rfl; exact rfl; exact .nil) | refine Ev.seq ?_ | refine Ev.region ?_ | refine thenQ.normal ?_ | fail))
  refine R.call rfl rfl (CallEv.pure rfl (by simp [isVals, isVal]) (by simpa [nrms, nrm, nrms_encs] using h1) ?_)
  (repeat' (first | refine EvOps.nil ?_ | (apply R.move; exact rfl) | (apply R.assign; exact rfl) | (apply R.loadA T6; exact rfl; exact rfl; exact rfl; exact rfl; exact (by repeat constructor)) | (apply R.cmp; exact rfl; exact rfl; exact rfl; all_goals intro hc) | refine Ev.seq ?_ | refine Ev.region ?_ | (apply Ev.condB; exact rfl) | refine Ev.ret ?_ | refine Ev.skip ?_ | refine thenQ.normal ?_ | refine thenQ.ret ?_ | (apply bodyQ.ret; exact rfl) | fail))
  · refine ⟨_, rfl, ?_⟩
    rw [valid, if_pos (by assumption)]; rfl
  · have h0 := hc
    clear hc
    refine R.call rfl rfl (CallEv.pure rfl (by simp [isVals, isVal]) (by simpa [nrms, nrm, nrms_encs] using h2) ?_)
    (repeat' (first | refine EvOps.nil ?_ | (apply R.gOn; exact rfl; exact rfl; exact rfl) | (apply R.gOff; exact rfl; exact rfl; exact rfl) | (apply R.move; exact rfl) | (apply R.assign; exact rfl) | (apply R.pickT; exact rfl; exact rfl) | (apply R.loadA T6; exact rfl; exact rfl; exact rfl; exact rfl; exact (by repeat constructor)) | (apply R.cmp; exact rfl; exact rfl; exact rfl; all_goals intro hc) | refine Ev.seq ?_ | refine Ev.region ?_ | (apply Ev.condB; exact rfl) | refine Ev.ret ?_ | refine thenQ.normal ?_ | refine thenQ.ret ?_ | (apply bodyQ.ret; exact rfl) | fail))
    · refine ⟨_, rfl, ?_⟩
      rw [valid, if_neg h0, if_pos (by omega)]; rfl
    · refine R.call rfl rfl (CallEv.pure rfl (by simp [isVals, isVal]) (by simpa [nrms, nrm, nrms_encs] using h3) ?_)
      (repeat' (first | refine EvOps.nil ?_ | (apply R.gOn; exact rfl; exact rfl; exact rfl) | (apply R.assign; exact rfl) | (apply R.pickF; exact rfl; exact rfl) | (apply R.cmp; exact rfl; exact rfl; exact rfl; all_goals intro hc) | refine Ev.seq ?_ | refine Ev.region ?_ | (apply Ev.condB; exact rfl) | refine Ev.ret ?_ | refine Ev.skip ?_ | refine thenQ.normal ?_ | refine thenQ.ret ?_ | (apply bodyQ.ret; exact rfl) | fail))
      · refine ⟨_, rfl, ?_⟩
        rw [valid, if_neg h0, if_pos (by omega)]; rfl
      · refine ⟨_, rfl, ?_⟩
        rw [valid, if_neg h0, if_neg (by omega)]; rfl

end Go.Pm
end

/-
  CHAPTER 6, PART 4: Compare. Conditions: none.
-/
section
set_option linter.unusedVariables false
set_option linter.unusedSimpArgs false
set_option linter.unusedVariables false
set_option maxRecDepth 4000
set_option maxHeartbeats 4000000
namespace Go.Pm
open Go.Proofs
attribute [local irreducible] thenQ blockQ loopQ bodyQ Ev EvOps CallEv FnEv EvD


set_option maxHeartbeats 2000000 in
theorem rcmp_ev (k s o l k' s' o' l') (hb : bulk (.mk k s o l) < 1000000000) (hb' : bulk (.mk k' s' o' l') < 1000000000)
    (ih : ∀ t ∈ l, ∀ t' ∈ l', Fun C 74 [enc t, enc t'] (.int .i64 (cmpT t t'))) : Fun C 74 [enc (.mk k s o l), enc (.mk k' s' o' l')] (.int .i64 (cmpT (.mk k s o l) (.mk k' s' o' l'))) := by
  refine Fun.of (FnEv.bodyL Tryz.func74 rfl ?_)
  rw [enc_mk, enc_mk]
  have z1 := size_fun _ hb
  have z2 := size_fun _ hb'
  have v1 : isVals (encs l) = true := isVals_encs l
  have v2 : isVals (encs l') = true := isVals_encs l'
  have e1 := encs_len l
  have e2 := encs_len l'
  have b1 : l.length < 1000000000 := by have := len_bulks l; simp only [bulk] at hb; omega
  have b2 : l'.length < 1000000000 := by have := len_bulks l'; simp only [bulk] at hb'; omega
  rw [enc_mk] at z1 z2
  (repeat' (first | refine EvOps.nil ?_ | (apply R.assign; exact rfl) | (apply R.box; exact rfl; exact rfl; exact rfl; exact .nil) | (apply R.box; exact rfl; exact rfl; exact rfl; exact (.cons .nil)) | refine Ev.seq ?_ | refine Ev.region ?_ | refine Ev.regionD ?_ | (apply D.loadA T6; exact (by first | exact rfl | assumption); exact rfl; exact rfl; exact rfl; exact rfl; exact rfl; exact (by repeat constructor)) | refine thenQ.normal ?_ | fail))
  refine D.callP rfl rfl rfl rfl (by simp [isVals, isVal, v1]) rfl rfl (by simpa [nrms, nrm, nrms_encs] using z1) ?_
  (repeat' (first | (apply D.loadA T6; exact (by first | exact rfl | assumption); exact rfl; exact rfl; exact rfl; exact rfl; exact rfl; exact (by repeat constructor)) | fail))
  refine D.callP rfl rfl rfl rfl (by simp [isVals, isVal, v2]) rfl rfl (by simpa [nrms, nrm, nrms_encs] using z2) ?_
  refine D.callP rfl rfl rfl rfl rfl rfl rfl (number_fun _ _) ?_
  (repeat' (first | refine EvOps.nil ?_ | (apply R.move; exact rfl) | (apply R.assign; exact rfl) | (apply R.load1 T6; exact rfl; exact rfl; exact rfl; exact rfl) | (apply R.fieldAddr T6; exact rfl; exact rfl; exact rfl; exact rfl) | (apply R.cmp; exact rfl; exact rfl; exact rfl; all_goals intro hc) | refine Ev.seq ?_ | refine Ev.region ?_ | refine EvD.nil ?_ | (apply D.assign; exact rfl) | (apply Ev.condB; exact rfl) | refine Ev.ret ?_ | refine Ev.skip ?_ | refine thenQ.normal ?_ | refine thenQ.ret ?_ | (apply bodyQ.ret; exact rfl) | fail))
  · exact ⟨_, rfl, by simp only [nrm, tupOf, cmpT]; rw [if_pos hc]⟩
  have h1 := hc
  clear hc
  refine R.call rfl rfl (CallEv.pure rfl rfl (number_fun k k') ?_)
  (repeat' (first | refine EvOps.nil ?_ | (apply R.move; exact rfl) | (apply R.assign; exact rfl) | (apply R.load1 T6; exact rfl; exact rfl; exact rfl; exact rfl) | (apply R.fieldAddr T6; exact rfl; exact rfl; exact rfl; exact rfl) | (apply R.cmp; exact rfl; exact rfl; exact rfl; all_goals intro hc) | (apply R.strcmp; exact rfl; exact rfl; exact rfl; all_goals intro hc) | refine Ev.seq ?_ | refine Ev.region ?_ | (apply Ev.condB; exact rfl) | refine Ev.ret ?_ | refine Ev.skip ?_ | refine thenQ.normal ?_ | refine thenQ.ret ?_ | (apply bodyQ.ret; exact rfl) | fail))
  · exact ⟨_, rfl, by simp only [nrm, tupOf, cmpT]; rw [if_neg h1, if_pos hc]⟩
  · rename_i h2
    have h3 := hc
    exact ⟨_, rfl, by simp only [nrm, tupOf, cmpT]; rw [if_neg h1, if_neg h2, if_pos h3]⟩
  · rename_i h2 h3
    have h4 := hc
    exact ⟨_, rfl, by simp only [nrm, tupOf, cmpT]; rw [if_neg h1, if_neg h2, if_neg (by rw [h3]; simp), if_pos h4]⟩
  rename_i h2 h3
  have h4 := hc
  clear hc
  refine R.call rfl rfl (CallEv.pure rfl rfl (number_fun o o') ?_)
  (repeat' (first | refine EvOps.nil ?_ | (apply R.move; exact rfl) | (apply R.assign; exact rfl) | (apply R.load1 T6; exact rfl; exact rfl; exact rfl; exact rfl) | (apply R.fieldAddr T6; exact rfl; exact rfl; exact rfl; exact rfl) | (apply R.cmp; exact rfl; exact rfl; exact rfl; all_goals intro hc) | (apply R.lenS T6; exact rfl; exact rfl) | refine Ev.seq ?_ | refine Ev.region ?_ | (apply Ev.condB; exact rfl) | refine Ev.ret ?_ | refine Ev.skip ?_ | refine thenQ.normal ?_ | refine thenQ.ret ?_ | (apply bodyQ.ret; exact rfl) | fail))
  · exact ⟨_, rfl, by simp only [nrm, tupOf, cmpT]; rw [if_neg h1, if_neg h2, if_neg (by rw [h3]; simp), if_neg (by rw [h4]; simp), if_pos hc]⟩
  have h5 := hc
  clear hc
  refine R.call rfl rfl (CallEv.pure rfl rfl (number_fun (encs l).length (encs l').length) ?_)
  (repeat' (first | refine EvOps.nil ?_ | (apply R.move; exact rfl) | (apply R.assign; exact rfl) | (apply R.cmp; exact rfl; exact rfl; exact rfl; all_goals intro hc) | refine Ev.seq ?_ | refine Ev.region ?_ | (apply Ev.condB; exact rfl) | refine Ev.ret ?_ | refine Ev.skip ?_ | refine Ev.block ?_ | refine thenQ.normal ?_ | refine thenQ.ret ?_ | (apply bodyQ.ret; exact rfl) | fail))
  · refine ⟨_, rfl, ?_⟩
    simp only [nrm, tupOf, cmpT]
    rw [e1, e2] at hc ⊢
    rw [if_neg h1, if_neg h2, if_neg (by rw [h3]; simp), if_neg (by rw [h4]; simp), if_neg h5, if_pos hc]
  have h6 := hc
  clear hc
  have hll : l.length = l'.length := by
    rw [e1, e2] at h6
    unfold cmpN at h6
    repeat' split at h6
    all_goals omega
  have hspec : cmpT (.mk k s o l) (.mk k' s' o' l') = cmps l l' := by
    rw [e1, e2] at h6
    rw [cmpT, if_neg h1, if_neg h2, if_neg (by rw [h3]; simp), if_neg (by rw [h4]; simp), if_neg h5, if_neg h6]
  refine Ev.loop (I := fun k'' st => ∃ (i : Nat) (ρ' : Nat → PV), st = ⟨al [(2, .ptr 0 0 0 0), (3, .ptr 1 0 0 0), (9, .int .i64 i)] ρ', [⟨.m, 0, 4, [.agg [.int .i64 k, .str s, .int .i64 o, .snap false (encs l)]]⟩, ⟨.m, 0, 4, [.agg [.int .i64 k', .str s', .int .i64 o', .snap false (encs l')]]⟩]⟩ ∧ k'' + i = l.length ∧ cmps l l' = cmps (l.drop i) (l'.drop i)) l.length ?_ ?_
  · exact ⟨0, _, St.keep ⟨rfl, rfl, rfl, trivial⟩, rfl, rfl⟩
  · rintro k'' _ ⟨i, ρ', rfl, hk, hb2⟩
    (repeat' (first | refine EvOps.nil ?_ | (apply R.move; exact rfl) | (apply R.assign; exact rfl) | (apply R.load1 T6; exact rfl; exact rfl; exact rfl; exact rfl) | (apply R.fieldAddr T6; exact rfl; exact rfl; exact rfl; exact rfl) | (apply R.cmp; exact rfl; exact rfl; exact rfl; all_goals intro hc) | (apply R.lenS T6; exact rfl; exact rfl) | refine Ev.seq ?_ | refine Ev.region ?_ | refine Ev.regionD ?_ | (apply D.move; exact rfl) | (apply D.fieldAddr T6; exact rfl; exact rfl; exact rfl; exact rfl) | (apply D.load1 T6; exact (by first | exact rfl | assumption); exact rfl; exact rfl; exact rfl; exact rfl; exact rfl) | (apply Ev.condB; exact rfl) | refine Ev.ret ?_ | refine Ev.skip ?_ | refine Ev.exit ?_ | refine Ev.block ?_ | refine thenQ.normal ?_ | refine thenQ.exit ?_ | refine blockQ.hit ?_ | refine loopQ.exit ?_ | (apply bodyQ.ret; exact rfl) | fail))
    · obtain ⟨k1, s1, o1, l1, hmem, hat, hd, hil, _⟩ := encs_at' hc
      obtain ⟨k2, s2, o2, l2, hmem', hat', hd', hil', _⟩ := encs_at' (l := l') (i := i) (by omega)
      have w1 : isVals (encs l1) = true := isVals_encs l1
      have w2 : isVals (encs l2) = true := isVals_encs l2
      have hih := ih _ hmem _ hmem'
      rw [enc_mk, enc_mk] at hih
      refine D.indexS T6 rfl rfl rfl rfl rfl hat rfl rfl ?_
      (repeat' (first | (apply D.move; exact rfl) | (apply D.fieldAddr T6; exact rfl; exact rfl; exact rfl; exact rfl) | (apply D.load1 T6; exact (by first | exact rfl | assumption); exact rfl; exact rfl; exact rfl; exact rfl; exact rfl) | (apply D.loadA T6; exact (by first | exact rfl | assumption); exact rfl; exact rfl; exact rfl; exact rfl; exact rfl; exact (by repeat constructor)) | fail))
      refine D.indexS T6 rfl rfl rfl rfl rfl hat' rfl rfl ?_
      (repeat' (first | (apply D.loadA T6; exact (by first | exact rfl | assumption); exact rfl; exact rfl; exact rfl; exact rfl; exact rfl; exact (by repeat constructor)) | fail))
      refine D.callP rfl rfl rfl rfl (by simp [isVals, isVal, w1, w2]) rfl rfl (by simpa [nrms, nrm, nrms_encs] using hih) ?_
      (repeat' (first | refine EvOps.nil ?_ | (apply R.move; exact rfl) | (apply R.assign; exact rfl) | (apply R.cmp; exact rfl; exact rfl; exact rfl; all_goals intro hc) | (apply R.arith; exact rfl; exact rfl; exact rfl; exact (wrapI (by omega) (by omega))) | refine Ev.seq ?_ | refine Ev.region ?_ | refine EvD.nil ?_ | (apply D.assign; exact rfl) | (apply Ev.condB; exact rfl) | refine Ev.ret ?_ | refine Ev.skip ?_ | refine thenQ.normal ?_ | refine thenQ.ret ?_ | refine blockQ.normal ?_ | refine blockQ.ret ?_ | refine loopQ.normal ?_ | refine loopQ.ret ?_ | (apply bodyQ.ret; exact rfl) | fail))
      · refine ⟨_, rfl, ?_⟩
        simp only [nrm, tupOf]
        rw [hspec, hb2, hd, hd', cmps, if_pos (by assumption)]
      · refine ⟨k'' - 1, by omega, i + 1, _, St.keep ⟨rfl, rfl, rfl, trivial⟩, by omega, ?_⟩
        rw [hb2, hd, hd', cmps, if_neg (by assumption)]
    · refine ⟨_, rfl, ?_⟩
      simp only [nrm, tupOf]
      rw [hspec, hb2, encs_end hc, cmps]

end Go.Pm
end

/-
  CHAPTER 6, PART 7: the reference: Compare, Same, special, arity, add. Conditions: none.
-/
section
set_option linter.unusedVariables false
set_option linter.unusedSimpArgs false
set_option linter.unusedVariables false
set_option linter.unusedSimpArgs false
set_option maxRecDepth 4000
set_option maxHeartbeats 4000000
namespace Go.Pm
open Go.Proofs
attribute [local irreducible] thenQ blockQ loopQ bodyQ Ev EvOps CallEv FnEv EvD

theorem rcmp_fun (t t' : Tm) (hb : bulk t < 1000000000) (hb' : bulk t' < 1000000000) : Fun C 74 [enc t, enc t'] (.int .i64 (cmpT t t')) := by
  induction t using Tm.ind generalizing t' with
  | h k s o l ih =>
    obtain ⟨k', s', o', l'⟩ := t'
    refine rcmp_ev k s o l k' s' o' l' hb hb' (fun t ht t' ht' => ih t ht t' ?_ ?_)
    · have := bulk_mem ht; simp only [bulk] at hb; omega
    · have := bulk_mem ht'; simp only [bulk] at hb'; omega
theorem rsame_fun (t t' : Tm) (hb : bulk t < 1000000000) (hb' : bulk t' < 1000000000) : Fun C 31 [enc t, enc t'] (.bool (decide (cmpT t t' = 0))) := by
  have h1 := rcmp_fun t t' hb hb'
  obtain ⟨k, s, o, l⟩ := t
  obtain ⟨k', s', o', l'⟩ := t'
  refine Fun.of (FnEv.bodyL Tryz.func31 rfl ?_)
  rw [enc_mk, enc_mk] at h1 ⊢
  (repeat' (first | refine EvOps.nil ?_ | (apply R.assign; exact rfl) | (apply R.loadA T6; exact rfl; exact rfl; exact rfl; exact rfl; exact (by repeat constructor)) | (apply R.box; exact rfl; exact rfl; exact rfl; exact .nil) | (apply R.box; exact rfl; exact rfl; exact rfl; exact (.cons .nil)) | refine Ev.seq ?_ | refine Ev.region ?_ | refine thenQ.normal ?_ | fail))
  refine R.call rfl rfl (CallEv.pure rfl (by simp [isVals, isVal]) (by simpa [nrms, nrm, nrms_encs] using h1) ?_)
  (repeat' (first | refine EvOps.nil ?_ | (apply R.assign; exact rfl) | (apply R.cmp; exact rfl; exact rfl; exact rfl; all_goals intro hc) | refine Ev.ret ?_ | refine thenQ.normal ?_ | (apply bodyQ.ret; exact rfl) | fail))
  · exact ⟨_, rfl, congrArg PV.bool (decide_eq_true (by assumption)).symm⟩
  · exact ⟨_, rfl, congrArg PV.bool (decide_eq_false (by assumption)).symm⟩

theorem special_eq (k s o l) : special (.mk k s o l) = decide (k = 3 ∧ (s.toList = nmMul ∨ s.toList = nmInv ∨ s.toList = nmOne)) := by
  simp only [special, ← Bool.decide_or, ← Bool.decide_and, or_assoc]
theorem cMul_l : (ByteArray.mk #[109, 117, 108]).toList = nmMul := sMul_l
theorem cInv_l : (ByteArray.mk #[105, 110, 118]).toList = nmInv := sInv_l
theorem cOne_l : (ByteArray.mk #[111, 110, 101]).toList = nmOne := sOne_l

theorem rspecial_fun (k s o l) : Fun C 82 [enc (.mk k s o l)] (.bool (special (.mk k s o l))) := by
  refine Fun.of (FnEv.bodyL Tryz.func82 rfl ?_)
  rw [enc_mk, special_eq]
  (repeat' (first | refine EvOps.nil ?_ | (apply R.gOn; exact rfl; exact rfl; exact rfl) | (apply R.gOff; exact rfl; exact rfl; exact rfl) | (apply R.gUn; exact rfl; exact rfl) | (apply R.move; exact rfl) | (apply R.assign; exact rfl) | (apply R.pickT; exact rfl; exact rfl) | (apply R.pickF; exact rfl; exact rfl) | (apply R.load1 T6; exact rfl; exact rfl; exact rfl; exact rfl) | (apply R.fieldAddr T6; exact rfl; exact rfl; exact rfl; exact rfl) | (apply R.cmp; exact rfl; exact rfl; exact rfl; all_goals intro hc) | (apply R.streq; exact rfl; exact rfl; all_goals intro hc) | (apply R.box; exact rfl; exact rfl; exact rfl; exact .nil) | refine Ev.seq ?_ | refine Ev.region ?_ | refine Ev.ret ?_ | refine thenQ.normal ?_ | (apply bodyQ.ret; exact rfl) | fail))
  all_goals try simp only [cMul_l, cInv_l, cOne_l] at *
  all_goals first
    | exact ⟨_, rfl, congrArg PV.bool (decide_eq_true (by simp [*])).symm⟩
    | exact ⟨_, rfl, congrArg PV.bool (decide_eq_false (by simp [*])).symm⟩
theorem symbol_fun (k s o l) : Fun C 38 [enc (.mk k s o l)] (.bool (special (.mk k s o l))) := by
  refine Fun.of (FnEv.bodyL Tryz.func38 rfl ?_)
  rw [enc_mk, special_eq]
  (repeat' (first | refine EvOps.nil ?_ | (apply R.gOn; exact rfl; exact rfl; exact rfl) | (apply R.gOff; exact rfl; exact rfl; exact rfl) | (apply R.gUn; exact rfl; exact rfl) | (apply R.move; exact rfl) | (apply R.assign; exact rfl) | (apply R.pickT; exact rfl; exact rfl) | (apply R.pickF; exact rfl; exact rfl) | (apply R.load1 T6; exact rfl; exact rfl; exact rfl; exact rfl) | (apply R.fieldAddr T6; exact rfl; exact rfl; exact rfl; exact rfl) | (apply R.cmp; exact rfl; exact rfl; exact rfl; all_goals intro hc) | (apply R.streq; exact rfl; exact rfl; all_goals intro hc) | (apply R.box; exact rfl; exact rfl; exact rfl; exact .nil) | refine Ev.seq ?_ | refine Ev.region ?_ | refine Ev.ret ?_ | refine thenQ.normal ?_ | (apply bodyQ.ret; exact rfl) | fail))
  all_goals try simp only [cMul_l, cInv_l, cOne_l] at *
  all_goals first
    | exact ⟨_, rfl, congrArg PV.bool (decide_eq_true (by simp [*])).symm⟩
    | exact ⟨_, rfl, congrArg PV.bool (decide_eq_false (by simp [*])).symm⟩

end Go.Pm
end
