/-
  A part of the library Pm and its contracts (joined by program): PmPow PmVal PmBack PmName PmSize PmValid PmCmp PmRef PmRule3 PmTCmp PmRef2. Conditions: none.
-/
import Derived.Test.YtejhjciockgicaaGreatPzAC
import Derived.Test.YtejhjciockgicaaGreatPzAA
/-
  CHAPTER 6, PLAIN LAW 2: products as lists of powers. Conditions: none.
-/
section
set_option linter.unusedVariables false
set_option linter.unusedSimpArgs false
set_option linter.unusedVariables false
set_option linter.unusedSimpArgs false
namespace Go.Pm

abbrev Pw := Tm × Int
def encP : Pw → PV
  | (.mk k s o l, n) => .agg [.int .i64 k, .str s, .int .i64 o, .snap false (encs l), .int .i64 n]
def encPs (l : List Pw) : List PV := l.map encP

/-- the reference's addP -/
def addP (t : Tm) (n : Int) : Bool → List Pw → List Pw
  | d, [] => if d then [] else [(t, n)]
  | d, p :: l => (if d = false ∧ cmpT t p.1 < 0 then [(t, n)] else []) ++ ((if (if cmpT t p.1 = 0 then p.2 + n else p.2) ≠ 0 then [(p.1, if cmpT t p.1 = 0 then p.2 + n else p.2)] else []) ++ addP t n (d || decide (cmpT t p.1 ≤ 0)) l)
/-- the program's insert -/
def insP (t : Tm) (n : Int) : List Pw → List Pw
  | [] => [(t, n)]
  | p :: l => if cmpT p.1 t < 0 then p :: insP t n l else if cmpT p.1 t = 0 then (if p.2 + n = 0 then l else (p.1, p.2 + n) :: l) else (t, n) :: p :: l

def Srt (l : List Pw) : Prop := l.Pairwise fun p q => cmpT p.1 q.1 < 0
def Nz (l : List Pw) : Prop := ∀ p ∈ l, p.2 ≠ 0

theorem addP_done (t : Tm) (n : Int) : ∀ (l : List Pw), Nz l → (∀ p ∈ l, cmpT t p.1 < 0) → addP t n true l = l
  | [], _, _ => rfl
  | p :: l, h1, h2 => by
    have e := h2 p (by simp)
    have z := h1 p (by simp)
    have ih := addP_done t n l (fun q hq => h1 q (by simp [hq])) (fun q hq => h2 q (by simp [hq]))
    simp only [addP, Bool.true_eq_false, false_and, if_false, List.nil_append, Bool.true_or, ih]
    rw [if_neg (show ¬ cmpT t p.1 = 0 by omega), if_pos z]
    rfl
theorem addP_ins (t : Tm) (n : Int) : ∀ (l : List Pw), Srt l → Nz l → addP t n false l = insP t n l
  | [], _, _ => by simp [addP, insP]
  | p :: l, h1, h2 => by
    have z := h2 p (by simp)
    obtain ⟨s1, s2⟩ := List.pairwise_cons.1 h1
    have nz : Nz l := fun q hq => h2 q (by simp [hq])
    have ng := cmpT_neg p.1 t
    rw [addP, insP]
    by_cases c1 : cmpT p.1 t < 0
    · rw [if_pos c1, if_neg (by omega), if_neg (show ¬ cmpT t p.1 = 0 by omega), if_pos z, show (false || decide (cmpT t p.1 ≤ 0)) = false by simp; omega, addP_ins t n l s2 nz]
      rfl
    · by_cases c2 : cmpT p.1 t = 0
      · have e := cmpT_zero c2
        have hd := addP_done t n l nz (fun q hq => by rw [← e]; exact s1 q hq)
        rw [if_neg c1, if_pos c2, if_neg (by omega), if_pos (show cmpT t p.1 = 0 by omega), show (false || decide (cmpT t p.1 ≤ 0)) = true by simp; omega, hd]
        by_cases c3 : p.2 + n = 0
        · rw [if_pos c3, if_neg (by omega)]; rfl
        · rw [if_neg c3, if_pos c3]; rfl
      · have hd := addP_done t n l nz (fun q hq => cmpT_trans (show cmpT t p.1 < 0 by omega) (s1 q hq))
        rw [if_neg c1, if_neg c2, if_pos ⟨rfl, by omega⟩, if_neg (show ¬ cmpT t p.1 = 0 by omega), if_pos z, show (false || decide (cmpT t p.1 ≤ 0)) = true by simp; omega, hd]
        rfl

theorem insP_mem {t : Tm} {n : Int} : ∀ {l : List Pw} {p : Pw}, p ∈ insP t n l → p.1 = t ∨ ∃ q ∈ l, q.1 = p.1
  | [], p, h => by simp [insP] at h; exact .inl (by rw [h])
  | q :: l, p, h => by
    rw [insP] at h
    split at h
    · rcases List.mem_cons.1 h with rfl | h
      · exact .inr ⟨p, by simp, rfl⟩
      · rcases insP_mem h with h | ⟨r, h, e⟩
        · exact .inl h
        · exact .inr ⟨r, by simp [h], e⟩
    · split at h
      · split at h
        · exact .inr ⟨p, by simp [h], rfl⟩
        · rcases List.mem_cons.1 h with rfl | h
          · exact .inr ⟨q, by simp, rfl⟩
          · exact .inr ⟨p, by simp [h], rfl⟩
      · rcases List.mem_cons.1 h with rfl | h
        · exact .inl rfl
        · exact .inr ⟨p, h, rfl⟩
theorem insP_nz {t : Tm} {n : Int} (hn : n ≠ 0) : ∀ {l : List Pw}, Nz l → Nz (insP t n l)
  | [], _ => by intro p hp; simp [insP] at hp; subst hp; exact hn
  | q :: l, h => by
    have h1 : Nz l := fun r hr => h r (by simp [hr])
    rw [insP]
    split
    · intro p hp
      rcases List.mem_cons.1 hp with rfl | hp
      · exact h p (by simp)
      · exact insP_nz hn h1 p hp
    · split
      · split
        · exact h1
        · intro p hp
          rcases List.mem_cons.1 hp with rfl | hp
          · assumption
          · exact h1 p hp
      · intro p hp
        rcases List.mem_cons.1 hp with rfl | hp
        · exact hn
        · exact h p hp
theorem insP_srt {t : Tm} {n : Int} : ∀ {l : List Pw}, Srt l → Srt (insP t n l)
  | [], _ => by simp [insP, Srt]
  | q :: l, h => by
    obtain ⟨s1, s2⟩ := List.pairwise_cons.1 h
    rw [insP]
    have ng := cmpT_neg q.1 t
    split
    · rename_i c
      refine List.pairwise_cons.2 ⟨fun p hp => ?_, insP_srt s2⟩
      rcases insP_mem hp with e | ⟨r, hr, e⟩
      · rw [e]; exact c
      · rw [← e]; exact s1 r hr
    · split
      · split
        · exact s2
        · exact List.pairwise_cons.2 ⟨s1, s2⟩
      · refine List.pairwise_cons.2 ⟨fun p hp => ?_, h⟩
        have c : cmpT t q.1 < 0 := by omega
        rcases List.mem_cons.1 hp with rfl | hp
        · exact c
        · exact cmpT_trans c (s1 p hp)
theorem insP_len {t : Tm} {n : Int} : ∀ (l : List Pw), (insP t n l).length ≤ l.length + 1
  | [] => by simp [insP]
  | q :: l => by
    have := insP_len (t := t) (n := n) l
    rw [insP]
    (repeat' split) <;> simp <;> omega

/-- the power of a factor -/
def pw : List Pw → Tm → Int
  | [], _ => 0
  | p :: l, u => (if cmpT p.1 u = 0 then p.2 else 0) + pw l u
theorem pw_ins (t : Tm) (n : Int) : ∀ (l : List Pw) (u : Tm), pw (insP t n l) u = pw l u + (if cmpT t u = 0 then n else 0)
  | [], u => by simp [insP, pw]
  | p :: l, u => by
    have ih := pw_ins t n l u
    rw [insP]
    split
    · simp only [pw]; omega
    · split
      · rename_i c
        have e := cmpT_zero c
        split
        · simp only [pw]; rw [e]; split <;> omega
        · simp only [pw]; rw [e]; split <;> omega
      · simp only [pw]; omega
theorem pw_lt : ∀ {l : List Pw} {u : Tm}, (∀ p ∈ l, cmpT u p.1 < 0) → pw l u = 0
  | [], _, _ => rfl
  | p :: l, u, h => by
    have := h p (by simp)
    have ng := cmpT_neg p.1 u
    rw [pw, if_neg (by omega), pw_lt (fun q hq => h q (by simp [hq]))]; rfl
theorem srt_uniq : ∀ {l l' : List Pw}, Srt l → Nz l → Srt l' → Nz l' → (∀ u, pw l u = pw l' u) → l = l'
  | [], [], _, _, _, _, _ => rfl
  | [], q :: l', _, _, s', z', h => by
    obtain ⟨s1, s2⟩ := List.pairwise_cons.1 s'
    have := h q.1
    rw [pw, pw, if_pos (cmpT_self _), pw_lt s1] at this
    exact absurd (by omega) (z' q (by simp))
  | p :: l, [], s, z, _, _, h => by
    obtain ⟨s1, s2⟩ := List.pairwise_cons.1 s
    have := h p.1
    rw [pw, pw, if_pos (cmpT_self _), pw_lt s1] at this
    exact absurd (by omega) (z p (by simp))
  | p :: l, q :: l', s, z, s', z', h => by
    obtain ⟨s1, s2⟩ := List.pairwise_cons.1 s
    obtain ⟨s1', s2'⟩ := List.pairwise_cons.1 s'
    have ng := cmpT_neg p.1 q.1
    by_cases c1 : cmpT p.1 q.1 < 0
    · have := h p.1
      rw [pw, if_pos (cmpT_self _), pw_lt s1, pw_lt (l := q :: l') (u := p.1)] at this
      · exact absurd (by omega) (z p (by simp))
      · intro r hr
        rcases List.mem_cons.1 hr with rfl | hr
        · exact c1
        · exact cmpT_trans c1 (s1' r hr)
    · by_cases c2 : cmpT q.1 p.1 < 0
      · have := h q.1
        rw [pw_lt (l := p :: l) (u := q.1), pw, if_pos (cmpT_self _), pw_lt s1'] at this
        · exact absurd (by omega) (z' q (by simp))
        · intro r hr
          rcases List.mem_cons.1 hr with rfl | hr
          · exact c2
          · exact cmpT_trans c2 (s1 r hr)
      · have e := cmpT_zero (show cmpT p.1 q.1 = 0 by omega)
        have h2 := h p.1
        rw [pw, pw, if_pos (cmpT_self _), ← e, if_pos (cmpT_self _), pw_lt s1, pw_lt (by rw [e]; exact s1')] at h2
        have hp : p = q := Prod.ext e (by omega)
        subst hp
        congr 1
        refine srt_uniq s2 (fun r hr => z r (by simp [hr])) s2' (fun r hr => z' r (by simp [hr])) (fun u => ?_)
        have := h u
        rw [pw, pw] at this
        omega
theorem pw_srt {l : List Pw} (s : Srt l) {p : Pw} (hp : p ∈ l) : pw l p.1 = p.2 := by
  induction l with
  | nil => cases hp
  | cons q l ih =>
    obtain ⟨s1, s2⟩ := List.pairwise_cons.1 s
    rcases List.mem_cons.1 hp with rfl | hp
    · rw [pw, if_pos (cmpT_self _), pw_lt s1]; omega
    · have := s1 p hp
      rw [pw, if_neg (by omega), ih s2 hp]; omega

/-! ### the product of a term -/
def nmMul : List UInt8 := [109, 117, 108]
def nmInv : List UInt8 := [105, 110, 118]
def nmOne : List UInt8 := [111, 110, 101]
def special : Tm → Bool
  | .mk k s o l => decide (k = 3) && (decide (s.toList = nmMul) || decide (s.toList = nmInv) || decide (s.toList = nmOne))
mutual
def arity : Tm → Bool
  | .mk k s o l => if special (.mk k s o l) = false then true else
    if (s.toList = nmMul ∧ l.length < 2) ∨ (s.toList = nmInv ∧ l.length ≠ 1) ∨ (s.toList = nmOne ∧ l.length ≠ 0) then false else arities l
def arities : List Tm → Bool
  | [] => true
  | t :: l => if arity t = false then false else arities l
end
mutual
def coll (a : List Pw) : Tm → Int → List Pw
  | .mk k s o l, n => if special (.mk k s o l) = false then insP (.mk k s o l) n a else colls a l (if s.toList = nmInv then -n else n)
def colls (a : List Pw) : List Tm → Int → List Pw
  | [], _ => a
  | t :: l, n => colls (coll a t n) l n
end
mutual
def rcoll (a : List Pw) : Tm → Int → List Pw
  | .mk k s o l, n => if special (.mk k s o l) = false then addP (.mk k s o l) n false a else rcolls a l (if s.toList = nmInv then -n else n)
def rcolls (a : List Pw) : List Tm → Int → List Pw
  | [], _ => a
  | t :: l, n => rcolls (rcoll a t n) l n
end
mutual
theorem coll_ok : ∀ (t : Tm) (a : List Pw) (n : Int), Srt a → Nz a → n ≠ 0 → Srt (coll a t n) ∧ Nz (coll a t n) ∧ rcoll a t n = coll a t n
  | .mk k s o l, a, n, h1, h2, h3 => by
    rw [coll, rcoll]
    split
    · exact ⟨insP_srt h1, insP_nz h3 h2, addP_ins _ _ _ h1 h2⟩
    · exact colls_ok l a _ h1 h2 (by split <;> omega)
theorem colls_ok : ∀ (l : List Tm) (a : List Pw) (n : Int), Srt a → Nz a → n ≠ 0 → Srt (colls a l n) ∧ Nz (colls a l n) ∧ rcolls a l n = colls a l n
  | [], a, n, h1, h2, _ => by rw [colls, rcolls]; exact ⟨h1, h2, rfl⟩
  | t :: l, a, n, h1, h2, h3 => by
    obtain ⟨g1, g2, g3⟩ := coll_ok t a n h1 h2 h3
    rw [colls, rcolls, g3]
    exact colls_ok l _ n g1 g2 h3
end
mutual
theorem coll_len : ∀ (t : Tm) (a : List Pw) (n : Int), ((coll a t n).length : Int) ≤ a.length + size t
  | .mk k s o l, a, n => by
    rw [coll]
    have := sizes_bulk l
    split
    · have := insP_len (t := .mk k s o l) (n := n) a
      simp only [size]; omega
    · have := colls_len l a (if s.toList = nmInv then -n else n)
      simp only [size]; omega
theorem colls_len : ∀ (l : List Tm) (a : List Pw) (n : Int), ((colls a l n).length : Int) ≤ a.length + sizes l
  | [], a, n => by simp [colls, sizes]
  | t :: l, a, n => by
    have h1 := coll_len t a n
    have h2 := colls_len l (coll a t n) n
    rw [colls, sizes]
    omega
end
/-- powers within a bound -/
def Bd (B : Int) (l : List Pw) : Prop := ∀ p ∈ l, -B ≤ p.2 ∧ p.2 ≤ B
theorem insP_bd {B : Int} {t : Tm} {n : Int} (h1 : -1 ≤ n) (h2 : n ≤ 1) (hB : 0 ≤ B) : ∀ {l : List Pw}, Bd B l → Bd (B + 1) (insP t n l)
  | [], _ => by intro p hp; simp [insP] at hp; subst hp; simp only; omega
  | q :: l, h => by
    have hl : Bd B l := fun r hr => h r (by simp [hr])
    have hl1 : Bd (B + 1) l := fun r hr => by have := hl r hr; omega
    have hq := h q (by simp)
    rw [insP]
    split
    · intro p hp
      rcases List.mem_cons.1 hp with rfl | hp
      · omega
      · exact insP_bd h1 h2 hB hl p hp
    · split
      · split
        · exact hl1
        · intro p hp
          rcases List.mem_cons.1 hp with rfl | hp
          · simp only; omega
          · exact hl1 p hp
      · intro p hp
        rcases List.mem_cons.1 hp with rfl | hp
        · simp only; omega
        · have := h p hp; omega
mutual
theorem coll_bd : ∀ (t : Tm) (a : List Pw) (n B : Int), -1 ≤ n → n ≤ 1 → 0 ≤ B → Bd B a → Bd (B + size t) (coll a t n)
  | .mk k s o l, a, n, B, h1, h2, h3, h4 => by
    rw [coll]
    have := sizes_bulk l
    split
    · intro p hp
      have := insP_bd h1 h2 h3 h4 p hp
      simp only [size]; omega
    · intro p hp
      have := colls_bd l a (if s.toList = nmInv then -n else n) B (by split <;> omega) (by split <;> omega) h3 h4 p hp
      simp only [size]; omega
theorem colls_bd : ∀ (l : List Tm) (a : List Pw) (n B : Int), -1 ≤ n → n ≤ 1 → 0 ≤ B → Bd B a → Bd (B + sizes l) (colls a l n)
  | [], a, n, B, h1, h2, h3, h4 => by rw [colls, sizes]; intro p hp; have := h4 p hp; omega
  | t :: l, a, n, B, h1, h2, h3, h4 => by
    have hs := size_bulk t
    have g := coll_bd t a n B h1 h2 h3 h4
    have g2 := colls_bd l (coll a t n) n (B + size t) h1 h2 (by omega) g
    rw [colls, sizes]
    intro p hp
    have := g2 p hp
    omega
end

end Go.Pm
end

/-
  CHAPTER 6, PLAIN LAW 3: names, and which terms are valid. Conditions: none.
-/
section
set_option linter.unusedVariables false
set_option linter.unusedSimpArgs false
set_option linter.unusedVariables false
set_option linter.unusedSimpArgs false
namespace Go.Pm

def letterI (c : Int) : Bool := decide ((97 ≤ c ∧ c ≤ 122) ∨ (65 ≤ c ∧ c ≤ 90))
def digitI (c : Int) : Bool := decide (48 ≤ c ∧ c ≤ 57)
def partI (c : Int) : Bool := letterI c || digitI c || decide (c = 95) || decide (c = 35)
def allPart : List UInt8 → Bool
  | [] => true
  | c :: l => partI c.toNat && allPart l
def isNameL : List UInt8 → Bool
  | [] => false
  | c :: l => decide (l.length < 24) && letterI c.toNat && allPart (c :: l)
def isName (s : ByteArray) : Bool := isNameL s.toList

theorem bsize (s : ByteArray) : s.toList.length = s.size := by rw [ByteArray.toList_eq]; exact Array.length_toList
theorem bget {s : ByteArray} {i : Nat} {c : UInt8} (h : s.toList[i]? = some c) : s[i]? = some c := by
  have hlt := lt_of_some h
  rw [ByteArray.toList_eq, Array.getElem?_toList] at h
  have hlt' : i < s.size := by rw [← bsize]; exact hlt
  rw [getElem?_pos s i hlt']
  rw [Array.getElem?_eq_getElem hlt'] at h
  exact h

def node : Tm → Int
  | .mk k s o l => if (k ≠ 1 ∧ k ≠ 2 ∧ k ≠ 3) ∨ o < 0 ∨ 5 < o ∨ (k = 3 ∧ o ≠ 0) ∨ (k ≠ 3 ∧ 0 < l.length) then 1 else if isName s = false then 2 else if 8 < l.length then 3 else 0
mutual
def nodes : Tm → Int
  | .mk k s o l => if node (.mk k s o l) ≠ 0 then node (.mk k s o l) else nodess l
def nodess : List Tm → Int
  | [] => 0
  | t :: l => if nodes t ≠ 0 then nodes t else nodess l
end
mutual
def depth : Tm → Int
  | .mk _ _ _ l => depths l + 1
def depths : List Tm → Int
  | [] => 0
  | t :: l => max (depth t) (depths l)
end
def valid (t : Tm) : Int := if nodes t ≠ 0 then nodes t else if 400 < size t ∨ 40 < depth t then 3 else 0
mutual
theorem depth_size : ∀ t, 0 < depth t ∧ depth t ≤ size t
  | .mk k s o l => by have := depths_sizes l; simp only [depth, size]; omega
theorem depths_sizes : ∀ l, 0 ≤ depths l ∧ depths l ≤ sizes l
  | [] => by simp [depths, sizes]
  | t :: l => by
    have h1 := depth_size t
    have h2 := depths_sizes l
    simp only [depths, sizes]; omega
end
end Go.Pm
end

/-
  CHAPTER 6, PLAIN LAW 4: the term of a product, and its product. Conditions: none.
-/
section
set_option linter.unusedVariables false
set_option linter.unusedSimpArgs false
set_option linter.unusedVariables false
set_option linter.unusedSimpArgs false
namespace Go.Pm

def sMul : ByteArray := ⟨#[109, 117, 108]⟩
def sInv : ByteArray := ⟨#[105, 110, 118]⟩
def sOne : ByteArray := ⟨#[111, 110, 101]⟩
theorem sMul_l : sMul.toList = nmMul := by rw [ByteArray.toList_eq]; rfl
theorem sInv_l : sInv.toList = nmInv := by rw [ByteArray.toList_eq]; rfl
theorem sOne_l : sOne.toList = nmOne := by rw [ByteArray.toList_eq]; rfl
def invT (t : Tm) : Tm := .mk 3 sInv 0 [t]
def posT (l : List Pw) : List Tm := l.flatMap fun p => List.replicate p.2.toNat p.1
def negT (l : List Pw) : List Tm := l.flatMap fun p => List.replicate (-p.2).toNat (invT p.1)
def opsT (l : List Pw) : List Tm := posT l ++ negT l
def joinT : List Tm → Tm
  | [] => .mk 3 sOne 0 []
  | [t] => t
  | l => .mk 3 sMul 0 l

theorem spc_inv (l) : special (.mk 3 sInv 0 l) = true := by simp [special, sInv_l, nmInv]
theorem spc_mul (l) : special (.mk 3 sMul 0 l) = true := by simp [special, sMul_l, nmMul]
theorem spc_one (l) : special (.mk 3 sOne 0 l) = true := by simp [special, sOne_l, nmOne]

theorem coll_plain {t : Tm} (h : special t = false) (a : List Pw) (n : Int) : coll a t n = insP t n a := by
  obtain ⟨k, s, o, l⟩ := t
  rw [coll, if_pos h]
theorem coll_inv {t : Tm} (h : special t = false) (a : List Pw) (n : Int) : coll a (invT t) n = insP t (-n) a := by
  unfold invT
  rw [coll, if_neg (by rw [spc_inv]; simp), if_pos sInv_l, colls, colls, coll_plain h]
theorem colls_append (a : List Pw) : ∀ (x y : List Tm) (n : Int), colls a (x ++ y) n = colls (colls a x n) y n := by
  intro x
  induction x generalizing a with
  | nil => intro y n; simp [colls]
  | cons t x ih => intro y n; simp only [List.cons_append, colls]; exact ih _ _ _
theorem pw_rep {t : Tm} (h : special t = false) (u : Tm) : ∀ (k : Nat) (a : List Pw), pw (colls a (List.replicate k t) 1) u = pw a u + (if cmpT t u = 0 then (k : Int) else 0)
  | 0, a => by simp [colls]
  | k + 1, a => by
    rw [List.replicate_succ, colls, pw_rep h u k, coll_plain h, pw_ins]
    split <;> omega
theorem pw_repi {t : Tm} (h : special t = false) (u : Tm) : ∀ (k : Nat) (a : List Pw), pw (colls a (List.replicate k (invT t)) 1) u = pw a u - (if cmpT t u = 0 then (k : Int) else 0)
  | 0, a => by simp [colls]
  | k + 1, a => by
    rw [List.replicate_succ, colls, pw_repi h u k, coll_inv h, pw_ins]
    split <;> omega
def NS (l : List Pw) : Prop := ∀ p ∈ l, special p.1 = false
def pwP : List Pw → Tm → Int
  | [], _ => 0
  | p :: l, u => (if cmpT p.1 u = 0 then (p.2.toNat : Int) else 0) + pwP l u
def pwN : List Pw → Tm → Int
  | [], _ => 0
  | p :: l, u => (if cmpT p.1 u = 0 then ((-p.2).toNat : Int) else 0) + pwN l u
theorem pw_pos (u : Tm) : ∀ (l : List Pw) (a : List Pw), NS l → pw (colls a (posT l) 1) u = pw a u + pwP l u
  | [], a, _ => by simp [posT, colls, pwP]
  | p :: l, a, h => by
    have : posT (p :: l) = List.replicate p.2.toNat p.1 ++ posT l := by simp [posT]
    rw [this, colls_append, pw_pos u l _ (fun q hq => h q (by simp [hq])), pw_rep (h p (by simp)), pwP]
    omega
theorem pw_neg (u : Tm) : ∀ (l : List Pw) (a : List Pw), NS l → pw (colls a (negT l) 1) u = pw a u - pwN l u
  | [], a, _ => by simp [negT, colls, pwN]
  | p :: l, a, h => by
    have : negT (p :: l) = List.replicate (-p.2).toNat (invT p.1) ++ negT l := by simp [negT]
    rw [this, colls_append, pw_neg u l _ (fun q hq => h q (by simp [hq])), pw_repi (h p (by simp)), pwN]
    omega
theorem pw_split (u : Tm) : ∀ l : List Pw, pw l u = pwP l u - pwN l u
  | [] => rfl
  | p :: l => by
    rw [pw, pwP, pwN, pw_split u l]
    split <;> omega
theorem coll_join (a : List Pw) : ∀ l : List Tm, coll a (joinT l) 1 = colls a l 1
  | [] => by
    unfold joinT
    rw [coll, if_neg (by rw [spc_one]; simp), if_neg (by rw [sOne_l]; decide)]
  | [t] => by simp only [joinT, colls]
  | t :: u :: l => by
    unfold joinT
    rw [coll, if_neg (by rw [spc_mul]; simp), if_neg (by rw [sMul_l]; decide)]
theorem coll_back {l : List Pw} (s : Srt l) (z : Nz l) (h : NS l) : coll [] (joinT (opsT l)) 1 = l := by
  have e : [] = ([] : List Pw) := rfl
  obtain ⟨g1, g2, _⟩ := colls_ok (opsT l) [] 1 (by simp [Srt]) (fun p hp => by cases hp) (by decide)
  rw [coll_join]
  refine srt_uniq g1 g2 s z (fun u => ?_)
  rw [opsT, colls_append, pw_neg u l _ h, pw_pos u l _ h, pw_split u l, pw]
  omega

/-! ### what the factors of a product are -/
mutual
theorem coll_all {Q : Tm → Prop} {P : Tm → Prop} (hP : ∀ k s o l, Q (.mk k s o l) → special (.mk k s o l) = false → P (.mk k s o l)) (hQ : ∀ k s o l, Q (.mk k s o l) → ∀ t ∈ l, Q t) :
    ∀ (t : Tm) (a : List Pw) (n : Int), Q t → (∀ p ∈ a, P p.1) → ∀ p ∈ coll a t n, P p.1
  | .mk k s o l, a, n, h1, h2 => by
    rw [coll]
    split
    · rename_i hs
      intro p hp
      rcases insP_mem hp with e | ⟨q, hq, e⟩
      · rw [e]; exact hP k s o l h1 hs
      · rw [← e]; exact h2 q hq
    · exact colls_all hP hQ l a _ (hQ k s o l h1) h2
theorem colls_all {Q : Tm → Prop} {P : Tm → Prop} (hP : ∀ k s o l, Q (.mk k s o l) → special (.mk k s o l) = false → P (.mk k s o l)) (hQ : ∀ k s o l, Q (.mk k s o l) → ∀ t ∈ l, Q t) :
    ∀ (l : List Tm) (a : List Pw) (n : Int), (∀ t ∈ l, Q t) → (∀ p ∈ a, P p.1) → ∀ p ∈ colls a l n, P p.1
  | [], a, n, h1, h2 => by rw [colls]; exact h2
  | t :: l, a, n, h1, h2 => by
    rw [colls]
    exact colls_all hP hQ l _ n (fun u hu => h1 u (by simp [hu])) (coll_all hP hQ t a n (h1 t (by simp)) h2)
end
theorem nodess_mem : ∀ {l : List Tm}, nodess l = 0 → ∀ t ∈ l, nodes t = 0
  | [], _, t, h => by cases h
  | u :: l, e, t, h => by
    rw [nodess] at e
    split at e
    · rename_i hu; exact absurd e hu
    · rename_i hu
      rcases List.mem_cons.1 h with rfl | h
      · omega
      · exact nodess_mem e t h
theorem sizes_mem : ∀ {l : List Tm}, ∀ t ∈ l, size t ≤ sizes l
  | [], t, h => by cases h
  | u :: l, t, h => by
    have h1 := size_bulk u
    have h2 := sizes_bulk l
    rw [sizes]
    rcases List.mem_cons.1 h with rfl | h
    · omega
    · have := sizes_mem t h; omega
theorem depths_mem : ∀ {l : List Tm}, ∀ t ∈ l, depth t ≤ depths l
  | [], t, h => by cases h
  | u :: l, t, h => by
    rw [depths]
    rcases List.mem_cons.1 h with rfl | h
    · omega
    · have := depths_mem t h; omega
/-- valid, with room -/
def VQ (S D : Int) (t : Tm) : Prop := nodes t = 0 ∧ size t ≤ S ∧ depth t ≤ D
theorem VQ.kids {S D k s o l} (h : VQ S D (.mk k s o l)) : ∀ t ∈ l, VQ S D t := by
  obtain ⟨h1, h2, h3⟩ := h
  rw [nodes] at h1
  split at h1
  · rename_i hn; exact absurd h1 hn
  · intro t ht
    have := sizes_mem t ht
    have := depths_mem t ht
    have := sizes_bulk l
    simp only [size] at h2
    simp only [depth] at h3
    exact ⟨nodess_mem h1 t ht, by omega, by omega⟩
theorem valid_zero {t : Tm} : valid t = 0 ↔ VQ 400 40 t := by
  unfold valid VQ
  constructor
  · intro h
    split at h
    · rename_i hn; exact absurd h hn
    · rename_i hn
      split at h
      · cases h
      · exact ⟨by omega, by omega, by omega⟩
  · rintro ⟨h1, h2, h3⟩
    rw [if_neg (by omega), if_neg (by omega)]
theorem coll_VQ {t : Tm} (h : VQ 400 40 t) : ∀ p ∈ coll [] t 1, VQ 400 40 p.1 ∧ special p.1 = false :=
  coll_all (Q := VQ 400 40) (P := fun t => VQ 400 40 t ∧ special t = false) (fun k s o l h1 h2 => ⟨h1, h2⟩) (fun k s o l h1 => h1.kids) t [] 1 h (fun p hp => by cases hp)

theorem node_app {s : ByteArray} {l : List Tm} (h1 : isName s = true) (h2 : l.length ≤ 8) : node (.mk 3 s 0 l) = 0 := by
  simp only [node]
  rw [if_neg (by omega), if_neg (by rw [h1]; simp), if_neg (by omega)]
theorem nodess_zero : ∀ {l : List Tm}, (∀ t ∈ l, nodes t = 0) → nodess l = 0
  | [], _ => rfl
  | t :: l, h => by rw [nodess, if_neg (by rw [h t (by simp)]; simp), nodess_zero (fun u hu => h u (by simp [hu]))]
theorem nodes_app {s : ByteArray} {l : List Tm} (h1 : isName s = true) (h2 : l.length ≤ 8) (h3 : ∀ t ∈ l, nodes t = 0) : nodes (.mk 3 s 0 l) = 0 := by
  rw [nodes, if_neg (by rw [node_app h1 h2]; simp), nodess_zero h3]
theorem nm_mul : isName sMul = true := by unfold isName; rw [sMul_l]; decide
theorem nm_inv : isName sInv = true := by unfold isName; rw [sInv_l]; decide
theorem nm_one : isName sOne = true := by unfold isName; rw [sOne_l]; decide
theorem opsT_nodes {l : List Pw} (h : ∀ p ∈ l, nodes p.1 = 0) : ∀ t ∈ opsT l, nodes t = 0 := by
  intro t ht
  unfold opsT posT negT at ht
  rcases List.mem_append.1 ht with ht | ht
  · obtain ⟨p, hp, ht⟩ := List.mem_flatMap.1 ht
    rw [(List.mem_replicate.1 ht).2]; exact h p hp
  · obtain ⟨p, hp, ht⟩ := List.mem_flatMap.1 ht
    rw [(List.mem_replicate.1 ht).2]
    exact nodes_app nm_inv (by simp) (fun u hu => by simp at hu; rw [hu]; exact h p hp)
theorem join_nodes {l : List Tm} (h : ∀ t ∈ l, nodes t = 0) (h8 : l.length ≤ 8) : nodes (joinT l) = 0 := by
  match l with
  | [] => exact nodes_app nm_one (by simp) (fun u hu => by cases hu)
  | [t] => exact h t (by simp)
  | t :: u :: l => exact nodes_app nm_mul h8 h
theorem arity_plain {t : Tm} (h : special t = false) : arity t = true := by
  obtain ⟨k, s, o, l⟩ := t
  rw [arity, if_pos h]
theorem arity_inv {t : Tm} (h : special t = false) : arity (invT t) = true := by
  unfold invT
  rw [arity, if_neg (by rw [spc_inv]; simp), if_neg (by rw [sInv_l]; simp [nmInv, nmMul, nmOne]), arities, if_neg (by rw [arity_plain h]; simp), arities]
theorem arities_all : ∀ {l : List Tm}, (∀ t ∈ l, arity t = true) → arities l = true
  | [], _ => rfl
  | t :: l, h => by rw [arities, if_neg (by rw [h t (by simp)]; simp), arities_all (fun u hu => h u (by simp [hu]))]
theorem opsT_arity {l : List Pw} (h : NS l) : ∀ t ∈ opsT l, arity t = true := by
  intro t ht
  unfold opsT posT negT at ht
  rcases List.mem_append.1 ht with ht | ht
  · obtain ⟨p, hp, ht⟩ := List.mem_flatMap.1 ht
    rw [(List.mem_replicate.1 ht).2]; exact arity_plain (h p hp)
  · obtain ⟨p, hp, ht⟩ := List.mem_flatMap.1 ht
    rw [(List.mem_replicate.1 ht).2]; exact arity_inv (h p hp)
theorem join_arity {l : List Tm} (h : ∀ t ∈ l, arity t = true) : arity (joinT l) = true := by
  match l with
  | [] =>
    unfold joinT
    rw [arity, if_neg (by rw [spc_one]; simp), if_neg (by rw [sOne_l]; simp [nmInv, nmMul, nmOne]), arities]
  | [t] => exact h t (by simp)
  | t :: u :: l =>
    unfold joinT
    rw [arity, if_neg (by rw [spc_mul]; simp), if_neg (by rw [sMul_l]; simp [nmInv, nmMul, nmOne]), arities_all h]

end Go.Pm
end

/-
  CHAPTER 6, PART 5: names. Conditions: none.
-/
section
set_option linter.unusedVariables false
set_option linter.unusedSimpArgs false
set_option linter.unusedVariables false
set_option maxRecDepth 4000
set_option maxHeartbeats 4000000
namespace Go.Pm
open Go.Proofs
attribute [local irreducible] thenQ blockQ loopQ bodyQ Ev EvOps CallEv FnEv EvD

theorem partI_eq (c : Int) : partI c = decide ((97 ≤ c ∧ c ≤ 122) ∨ (65 ≤ c ∧ c ≤ 90) ∨ (48 ≤ c ∧ c ≤ 57) ∨ c = 95 ∨ c = 35) := by
  unfold partI letterI digitI
  simp only [← Bool.decide_or]
  congr 1
  apply propext
  omega
theorem letter_fun (c : Int) : Fun C 145 [.int .u8 c] (.bool (letterI c)) := by
  refine Fun.of (FnEv.bodyL Tryz.func145 rfl ?_)
  (repeat' (first | refine EvOps.nil ?_ | (apply R.gOn; exact rfl; exact rfl; exact rfl) | (apply R.gOff; exact rfl; exact rfl; exact rfl) | (apply R.gUn; exact rfl; exact rfl) | (apply R.move; exact rfl) | (apply R.assign; exact rfl) | (apply R.pickT; exact rfl; exact rfl) | (apply R.pickF; exact rfl; exact rfl) | (apply R.cmp; exact rfl; exact rfl; exact rfl; all_goals intro hc) | refine Ev.seq ?_ | refine Ev.region ?_ | refine Ev.ret ?_ | refine thenQ.normal ?_ | (apply bodyQ.ret; exact rfl) | fail))
  all_goals (refine ⟨_, rfl, congrArg PV.bool ?_⟩; unfold letterI; first | exact (decide_eq_true (by omega)).symm | exact (decide_eq_false (by omega)).symm)
theorem digit_fun (c : Int) : Fun C 146 [.int .u8 c] (.bool (digitI c)) := by
  refine Fun.of (FnEv.bodyL Tryz.func146 rfl ?_)
  (repeat' (first | refine EvOps.nil ?_ | (apply R.gOn; exact rfl; exact rfl; exact rfl) | (apply R.gOff; exact rfl; exact rfl; exact rfl) | (apply R.move; exact rfl) | (apply R.assign; exact rfl) | (apply R.pickT; exact rfl; exact rfl) | (apply R.pickF; exact rfl; exact rfl) | (apply R.cmp; exact rfl; exact rfl; exact rfl; all_goals intro hc) | refine Ev.seq ?_ | refine Ev.region ?_ | refine Ev.ret ?_ | refine thenQ.normal ?_ | (apply bodyQ.ret; exact rfl) | fail))
  all_goals (refine ⟨_, rfl, congrArg PV.bool ?_⟩; unfold digitI; first | exact (decide_eq_true (by omega)).symm | exact (decide_eq_false (by omega)).symm)
theorem part_fun (c : Int) : Fun C 121 [.int .u8 c] (.bool (partI c)) := by
  refine Fun.of (FnEv.bodyL Tryz.func121 rfl ?_)
  (repeat' (first | refine EvOps.nil ?_ | (apply R.gOn; exact rfl; exact rfl; exact rfl) | (apply R.gOff; exact rfl; exact rfl; exact rfl) | (apply R.gUn; exact rfl; exact rfl) | (apply R.move; exact rfl) | (apply R.assign; exact rfl) | (apply R.pickT; exact rfl; exact rfl) | (apply R.pickF; exact rfl; exact rfl) | (apply R.cmp; exact rfl; exact rfl; exact rfl; all_goals intro hc) | refine Ev.seq ?_ | refine Ev.region ?_ | refine Ev.ret ?_ | refine thenQ.normal ?_ | (apply bodyQ.ret; exact rfl) | fail))
  all_goals (refine ⟨_, rfl, congrArg PV.bool ?_⟩; rw [partI_eq]; first | exact (decide_eq_true (by omega)).symm | exact (decide_eq_false (by omega)).symm)

theorem allPart_drop (s : ByteArray) (i : Nat) (h : i < s.toList.length) : allPart (s.toList.drop i) = (partI (s.toList[i]).toNat && allPart (s.toList.drop (i + 1))) := by
  rw [List.drop_eq_getElem_cons h, allPart]
theorem size_cases (s : ByteArray) : (s.size = 0 ∧ s.toList = []) ∨ ∃ c l, s.toList = c :: l ∧ s[0]? = some c ∧ s.size = l.length + 1 := by
  have hl := bsize s
  cases h : s.toList with
  | nil => rw [h] at hl; exact .inl ⟨by simpa using hl.symm, rfl⟩
  | cons c l => exact .inr ⟨c, l, rfl, bget (i := 0) (by rw [h]; rfl), by rw [← hl, h]; rfl⟩
theorem risName_fun (s : ByteArray) (hb : s.size < 1000000000) : Fun C 137 [.str s] (.bool (isName s)) := by
  refine Fun.of (FnEv.bodyL Tryz.func137 rfl ?_)
  have hl := bsize s
  rcases size_cases s with ⟨h0, hn⟩ | ⟨c, l, hcl, hc0, hsz⟩
  · have hs : isName s = false := by unfold isName; rw [hn]; rfl
    (repeat' (first | refine EvOps.nil ?_ | (apply R.gOn; exact rfl; exact rfl; exact rfl) | (apply R.gOff; exact rfl; exact rfl; exact rfl) | (apply R.move; exact rfl) | (apply R.assign; exact rfl) | (apply R.pickT; exact rfl; exact rfl) | (apply R.pickF; exact rfl; exact rfl) | (apply R.cmp; exact rfl; exact rfl; exact rfl; all_goals intro hc) | (apply R.lenStr T6; exact rfl; exact rfl) | refine Ev.seq ?_ | refine Ev.region ?_ | (apply Ev.condB; exact rfl) | refine Ev.ret ?_ | refine thenQ.normal ?_ | refine thenQ.ret ?_ | (apply bodyQ.ret; exact rfl) | fail))
    · exact ⟨_, rfl, by rw [hs]; rfl⟩
    · omega
    · omega
  · have hs : isName s = (decide (l.length < 24) && letterI c.toNat && allPart s.toList) := by unfold isName; rw [hcl]; rfl
    (repeat' (first | refine EvOps.nil ?_ | (apply R.gOn; exact rfl; exact rfl; exact rfl) | (apply R.gOff; exact rfl; exact rfl; exact rfl) | (apply R.move; exact rfl) | (apply R.assign; exact rfl) | (apply R.pickT; exact rfl; exact rfl) | (apply R.pickF; exact rfl; exact rfl) | (apply R.cmp; exact rfl; exact rfl; exact rfl; all_goals intro hc) | (apply R.lenStr T6; exact rfl; exact rfl) | refine Ev.seq ?_ | refine Ev.region ?_ | (apply Ev.condB; exact rfl) | refine Ev.ret ?_ | refine thenQ.normal ?_ | refine thenQ.ret ?_ | (apply bodyQ.ret; exact rfl) | fail))
    · omega
    · refine ⟨_, rfl, ?_⟩
      rw [hs, decide_eq_false (by omega)]; rfl
    · refine R.indexStr T6 (i := 0) rfl rfl rfl hc0 ?_
      (repeat' (first | (apply R.gOn; exact rfl; exact rfl; exact rfl) | fail))
      refine R.call rfl rfl (CallEv.pure rfl rfl (letter_fun c.toNat) ?_)
      cases hlet : letterI c.toNat
      · (repeat' (first | refine EvOps.nil ?_ | (apply R.gOn; exact rfl; exact rfl; exact rfl) | (apply R.assign; exact rfl) | (apply R.pickF; exact rfl; exact rfl) | (apply R.not; exact rfl; exact rfl) | refine Ev.seq ?_ | refine Ev.region ?_ | (apply Ev.condB; exact rfl) | refine Ev.ret ?_ | refine thenQ.normal ?_ | refine thenQ.ret ?_ | (apply bodyQ.ret; exact rfl) | fail))
        refine ⟨_, rfl, ?_⟩
        rw [hs, hlet]; simp [nrm, tupOf]
      · (repeat' (first | refine EvOps.nil ?_ | (apply R.gOn; exact rfl; exact rfl; exact rfl) | (apply R.assign; exact rfl) | (apply R.pickF; exact rfl; exact rfl) | (apply R.not; exact rfl; exact rfl) | refine Ev.seq ?_ | refine Ev.region ?_ | (apply Ev.condB; exact rfl) | refine Ev.skip ?_ | refine Ev.block ?_ | refine thenQ.normal ?_ | fail))
        have hs' : isName s = allPart (s.toList.drop 0) := by rw [hs, hlet, decide_eq_true (by omega)]; simp
        refine Ev.loop (I := fun k' st => ∃ (i : Nat) (ρ' : Nat → PV), st = ⟨al [(0, .str s), (3, .int .i64 i)] ρ', []⟩ ∧ k' + i = s.size ∧ isName s = allPart (s.toList.drop i)) s.size ?_ ?_
        · exact ⟨0, _, St.keep ⟨rfl, rfl, trivial⟩, rfl, hs'⟩
        · rintro k' _ ⟨i, ρ', rfl, hk, hb'⟩
          (repeat' (first | refine EvOps.nil ?_ | (apply R.move; exact rfl) | (apply R.assign; exact rfl) | (apply R.cmp; exact rfl; exact rfl; exact rfl; all_goals intro hc) | (apply R.lenStr T6; exact rfl; exact rfl) | refine Ev.seq ?_ | refine Ev.region ?_ | (apply Ev.condB; exact rfl) | refine Ev.ret ?_ | refine Ev.skip ?_ | refine Ev.exit ?_ | refine Ev.block ?_ | refine thenQ.normal ?_ | refine thenQ.exit ?_ | refine blockQ.hit ?_ | refine loopQ.exit ?_ | (apply bodyQ.ret; exact rfl) | fail))
          · have hil : i < s.toList.length := by omega
            have hat := bget (List.getElem?_eq_getElem hil)
            rw [allPart_drop s i hil] at hb'
            refine R.indexStr T6 rfl rfl rfl hat ?_
            generalize hx : s.toList[i] = x at hb' hat
            have hpe := partI_eq x.toNat
            skip
            refine R.call rfl rfl (CallEv.pure rfl rfl (letter_fun x.toNat) ?_)
            cases hlet : letterI x.toNat
            · (repeat' (first | (apply R.gOn; exact rfl; exact rfl; exact rfl) | (apply R.move; exact rfl) | (apply R.not; exact rfl; exact rfl) | fail))
              refine R.indexStr T6 rfl rfl rfl hat ?_
              (repeat' (first | (apply R.gOn; exact rfl; exact rfl; exact rfl) | fail))
              refine R.call rfl rfl (CallEv.pure rfl rfl (digit_fun x.toNat) ?_)
              cases hdig : digitI x.toNat
              · (repeat' (first | (apply R.gOn; exact rfl; exact rfl; exact rfl) | (apply R.move; exact rfl) | (apply R.pickT; exact rfl; exact rfl) | (apply R.not; exact rfl; exact rfl) | fail))
                refine R.indexStr T6 rfl rfl rfl hat ?_
                (repeat' (first | refine EvOps.nil ?_ | (apply R.gOn; exact rfl; exact rfl; exact rfl) | (apply R.gOff; exact rfl; exact rfl; exact rfl) | (apply R.move; exact rfl) | (apply R.assign; exact rfl) | (apply R.pickT; exact rfl; exact rfl) | (apply R.pickF; exact rfl; exact rfl) | (apply R.cmp; exact rfl; exact rfl; exact rfl; all_goals intro hc) | (apply R.arith; exact rfl; exact rfl; exact rfl; exact (wrapI (by omega) (by omega))) | refine Ev.region ?_ | (apply Ev.condB; exact rfl) | refine Ev.skip ?_ | refine thenQ.normal ?_ | refine blockQ.normal ?_ | refine loopQ.normal ?_ | fail))
                · refine R.indexStr T6 rfl rfl rfl hat ?_
                  (repeat' (first | refine EvOps.nil ?_ | (apply R.gOn; exact rfl; exact rfl; exact rfl) | (apply R.move; exact rfl) | (apply R.assign; exact rfl) | (apply R.pickT; exact rfl; exact rfl) | (apply R.cmp; exact rfl; exact rfl; exact rfl; all_goals intro hc) | (apply R.arith; exact rfl; exact rfl; exact rfl; exact (wrapI (by omega) (by omega))) | refine Ev.seq ?_ | refine Ev.region ?_ | (apply Ev.condB; exact rfl) | refine Ev.ret ?_ | refine Ev.skip ?_ | refine thenQ.normal ?_ | refine thenQ.ret ?_ | refine blockQ.normal ?_ | refine blockQ.ret ?_ | refine loopQ.normal ?_ | refine loopQ.ret ?_ | (apply bodyQ.ret; exact rfl) | fail))
                  · rename_i h95
                    have h35 := hc
                    refine ⟨_, rfl, ?_⟩
                    rw [hb']
                    unfold partI
                    rw [hlet, hdig, decide_eq_false (by omega), decide_eq_false (by omega)]; rfl
                  · refine ⟨k' - 1, by omega, i + 1, _, St.keep ⟨rfl, rfl, trivial⟩, by omega, ?_⟩
                    rw [hb']
                    unfold partI
                    rw [decide_eq_true (show (x.toNat : Int) = 35 by omega)]; simp
                · refine ⟨k' - 1, by omega, i + 1, _, St.keep ⟨rfl, rfl, trivial⟩, by omega, ?_⟩
                  rw [hb']
                  unfold partI
                  rw [decide_eq_true (show (x.toNat : Int) = 95 by omega)]; simp
              · (repeat' (first | refine EvOps.nil ?_ | (apply R.gOn; exact rfl; exact rfl; exact rfl) | (apply R.gOff; exact rfl; exact rfl; exact rfl) | (apply R.move; exact rfl) | (apply R.assign; exact rfl) | (apply R.pickT; exact rfl; exact rfl) | (apply R.pickF; exact rfl; exact rfl) | (apply R.arith; exact rfl; exact rfl; exact rfl; exact (wrapI (by omega) (by omega))) | (apply R.not; exact rfl; exact rfl) | refine Ev.region ?_ | (apply Ev.condB; exact rfl) | refine Ev.skip ?_ | refine thenQ.normal ?_ | refine blockQ.normal ?_ | refine loopQ.normal ?_ | fail))
                refine ⟨k' - 1, by omega, i + 1, _, St.keep ⟨rfl, rfl, trivial⟩, by omega, ?_⟩
                rw [hb']
                unfold partI
                rw [hdig]; simp
            · (repeat' (first | refine EvOps.nil ?_ | (apply R.gOff; exact rfl; exact rfl; exact rfl) | (apply R.move; exact rfl) | (apply R.assign; exact rfl) | (apply R.pickF; exact rfl; exact rfl) | (apply R.arith; exact rfl; exact rfl; exact rfl; exact (wrapI (by omega) (by omega))) | (apply R.not; exact rfl; exact rfl) | refine Ev.region ?_ | (apply Ev.condB; exact rfl) | refine Ev.skip ?_ | refine thenQ.normal ?_ | refine blockQ.normal ?_ | refine loopQ.normal ?_ | fail))
              refine ⟨k' - 1, by omega, i + 1, _, St.keep ⟨rfl, rfl, trivial⟩, by omega, ?_⟩
              rw [hb']
              unfold partI
              rw [hlet]; simp
          · refine ⟨_, rfl, ?_⟩
            rw [hb', List.drop_eq_nil_of_le (by omega)]; rfl

theorem emp_l : (ByteArray.mk #[]).toList = [] := by rw [ByteArray.toList_eq]
theorem isName_fun (s : ByteArray) (hb : s.size < 1000000000) : Fun C 107 [.str s] (.bool (isName s)) := by
  refine Fun.of (FnEv.bodyL Tryz.func107 rfl ?_)
  have hl := bsize s
  rcases size_cases s with ⟨h0, hn⟩ | ⟨c, l, hcl, hc0, hsz⟩
  · have hs : isName s = false := by unfold isName; rw [hn]; rfl
    have hemp : s.toList = (ByteArray.mk #[]).toList := by rw [hn, emp_l]
    (repeat' (first | refine EvOps.nil ?_ | (apply R.gOff; exact rfl; exact rfl; exact rfl) | (apply R.gUn; exact rfl; exact rfl) | (apply R.move; exact rfl) | (apply R.assign; exact rfl) | (apply R.pickT; exact rfl; exact rfl) | (apply R.streqT; exact rfl; exact rfl; exact (by assumption)) | refine Ev.seq ?_ | refine Ev.region ?_ | (apply Ev.condB; exact rfl) | refine Ev.ret ?_ | refine thenQ.normal ?_ | refine thenQ.ret ?_ | (apply bodyQ.ret; exact rfl) | fail))
    exact ⟨_, rfl, by rw [hs]; rfl⟩
  · have hs : isName s = (decide (l.length < 24) && letterI c.toNat && allPart s.toList) := by unfold isName; rw [hcl]; rfl
    have hpe := partI_eq c.toNat
    have hle : letterI c.toNat = decide ((97 ≤ (c.toNat : Int) ∧ (c.toNat : Int) ≤ 122) ∨ (65 ≤ (c.toNat : Int) ∧ (c.toNat : Int) ≤ 90)) := rfl
    (repeat' (first | (apply R.indexStr T6 (i := 0); exact rfl; exact rfl; exact rfl; assumption) | refine EvOps.nil ?_ | (apply R.gOn; exact rfl; exact rfl; exact rfl) | (apply R.gOff; exact rfl; exact rfl; exact rfl) | (apply R.gUn; exact rfl; exact rfl) | (apply R.move; exact rfl) | (apply R.assign; exact rfl) | (apply R.pickT; exact rfl; exact rfl) | (apply R.pickF; exact rfl; exact rfl) | (apply R.cmp; exact rfl; exact rfl; exact rfl; all_goals intro hc; all_goals (try (exfalso; omega))) | (apply R.streq; exact rfl; exact rfl; all_goals intro hc) | (apply R.lenStr T6; exact rfl; exact rfl) | refine Ev.seq ?_ | refine Ev.region ?_ | (apply Ev.condB; exact rfl) | refine Ev.ret ?_ | refine thenQ.normal ?_ | refine thenQ.ret ?_ | (apply bodyQ.ret; exact rfl) | fail))
    · rw [hcl, emp_l] at hc; cases hc
    · refine ⟨_, rfl, ?_⟩
      rw [hs, decide_eq_false (by omega)]; rfl
    · have h24 := hc
      clear hc
      refine R.call rfl rfl (CallEv.pure rfl rfl (part_fun c.toNat) ?_)
      cases hpa : partI c.toNat
      · (repeat' (first | refine EvOps.nil ?_ | (apply R.gOn; exact rfl; exact rfl; exact rfl) | (apply R.gOff; exact rfl; exact rfl; exact rfl) | (apply R.gUn; exact rfl; exact rfl) | (apply R.move; exact rfl) | (apply R.assign; exact rfl) | (apply R.pickT; exact rfl; exact rfl) | (apply R.pickF; exact rfl; exact rfl) | (apply R.not; exact rfl; exact rfl) | refine Ev.seq ?_ | refine Ev.region ?_ | (apply Ev.condB; exact rfl) | refine Ev.ret ?_ | refine thenQ.normal ?_ | refine thenQ.ret ?_ | (apply bodyQ.ret; exact rfl) | fail))
        refine ⟨_, rfl, ?_⟩
        rw [hpa] at hpe
        have := of_decide_eq_false hpe.symm
        rw [hs, hle, decide_eq_false (p := (97 ≤ (c.toNat : Int) ∧ (c.toNat : Int) ≤ 122) ∨ (65 ≤ (c.toNat : Int) ∧ (c.toNat : Int) ≤ 90) ) (by omega)]; simp [nrm, tupOf]
      · rw [hpa] at hpe
        have hpe := of_decide_eq_true hpe.symm
        by_cases hg : (97 ≤ (c.toNat : Int) ∧ (c.toNat : Int) ≤ 122) ∨ (65 ≤ (c.toNat : Int) ∧ (c.toNat : Int) ≤ 90)
        · have hs' : isName s = allPart (s.toList.drop 0) := by rw [hs, hle, decide_eq_true hg, decide_eq_true (by omega)]; simp
          (repeat' (first | (apply R.indexStr T6 (i := 0); exact rfl; exact rfl; exact rfl; assumption) | refine EvOps.nil ?_ | (apply R.gOn; exact rfl; exact rfl; exact rfl) | (apply R.move; exact rfl) | (apply R.pickT; exact rfl; exact rfl) | (apply R.pickF; exact rfl; exact rfl) | (apply R.cmp; exact rfl; exact rfl; exact rfl; all_goals intro hc; all_goals (try (exfalso; omega))) | (apply R.not; exact rfl; exact rfl) | (apply R.lenStr T6; exact rfl; exact rfl) | refine Ev.seq ?_ | refine Ev.region ?_ | (apply Ev.condB; exact rfl) | refine Ev.skip ?_ | refine Ev.block ?_ | refine thenQ.normal ?_ | fail))
          refine Ev.loop (I := fun k' st => ∃ (i : Nat) (ρ' : Nat → PV), st = ⟨al [(0, .str s), (38, .int .i64 s.size), (39, .int .i64 i)] ρ', []⟩ ∧ k' + i = s.size ∧ isName s = allPart (s.toList.drop i)) s.size ?_ ?_
          · exact ⟨0, _, St.keep ⟨rfl, rfl, rfl, trivial⟩, rfl, hs'⟩
          · rintro k' _ ⟨i, ρ', rfl, hk, hb'⟩
            (repeat' (first | refine EvOps.nil ?_ | (apply R.move; exact rfl) | (apply R.assign; exact rfl) | (apply R.cmp; exact rfl; exact rfl; exact rfl; all_goals intro hc) | refine Ev.seq ?_ | refine Ev.region ?_ | (apply Ev.condB; exact rfl) | refine Ev.ret ?_ | refine Ev.skip ?_ | refine Ev.exit ?_ | refine Ev.block ?_ | refine thenQ.normal ?_ | refine thenQ.exit ?_ | refine blockQ.hit ?_ | refine loopQ.exit ?_ | (apply bodyQ.ret; exact rfl) | fail))
            · have hil : i < s.toList.length := by omega
              have hat := bget (List.getElem?_eq_getElem hil)
              rw [allPart_drop s i hil] at hb'
              refine R.indexStr T6 rfl rfl rfl hat ?_
              generalize hx : s.toList[i] = x at hb' hat
              skip
              refine R.call rfl rfl (CallEv.pure rfl rfl (part_fun x.toNat) ?_)
              cases hpx : partI x.toNat
              · (repeat' (first | refine EvOps.nil ?_ | (apply R.assign; exact rfl) | (apply R.not; exact rfl; exact rfl) | refine Ev.seq ?_ | refine Ev.region ?_ | (apply Ev.condB; exact rfl) | refine Ev.ret ?_ | refine thenQ.normal ?_ | refine thenQ.ret ?_ | refine blockQ.ret ?_ | refine loopQ.ret ?_ | (apply bodyQ.ret; exact rfl) | fail))
                refine ⟨_, rfl, ?_⟩
                rw [hb', hpx]; rfl
              · (repeat' (first | refine EvOps.nil ?_ | (apply R.move; exact rfl) | (apply R.arith; exact rfl; exact rfl; exact rfl; exact (wrapI (by omega) (by omega))) | (apply R.not; exact rfl; exact rfl) | refine Ev.region ?_ | (apply Ev.condB; exact rfl) | refine Ev.skip ?_ | refine thenQ.normal ?_ | refine blockQ.normal ?_ | refine loopQ.normal ?_ | fail))
                refine ⟨k' - 1, by omega, i + 1, _, St.keep ⟨rfl, rfl, rfl, trivial⟩, by omega, ?_⟩
                rw [hb', hpx]; rfl
            · refine ⟨_, rfl, ?_⟩
              rw [hb', List.drop_eq_nil_of_le (by omega)]; rfl
        · have hs' : isName s = false := by rw [hs, hle, decide_eq_false hg]; simp
          (repeat' (first | (apply R.indexStr T6 (i := 0); exact rfl; exact rfl; exact rfl; assumption) | refine EvOps.nil ?_ | (apply R.gOn; exact rfl; exact rfl; exact rfl) | (apply R.gOff; exact rfl; exact rfl; exact rfl) | (apply R.move; exact rfl) | (apply R.assign; exact rfl) | (apply R.pickT; exact rfl; exact rfl) | (apply R.pickF; exact rfl; exact rfl) | (apply R.cmp; exact rfl; exact rfl; exact rfl; all_goals intro hc; all_goals (try (exfalso; omega))) | (apply R.not; exact rfl; exact rfl) | refine Ev.seq ?_ | refine Ev.region ?_ | (apply Ev.condB; exact rfl) | refine Ev.ret ?_ | refine thenQ.normal ?_ | refine thenQ.ret ?_ | (apply bodyQ.ret; exact rfl) | fail))
          all_goals exact ⟨_, rfl, by rw [hs']; rfl⟩

end Go.Pm
end

/-
  CHAPTER 6, PART 3: sizes. Conditions: none.
-/
section
set_option linter.unusedVariables false
set_option linter.unusedSimpArgs false
set_option linter.unusedVariables false
set_option maxRecDepth 4000
set_option maxHeartbeats 4000000
namespace Go.Pm
open Go.Proofs
attribute [local irreducible] thenQ blockQ loopQ bodyQ Ev EvOps CallEv FnEv

theorem number_fun (a b : Int) : Fun C 105 [.int .i64 a, .int .i64 b] (.int .i64 (cmpN a b)) := by
  refine Fun.of (FnEv.bodyL Tryz.func105 rfl ?_)
  (repeat' (first | refine EvOps.nil ?_ | (apply R.move; exact rfl) | (apply R.assign; exact rfl) | (apply R.cmp; exact rfl; exact rfl; exact rfl; all_goals intro hc) | refine Ev.seq ?_ | refine Ev.region ?_ | (apply Ev.condB; exact rfl) | refine Ev.ret ?_ | refine Ev.skip ?_ | refine thenQ.normal ?_ | refine thenQ.ret ?_ | (apply bodyQ.ret; exact rfl) | fail))
  all_goals (refine ⟨_, rfl, congrArg (PV.int .i64) ?_⟩; unfold cmpN; (repeat' split) <;> omega)

theorem sign_fun (a b : Int) : Fun C 78 [.int .i64 a, .int .i64 b] (.int .i64 (cmpN a b)) := by
  refine Fun.of (FnEv.bodyL Tryz.func78 rfl ?_)
  (repeat' (first | refine EvOps.nil ?_ | (apply R.move; exact rfl) | (apply R.assign; exact rfl) | (apply R.cmp; exact rfl; exact rfl; exact rfl; all_goals intro hc) | refine Ev.seq ?_ | refine Ev.region ?_ | (apply Ev.condB; exact rfl) | refine Ev.ret ?_ | refine Ev.skip ?_ | refine Ev.block ?_ | refine thenQ.normal ?_ | refine thenQ.ret ?_ | refine blockQ.normal ?_ | refine blockQ.ret ?_ | (apply bodyQ.ret; exact rfl) | fail))
  all_goals (refine ⟨_, rfl, congrArg (PV.int .i64) ?_⟩; unfold cmpN; (repeat' split) <;> omega)

theorem size_ev (k s o l) (hbk : bulks l < 1000000000) (ih : ∀ t ∈ l, Fun C 106 [enc t] (.int .i64 (size t))) : Fun C 106 [enc (.mk k s o l)] (.int .i64 (size (.mk k s o l))) := by
  refine Fun.of (FnEv.bodyL Tryz.func106 rfl ?_)
  rw [enc_mk]
  have hlen := len_bulks l
  have hel := encs_len l
  have hsz := sizes_bulk l
  (repeat' (first | refine EvOps.nil ?_ | (apply R.assign; exact rfl) | (apply R.box; exact rfl; exact rfl; exact rfl; exact .nil) | refine Ev.seq ?_ | refine Ev.region ?_ | refine Ev.block ?_ | refine thenQ.normal ?_ | fail))
  refine Ev.loop (I := fun k' st => ∃ (i : Nat) (n : Int) (ρ' : Nat → PV), st = ⟨al [(1, .ptr 0 0 0 0), (3, .int .i64 n), (4, .int .i64 i)] ρ', [⟨.m, 0, 4, [.agg [.int .i64 k, .str s, .int .i64 o, .snap false (encs l)]]⟩]⟩ ∧ k' + i = l.length ∧ 0 ≤ n ∧ 1 + sizes l = n + sizes (l.drop i)) l.length ?_ ?_
  · exact ⟨0, 1, _, St.keep ⟨rfl, rfl, rfl, trivial⟩, rfl, by omega, rfl⟩
  · rintro k' _ ⟨i, n, ρ', rfl, hk, hn, hb'⟩
    (repeat' (first | refine EvOps.nil ?_ | (apply R.move; exact rfl) | (apply R.assign; exact rfl) | (apply R.load1 T6; exact rfl; exact rfl; exact rfl; exact rfl) | (apply R.fieldAddr T6; exact rfl; exact rfl; exact rfl; exact rfl) | (apply R.cmp; exact rfl; exact rfl; exact rfl; all_goals intro hc) | (apply R.lenS T6; exact rfl; exact rfl) | refine Ev.seq ?_ | refine Ev.region ?_ | (apply Ev.condB; exact rfl) | refine Ev.ret ?_ | refine Ev.skip ?_ | refine Ev.exit ?_ | refine Ev.block ?_ | refine thenQ.normal ?_ | refine thenQ.exit ?_ | refine blockQ.hit ?_ | refine loopQ.exit ?_ | (apply bodyQ.ret; exact rfl) | fail))
    · obtain ⟨k1, s1, o1, l1, hmem, hat, hd, hil, _⟩ := encs_at' hc
      refine R.indexS T6 rfl rfl rfl rfl hat rfl rfl ?_
      have hbm := bulk_mem hmem
      have hsm := size_bulk (.mk k1 s1 o1 l1)
      have hdr := sizes_bulk (l.drop (i + 1))
      rw [hd, sizes] at hb'
      (repeat' (first | (apply R.loadA T6; exact rfl; exact rfl; exact rfl; exact rfl; exact (by repeat constructor)) | fail))
      refine R.call rfl rfl ?_
      show CallEv C 2 _ [.agg [.int .i64 k1, .str s1, .int .i64 o1, .snap false (encs l1)]] _ _
      rw [← enc_mk]
      refine CallEv.pure (r := .int .i64 (size (.mk k1 s1 o1 l1))) rfl (by simp [isVals, isVal_enc]) (by simpa [nrms, nrm_enc] using ih _ hmem) ?_
      (repeat' (first | refine EvOps.nil ?_ | (apply R.move; exact rfl) | (apply R.assign; exact rfl) | (apply R.arith; exact rfl; exact rfl; exact rfl; exact (wrapI (by omega) (by omega))) | refine Ev.region ?_ | refine thenQ.normal ?_ | refine blockQ.normal ?_ | refine loopQ.normal ?_ | fail))
      exact ⟨k' - 1, by omega, i + 1, n + size (.mk k1 s1 o1 l1), _, St.keep ⟨rfl, rfl, rfl, trivial⟩, by omega, by omega, by omega⟩
    · refine ⟨_, rfl, ?_⟩
      simp only [nrm, tupOf, size]
      rw [encs_end hc, sizes] at hb'
      rw [hb']; simp

theorem size_fun (t : Tm) (hb : bulk t < 1000000000) : Fun C 106 [enc t] (.int .i64 (size t)) := by
  induction t using Tm.ind with
  | h k s o l ih =>
    simp only [bulk] at hb
    exact size_ev k s o l (by omega) (fun t ht => ih t ht (by have := bulk_mem ht; omega))

theorem tsize_ev (k s o l) (hbk : bulks l < 1000000000) (ih : ∀ t ∈ l, Fun C 79 [enc t] (.int .i64 (size t))) : Fun C 79 [enc (.mk k s o l)] (.int .i64 (size (.mk k s o l))) := by
  refine Fun.of (FnEv.bodyL Tryz.func79 rfl ?_)
  rw [enc_mk]
  have hlen := len_bulks l
  have hel := encs_len l
  have hsz := sizes_bulk l
  (repeat' (first | refine EvOps.nil ?_ | (apply R.move; exact rfl) | (apply R.assign; exact rfl) | (apply R.load1 T6; exact rfl; exact rfl; exact rfl; exact rfl) | (apply R.fieldAddr T6; exact rfl; exact rfl; exact rfl; exact rfl) | (apply R.lenS T6; exact rfl; exact rfl) | (apply R.box; exact rfl; exact rfl; exact rfl; exact .nil) | refine Ev.seq ?_ | refine Ev.region ?_ | refine Ev.block ?_ | refine thenQ.normal ?_ | fail))
  refine Ev.loop (I := fun k' st => ∃ (i : Nat) (n : Int) (J : AHeap) (ρ' : Nat → PV), st = ⟨al [(1, .ptr 0 0 0 0), (3, .int .i64 n), (7, .snap false (encs l)), (8, .int .i64 (encs l).length), (9, .int .i64 i)] ρ', ⟨.m, 0, 4, [.agg [.int .i64 k, .str s, .int .i64 o, .snap false (encs l)]]⟩ :: J⟩ ∧ k' + i = l.length ∧ 0 ≤ n ∧ 1 + sizes l = n + sizes (l.drop i)) l.length ?_ ?_
  · exact ⟨0, 1, [], _, St.keep ⟨rfl, rfl, rfl, rfl, rfl, trivial⟩, rfl, by omega, rfl⟩
  · rintro k' _ ⟨i, n, J, ρ', rfl, hk, hn, hb'⟩
    (repeat' (first | refine EvOps.nil ?_ | (apply R.move; exact rfl) | (apply R.assign; exact rfl) | (apply R.cmp; exact rfl; exact rfl; exact rfl; all_goals intro hc) | refine Ev.seq ?_ | refine Ev.region ?_ | (apply Ev.condB; exact rfl) | refine Ev.ret ?_ | refine Ev.skip ?_ | refine Ev.exit ?_ | refine Ev.block ?_ | refine thenQ.normal ?_ | refine thenQ.exit ?_ | refine blockQ.hit ?_ | refine loopQ.exit ?_ | (apply bodyQ.ret; exact rfl) | fail))
    · obtain ⟨k1, s1, o1, l1, hmem, hat, hd, hil, _⟩ := encs_at' hc
      refine R.indexS T6 rfl rfl rfl rfl hat rfl rfl ?_
      have hbm := bulk_mem hmem
      have hsm := size_bulk (.mk k1 s1 o1 l1)
      have hdr := sizes_bulk (l.drop (i + 1))
      rw [hd, sizes] at hb'
      (repeat' (first | refine EvOps.nil ?_ | (apply R.move; exact rfl) | (apply R.loadA T6; exact rfl; exact rfl; exact rfl; exact rfl; exact (by repeat constructor)) | (apply R.allocN T6; exact rfl; exact rfl; exact rfl) | (apply R.storeN T6; exact rfl; exact rfl; exact rfl; exact rfl; exact rfl; exact rfl) | (apply R.loadAN T6; exact rfl; exact rfl; exact rfl; exact (by repeat constructor)) | refine Ev.region ?_ | refine thenQ.normal ?_ | fail))
      refine R.call rfl rfl ?_
      show CallEv C 2 _ [.agg [.int .i64 k1, .str s1, .int .i64 o1, .snap false (encs l1)]] _ _
      rw [← enc_mk]
      refine CallEv.pure (r := .int .i64 (size (.mk k1 s1 o1 l1))) rfl (by simp [isVals, isVal_enc]) (by simpa [nrms, nrm_enc] using ih _ hmem) ?_
      (repeat' (first | refine EvOps.nil ?_ | (apply R.move; exact rfl) | (apply R.assign; exact rfl) | (apply R.arith; exact rfl; exact rfl; exact rfl; exact (wrapI (by omega) (by omega))) | refine Ev.region ?_ | refine thenQ.normal ?_ | refine blockQ.normal ?_ | refine loopQ.normal ?_ | fail))
      exact ⟨k' - 1, by omega, i + 1, n + size (.mk k1 s1 o1 l1), _, _, St.keep ⟨rfl, rfl, rfl, rfl, rfl, trivial⟩, by omega, by omega, by omega⟩
    · refine ⟨_, rfl, ?_⟩
      simp only [nrm, tupOf, size]
      rw [encs_end hc, sizes] at hb'
      rw [hb']; simp

theorem tsize_fun (t : Tm) (hb : bulk t < 1000000000) : Fun C 79 [enc t] (.int .i64 (size t)) := by
  induction t using Tm.ind with
  | h k s o l ih =>
    simp only [bulk] at hb
    exact tsize_ev k s o l (by omega) (fun t ht => ih t ht (by have := bulk_mem ht; omega))

end Go.Pm
end

/-
  CHAPTER 6, PART 6: the reference's Valid. Conditions: none.
-/
section
set_option linter.unusedVariables false
set_option linter.unusedSimpArgs false
set_option linter.unusedVariables false
set_option linter.unusedSimpArgs false
set_option maxRecDepth 4000
set_option maxHeartbeats 4000000
namespace Go.Pm
open Go.Proofs
attribute [local irreducible] thenQ blockQ loopQ bodyQ Ev EvOps CallEv FnEv EvD

theorem rnode_fun (k s o l) (hb : bulk (.mk k s o l) < 1000000000) : Fun C 123 [enc (.mk k s o l)] (.int .i64 (node (.mk k s o l))) := by
  refine Fun.of (FnEv.bodyL Tryz.func123 rfl ?_)
  rw [enc_mk]
  have hel := encs_len l
  have hlen := len_bulks l
  have hbs : s.size < 1000000000 := by simp only [bulk] at hb; omega
  (repeat' (first | refine EvOps.nil ?_ | (apply R.gOn; exact rfl; exact rfl; exact rfl) | (apply R.gOff; exact rfl; exact rfl; exact rfl) | (apply R.gUn; exact rfl; exact rfl) | (apply R.move; exact rfl) | (apply R.assign; exact rfl) | (apply R.pickT; exact rfl; exact rfl) | (apply R.pickF; exact rfl; exact rfl) | (apply R.load1 T6; exact rfl; exact rfl; exact rfl; exact rfl) | (apply R.fieldAddr T6; exact rfl; exact rfl; exact rfl; exact rfl) | (apply R.cmp; exact rfl; exact rfl; exact rfl; all_goals intro hc; all_goals (try (exfalso; omega))) | (apply R.not; exact rfl; exact rfl) | (apply R.lenS T6; exact rfl; exact rfl) | (apply R.box; exact rfl; exact rfl; exact rfl; exact .nil) | refine Ev.seq ?_ | refine Ev.region ?_ | (apply Ev.condB; exact rfl) | refine Ev.ret ?_ | refine Ev.skip ?_ | refine thenQ.normal ?_ | refine thenQ.ret ?_ | (apply bodyQ.ret; exact rfl) | fail))
  all_goals first
    | (refine ⟨_, rfl, congrArg (PV.int .i64) ?_⟩; rw [node, if_pos (by omega)])
    | (refine R.call rfl rfl (CallEv.pure rfl rfl (risName_fun s hbs) ?_); cases hN : isName s <;> (repeat' (first | refine EvOps.nil ?_ | (apply R.assign; exact rfl) | (apply R.load1 T6; exact rfl; exact rfl; exact rfl; exact rfl) | (apply R.fieldAddr T6; exact rfl; exact rfl; exact rfl; exact rfl) | (apply R.cmp; exact rfl; exact rfl; exact rfl; all_goals intro hc; all_goals (try (exfalso; omega))) | (apply R.not; exact rfl; exact rfl) | (apply R.lenS T6; exact rfl; exact rfl) | refine Ev.seq ?_ | refine Ev.region ?_ | (apply Ev.condB; exact rfl) | refine Ev.ret ?_ | refine Ev.skip ?_ | refine thenQ.normal ?_ | refine thenQ.ret ?_ | (apply bodyQ.ret; exact rfl) | fail)))
  all_goals first
    | (refine ⟨_, rfl, congrArg (PV.int .i64) ?_⟩; rw [node, if_neg (by omega), if_pos hN])
    | (refine ⟨_, rfl, congrArg (PV.int .i64) ?_⟩; rw [node, if_neg (by omega), if_neg (by rw [hN]; simp), if_pos (by omega)])
    | (refine ⟨_, rfl, congrArg (PV.int .i64) ?_⟩; rw [node, if_neg (by omega), if_neg (by rw [hN]; simp), if_neg (by omega)])

theorem rnodes_ev (k s o l) (hb : bulk (.mk k s o l) < 1000000000) (ih : ∀ t ∈ l, Fun C 109 [enc t] (.int .i64 (nodes t))) : Fun C 109 [enc (.mk k s o l)] (.int .i64 (nodes (.mk k s o l))) := by
  have hno := rnode_fun k s o l hb
  refine Fun.of (FnEv.bodyL Tryz.func109 rfl ?_)
  rw [enc_mk] at hno ⊢
  have hlen := len_bulks l
  have hel := encs_len l
  simp only [bulk] at hb
  (repeat' (first | refine EvOps.nil ?_ | (apply R.assign; exact rfl) | (apply R.loadA T6; exact rfl; exact rfl; exact rfl; exact rfl; exact (by repeat constructor)) | (apply R.box; exact rfl; exact rfl; exact rfl; exact .nil) | refine Ev.seq ?_ | refine Ev.region ?_ | refine thenQ.normal ?_ | fail))
  refine R.call rfl rfl (CallEv.pure rfl (by simp [isVals, isVal]) (by simpa [nrms, nrm, nrms_encs] using hno) ?_)
  (repeat' (first | refine EvOps.nil ?_ | (apply R.move; exact rfl) | (apply R.assign; exact rfl) | (apply R.cmp; exact rfl; exact rfl; exact rfl; all_goals intro hc) | refine Ev.seq ?_ | refine Ev.region ?_ | (apply Ev.condB; exact rfl) | refine Ev.ret ?_ | refine Ev.skip ?_ | refine Ev.block ?_ | refine thenQ.normal ?_ | refine thenQ.ret ?_ | (apply bodyQ.ret; exact rfl) | fail))
  · refine ⟨_, rfl, ?_⟩
    rw [nodes, if_pos (by assumption)]; rfl
  · have h0 : nodes (.mk k s o l) = nodess l := by rw [nodes, if_neg (by assumption)]
    refine Ev.loop (I := fun k' st => ∃ (i : Nat) (ρ' : Nat → PV), st = ⟨al [(1, .ptr 0 0 0 0), (4, .int .i64 i)] ρ', [⟨.m, 0, 4, [.agg [.int .i64 k, .str s, .int .i64 o, .snap false (encs l)]]⟩]⟩ ∧ k' + i = l.length ∧ nodess l = nodess (l.drop i)) l.length ?_ ?_
    · exact ⟨0, _, St.keep ⟨rfl, rfl, trivial⟩, rfl, rfl⟩
    · rintro k' _ ⟨i, ρ', rfl, hk, hb'⟩
      (repeat' (first | refine EvOps.nil ?_ | (apply R.move; exact rfl) | (apply R.assign; exact rfl) | (apply R.load1 T6; exact rfl; exact rfl; exact rfl; exact rfl) | (apply R.fieldAddr T6; exact rfl; exact rfl; exact rfl; exact rfl) | (apply R.cmp; exact rfl; exact rfl; exact rfl; all_goals intro hc) | (apply R.lenS T6; exact rfl; exact rfl) | refine Ev.seq ?_ | refine Ev.region ?_ | (apply Ev.condB; exact rfl) | refine Ev.ret ?_ | refine Ev.skip ?_ | refine Ev.exit ?_ | refine Ev.block ?_ | refine thenQ.normal ?_ | refine thenQ.exit ?_ | refine blockQ.hit ?_ | refine loopQ.exit ?_ | (apply bodyQ.ret; exact rfl) | fail))
      · obtain ⟨k1, s1, o1, l1, hmem, hat, hd, hil, _⟩ := encs_at' hc
        refine R.indexS T6 rfl rfl rfl rfl hat rfl rfl ?_
        have hih := ih _ hmem
        rw [enc_mk] at hih
        rw [hd, nodess] at hb'
        (repeat' (first | (apply R.loadA T6; exact rfl; exact rfl; exact rfl; exact rfl; exact (by repeat constructor)) | fail))
        refine R.call rfl rfl (CallEv.pure rfl (by simp [isVals, isVal]) (by simpa [nrms, nrm, nrms_encs] using hih) ?_)
        (repeat' (first | refine EvOps.nil ?_ | (apply R.move; exact rfl) | (apply R.assign; exact rfl) | (apply R.cmp; exact rfl; exact rfl; exact rfl; all_goals intro hc) | (apply R.arith; exact rfl; exact rfl; exact rfl; exact (wrapI (by omega) (by omega))) | refine Ev.seq ?_ | refine Ev.region ?_ | (apply Ev.condB; exact rfl) | refine Ev.ret ?_ | refine Ev.skip ?_ | refine thenQ.normal ?_ | refine thenQ.ret ?_ | refine blockQ.normal ?_ | refine blockQ.ret ?_ | refine loopQ.normal ?_ | refine loopQ.ret ?_ | (apply bodyQ.ret; exact rfl) | fail))
        · refine ⟨_, rfl, ?_⟩
          rw [h0, hb', if_pos (by assumption)]; rfl
        · refine ⟨k' - 1, by omega, i + 1, _, St.keep ⟨rfl, rfl, trivial⟩, by omega, ?_⟩
          rw [hb', if_neg (by assumption)]
      · refine ⟨_, rfl, ?_⟩
        rw [h0, hb', encs_end hc]; rfl
theorem rnodes_fun (t : Tm) (hb : bulk t < 1000000000) : Fun C 109 [enc t] (.int .i64 (nodes t)) := by
  induction t using Tm.ind with
  | h k s o l ih =>
    exact rnodes_ev k s o l hb (fun t ht => ih t ht (by have := bulk_mem ht; simp only [bulk] at hb; omega))

theorem rdepth_ev (k s o l) (hb : bulk (.mk k s o l) < 1000000000) (ih : ∀ t ∈ l, Fun C 110 [enc t] (.int .i64 (depth t))) : Fun C 110 [enc (.mk k s o l)] (.int .i64 (depth (.mk k s o l))) := by
  refine Fun.of (FnEv.bodyL Tryz.func110 rfl ?_)
  rw [enc_mk]
  have hlen := len_bulks l
  have hel := encs_len l
  have hsz := sizes_bulk l
  have hds := depths_sizes l
  simp only [bulk] at hb
  (repeat' (first | refine EvOps.nil ?_ | (apply R.assign; exact rfl) | (apply R.box; exact rfl; exact rfl; exact rfl; exact .nil) | refine Ev.seq ?_ | refine Ev.region ?_ | refine Ev.block ?_ | refine thenQ.normal ?_ | fail))
  refine Ev.loop (I := fun k' st => ∃ (i : Nat) (n : Int) (ρ' : Nat → PV), st = ⟨al [(1, .ptr 0 0 0 0), (3, .int .i64 n), (4, .int .i64 i)] ρ', [⟨.m, 0, 4, [.agg [.int .i64 k, .str s, .int .i64 o, .snap false (encs l)]]⟩]⟩ ∧ k' + i = l.length ∧ 0 ≤ n ∧ depths l = max n (depths (l.drop i))) l.length ?_ ?_
  · exact ⟨0, 0, _, St.keep ⟨rfl, rfl, rfl, trivial⟩, rfl, by omega, by simp only [List.drop_zero]; omega⟩
  · rintro k' _ ⟨i, n, ρ', rfl, hk, hn, hb'⟩
    (repeat' (first | refine EvOps.nil ?_ | (apply R.move; exact rfl) | (apply R.assign; exact rfl) | (apply R.load1 T6; exact rfl; exact rfl; exact rfl; exact rfl) | (apply R.fieldAddr T6; exact rfl; exact rfl; exact rfl; exact rfl) | (apply R.cmp; exact rfl; exact rfl; exact rfl; all_goals intro hc) | (apply R.arith; exact rfl; exact rfl; exact rfl; exact (wrapI (by omega) (by omega))) | (apply R.lenS T6; exact rfl; exact rfl) | refine Ev.seq ?_ | refine Ev.region ?_ | (apply Ev.condB; exact rfl) | refine Ev.ret ?_ | refine Ev.skip ?_ | refine Ev.exit ?_ | refine Ev.block ?_ | refine thenQ.normal ?_ | refine thenQ.exit ?_ | refine blockQ.hit ?_ | refine loopQ.exit ?_ | (apply bodyQ.ret; exact rfl) | fail))
    · obtain ⟨k1, s1, o1, l1, hmem, hat, hd, hil, _⟩ := encs_at' hc
      refine R.indexS T6 rfl rfl rfl rfl hat rfl rfl ?_
      have hih := ih _ hmem
      rw [enc_mk] at hih
      rw [hd, depths] at hb'
      have hpo := depth_size (.mk k1 s1 o1 l1)
      (repeat' (first | (apply R.loadA T6; exact rfl; exact rfl; exact rfl; exact rfl; exact (by repeat constructor)) | fail))
      refine R.call rfl rfl (CallEv.pure rfl (by simp [isVals, isVal]) (by simpa [nrms, nrm, nrms_encs] using hih) ?_)
      (repeat' (first | refine EvOps.nil ?_ | (apply R.move; exact rfl) | (apply R.assign; exact rfl) | (apply R.arith; exact rfl; exact rfl; exact rfl; exact (wrapI (by omega) (by omega))) | (apply R.max; exact rfl; exact rfl) | refine Ev.region ?_ | refine thenQ.normal ?_ | refine blockQ.normal ?_ | refine loopQ.normal ?_ | fail))
      exact ⟨k' - 1, by omega, i + 1, _, _, St.keep ⟨rfl, rfl, rfl, trivial⟩, by omega, by omega, by omega⟩
    · rw [encs_end hc, depths] at hb'
      skip
      refine ⟨_, rfl, congrArg (PV.int .i64) ?_⟩
      rw [depth]; omega
theorem rdepth_fun (t : Tm) (hb : bulk t < 1000000000) : Fun C 110 [enc t] (.int .i64 (depth t)) := by
  induction t using Tm.ind with
  | h k s o l ih =>
    exact rdepth_ev k s o l hb (fun t ht => ih t ht (by have := bulk_mem ht; simp only [bulk] at hb; omega))

theorem rvalid_fun (t : Tm) (hb : bulk t < 1000000000) : Fun C 81 [enc t] (.int .i64 (valid t)) := by
  have h1 := rnodes_fun t hb
  have h2 := size_fun t hb
  have h3 := rdepth_fun t hb
  obtain ⟨k, s, o, l⟩ := t
  refine Fun.of (FnEv.bodyL Tryz.func81 rfl ?_)
  rw [enc_mk] at h1 h2 h3 ⊢
  (repeat' (first | refine EvOps.nil ?_ | (apply R.assign; exact rfl) | (apply R.loadA T6; exact rfl; exact rfl; exact rfl; exact rfl; exact (by repeat constructor)) | (apply R.box; exact rfl; exact rfl; exact rfl; exact .nil) | refine Ev.seq ?_ | refine Ev.region ?_ | refine thenQ.normal ?_ | fail))
  refine R.call rfl rfl (CallEv.pure rfl (by simp [isVals, isVal]) (by simpa [nrms, nrm, nrms_encs] using h1) ?_)
  (repeat' (first | refine EvOps.nil ?_ | (apply R.move; exact rfl) | (apply R.assign; exact rfl) | (apply R.loadA T6; exact rfl; exact rfl; exact rfl; exact rfl; exact (by repeat constructor)) | (apply R.cmp; exact rfl; exact rfl; exact rfl; all_goals intro hc) | refine Ev.seq ?_ | refine Ev.region ?_ | (apply Ev.condB; exact rfl) | refine Ev.ret ?_ | refine Ev.skip ?_ | refine thenQ.normal ?_ | refine thenQ.ret ?_ | (apply bodyQ.ret; exact rfl) | fail))
  · refine ⟨_, rfl, ?_⟩
    rw [valid, if_pos (by assumption)]; rfl
  · have h0 := hc
    clear hc
    refine R.call rfl rfl (CallEv.pure rfl (by simp [isVals, isVal]) (by simpa [nrms, nrm, nrms_encs] using h2) ?_)
    (repeat' (first | refine EvOps.nil ?_ | (apply R.gOn; exact rfl; exact rfl; exact rfl) | (apply R.gOff; exact rfl; exact rfl; exact rfl) | (apply R.move; exact rfl) | (apply R.assign; exact rfl) | (apply R.pickT; exact rfl; exact rfl) | (apply R.loadA T6; exact rfl; exact rfl; exact rfl; exact rfl; exact (by repeat constructor)) | (apply R.cmp; exact rfl; exact rfl; exact rfl; all_goals intro hc) | refine Ev.seq ?_ | refine Ev.region ?_ | (apply Ev.condB; exact rfl) | refine Ev.ret ?_ | refine thenQ.normal ?_ | refine thenQ.ret ?_ | (apply bodyQ.ret; exact rfl) | fail))
    · refine ⟨_, rfl, ?_⟩
      rw [valid, if_neg h0, if_pos (by omega)]; rfl
    · refine R.call rfl rfl (CallEv.pure rfl (by simp [isVals, isVal]) (by simpa [nrms, nrm, nrms_encs] using h3) ?_)
      (repeat' (first | refine EvOps.nil ?_ | (apply R.gOn; exact rfl; exact rfl; exact rfl) | (apply R.assign; exact rfl) | (apply R.pickF; exact rfl; exact rfl) | (apply R.cmp; exact rfl; exact rfl; exact rfl; all_goals intro hc) | refine Ev.seq ?_ | refine Ev.region ?_ | (apply Ev.condB; exact rfl) | refine Ev.ret ?_ | refine Ev.skip ?_ | refine thenQ.normal ?_ | refine thenQ.ret ?_ | (apply bodyQ.ret; exact rfl) | fail))
      · refine ⟨_, rfl, ?_⟩
        rw [valid, if_neg h0, if_pos (by omega)]; rfl
      · refine ⟨_, rfl, ?_⟩
        rw [valid, if_neg h0, if_neg (by omega)]; rfl

end Go.Pm
end

/-
  CHAPTER 6, PART 4: Compare. Conditions: none.
-/
section
set_option linter.unusedVariables false
set_option linter.unusedSimpArgs false
set_option linter.unusedVariables false
set_option maxRecDepth 4000
set_option maxHeartbeats 4000000
namespace Go.Pm
open Go.Proofs
attribute [local irreducible] thenQ blockQ loopQ bodyQ Ev EvOps CallEv FnEv EvD


set_option maxHeartbeats 2000000 in
theorem rcmp_ev (k s o l k' s' o' l') (hb : bulk (.mk k s o l) < 1000000000) (hb' : bulk (.mk k' s' o' l') < 1000000000)
    (ih : ∀ t ∈ l, ∀ t' ∈ l', Fun C 74 [enc t, enc t'] (.int .i64 (cmpT t t'))) : Fun C 74 [enc (.mk k s o l), enc (.mk k' s' o' l')] (.int .i64 (cmpT (.mk k s o l) (.mk k' s' o' l'))) := by
  refine Fun.of (FnEv.bodyL Tryz.func74 rfl ?_)
  rw [enc_mk, enc_mk]
  have z1 := size_fun _ hb
  have z2 := size_fun _ hb'
  have v1 : isVals (encs l) = true := isVals_encs l
  have v2 : isVals (encs l') = true := isVals_encs l'
  have e1 := encs_len l
  have e2 := encs_len l'
  have b1 : l.length < 1000000000 := by have := len_bulks l; simp only [bulk] at hb; omega
  have b2 : l'.length < 1000000000 := by have := len_bulks l'; simp only [bulk] at hb'; omega
  rw [enc_mk] at z1 z2
  (repeat' (first | refine EvOps.nil ?_ | (apply R.assign; exact rfl) | (apply R.box; exact rfl; exact rfl; exact rfl; exact .nil) | (apply R.box; exact rfl; exact rfl; exact rfl; exact (.cons .nil)) | refine Ev.seq ?_ | refine Ev.region ?_ | refine Ev.regionD ?_ | (apply D.loadA T6; exact (by first | exact rfl | assumption); exact rfl; exact rfl; exact rfl; exact rfl; exact rfl; exact (by repeat constructor)) | refine thenQ.normal ?_ | fail))
  refine D.callP rfl rfl rfl rfl (by simp [isVals, isVal, v1]) rfl rfl (by simpa [nrms, nrm, nrms_encs] using z1) ?_
  (repeat' (first | (apply D.loadA T6; exact (by first | exact rfl | assumption); exact rfl; exact rfl; exact rfl; exact rfl; exact rfl; exact (by repeat constructor)) | fail))
  refine D.callP rfl rfl rfl rfl (by simp [isVals, isVal, v2]) rfl rfl (by simpa [nrms, nrm, nrms_encs] using z2) ?_
  refine D.callP rfl rfl rfl rfl rfl rfl rfl (number_fun _ _) ?_
  (repeat' (first | refine EvOps.nil ?_ | (apply R.move; exact rfl) | (apply R.assign; exact rfl) | (apply R.load1 T6; exact rfl; exact rfl; exact rfl; exact rfl) | (apply R.fieldAddr T6; exact rfl; exact rfl; exact rfl; exact rfl) | (apply R.cmp; exact rfl; exact rfl; exact rfl; all_goals intro hc) | refine Ev.seq ?_ | refine Ev.region ?_ | refine EvD.nil ?_ | (apply D.assign; exact rfl) | (apply Ev.condB; exact rfl) | refine Ev.ret ?_ | refine Ev.skip ?_ | refine thenQ.normal ?_ | refine thenQ.ret ?_ | (apply bodyQ.ret; exact rfl) | fail))
  · exact ⟨_, rfl, by simp only [nrm, tupOf, cmpT]; rw [if_pos hc]⟩
  have h1 := hc
  clear hc
  refine R.call rfl rfl (CallEv.pure rfl rfl (number_fun k k') ?_)
  (repeat' (first | refine EvOps.nil ?_ | (apply R.move; exact rfl) | (apply R.assign; exact rfl) | (apply R.load1 T6; exact rfl; exact rfl; exact rfl; exact rfl) | (apply R.fieldAddr T6; exact rfl; exact rfl; exact rfl; exact rfl) | (apply R.cmp; exact rfl; exact rfl; exact rfl; all_goals intro hc) | (apply R.strcmp; exact rfl; exact rfl; exact rfl; all_goals intro hc) | refine Ev.seq ?_ | refine Ev.region ?_ | (apply Ev.condB; exact rfl) | refine Ev.ret ?_ | refine Ev.skip ?_ | refine thenQ.normal ?_ | refine thenQ.ret ?_ | (apply bodyQ.ret; exact rfl) | fail))
  · exact ⟨_, rfl, by simp only [nrm, tupOf, cmpT]; rw [if_neg h1, if_pos hc]⟩
  · rename_i h2
    have h3 := hc
    exact ⟨_, rfl, by simp only [nrm, tupOf, cmpT]; rw [if_neg h1, if_neg h2, if_pos h3]⟩
  · rename_i h2 h3
    have h4 := hc
    exact ⟨_, rfl, by simp only [nrm, tupOf, cmpT]; rw [if_neg h1, if_neg h2, if_neg (by rw [h3]; simp), if_pos h4]⟩
  rename_i h2 h3
  have h4 := hc
  clear hc
  refine R.call rfl rfl (CallEv.pure rfl rfl (number_fun o o') ?_)
  (repeat' (first | refine EvOps.nil ?_ | (apply R.move; exact rfl) | (apply R.assign; exact rfl) | (apply R.load1 T6; exact rfl; exact rfl; exact rfl; exact rfl) | (apply R.fieldAddr T6; exact rfl; exact rfl; exact rfl; exact rfl) | (apply R.cmp; exact rfl; exact rfl; exact rfl; all_goals intro hc) | (apply R.lenS T6; exact rfl; exact rfl) | refine Ev.seq ?_ | refine Ev.region ?_ | (apply Ev.condB; exact rfl) | refine Ev.ret ?_ | refine Ev.skip ?_ | refine thenQ.normal ?_ | refine thenQ.ret ?_ | (apply bodyQ.ret; exact rfl) | fail))
  · exact ⟨_, rfl, by simp only [nrm, tupOf, cmpT]; rw [if_neg h1, if_neg h2, if_neg (by rw [h3]; simp), if_neg (by rw [h4]; simp), if_pos hc]⟩
  have h5 := hc
  clear hc
  refine R.call rfl rfl (CallEv.pure rfl rfl (number_fun (encs l).length (encs l').length) ?_)
  (repeat' (first | refine EvOps.nil ?_ | (apply R.move; exact rfl) | (apply R.assign; exact rfl) | (apply R.cmp; exact rfl; exact rfl; exact rfl; all_goals intro hc) | refine Ev.seq ?_ | refine Ev.region ?_ | (apply Ev.condB; exact rfl) | refine Ev.ret ?_ | refine Ev.skip ?_ | refine Ev.block ?_ | refine thenQ.normal ?_ | refine thenQ.ret ?_ | (apply bodyQ.ret; exact rfl) | fail))
  · refine ⟨_, rfl, ?_⟩
    simp only [nrm, tupOf, cmpT]
    rw [e1, e2] at hc ⊢
    rw [if_neg h1, if_neg h2, if_neg (by rw [h3]; simp), if_neg (by rw [h4]; simp), if_neg h5, if_pos hc]
  have h6 := hc
  clear hc
  have hll : l.length = l'.length := by
    rw [e1, e2] at h6
    unfold cmpN at h6
    repeat' split at h6
    all_goals omega
  have hspec : cmpT (.mk k s o l) (.mk k' s' o' l') = cmps l l' := by
    rw [e1, e2] at h6
    rw [cmpT, if_neg h1, if_neg h2, if_neg (by rw [h3]; simp), if_neg (by rw [h4]; simp), if_neg h5, if_neg h6]
  refine Ev.loop (I := fun k'' st => ∃ (i : Nat) (ρ' : Nat → PV), st = ⟨al [(2, .ptr 0 0 0 0), (3, .ptr 1 0 0 0), (9, .int .i64 i)] ρ', [⟨.m, 0, 4, [.agg [.int .i64 k, .str s, .int .i64 o, .snap false (encs l)]]⟩, ⟨.m, 0, 4, [.agg [.int .i64 k', .str s', .int .i64 o', .snap false (encs l')]]⟩]⟩ ∧ k'' + i = l.length ∧ cmps l l' = cmps (l.drop i) (l'.drop i)) l.length ?_ ?_
  · exact ⟨0, _, St.keep ⟨rfl, rfl, rfl, trivial⟩, rfl, rfl⟩
  · rintro k'' _ ⟨i, ρ', rfl, hk, hb2⟩
    (repeat' (first | refine EvOps.nil ?_ | (apply R.move; exact rfl) | (apply R.assign; exact rfl) | (apply R.load1 T6; exact rfl; exact rfl; exact rfl; exact rfl) | (apply R.fieldAddr T6; exact rfl; exact rfl; exact rfl; exact rfl) | (apply R.cmp; exact rfl; exact rfl; exact rfl; all_goals intro hc) | (apply R.lenS T6; exact rfl; exact rfl) | refine Ev.seq ?_ | refine Ev.region ?_ | refine Ev.regionD ?_ | (apply D.move; exact rfl) | (apply D.fieldAddr T6; exact rfl; exact rfl; exact rfl; exact rfl) | (apply D.load1 T6; exact (by first | exact rfl | assumption); exact rfl; exact rfl; exact rfl; exact rfl; exact rfl) | (apply Ev.condB; exact rfl) | refine Ev.ret ?_ | refine Ev.skip ?_ | refine Ev.exit ?_ | refine Ev.block ?_ | refine thenQ.normal ?_ | refine thenQ.exit ?_ | refine blockQ.hit ?_ | refine loopQ.exit ?_ | (apply bodyQ.ret; exact rfl) | fail))
    · obtain ⟨k1, s1, o1, l1, hmem, hat, hd, hil, _⟩ := encs_at' hc
      obtain ⟨k2, s2, o2, l2, hmem', hat', hd', hil', _⟩ := encs_at' (l := l') (i := i) (by omega)
      have w1 : isVals (encs l1) = true := isVals_encs l1
      have w2 : isVals (encs l2) = true := isVals_encs l2
      have hih := ih _ hmem _ hmem'
      rw [enc_mk, enc_mk] at hih
      refine D.indexS T6 rfl rfl rfl rfl rfl hat rfl rfl ?_
      (repeat' (first | (apply D.move; exact rfl) | (apply D.fieldAddr T6; exact rfl; exact rfl; exact rfl; exact rfl) | (apply D.load1 T6; exact (by first | exact rfl | assumption); exact rfl; exact rfl; exact rfl; exact rfl; exact rfl) | (apply D.loadA T6; exact (by first | exact rfl | assumption); exact rfl; exact rfl; exact rfl; exact rfl; exact rfl; exact (by repeat constructor)) | fail))
      refine D.indexS T6 rfl rfl rfl rfl rfl hat' rfl rfl ?_
      (repeat' (first | (apply D.loadA T6; exact (by first | exact rfl | assumption); exact rfl; exact rfl; exact rfl; exact rfl; exact rfl; exact (by repeat constructor)) | fail))
      refine D.callP rfl rfl rfl rfl (by simp [isVals, isVal, w1, w2]) rfl rfl (by simpa [nrms, nrm, nrms_encs] using hih) ?_
      (repeat' (first | refine EvOps.nil ?_ | (apply R.move; exact rfl) | (apply R.assign; exact rfl) | (apply R.cmp; exact rfl; exact rfl; exact rfl; all_goals intro hc) | (apply R.arith; exact rfl; exact rfl; exact rfl; exact (wrapI (by omega) (by omega))) | refine Ev.seq ?_ | refine Ev.region ?_ | refine EvD.nil ?_ | (apply D.assign; exact rfl) | (apply Ev.condB; exact rfl) | refine Ev.ret ?_ | refine Ev.skip ?_ | refine thenQ.normal ?_ | refine thenQ.ret ?_ | refine blockQ.normal ?_ | refine blockQ.ret ?_ | refine loopQ.normal ?_ | refine loopQ.ret ?_ | (apply bodyQ.ret; exact rfl) | fail))
      · refine ⟨_, rfl, ?_⟩
        simp only [nrm, tupOf]
        rw [hspec, hb2, hd, hd', cmps, if_pos (by assumption)]
      · refine ⟨k'' - 1, by omega, i + 1, _, St.keep ⟨rfl, rfl, rfl, trivial⟩, by omega, ?_⟩
        rw [hb2, hd, hd', cmps, if_neg (by assumption)]
    · refine ⟨_, rfl, ?_⟩
      simp only [nrm, tupOf]
      rw [hspec, hb2, encs_end hc, cmps]

end Go.Pm
end

/-
  CHAPTER 6, PART 7: the reference: Compare, Same, special, arity, add. Conditions: none.
-/
section
set_option linter.unusedVariables false
set_option linter.unusedSimpArgs false
set_option linter.unusedVariables false
set_option linter.unusedSimpArgs false
set_option maxRecDepth 4000
set_option maxHeartbeats 4000000
namespace Go.Pm
open Go.Proofs
attribute [local irreducible] thenQ blockQ loopQ bodyQ Ev EvOps CallEv FnEv EvD

theorem rcmp_fun (t t' : Tm) (hb : bulk t < 1000000000) (hb' : bulk t' < 1000000000) : Fun C 74 [enc t, enc t'] (.int .i64 (cmpT t t')) := by
  induction t using Tm.ind generalizing t' with
  | h k s o l ih =>
    obtain ⟨k', s', o', l'⟩ := t'
    refine rcmp_ev k s o l k' s' o' l' hb hb' (fun t ht t' ht' => ih t ht t' ?_ ?_)
    · have := bulk_mem ht; simp only [bulk] at hb; omega
    · have := bulk_mem ht'; simp only [bulk] at hb'; omega
theorem rsame_fun (t t' : Tm) (hb : bulk t < 1000000000) (hb' : bulk t' < 1000000000) : Fun C 31 [enc t, enc t'] (.bool (decide (cmpT t t' = 0))) := by
  have h1 := rcmp_fun t t' hb hb'
  obtain ⟨k, s, o, l⟩ := t
  obtain ⟨k', s', o', l'⟩ := t'
  refine Fun.of (FnEv.bodyL Tryz.func31 rfl ?_)
  rw [enc_mk, enc_mk] at h1 ⊢
  (repeat' (first | refine EvOps.nil ?_ | (apply R.assign; exact rfl) | (apply R.loadA T6; exact rfl; exact rfl; exact rfl; exact rfl; exact (by repeat constructor)) | (apply R.box; exact rfl; exact rfl; exact rfl; exact .nil) | (apply R.box; exact rfl; exact rfl; exact rfl; exact (.cons .nil)) | refine Ev.seq ?_ | refine Ev.region ?_ | refine thenQ.normal ?_ | fail))
  refine R.call rfl rfl (CallEv.pure rfl (by simp [isVals, isVal]) (by simpa [nrms, nrm, nrms_encs] using h1) ?_)
  (repeat' (first | refine EvOps.nil ?_ | (apply R.assign; exact rfl) | (apply R.cmp; exact rfl; exact rfl; exact rfl; all_goals intro hc) | refine Ev.ret ?_ | refine thenQ.normal ?_ | (apply bodyQ.ret; exact rfl) | fail))
  · exact ⟨_, rfl, congrArg PV.bool (decide_eq_true (by assumption)).symm⟩
  · exact ⟨_, rfl, congrArg PV.bool (decide_eq_false (by assumption)).symm⟩

theorem special_eq (k s o l) : special (.mk k s o l) = decide (k = 3 ∧ (s.toList = nmMul ∨ s.toList = nmInv ∨ s.toList = nmOne)) := by
  simp only [special, ← Bool.decide_or, ← Bool.decide_and, or_assoc]
theorem cMul_l : (ByteArray.mk #[109, 117, 108]).toList = nmMul := sMul_l
theorem cInv_l : (ByteArray.mk #[105, 110, 118]).toList = nmInv := sInv_l
theorem cOne_l : (ByteArray.mk #[111, 110, 101]).toList = nmOne := sOne_l

theorem rspecial_fun (k s o l) : Fun C 82 [enc (.mk k s o l)] (.bool (special (.mk k s o l))) := by
  refine Fun.of (FnEv.bodyL Tryz.func82 rfl ?_)
  rw [enc_mk, special_eq]
  (repeat' (first | refine EvOps.nil ?_ | (apply R.gOn; exact rfl; exact rfl; exact rfl) | (apply R.gOff; exact rfl; exact rfl; exact rfl) | (apply R.gUn; exact rfl; exact rfl) | (apply R.move; exact rfl) | (apply R.assign; exact rfl) | (apply R.pickT; exact rfl; exact rfl) | (apply R.pickF; exact rfl; exact rfl) | (apply R.load1 T6; exact rfl; exact rfl; exact rfl; exact rfl) | (apply R.fieldAddr T6; exact rfl; exact rfl; exact rfl; exact rfl) | (apply R.cmp; exact rfl; exact rfl; exact rfl; all_goals intro hc) | (apply R.streq; exact rfl; exact rfl; all_goals intro hc) | (apply R.box; exact rfl; exact rfl; exact rfl; exact .nil) | refine Ev.seq ?_ | refine Ev.region ?_ | refine Ev.ret ?_ | refine thenQ.normal ?_ | (apply bodyQ.ret; exact rfl) | fail))
  all_goals try simp only [cMul_l, cInv_l, cOne_l] at *
  all_goals first
    | exact ⟨_, rfl, congrArg PV.bool (decide_eq_true (by simp [*])).symm⟩
    | exact ⟨_, rfl, congrArg PV.bool (decide_eq_false (by simp [*])).symm⟩
theorem symbol_fun (k s o l) : Fun C 38 [enc (.mk k s o l)] (.bool (special (.mk k s o l))) := by
  refine Fun.of (FnEv.bodyL Tryz.func38 rfl ?_)
  rw [enc_mk, special_eq]
  (repeat' (first | refine EvOps.nil ?_ | (apply R.gOn; exact rfl; exact rfl; exact rfl) | (apply R.gOff; exact rfl; exact rfl; exact rfl) | (apply R.gUn; exact rfl; exact rfl) | (apply R.move; exact rfl) | (apply R.assign; exact rfl) | (apply R.pickT; exact rfl; exact rfl) | (apply R.pickF; exact rfl; exact rfl) | (apply R.load1 T6; exact rfl; exact rfl; exact rfl; exact rfl) | (apply R.fieldAddr T6; exact rfl; exact rfl; exact rfl; exact rfl) | (apply R.cmp; exact rfl; exact rfl; exact rfl; all_goals intro hc) | (apply R.streq; exact rfl; exact rfl; all_goals intro hc) | (apply R.box; exact rfl; exact rfl; exact rfl; exact .nil) | refine Ev.seq ?_ | refine Ev.region ?_ | refine Ev.ret ?_ | refine thenQ.normal ?_ | (apply bodyQ.ret; exact rfl) | fail))
  all_goals try simp only [cMul_l, cInv_l, cOne_l] at *
  all_goals first
    | exact ⟨_, rfl, congrArg PV.bool (decide_eq_true (by simp [*])).symm⟩
    | exact ⟨_, rfl, congrArg PV.bool (decide_eq_false (by simp [*])).symm⟩

end Go.Pm
end

/-
  PM, PART 23: MORE RULES, 3: the newest object's fields; a cut. Conditions: none.
-/
section
set_option linter.unusedVariables false
set_option linter.unusedSimpArgs false
set_option linter.unusedVariables false
namespace Go.Pm
variable {C : Cfg} (T : Tab C.P)
variable {ops : Array Oper} {d : Nat} {ty : TypeId} {pos : String} {af : Array Edge} {r : List Oper} {ρ : Nat → PV} {L : List (Nat × PV)} {h : AHeap} {Q : St → Prop}

theorem R.load1No {t : TypeId} {x : Operand} {e c : PV} {cs : List PV} {n sz off : Nat} (hx : evL L x = some (.ptr h.length 0 0 off)) (hs : T.ts t = some sz) (ht : T.ta t = some false) (hc : (cells e).drop off = c :: cs)
    (k : EvOps C ops r ⟨al ((d, c) :: L) ρ, h ++ [⟨.m, 0, n, [e]⟩]⟩ Q) : EvOps C ops (⟨some d, .load t x, ty, pos, af, none⟩ :: r) ⟨al L ρ, h ++ [⟨.m, 0, n, [e]⟩]⟩ Q :=
  R.load1 T hx hs ht (pcNo.trans (by rw [hc])) k
theorem R.storeNo {t : TypeId} {a x : Operand} {e e' v : PV} {n sz off : Nat} (ha : evL L a = some (.ptr h.length 0 0 off)) (hx : evL L x = some v) (hs : T.ts t = some sz) (hl : (cells v).length = sz) (h1 : (cells v).all oneC = true) (hle : Nat.ble (off + sz) (cells e).length = true) (he : recell off sz e v = e')
    (k : EvOps C ops r ⟨al L ρ, h ++ [⟨.m, 0, n, [e']⟩]⟩ Q) : EvOps C ops (⟨none, .store t a x, ty, pos, af, none⟩ :: r) ⟨al L ρ, h ++ [⟨.m, 0, n, [e]⟩]⟩ Q := by
  refine R.storeH T (n := 0) (o := ⟨.m, 0, n, [e]⟩) (i := 0) (e := e) ha hx hs getM_new rfl rfl hl h1 (Nat.le_of_ble_eq_true hle) ?_
  have : (h ++ [(⟨.m, 0, n, [e]⟩ : AObj)]).set h.length ⟨.m, 0, n, [recell off sz e v]⟩ = h ++ [⟨.m, 0, n, [e']⟩] := by
    refine (List.set_append_right h.length _ (Nat.le_refl _)).trans ?_
    rw [he]; simp
  show EvOps C ops r ⟨al L ρ, (h ++ [(⟨.m, 0, n, [e]⟩ : AObj)]).set h.length ⟨.m, 0, n, [recell off sz e v]⟩⟩ Q
  rw [this]; exact k
theorem Ev.seqCut {a b : Code} {s : St} {Q : Ex → St → Prop} (M : St → Prop) (h1 : Ev C a s (fun ex s => ex = .normal ∧ M s)) (h2 : ∀ s, M s → Ev C b s Q) : Ev C (.seq a b) s Q := by
  refine Ev.seq ?_
  obtain ⟨ex, s', ⟨rfl, m⟩, n0, hn⟩ := h1
  exact ⟨.normal, s', h2 s' m, n0, hn⟩

theorem D.gOn {i : Nat} {x : DSt} {op : Op} {j d' : Nat} {want b : Bool} (hd : (ops.toList[j]?).bind (·.dst) = some d') (hx : x.s.ρ = al L ρ) (hb : lk L d' = some (.bool b)) (he : (b == want) = true) (k : EvD C ops i (⟨some d, op, ty, pos, af, none⟩ :: r) x Q) :
    EvD C ops i (⟨some d, op, ty, pos, af, some (j, want)⟩ :: r) x Q := by
  obtain ⟨y, q, n0, hn⟩ := k
  refine ⟨y, q, n0, fun n h1 => ?_⟩
  rw [← hn n h1]
  simp only [evalOpsD, opStepD, wantedA, hd, hx, lk_al hb, he]
theorem EvD.off {i L0 : Nat} {own : List Nat} {op : Op} {g : Option (Nat × Bool)} (hw : wantedA ops ⟨some d, op, ty, pos, af, g⟩ (al L ρ) = some false) (k : EvD C ops (i + 1) r ⟨⟨al ((d, .undef) :: L) ρ, h⟩, L0, own⟩ Q) :
    EvD C ops i (⟨some d, op, ty, pos, af, g⟩ :: r) ⟨⟨al L ρ, h⟩, L0, own⟩ Q := by
  refine EvD.step ⟨0, fun n _ => ?_⟩ k
  simp only [opStepD, hw, al_cons]
theorem D.gOff {i L0 : Nat} {own : List Nat} {op : Op} {j d' : Nat} {want b : Bool} (hd : (ops.toList[j]?).bind (·.dst) = some d') (hb : lk L d' = some (.bool b)) (he : (b == want) = false) (k : EvD C ops (i + 1) r ⟨⟨al ((d, .undef) :: L) ρ, h⟩, L0, own⟩ Q) :
    EvD C ops i (⟨some d, op, ty, pos, af, some (j, want)⟩ :: r) ⟨⟨al L ρ, h⟩, L0, own⟩ Q := EvD.off (by simp only [wantedA, hd, lk_al hb, he]) k
theorem D.gUn {i L0 : Nat} {own : List Nat} {op : Op} {j d' : Nat} {want : Bool} (hd : (ops.toList[j]?).bind (·.dst) = some d') (hb : lk L d' = some .undef) (k : EvD C ops (i + 1) r ⟨⟨al ((d, .undef) :: L) ρ, h⟩, L0, own⟩ Q) :
    EvD C ops i (⟨some d, op, ty, pos, af, some (j, want)⟩ :: r) ⟨⟨al L ρ, h⟩, L0, own⟩ Q := EvD.off (by simp only [wantedA, hd, lk_al hb]) k
theorem D.pickT {i L0 : Nat} {own : List Nat} {c x y : Operand} {v : PV} (hc : evL L c = some (.bool true)) (hx : evL L x = some v) (k : EvD C ops (i + 1) r ⟨⟨al ((d, v) :: L) ρ, h⟩, L0, own⟩ Q) : EvD C ops i (⟨some d, .pick c x y, ty, pos, af, none⟩ :: r) ⟨⟨al L ρ, h⟩, L0, own⟩ Q :=
  EvD.plain (h' := h) rfl (fun run => by simp only [opVal, stepOp, evL_ev hc, evL_ev hx, if_true]) k
theorem D.pickF {i L0 : Nat} {own : List Nat} {c x y : Operand} {v : PV} (hc : evL L c = some (.bool false)) (hx : evL L y = some v) (k : EvD C ops (i + 1) r ⟨⟨al ((d, v) :: L) ρ, h⟩, L0, own⟩ Q) : EvD C ops i (⟨some d, .pick c x y, ty, pos, af, none⟩ :: r) ⟨⟨al L ρ, h⟩, L0, own⟩ Q :=
  EvD.plain (h' := h) rfl (fun run => by simp only [opVal, stepOp, evL_ev hc, evL_ev hx, Bool.false_eq_true, if_false]) k
theorem D.not {i L0 : Nat} {own : List Nat} {t : TypeId} {x : Operand} {b b' : Bool} (hx : evL L x = some (.bool b)) (hb : (!b) = b') (k : EvD C ops (i + 1) r ⟨⟨al ((d, (.bool b')) :: L) ρ, h⟩, L0, own⟩ Q) : EvD C ops i (⟨some d, .unOp .not t x, ty, pos, af, none⟩ :: r) ⟨⟨al L ρ, h⟩, L0, own⟩ Q :=
  EvD.plain (h' := h) rfl (fun run => by simp [opVal, stepOp, evL_ev hx, unP, hb]) k
theorem D.extract {i L0 : Nat} {own : List Nat} {x : Operand} {n : Nat} {vs : List PV} {v : PV} (hx : evL L x = some (.tup vs)) (hv : vs[n]? = some v) (k : EvD C ops (i + 1) r ⟨⟨al ((d, v) :: L) ρ, h⟩, L0, own⟩ Q) : EvD C ops i (⟨some d, .extract x n, ty, pos, af, none⟩ :: r) ⟨⟨al L ρ, h⟩, L0, own⟩ Q :=
  EvD.plain (h' := h) rfl (fun run => by simp [opVal, stepOp, evL_ev hx, hv]) k
theorem D.arith {i L0 : Nat} {own : List Nat} {bop : BinOp} {t yt : TypeId} {x y : Operand} {k : IntKind} {a b c c' : Int} (hx : evL L x = some (.int k a)) (hy : evL L y = some (.int k b)) (hp : Pm.arith bop a b = some c) (hw : k.wrap c = c') (kk : EvD C ops (i + 1) r ⟨⟨al ((d, (.int k c')) :: L) ρ, h⟩, L0, own⟩ Q) :
    EvD C ops i (⟨some d, .binOp bop t x y yt, ty, pos, af, none⟩ :: r) ⟨⟨al L ρ, h⟩, L0, own⟩ Q := by
  refine EvD.plain (h' := h) rfl (fun run => ?_) kk
  simp only [opVal, stepOp, evL_ev hx, evL_ev hy]
  cases bop <;> simp only [Pm.arith, Option.some.injEq, reduceCtorEq] at hp <;> subst hp <;> simp [binP, intOp, hw]
theorem D.cmp {i L0 : Nat} {own : List Nat} {bop : BinOp} {t yt : TypeId} {x y : Operand} {k : IntKind} {a b : Int} {p : Prop} (hx : evL L x = some (.int k a)) (hy : evL L y = some (.int k b)) (hp : cmpI bop a b = some p)
    (k1 : p → EvD C ops (i + 1) r ⟨⟨al ((d, (.bool true)) :: L) ρ, h⟩, L0, own⟩ Q) (k2 : ¬ p → EvD C ops (i + 1) r ⟨⟨al ((d, (.bool false)) :: L) ρ, h⟩, L0, own⟩ Q) : EvD C ops i (⟨some d, .binOp bop t x y yt, ty, pos, af, none⟩ :: r) ⟨⟨al L ρ, h⟩, L0, own⟩ Q := by
  by_cases hpp : p
  · refine EvD.plain (h' := h) rfl (fun run => ?_) (k1 hpp)
    simp only [opVal, stepOp, evL_ev hx, evL_ev hy]
    cases bop <;> simp only [cmpI, Option.some.injEq, reduceCtorEq] at hp <;> subst hp <;> simp [binP, intOp, hpp]
  · refine EvD.plain (h' := h) rfl (fun run => ?_) (k2 hpp)
    simp only [opVal, stepOp, evL_ev hx, evL_ev hy]
    cases bop <;> simp only [cmpI, Option.some.injEq, reduceCtorEq] at hp <;> subst hp <;> simp [binP, intOp, hpp] <;> omega
theorem OutA.rb {sz : Nat} {A J : AHeap} {v : PV} {es : List PV} (o : OutA sz A J v es) (hv : isVals es = true) : ∃ r1, rb (A ++ J) v = some r1 ∧ nrm r1 = .snap false (nrms es) := by
  rcases o with ⟨rfl, rfl⟩ | ⟨id, ep, rfl, e2⟩
  · exact ⟨_, rfl, rfl⟩
  · refine ⟨.snap false es, ?_, by simp [nrm]⟩
    have : (A ++ J)[A.length + id]? = some ⟨.m, ep, sz, es⟩ := by rw [List.getElem?_append_right (by omega), show A.length + id - A.length = id by omega]; exact e2
    simp [Pm.rb, rbA, rb1, getM, this, hv]

end Go.Pm
end

/-
  CHAPTER 6, PART 12: the program's Compare. Conditions: none.
-/
section
set_option linter.unusedVariables false
set_option linter.unusedSimpArgs false
set_option linter.unusedVariables false
set_option linter.unusedSimpArgs false
set_option maxRecDepth 4000
set_option maxHeartbeats 4000000
namespace Go.Pm
open Go.Proofs
attribute [local irreducible] thenQ blockQ loopQ bodyQ Ev EvOps CallEv FnEv EvD

theorem cmpstr_fun (a b : ByteArray) : Fun C 108 [.str a, .str b] (.int .i64 (cmpS a b)) := by
  have e : cmpS a b = Lib.compareBytes a.data.toList b.data.toList := by unfold cmpS cmpBs; rw [ByteArray.toList_eq, ByteArray.toList_eq]
  rw [e]
  refine Fun.of (FnEv.bodyL Tryz.func108 rfl ?_)
  (repeat' (first | refine EvOps.nil ?_ | (apply R.move; exact rfl) | (apply R.assign; exact rfl) | refine Ev.seq ?_ | refine Ev.region ?_ | refine thenQ.normal ?_ | fail))
  refine R.call rfl rfl (CallEv.ext rfl rfl rfl ?_)
  (repeat' (first | refine EvOps.nil ?_ | (apply R.assign; exact rfl) | refine Ev.ret ?_ | refine thenQ.normal ?_ | (apply bodyQ.ret; exact rfl) | fail))
  exact ⟨_, rfl, rfl⟩
theorem scmp_fun (a b : ByteArray) : Fun C 80 [.str a, .str b] (.int .i64 (cmpS a b)) := by
  refine Fun.of (FnEv.bodyL Tryz.func80 rfl ?_)
  (repeat' (first | refine EvOps.nil ?_ | (apply R.move; exact rfl) | (apply R.assign; exact rfl) | refine Ev.seq ?_ | refine Ev.region ?_ | refine thenQ.normal ?_ | fail))
  refine R.call rfl rfl (CallEv.pure rfl rfl (cmpstr_fun a b) ?_)
  (repeat' (first | refine EvOps.nil ?_ | (apply R.assign; exact rfl) | refine Ev.ret ?_ | refine thenQ.normal ?_ | (apply bodyQ.ret; exact rfl) | fail))
  exact ⟨_, rfl, rfl⟩

theorem tcmp_ev (k s o l k' s' o' l') (hb : bulk (.mk k s o l) < 1000000000) (hb' : bulk (.mk k' s' o' l') < 1000000000)
    (ih : ∀ t ∈ l, ∀ t' ∈ l', Fun C 40 [enc t, enc t'] (.int .i64 (cmpT t t'))) : Fun C 40 [enc (.mk k s o l), enc (.mk k' s' o' l')] (.int .i64 (cmpT (.mk k s o l) (.mk k' s' o' l'))) := by
  refine Fun.of (FnEv.bodyL Tryz.func40 rfl ?_)
  have hlex := cmpT_lex k s o l k' s' o' l'
  have z1 := tsize_fun _ hb
  have z2 := tsize_fun _ hb'
  rw [enc_mk] at z1 z2
  rw [enc_mk, enc_mk]
  generalize cmpT (.mk k s o l) (.mk k' s' o' l') = R0 at hlex ⊢
  have e1 := encs_len l
  have e2 := encs_len l'
  have b1 : l.length < 1000000000 := by have := len_bulks l; simp only [bulk] at hb; omega
  have b2 : l'.length < 1000000000 := by have := len_bulks l'; simp only [bulk] at hb'; omega
  have hll : cmpN (encs l).length (encs l').length = 0 → l.length = l'.length := fun h => by have := cmpN_zero h; omega
  rw [← e1, ← e2] at hlex
  (repeat' (first | refine EvOps.nil ?_ | (apply R.assign; exact rfl) | (apply R.box; exact rfl; exact rfl; exact rfl; exact .nil) | (apply R.box; exact rfl; exact rfl; exact rfl; exact (.cons .nil)) | refine Ev.seq ?_ | refine Ev.region ?_ | refine Ev.regionD ?_ | (apply D.loadA T6; exact (by first | exact rfl | assumption); exact rfl; exact rfl; exact rfl; exact rfl; exact rfl; exact (by repeat constructor)) | refine thenQ.normal ?_ | fail))
  refine D.callP rfl rfl rfl rfl (by simp [isVals, isVal]) rfl rfl (by simpa [nrms, nrm, nrms_encs] using z1) ?_
  (repeat' (first | (apply D.loadA T6; exact (by first | exact rfl | assumption); exact rfl; exact rfl; exact rfl; exact rfl; exact rfl; exact (by repeat constructor)) | fail))
  refine D.callP rfl rfl rfl rfl (by simp [isVals, isVal]) rfl rfl (by simpa [nrms, nrm, nrms_encs] using z2) ?_
  refine D.callP rfl rfl rfl rfl rfl rfl rfl (sign_fun _ _) ?_
  generalize cmpN (size (.mk k s o l)) (size (.mk k' s' o' l')) = X1 at hlex ⊢
  (repeat' (first | refine EvOps.nil ?_ | (apply R.move; exact rfl) | (apply R.assign; exact rfl) | (apply R.load1 T6; exact rfl; exact rfl; exact rfl; exact rfl) | (apply R.fieldAddr T6; exact rfl; exact rfl; exact rfl; exact rfl) | (apply R.cmp; exact rfl; exact rfl; exact rfl; all_goals intro hc; all_goals (try (exfalso; omega))) | refine Ev.seq ?_ | refine Ev.region ?_ | refine EvD.nil ?_ | (apply D.assign; exact rfl) | (apply Ev.condB; exact rfl) | refine Ev.skip ?_ | refine Ev.block ?_ | refine thenQ.normal ?_ | fail))
  all_goals try (refine R.call rfl rfl (CallEv.pure rfl rfl (sign_fun k k') ?_); generalize cmpN k k' = X2 at hlex ⊢; (repeat' (first | refine EvOps.nil ?_ | (apply R.move; exact rfl) | (apply R.assign; exact rfl) | (apply R.load1 T6; exact rfl; exact rfl; exact rfl; exact rfl) | (apply R.fieldAddr T6; exact rfl; exact rfl; exact rfl; exact rfl) | (apply R.cmp; exact rfl; exact rfl; exact rfl; all_goals intro hc; all_goals (try (exfalso; omega))) | refine Ev.seq ?_ | refine Ev.region ?_ | (apply Ev.condB; exact rfl) | refine Ev.skip ?_ | refine Ev.block ?_ | refine thenQ.normal ?_ | fail)))
  all_goals try (refine R.call rfl rfl (CallEv.pure rfl rfl (scmp_fun s s') ?_); generalize cmpS s s' = X3 at hlex ⊢; (repeat' (first | refine EvOps.nil ?_ | (apply R.move; exact rfl) | (apply R.assign; exact rfl) | (apply R.load1 T6; exact rfl; exact rfl; exact rfl; exact rfl) | (apply R.fieldAddr T6; exact rfl; exact rfl; exact rfl; exact rfl) | (apply R.cmp; exact rfl; exact rfl; exact rfl; all_goals intro hc; all_goals (try (exfalso; omega))) | refine Ev.seq ?_ | refine Ev.region ?_ | (apply Ev.condB; exact rfl) | refine Ev.skip ?_ | refine Ev.block ?_ | refine thenQ.normal ?_ | fail)))
  all_goals try (refine R.call rfl rfl (CallEv.pure rfl rfl (sign_fun o o') ?_); generalize cmpN o o' = X4 at hlex ⊢; (repeat' (first | refine EvOps.nil ?_ | (apply R.move; exact rfl) | (apply R.assign; exact rfl) | (apply R.load1 T6; exact rfl; exact rfl; exact rfl; exact rfl) | (apply R.fieldAddr T6; exact rfl; exact rfl; exact rfl; exact rfl) | (apply R.cmp; exact rfl; exact rfl; exact rfl; all_goals intro hc; all_goals (try (exfalso; omega))) | (apply R.lenS T6; exact rfl; exact rfl) | refine Ev.seq ?_ | refine Ev.region ?_ | (apply Ev.condB; exact rfl) | refine Ev.skip ?_ | refine Ev.block ?_ | refine thenQ.normal ?_ | fail)))
  all_goals try (refine R.call rfl rfl (CallEv.pure rfl rfl (sign_fun (encs l).length (encs l').length) ?_); generalize cmpN (encs l).length (encs l').length = X5 at hlex hll ⊢; (repeat' (first | refine EvOps.nil ?_ | (apply R.assign; exact rfl) | refine Ev.seq ?_ | refine Ev.region ?_ | refine Ev.block ?_ | refine thenQ.normal ?_ | fail)))
  all_goals (
    refine Ev.loop (I := fun k'' st => ∃ (i : Nat) (c : Int) (ρ' : Nat → PV), st = ⟨al [(2, .ptr 0 0 0 0), (3, .ptr 1 0 0 0), (5, .int .i64 c), (6, .int .i64 i)] ρ', [⟨.m, 0, 4, [.agg [.int .i64 k, .str s, .int .i64 o, .snap false (encs l)]]⟩, ⟨.m, 0, 4, [.agg [.int .i64 k', .str s', .int .i64 o', .snap false (encs l')]]⟩]⟩ ∧ k'' + i = l.length ∧ R0 = lexI c (cmps (l.drop i) (l'.drop i)) ∧ (c = 0 → l.length = l'.length)) l.length ?_ ?_
    · refine ⟨0, _, _, St.keep ⟨rfl, rfl, rfl, rfl, trivial⟩, rfl, ?_, ?_⟩
      · rw [hlex]; unfold lexI; simp only [List.drop_zero]; (repeat' split) <;> first | rfl | omega
      · first | exact hll | (intro h; exfalso; omega)
    · clear hlex hll
      rintro k'' _ ⟨i, c, ρ', rfl, hk, hb2, hll⟩
      (repeat' (first | refine EvOps.nil ?_ | (apply R.gOn; exact rfl; exact rfl; exact rfl) | (apply R.gOff; exact rfl; exact rfl; exact rfl) | (apply R.move; exact rfl) | (apply R.assign; exact rfl) | (apply R.pickT; exact rfl; exact rfl) | (apply R.pickF; exact rfl; exact rfl) | (apply R.load1 T6; exact rfl; exact rfl; exact rfl; exact rfl) | (apply R.fieldAddr T6; exact rfl; exact rfl; exact rfl; exact rfl) | (apply R.cmp; exact rfl; exact rfl; exact rfl; all_goals intro hc; all_goals (try (exfalso; omega))) | (apply R.lenS T6; exact rfl; exact rfl) | refine Ev.seq ?_ | refine Ev.region ?_ | refine Ev.regionD ?_ | (apply D.move; exact rfl) | (apply D.fieldAddr T6; exact rfl; exact rfl; exact rfl; exact rfl) | (apply D.load1 T6; exact (by first | exact rfl | assumption); exact rfl; exact rfl; exact rfl; exact rfl; exact rfl) | (apply Ev.condB; exact rfl) | refine Ev.ret ?_ | refine Ev.skip ?_ | refine Ev.exit ?_ | refine Ev.block ?_ | refine thenQ.normal ?_ | refine thenQ.exit ?_ | refine blockQ.hit ?_ | refine loopQ.exit ?_ | (apply bodyQ.ret; exact rfl) | fail))
      · have hll := hll (by assumption)
        obtain ⟨k1, s1, o1, l1, hmem, hat, hd, hil, _⟩ := encs_at' hc
        obtain ⟨k2, s2, o2, l2, hmem', hat', hd', hil', _⟩ := encs_at' (l := l') (i := i) (by omega)
        have hih := ih _ hmem _ hmem'
        rw [enc_mk, enc_mk] at hih
        refine D.indexS T6 rfl rfl rfl rfl rfl hat rfl rfl ?_
        (repeat' (first | (apply D.move; exact rfl) | (apply D.fieldAddr T6; exact rfl; exact rfl; exact rfl; exact rfl) | (apply D.load1 T6; exact (by first | exact rfl | assumption); exact rfl; exact rfl; exact rfl; exact rfl; exact rfl) | (apply D.loadA T6; exact (by first | exact rfl | assumption); exact rfl; exact rfl; exact rfl; exact rfl; exact rfl; exact (by repeat constructor)) | fail))
        refine D.indexS T6 rfl rfl rfl rfl rfl hat' rfl rfl ?_
        (repeat' (first | (apply D.loadA T6; exact (by first | exact rfl | assumption); exact rfl; exact rfl; exact rfl; exact rfl; exact rfl; exact (by repeat constructor)) | fail))
        refine D.callP rfl rfl rfl rfl (by simp [isVals, isVal]) rfl rfl (by simpa [nrms, nrm, nrms_encs] using hih) ?_
        (repeat' (first | refine EvOps.nil ?_ | (apply R.move; exact rfl) | (apply R.assign; exact rfl) | (apply R.arith; exact rfl; exact rfl; exact rfl; exact (wrapI (by omega) (by omega))) | refine Ev.region ?_ | refine EvD.nil ?_ | (apply D.assign; exact rfl) | refine thenQ.normal ?_ | refine blockQ.normal ?_ | refine loopQ.normal ?_ | fail))
        refine ⟨k'' - 1, by omega, i + 1, _, _, St.keep ⟨rfl, rfl, rfl, rfl, trivial⟩, by omega, ?_, fun _ => hll⟩
        have hc0 : c = 0 := by assumption
        rw [hb2, hc0, hd, hd', cmps_lex]; rfl
      · refine ⟨_, rfl, congrArg (PV.int .i64) ?_⟩
        have hc0 : c = 0 := by assumption
        rw [hb2, hc0, encs_end hc, cmps]; rfl
      · refine ⟨_, rfl, congrArg (PV.int .i64) ?_⟩
        rw [hb2, lexI, if_pos (by assumption)])

theorem tcmp_fun (t t' : Tm) (hb : bulk t < 1000000000) (hb' : bulk t' < 1000000000) : Fun C 40 [enc t, enc t'] (.int .i64 (cmpT t t')) := by
  induction t using Tm.ind generalizing t' with
  | h k s o l ih =>
    obtain ⟨k', s', o', l'⟩ := t'
    refine tcmp_ev k s o l k' s' o' l' hb hb' (fun t ht t' ht' => ih t ht t' ?_ ?_)
    · have := bulk_mem ht; simp only [bulk] at hb; omega
    · have := bulk_mem ht'; simp only [bulk] at hb'; omega

end Go.Pm
end

/-
  CHAPTER 6, PART 8: the reference: arity, add, collect, Of, Same. Conditions: none.
-/
section
set_option linter.unusedVariables false
set_option linter.unusedSimpArgs false
set_option linter.unusedVariables false
set_option linter.unusedSimpArgs false
set_option maxRecDepth 4000
set_option maxHeartbeats 4000000
namespace Go.Pm
open Go.Proofs
attribute [local irreducible] thenQ blockQ loopQ bodyQ Ev EvOps CallEv FnEv EvD

theorem names {k s o l} (h : special (.mk k s o l) = true) : k = 3 ∧
    ((s.toList = (ByteArray.mk #[109, 117, 108]).toList ∧ ¬ s.toList = (ByteArray.mk #[105, 110, 118]).toList ∧ ¬ s.toList = (ByteArray.mk #[111, 110, 101]).toList) ∨
     (¬ s.toList = (ByteArray.mk #[109, 117, 108]).toList ∧ s.toList = (ByteArray.mk #[105, 110, 118]).toList ∧ ¬ s.toList = (ByteArray.mk #[111, 110, 101]).toList) ∨
     (¬ s.toList = (ByteArray.mk #[109, 117, 108]).toList ∧ ¬ s.toList = (ByteArray.mk #[105, 110, 118]).toList ∧ s.toList = (ByteArray.mk #[111, 110, 101]).toList)) := by
  rw [special_eq] at h
  obtain ⟨h1, h2⟩ := of_decide_eq_true h
  refine ⟨h1, ?_⟩
  rw [cMul_l, cInv_l, cOne_l]
  rcases h2 with h2 | h2 | h2 <;> rw [h2] <;> decide

end Go.Pm
end
