/-
  A part of the library Pm and its contracts (joined by program): PmRead PmRead2 PmLink0 PmInv PmMulM PmMulW PmRMul PmChrR PmChrR2 PmMade PmAll PmLink1. Conditions: none.
-/
import Derived.Test.YtejhjciockgicaaGreatPzAI
import Derived.Test.YtejhjciockgicaaGreatRows
import Derived.WalkKit
import Derived.ProofKit
import Derived.Deep.Slices
import Derived.ChangeArms
import Derived.OpenShut
import Derived.JoinedCond
import Derived.WideKeyArgs
import Derived.Test.YtejhjciockgicaaGreatPzAE
import Derived.Test.YtejhjciockgicaaGreatPzAH
/-
  CHAPTER 6, PART 24: what the reading of a term says of its value. Conditions: none.
-/
section
set_option linter.unusedVariables false
set_option linter.unusedSimpArgs false
set_option linter.unusedVariables false
set_option linter.unusedSimpArgs false
set_option maxRecDepth 100000
set_option maxHeartbeats 2000000
namespace Go.Pm
open Go.Proofs

theorem co3 : C.P.cellsOf 3 = 1 := by kernel_rfl
theorem co9 : C.P.cellsOf 9 = 1 := by kernel_rfl
theorem co22 : C.P.cellsOf 51 = 1 := by kernel_rfl
theorem co24 : C.P.cellsOf 53 = 4 := by kernel_rfl
theorem un24f : ∃ fs, C.P.underlying 53 = some (.struct fs) ∧ fs.toList.map (fun f => (f.offset, f.type)) = [(0, 3), (1, 9), (2, 3), (3, 51)] := kd_st (T6.hkd 53 _ rfl)

instance : Inhabited Tm := ⟨zeroT⟩
/-- no block is forbidden -/
def NoB : Nat → Prop := fun _ => False

theorem plain_addr {w : World} {a : Addr} {v : Value} (h : w.cell? a = some v) : ∃ b off, a = ⟨b, off, none⟩ := by
  obtain ⟨b, off, sp⟩ := a
  cases sp with
  | none => exact ⟨b, off, rfl⟩
  | some s =>
    exfalso
    unfold World.cell? at h
    split at h
    · simp at h
    · cases h
theorem add0 (a : Addr) : a.add 0 = a := by obtain ⟨b, off, sp⟩ := a; simp [Addr.add]

theorem SRel.cells4 {w : World} {A : Nat → Prop} {cs : List Value} {t : Tm} (h : SRel w A (.agg cs.toArray) (enc t)) : cs.length = 4 ∧ (Pm.cells (enc t)).length = 4 ∧ ∀ j, j < 4 → SRel w A (cs.getD j undef) ((Pm.cells (enc t)).getD j .any) := by
  obtain ⟨k, s, o, l⟩ := t
  rw [enc_mk] at h ⊢
  generalize hv : (Value.agg cs.toArray) = v at h
  cases h with
  | agg vs _ hl hh =>
    have : vs = cs := by simpa using (Value.agg.inj hv).symm
    subst this
    exact ⟨hl, rfl, hh⟩

theorem bulks_fn (T : Nat → Tm) (D : Nat → Nat) (hD : ∀ i, bulk (T i) ≤ D i) : ∀ l : List Nat, bulks (l.map T) ≤ (l.map D).sum
  | [] => by simp [bulks]
  | i :: l => by have h1 := hD i; have h2 := bulks_fn T D hD l; simp only [List.map_cons, bulks, List.sum_cons]; omega

open Go.Proofs.YtejhjciockgicaaGreat in
theorem bulks_upto {H : Type} : ∀ (l : List Tm) (ds : List (DataW H)), l.length = ds.length → (∀ (i : Nat) (t : Tm) (d : DataW H), l[i]? = some t → ds[i]? = some d → bulk t ≤ Rows.uptoBulk d) → bulks l ≤ Rows.uptoBulkAll ds
  | [], _, _, _ => by simp [bulks]
  | t :: l, [], h, _ => by simp at h
  | t :: l, d :: ds, h, hb => by
    have h1 := hb 0 t d rfl rfl
    have h2 := bulks_upto l ds (by simpa using h) (fun i t' d' e1 e2 => hb (i + 1) t' d' (by simpa using e1) (by simpa using e2))
    simp only [bulks, Rows.uptoBulkAll]; omega

open Go.Proofs.YtejhjciockgicaaGreat in
theorem read_tm {H : Type} {ec : TypeId × Value → H} {w : World} {sp : Nat → Bool} {held : Bool} : ∀ (n : Nat) (cs : List Value) (x : DataW H × List MemPlace), DataW.trod ec C.P w 0 sp held n 53 cs = some x →
    ∃ t : Tm, SRel w NoB (.agg cs.toArray) (enc t) ∧ bulk t ≤ Rows.uptoBulk x.1 := by
  intro n
  induction n using Nat.strongRecOn with
  | ind n ih =>
    intro cs x h
    obtain ⟨fs, hu, hfs⟩ := un24f
    obtain ⟨xs, m, rfl, rfl, hlen, hxl, hf⟩ := DataW.trod_struct hu h
    rw [co24] at hlen
    have hsz : fs.size = 4 := by have := congrArg List.length hfs; simpa using this
    rw [hsz] at hxl
    have fld : ∀ i : Nat, ∀ a b, [(0, 3), (1, 9), (2, 3), (3, 51)][i]? = some (a, b) → ∃ f, fs[i]? = some f ∧ f.offset = a ∧ f.type = b := by
      intro i a b hi
      rw [← hfs, List.getElem?_map] at hi
      have : fs[i]? = fs.toList[i]? := by simp
      rw [this]
      cases hh : fs.toList[i]? with
      | none => rw [hh] at hi; cases hi
      | some f =>
        rw [hh] at hi
        simp only [Option.map_some, Option.some.injEq, Prod.mk.injEq] at hi
        exact ⟨f, rfl, hi.1, hi.2⟩
    match cs, hlen, xs, hxl with
    | [c0, c1, c2, c3], _, [x0, x1, x2, x3], _ =>
      obtain ⟨f0, g0, a0, b0⟩ := fld 0 0 3 rfl
      obtain ⟨f1, g1, a1, b1⟩ := fld 1 1 9 rfl
      obtain ⟨f2, g2, a2, b2⟩ := fld 2 2 3 rfl
      obtain ⟨f3, g3, a3, b3⟩ := fld 3 3 51 rfl
      have h0 := hf 0 f0 g0
      have h1 := hf 1 f1 g1
      have h2 := hf 2 f2 g2
      have h3 := hf 3 f3 g3
      rw [a0, b0, co3] at h0
      rw [a1, b1, co9] at h1
      rw [a2, b2, co3] at h2
      rw [a3, b3, co22] at h3
      simp only [List.drop_zero, List.take_succ_cons, List.take_zero, List.drop_succ_cons, List.getElem?_cons_zero, List.getElem?_cons_succ] at h0 h1 h2 h3
      obtain ⟨k, e0, e0', _⟩ := DataW.trod_int (kd_int (T6.hkd 3 _ rfl)) h0
      obtain ⟨s, e1, e1', _⟩ := DataW.trod_string (kd_str (T6.hkd 9 _ rfl)) h1
      obtain ⟨o, e2, e2', _⟩ := DataW.trod_int (kd_int (T6.hkd 3 _ rfl)) h2
      obtain rfl : c0 = .int .i64 k := by simpa using e0
      obtain rfl : c1 = .string s := by simpa using e1
      obtain rfl : c2 = .int .i64 o := by simpa using e2
      subst e0' e1' e2'
      have fin : ∀ (l : List Tm), SRel w NoB c3 (.snap false (encs l)) → bulks l + 1 ≤ Rows.uptoBulk x3.1 → ∃ t : Tm, SRel w NoB (.agg [.int .i64 k, .string s, .int .i64 o, c3].toArray) (enc t) ∧
          bulk t ≤ Rows.uptoBulk (.agg ([((.lit (.int .i64 k), []) : DataW H × List MemPlace), (.lit (.string s.data.toList), []), (.lit (.int .i64 o), []), x3].map (·.1))) := by
        intro l hl hb
        refine ⟨.mk k s o l, ?_, ?_⟩
        · rw [enc_mk]
          refine .agg _ _ rfl (fun j hj => ?_)
          match j, hj with
          | 0, _ => exact .int _ _
          | 1, _ => exact .str _
          | 2, _ => exact .int _ _
          | 3, _ => exact hl
        · have hs : s.data.toList.length = s.size := Array.length_toList
          simp only [List.map_cons, List.map_nil, Rows.uptoBulk, Rows.uptoBulkAll, bulk, hs]
          omega
      rcases DataW.trod_slice (kd_sl (T6.hkd 51 _ rfl)) h3 with ⟨e3, rfl⟩ | ⟨a, len, cap, elems, rest, n2, hn2, e3, rfl, hb, hle, hcap, hlen2, hel, _, _⟩
      · obtain rfl : c3 = .slice none 0 0 := by simpa using e3
        exact fin [] (.snapE none 0 false (fun h => by cases h)) (by simp [bulks, Rows.uptoBulk])
      · obtain rfl : c3 = .slice (some a) len cap := by simpa using e3
        rw [co24] at hel
        have each : ∀ i, i < len → ∃ q : List Value × Tm, w.cells? 0 (a.add (i * 4)) 4 = some q.1 ∧ SRel w NoB (.agg q.1.toArray) (enc q.2) ∧ ∀ y, elems[i]? = some y → bulk q.2 ≤ Rows.uptoBulk y.1 := by
          intro i hi
          have h1 := hel i hi
          obtain ⟨y, hy⟩ : ∃ y, elems[i]? = some y := ⟨elems[i], List.getElem?_eq_getElem (by omega)⟩
          rw [hy] at h1
          cases hc : w.cells? 0 (a.add (i * 4)) 4 with
          | none => rw [hc] at h1; cases h1
          | some cs' =>
            rw [hc] at h1
            obtain ⟨t, t1, t2⟩ := ih n2 (by omega) cs' y h1
            exact ⟨(cs', t), rfl, t1, fun y' hy' => by rw [hy] at hy'; obtain rfl := Option.some.inj hy'; exact t2⟩
        obtain ⟨q, hq⟩ := Deep.choose_lt each
        have hl1 : ((List.range len).map fun i => (q i).2).length = len := by simp
        have hget : ∀ i, i < len → ((List.range len).map fun i => (q i).2)[i]? = some (q i).2 := fun i hi => by rw [List.getElem?_map, List.getElem?_range hi]; rfl
        refine fin ((List.range len).map fun i => (q i).2) ?_ ?_
        · by_cases h0 : len = 0
          · subst h0
            exact .snapE (some a) cap false (fun h => by cases h)
          · have h00 := (hq 0 (by omega)).1
            obtain ⟨_, hcl, hcc⟩ := World.cells?_some h00
            have hc0 := hcc 0 (by omega)
            rw [Nat.zero_mul, add0, add0] at hc0
            obtain ⟨v0, hv0⟩ : ∃ v, (q 0).1[0]? = some v := ⟨(q 0).1[0], List.getElem?_eq_getElem (by omega)⟩
            rw [hv0] at hc0
            obtain ⟨b, off, rfl⟩ := plain_addr hc0
            have hes : (encs ((List.range len).map fun i => (q i).2)).length = len := by rw [encs_len, hl1]
            have hgd : ∀ i, i < len → (encs ((List.range len).map fun i => (q i).2)).getD i .any = enc (q i).2 := fun i hi => by
              rw [encs_eq, List.getD, List.getElem?_map, hget i hi]; rfl
            have key : SRel w NoB (.slice (some ⟨b, off, none⟩) (encs ((List.range len).map fun i => (q i).2)).length cap) (.snap false (encs ((List.range len).map fun i => (q i).2))) := by
              refine .snap b off cap 4 false _ (fun i j => (q i).1.getD j undef) (fun h => ?_) (by omega) (fun h => by cases h) (fun h => h) (by omega) (fun i hi => ?_) (fun i j hi hj => ?_) (fun i j hi hj => ?_)
              · rw [h] at hes; simp at hes; omega
              · rw [hgd i (by omega)]; exact (hq i (by omega)).2.1.cells4.2.1
              · obtain ⟨_, hcl, hcc⟩ := World.cells?_some (hq i (by omega)).1
                have := hcc j hj
                rw [addr_add, addr_add] at this
                rw [show off + (i * 4 + j) = off + i * 4 + j by omega, this, List.getElem?_eq_getElem (by omega)]
                simp [List.getD, List.getElem?_eq_getElem (show j < (q i).1.length by omega)]
              · rw [hgd i (by omega)]; exact (hq i (by omega)).2.1.cells4.2.2 j hj
            rw [hes] at key
            exact key
        · have := bulks_upto ((List.range len).map fun i => (q i).2) (elems.map (·.1)) (by simp [hlen2]) (fun i t d e1 e2 => by
            have hi : i < len := by have := lt_of_some e1; rwa [hl1] at this
            rw [hget i hi] at e1
            obtain rfl := Option.some.inj e1
            rw [List.getElem?_map] at e2
            cases hy : elems[i]? with
            | none => rw [hy] at e2; cases e2
            | some y =>
              rw [hy] at e2
              obtain rfl := Option.some.inj e2
              exact (hq i hi).2.2 y hy)
          simp only [Rows.uptoBulk]
          omega

end Go.Pm
end

/-
  CHAPTER 6, PART 31: what the reading of a slice says of its value; products. Conditions: none.
-/
section
set_option linter.unusedVariables false
set_option linter.unusedSimpArgs false
set_option linter.unusedVariables false
set_option linter.unusedSimpArgs false
set_option maxRecDepth 100000
set_option maxHeartbeats 2000000
namespace Go.Pm
open Go.Proofs
open Go.Proofs.YtejhjciockgicaaGreat in
theorem sum_upto {H E : Type} (B : E → Nat) : ∀ (l : List E) (ds : List (DataW H)), l.length = ds.length → (∀ (i : Nat) (t : E) (d : DataW H), l[i]? = some t → ds[i]? = some d → B t ≤ Rows.uptoBulk d) → (l.map B).sum ≤ Rows.uptoBulkAll ds
  | [], _, _, _ => by simp
  | t :: l, [], h, _ => by simp at h
  | t :: l, d :: ds, h, hb => by
    have h1 := hb 0 t d rfl rfl
    have h2 := sum_upto B l ds (by simpa using h) (fun i t' d' e1 e2 => hb (i + 1) t' d' (by simpa using e1) (by simpa using e2))
    simp only [List.map_cons, List.sum_cons, Rows.uptoBulkAll]; omega

open Go.Proofs.YtejhjciockgicaaGreat in
theorem read_slice {H : Type} {ec : TypeId × Value → H} {w : World} {sp : Nat → Bool} {held : Bool} {ty el : TypeId} {sz : Nat} {E : Type} [Inhabited E] (encE : E → PV) (B : E → Nat) (hk : C.P.underlying ty = some (.slice el)) (hc : C.P.cellsOf el = sz) (hpos : 0 < sz) (hl : ∀ e, (Pm.cells (encE e)).length = sz)
    (elem : ∀ (n : Nat) (cs : List Value) (x : DataW H × List MemPlace), DataW.trod ec C.P w 0 sp held n el cs = some x → ∃ e : E, cs.length = sz ∧ (∀ j, j < sz → SRel w NoB (cs.getD j undef) ((Pm.cells (encE e)).getD j .any)) ∧ B e ≤ Rows.uptoBulk x.1)
    {n : Nat} {cs : List Value} {x : DataW H × List MemPlace} (h : DataW.trod ec C.P w 0 sp held n ty cs = some x) : ∃ (c : Value) (l : List E), cs = [c] ∧ SRel w NoB c (.snap false (l.map encE)) ∧ (l.map B).sum + 1 ≤ Rows.uptoBulk x.1 := by
  rcases DataW.trod_slice hk h with ⟨e3, rfl⟩ | ⟨a, len, cap, elems, rest, n2, hn2, e3, rfl, hb, hle, hcap, hlen2, hel, _, _⟩
  · exact ⟨_, [], e3, .snapE none 0 false (fun h => by cases h), by simp [Rows.uptoBulk]⟩
  · subst hc
    have each : ∀ i, i < len → ∃ q : List Value × E, w.cells? 0 (a.add (i * C.P.cellsOf el)) (C.P.cellsOf el) = some q.1 ∧ (q.1.length = C.P.cellsOf el ∧ ∀ j, j < C.P.cellsOf el → SRel w NoB (q.1.getD j undef) ((Pm.cells (encE q.2)).getD j .any)) ∧ ∀ y, elems[i]? = some y → B q.2 ≤ Rows.uptoBulk y.1 := by
      intro i hi
      have h1 := hel i hi
      obtain ⟨y, hy⟩ : ∃ y, elems[i]? = some y := ⟨elems[i], List.getElem?_eq_getElem (by omega)⟩
      rw [hy] at h1
      cases hc : w.cells? 0 (a.add (i * C.P.cellsOf el)) (C.P.cellsOf el) with
      | none => rw [hc] at h1; cases h1
      | some cs' =>
        rw [hc] at h1
        obtain ⟨t, t1, t2, t3⟩ := elem n2 cs' y h1
        exact ⟨(cs', t), rfl, ⟨t1, t2⟩, fun y' hy' => by rw [hy] at hy'; obtain rfl := Option.some.inj hy'; exact t3⟩
    obtain ⟨q, hq⟩ := Deep.choose_lt each
    have hl1 : ((List.range len).map fun i => (q i).2).length = len := by simp
    have hget : ∀ i, i < len → ((List.range len).map fun i => (q i).2)[i]? = some (q i).2 := fun i hi => by rw [List.getElem?_map, List.getElem?_range hi]; rfl
    refine ⟨_, (List.range len).map fun i => (q i).2, e3, ?_, ?_⟩
    · by_cases h0 : len = 0
      · subst h0
        exact .snapE (some a) cap false (fun h => by cases h)
      · have h00 := (hq 0 (by omega)).1
        obtain ⟨_, hcl, hcc⟩ := World.cells?_some h00
        have hc0 := hcc 0 hpos
        rw [Nat.zero_mul, add0, add0] at hc0
        obtain ⟨v0, hv0⟩ : ∃ v, (q 0).1[0]? = some v := ⟨(q 0).1[0], List.getElem?_eq_getElem (by omega)⟩
        rw [hv0] at hc0
        obtain ⟨b, off, rfl⟩ := plain_addr hc0
        have hes : (((List.range len).map fun i => (q i).2).map encE).length = len := by simp
        have hgd : ∀ i, i < len → (((List.range len).map fun i => (q i).2).map encE).getD i .any = encE (q i).2 := fun i hi => by
          rw [List.getD, List.getElem?_map, hget i hi]; rfl
        have key : SRel w NoB (.slice (some ⟨b, off, none⟩) (((List.range len).map fun i => (q i).2).map encE).length cap) (.snap false (((List.range len).map fun i => (q i).2).map encE)) := by
          refine .snap b off cap (C.P.cellsOf el) false _ (fun i j => (q i).1.getD j undef) (fun h => ?_) (by omega) (fun h => by cases h) (fun h => h) hpos (fun i hi => ?_) (fun i j hi hj => ?_) (fun i j hi hj => ?_)
          · rw [h] at hes; simp at hes; omega
          · rw [hgd i (by omega)]; exact hl _
          · obtain ⟨_, hcl, hcc⟩ := World.cells?_some (hq i (by omega)).1
            have := hcc j hj
            rw [addr_add, addr_add] at this
            rw [show off + (i * C.P.cellsOf el + j) = off + i * C.P.cellsOf el + j by omega, this, List.getElem?_eq_getElem (by omega)]
            simp [List.getD, List.getElem?_eq_getElem (show j < (q i).1.length by omega)]
          · rw [hgd i (by omega)]; exact (hq i (by omega)).2.1.2 j hj
        rw [hes] at key
        exact key
    · have := sum_upto B ((List.range len).map fun i => (q i).2) (elems.map (·.1)) (by simp [hlen2]) (fun i t d e1 e2 => by
        have hi : i < len := by have := lt_of_some e1; rwa [hl1] at this
        rw [hget i hi] at e1
        obtain rfl := Option.some.inj e1
        rw [List.getElem?_map] at e2
        cases hy : elems[i]? with
        | none => rw [hy] at e2; cases e2
        | some y =>
          rw [hy] at e2
          obtain rfl := Option.some.inj e2
          exact (hq i hi).2.2 y hy)
      simp only [Rows.uptoBulk]
      omega
theorem co63 : C.P.cellsOf 66 = 5 := by kernel_rfl
theorem un63f : ∃ fs, C.P.underlying 66 = some (.struct fs) ∧ fs.toList.map (fun f => (f.offset, f.type)) = [(0, 53), (4, 3)] := kd_st (T6.hkd 66 _ rfl)
instance : Inhabited Pw := ⟨(zeroT, 0)⟩
theorem cells_encP (p : Pw) : (Pm.cells (encP p)).length = 5 := by obtain ⟨⟨k, s, o, l⟩, n⟩ := p; rfl
open Go.Proofs.YtejhjciockgicaaGreat in
theorem read_pw {H : Type} {ec : TypeId × Value → H} {w : World} {sp : Nat → Bool} {held : Bool} (n : Nat) (cs : List Value) (x : DataW H × List MemPlace) (h : DataW.trod ec C.P w 0 sp held n 66 cs = some x) :
    ∃ p : Pw, cs.length = 5 ∧ (∀ j, j < 5 → SRel w NoB (cs.getD j undef) ((Pm.cells (encP p)).getD j .any)) ∧ bulk p.1 + 1 ≤ Rows.uptoBulk x.1 := by
  obtain ⟨fs, hu, hfs⟩ := un63f
  obtain ⟨xs, m, rfl, rfl, hlen, hxl, hf⟩ := DataW.trod_struct hu h
  rw [co63] at hlen
  have hsz : fs.size = 2 := by have := congrArg List.length hfs; simpa using this
  rw [hsz] at hxl
  have fld : ∀ i : Nat, ∀ a b, [(0, 53), (4, 3)][i]? = some (a, b) → ∃ f, fs[i]? = some f ∧ f.offset = a ∧ f.type = b := by
    intro i a b hi
    rw [← hfs, List.getElem?_map] at hi
    have : fs[i]? = fs.toList[i]? := by simp
    rw [this]
    cases hh : fs.toList[i]? with
    | none => rw [hh] at hi; cases hi
    | some f =>
      rw [hh] at hi
      simp only [Option.map_some, Option.some.injEq, Prod.mk.injEq] at hi
      exact ⟨f, rfl, hi.1, hi.2⟩
  match cs, hlen, xs, hxl with
  | [c0, c1, c2, c3, c4], _, [x0, x1], _ =>
    obtain ⟨f0, g0, a0, b0⟩ := fld 0 0 53 rfl
    obtain ⟨f1, g1, a1, b1⟩ := fld 1 4 3 rfl
    have h0 := hf 0 f0 g0
    have h1 := hf 1 f1 g1
    rw [a0, b0, co24] at h0
    rw [a1, b1, co3] at h1
    simp only [List.drop_zero, List.take_succ_cons, List.take_zero, List.drop_succ_cons, List.getElem?_cons_zero, List.getElem?_cons_succ] at h0 h1
    obtain ⟨k, e1, e1', _⟩ := DataW.trod_int (kd_int (T6.hkd 3 _ rfl)) h1
    obtain rfl : c4 = .int .i64 k := by simpa using e1
    obtain ⟨t, ht, hb⟩ := read_tm m _ _ h0
    obtain ⟨q1, q2, q3⟩ := SRel.cells4 ht
    refine ⟨(t, k), rfl, ?_, ?_⟩
    · obtain ⟨tk, ts, to, tl⟩ := t
      rw [enc_mk] at q3
      intro j hj
      match j, hj with
      | 0, _ => exact q3 0 (by omega)
      | 1, _ => exact q3 1 (by omega)
      | 2, _ => exact q3 2 (by omega)
      | 3, _ => exact q3 3 (by omega)
      | 4, _ => exact .int _ _
    · simp only [List.map_cons, List.map_nil, Rows.uptoBulk, Rows.uptoBulkAll]
      omega
open Go.Proofs.YtejhjciockgicaaGreat in
theorem read_pws {H : Type} {ec : TypeId × Value → H} {w : World} {sp : Nat → Bool} {held : Bool} {n : Nat} {cs : List Value} {x : DataW H × List MemPlace} (h : DataW.trod ec C.P w 0 sp held n 26 cs = some x) :
    ∃ (c : Value) (l : List Pw), cs = [c] ∧ SRel w NoB c (.snap false (encPs l)) ∧ (l.map fun p => bulk p.1 + 1).sum + 1 ≤ Rows.uptoBulk x.1 :=
  read_slice encP (fun p => bulk p.1 + 1) (kd_sl (T6.hkd 26 _ rfl)) co63 (by decide) cells_encP read_pw h
end Go.Pm
end

/-
  PM, PART 48: what the statements' links share. Conditions: none.
-/
section
set_option linter.unusedVariables false
set_option linter.unusedSimpArgs false
set_option linter.unusedVariables false
set_option linter.unusedSimpArgs false
set_option maxRecDepth 100000
set_option maxHeartbeats 2000000
namespace Go.Pm
open Go.Proofs

theorem Grew.kept {W W' : World} (g : Grew W W') (may : MemPlace → Prop) : W.keptBut W' may := by
  refine ⟨g.os, g.output, fun i hi => ?_⟩
  rw [g.keep i hi]
  cases W.heap[i]? with
  | none => rfl
  | some o => cases o <;> simp
theorem Grew.frz {W W' : World} (g : Grew W W') {b off : Nat} (hb : b < W.heap.size) : W'.frozen? ⟨b, off, none⟩ = W.frozen? ⟨b, off, none⟩ := by
  unfold World.frozen?
  rw [g.keep b hb]
open Go.ChangeShapes Go.WideShapes
open Go.Proofs.YtejhjciockgicaaGreat in
theorem read_pwsv {H : Type} {ec : TypeId × Value → H} {w : World} {base : Nat} {sp : Nat → Bool} {v : Value} {d : DataW H} {p : List MemPlace} (hok : Value.okWide C.P w .any base 26 v) (h : DataW.Trod ec C.P w 0 sp true 26 v d p) :
    ∃ l : List Pw, SRel w NoB v (.snap false (encPs l)) ∧ (l.map fun p => bulk p.1 + 1).sum + 1 ≤ Rows.uptoBulk d := by
  obtain ⟨n, hn⟩ := h
  obtain ⟨a, len, cap, rfl⟩ := okWide_slice (kd_sl (T6.hkd 26 _ rfl)) hok
  obtain ⟨c, l, hc, h1, h2⟩ := read_pws hn
  obtain rfl : Value.slice a len cap = c := by simpa [Value.cells] using hc
  exact ⟨l, h1, h2⟩
theorem read_intv {H : Type} {ec : TypeId × Value → H} {w : World} {base : Nat} {sp : Nat → Bool} {v : Value} {d : DataW H} {p : List MemPlace} (hok : Value.okWide C.P w .any base 3 v) (h : DataW.Trod ec C.P w 0 sp true 3 v d p) :
    ∃ n : Int, SRel w NoB v (.int .i64 n) := by
  obtain ⟨n, rfl⟩ := okWide_int (kd_int (T6.hkd 3 _ rfl)) hok
  exact ⟨n, .int _ _⟩
end Go.Pm
end

/-
  CHAPTER 6, PART 30: the program's copied and Inverse. Conditions: none.
-/
section
set_option linter.unusedVariables false
set_option linter.unusedSimpArgs false
set_option linter.unusedVariables false
set_option linter.unusedSimpArgs false
set_option maxRecDepth 4000
set_option maxHeartbeats 8000000
namespace Go.Pm
open Go.Proofs
/-- the first i changed -/
def updL (g : Pw → Pw) (l : List Pw) (i : Nat) : List Pw := (l.take i).map g ++ l.drop i
theorem updL_zero (g : Pw → Pw) (l : List Pw) : updL g l 0 = l := by simp [updL]
theorem updL_all (g : Pw → Pw) (l : List Pw) {i : Nat} (h : l.length ≤ i) : updL g l i = l.map g := by
  rw [updL, List.take_of_length_le h, List.drop_eq_nil_of_le h, List.append_nil]
theorem updL_len (g : Pw → Pw) (l : List Pw) (i : Nat) : (updL g l i).length = l.length := by simp [updL]; omega
theorem updL_at {g : Pw → Pw} {l : List Pw} {i : Nat} {p : Pw} (h : l[i]? = some p) : (updL g l i)[i]? = some p := by
  have hi := lt_of_some h
  rw [updL, List.getElem?_append_right (by simp; omega), List.getElem?_drop]
  simp only [List.length_map, List.length_take]
  rw [← h]; congr 1; omega
theorem updL_set {g : Pw → Pw} {l : List Pw} {i : Nat} {p : Pw} (h : l[i]? = some p) : (updL g l i).set i (g p) = updL g l (i + 1) := by
  have hi := lt_of_some h
  have hd : l.drop i = p :: l.drop (i + 1) := by
    rw [List.drop_eq_getElem_cons hi]
    congr 1
    rw [List.getElem?_eq_getElem hi] at h
    exact Option.some.inj h
  have hl : ((l.take i).map g).length = i := by simp; omega
  rw [updL, updL, List.set_append_right _ _ (by omega), hl, Nat.sub_self, hd, List.set_cons_zero, List.take_add_one, h, List.map_append, List.append_assoc]
  rfl
theorem belowR_mref {N id ep off len : Nat} : belowR N (.mref id ep off len) = decide (id < N) := by
  simp [belowR, belowA, below1]
/-- an open call that makes a list anew -/
theorem CallEv.openedLP {C : Cfg} {f : FuncId} {sz : Nat} {args : List PV} {h : AHeap} {es : List PV} {Q : PV → AHeap → Prop} (hm : C.mode f = .opened) (a : FnEv C f args h (fun r k => LP h (.snap true []) sz es r k))
    (q : ∀ r K, HV K → Out sz K r es → h.length ≤ K.length → (∀ j, j < h.length → K[j]? = h[j]?) → (∀ j ep n, r = .mref j ep 0 n → h.length ≤ j) → Q r K) : CallEv C 2 f args h Q := by
  refine CallEv.openedV (N := h.length) hm rfl rfl rfl a ?_
  rintro r k lp
  have hl := lp.len
  have hfr : ∀ j, j < h.length → k[j]? = h[j]? := fun j hj => lp.fr j hj (fun ep n hh => by cases hh)
  have href : ∀ j ep n, r = .mref j ep 0 n → h.length ≤ j := fun j ep n hh => by
    rcases lp.ref j ep n hh with ⟨_, _, h1⟩ | h1
    · cases h1
    · exact h1
  refine ⟨lp.hv, fun hb => ?_, fun _ => q r k lp.hv lp.out hl hfr href⟩
  rcases lp.out with ⟨rfl, e0⟩ | ⟨id, ep, rfl, e1⟩
  · refine q _ _ (lp.hv.take _) (.inl ⟨rfl, e0⟩) (by simp; omega) (fun j hj => ?_) (fun j ep n hh => by cases hh)
    rw [List.getElem?_take, if_pos hj]
    exact hfr j hj
  · have := href id ep _ rfl
    rw [belowR_mref] at hb
    have := of_decide_eq_true hb
    omega
attribute [local irreducible] thenQ blockQ loopQ bodyQ Ev EvOps CallEv FnEv EvD
theorem copied_ev (l : List Pw) (hb : ∀ p ∈ l, bulk p.1 < 1000000000) (hl : l.length < 100000000) (H : AHeap) (hH : HV H) : FnEv C 56 [.snap false (encPs l)] H (fun r k => LP H (.snap true []) 5 (encPs l) r k) := by
  have hel := encPs_len l
  refine FnEv.bodyL Tryz.func56 rfl ?_
  (repeat' (first | refine EvOps.nil ?_ | (apply R.move; exact rfl) | (apply R.assign; exact rfl) | (apply R.lenS T6; exact rfl; exact rfl) | refine Ev.seq ?_ | refine Ev.region ?_ | refine Ev.block ?_ | refine thenQ.normal ?_ | fail))
  refine Ev.loop (I := fun k' st => ∃ (i : Nat) (v : PV) (K : AHeap) (ρ' : Nat → PV), st = ⟨al [(3, v), (6, .snap false (encPs l)), (7, .int .i64 (encPs l).length), (8, .int .i64 i)] ρ', K⟩ ∧ k' + i = l.length ∧ LP H (.snap true []) 5 (encPs (l.take i)) v K) l.length ?_ ?_
  · exact ⟨0, _, H, _, St.keep ⟨rfl, rfl, rfl, rfl, trivial⟩, rfl, .inl ⟨rfl, rfl⟩, hH, Nat.le_refl _, fun _ _ _ => rfl, fun j ep n hh => by cases hh⟩
  rintro k' _ ⟨i, v, K, ρ', rfl, hk, lp0⟩
  (repeat' (first | refine EvOps.nil ?_ | (apply R.move; exact rfl) | (apply R.assign; exact rfl) | (apply R.cmp; exact rfl; exact rfl; exact rfl; all_goals intro hc) | refine Ev.seq ?_ | refine Ev.region ?_ | (apply Ev.condB; exact rfl) | refine Ev.ret ?_ | refine Ev.skip ?_ | refine Ev.exit ?_ | refine Ev.block ?_ | refine thenQ.normal ?_ | refine thenQ.exit ?_ | refine blockQ.hit ?_ | refine loopQ.exit ?_ | (apply bodyQ.ret; exact rfl) | fail))
  · obtain ⟨k1, s1, o1, l1, n1, hmem, hat, hd, hil, hget⟩ := encPs_at hc
    have hcl := clone_fun _ (hb _ hmem)
    simp only at hcl
    rw [enc_mk] at hcl
    have hsn := take_snoc hget
    have hlx := encPs_len (l.take i)
    rw [List.length_take] at hlx
    clear hc
    refine R.indexS T6 rfl rfl rfl rfl hat rfl rfl ?_
    (repeat' (first | refine EvOps.nil ?_ | (apply R.loadA T6; exact rfl; exact rfl; exact rfl; exact rfl; exact (by repeat constructor)) | (apply R.allocN T6; exact rfl; exact rfl; exact rfl) | (apply R.storeN T6; exact rfl; exact rfl; exact rfl; exact rfl; exact rfl; exact rfl) | refine Ev.regionD ?_ | (apply D.move; exact rfl) | (apply D.fieldAddr T6; exact rfl; exact rfl; exact rfl; exact rfl) | refine thenQ.normal ?_ | fail))
    obtain ⟨H1, hH1⟩ : ∃ x, x = K ++ [⟨.m, 0, 5, [.agg [.int .i64 k1, .str s1, .int .i64 o1, .snap false (encs l1), .int .i64 n1]]⟩] := ⟨_, rfl⟩
    have v1 : HV H1 := by rw [hH1]; exact lp0.hv.app (HV.one rfl)
    have b1 : H1[K.length]? = some ⟨.m, 0, 5, [.agg [.int .i64 k1, .str s1, .int .i64 o1, .snap false (encs l1), .int .i64 n1]]⟩ := by rw [hH1]; simp
    have o1' : Out 5 H1 v (encPs (l.take i)) := by rw [hH1]; exact lp0.out.app _
    refine EvD.heap hH1.symm ?_
    have v1c := v1.closed
    have hvis : visible H1 K.length = true := v1.vis (by rw [hH1]; simp)
    (repeat' (first | (apply D.loadAH T6; exact (by assumption); exact rfl; exact rfl; exact rfl; exact (by assumption); exact (by repeat constructor)) | fail))
    refine D.callP v1c rfl rfl rfl rfl rfl rfl (by simpa [nrms, nrm, nrms_encs] using hcl) ?_
    (repeat' (first | (apply D.build T6; exact rfl; exact rfl; exact rfl; exact rfl; exact rfl; exact rfl) | (apply D.fieldAddr T6; exact rfl; exact rfl; exact rfl; exact rfl) | (apply D.load1H T6; exact (by assumption); exact rfl; exact rfl; exact rfl; exact (by assumption); exact rfl) | fail))
    refine D.buildSlice T6 v1c rfl rfl rfl rfl rfl (by decide) rfl rfl rfl rfl rfl ?_
    refine D.appendLP T6 rfl rfl rfl rfl rfl rfl rfl rfl (by decide) rfl rfl rfl rfl o1' (by show _ + 1 < _; omega) (by rw [isVals_eq, List.all_append, ← isVals_eq, encPs_vals]; rfl) v1 ?_
    intro v3 H3 lp
    have lp : LP H1 v 5 (encPs (l.take i) ++ [encP (.mk k1 s1 o1 l1, n1)]) v3 H3 := lp
    rw [encPs_snoc, ← hsn, hH1] at lp
    have lp2 := lp0.trans lp
    (repeat' (first | refine EvOps.nil ?_ | (apply R.move; exact rfl) | (apply R.arith; exact rfl; exact rfl; exact rfl; exact (wrapI (by omega) (by omega))) | refine Ev.region ?_ | refine EvD.nil ?_ | (apply D.assign; exact rfl) | refine thenQ.normal ?_ | refine blockQ.normal ?_ | refine loopQ.normal ?_ | fail))
    exact ⟨k' - 1, by omega, i + 1, v3, H3, _, St.keep ⟨rfl, rfl, rfl, rfl, trivial⟩, by omega, lp2⟩
  · have tk : l.take i = l := List.take_of_length_le (by omega)
    rw [tk] at lp0
    exact lp0
end Go.Pm
end

/-
  CHAPTER 6, PLAIN LAW 5: products multiplied, raised. Conditions: none.
-/
section
set_option linter.unusedVariables false
set_option linter.unusedSimpArgs false
set_option linter.unusedVariables false
namespace Go.Pm
theorem snocInd {α : Type} {P : List α → Prop} (h0 : P []) (h1 : ∀ p x, P p → P (p ++ [x])) (l : List α) : P l := by
  have : ∀ r : List α, P r.reverse := fun r => by
    induction r with
    | nil => exact h0
    | cons x r ih => rw [List.reverse_cons]; exact h1 _ _ ih
  simpa using this l.reverse
def inR (l : List Pw) : Bool := l.any fun p => decide (p.2 < -1000 ∨ 1000 < p.2)
def resP (l : List Pw) : List Pw × Int := if inR l = true then ([], 7) else if 200 < l.length then ([], 3) else (l, 0)
def mulP (a b : List Pw) : List Pw := b.foldl (fun acc p => insP p.1 p.2 acc) a
def mulT (a b : List Pw) : List Pw × Int := if validP a ≠ 0 then ([], validP a) else if validP b ≠ 0 then ([], validP b) else resP (mulP a b)
def tmsP (a : List Pw) (n : Int) : List Pw := if n = 0 then [] else a.map fun p => (p.1, n * p.2)
def timesT (a : List Pw) (n : Int) : List Pw × Int := if validP a ≠ 0 then ([], validP a) else if n < -1000 ∨ 1000 < n then ([], 7) else resP (tmsP a n)
theorem insP_bdN {B M : Int} {t : Tm} {n : Int} (h1 : -M ≤ n) (h2 : n ≤ M) (hM : 0 ≤ M) (hB : 0 ≤ B) : ∀ {l : List Pw}, Bd B l → Bd (B + M) (insP t n l)
  | [], _ => by intro p hp; simp [insP] at hp; subst hp; simp only; omega
  | q :: l, h => by
    have hl : Bd B l := fun r hr => h r (by simp [hr])
    have hl1 : Bd (B + M) l := fun r hr => by have := hl r hr; omega
    have hq := h q (by simp)
    rw [insP]
    split
    · intro p hp
      rcases List.mem_cons.1 hp with rfl | hp
      · omega
      · exact insP_bdN h1 h2 hM hB hl p hp
    · split
      · split
        · exact hl1
        · intro p hp
          rcases List.mem_cons.1 hp with rfl | hp
          · simp only; omega
          · exact hl1 p hp
      · intro p hp
        rcases List.mem_cons.1 hp with rfl | hp
        · simp only; omega
        · have := h p hp; omega
/-- what holds of a product while it is multiplied -/
structure MI (a : List Pw) (k : Nat) : Prop where
  srt : Srt a
  nz : Nz a
  bd : Bd (1000 + 1000 * (k : Int)) a
  len : a.length ≤ 200 + k
theorem MI.of {a : List Pw} (h : validP a = 0) : MI a 0 := by
  obtain ⟨h1, h2, h3, h4, h5⟩ := validP_zero h
  exact ⟨h5, h4, fun p hp => by have := h2 p hp; omega, by omega⟩
theorem MI.ins {a : List Pw} {k : Nat} (m : MI a k) {t : Tm} {n : Int} (h0 : n ≠ 0) (h1 : -1000 ≤ n) (h2 : n ≤ 1000) : MI (insP t n a) (k + 1) :=
  ⟨insP_srt m.srt, insP_nz h0 m.nz, fun p hp => by have := insP_bdN h1 h2 (by omega) (by omega) m.bd p hp; omega, by have := insP_len (t := t) (n := n) a; have := m.len; omega⟩
theorem mulP_snoc (a p : List Pw) (x : Pw) : mulP a (p ++ [x]) = insP x.1 x.2 (mulP a p) := by simp [mulP]
theorem MI.mul {a : List Pw} (ha : validP a = 0) : ∀ {p b : List Pw}, validP b = 0 → (∀ x ∈ p, x ∈ b) → MI (mulP a p) p.length := by
  intro p b hb hp
  induction p using snocInd with
  | h0 => exact MI.of ha
  | h1 p x ih =>
    obtain ⟨h1, h2, h3, h4, h5⟩ := validP_zero hb
    have hx := hp x (by simp)
    rw [mulP_snoc, List.length_append]
    exact (ih (fun y hy => hp y (by simp [hy]))).ins (h4 x hx) (h2 x hx).1 (h2 x hx).2
theorem insP_bulk {t : Tm} {n : Int} {B : Nat} (ht : bulk t < B) {l : List Pw} (hl : ∀ p ∈ l, bulk p.1 < B) : ∀ p ∈ insP t n l, bulk p.1 < B := fun p hp => by
  rcases insP_mem hp with h | ⟨q, hq, h⟩
  · rw [h]; exact ht
  · rw [← h]; exact hl q hq
theorem mulP_bulk {B : Nat} {a b : List Pw} (ha : ∀ p ∈ a, bulk p.1 < B) (hb : ∀ p ∈ b, bulk p.1 < B) : ∀ p ∈ mulP a b, bulk p.1 < B := by
  induction b using snocInd with
  | h0 => exact ha
  | h1 p x ih => rw [mulP_snoc]; exact insP_bulk (hb x (by simp)) (ih fun y hy => hb y (by simp [hy]))
theorem mulP_add {a p b : List Pw} (ha : validP a = 0) (hb : validP b = 0) (hp : ∀ x ∈ p, x ∈ b) {t : Tm} {n : Int} : addP t n false (mulP a p) = insP t n (mulP a p) :=
  addP_ins _ _ _ (MI.mul ha hb hp).srt (MI.mul ha hb hp).nz
theorem pw_mul (a b : List Pw) (u : Tm) : pw (mulP a b) u = pw a u + pw b u := by
  induction b using snocInd with
  | h0 => simp [mulP, pw]
  | h1 p x ih =>
    have pa : ∀ l : List Pw, pw (l ++ [x]) u = pw l u + if cmpT x.1 u = 0 then x.2 else 0 := fun l => by
      induction l with
      | nil => simp [pw]
      | cons y l ih => rw [List.cons_append, pw, pw, ih]; omega
    rw [mulP_snoc, pw_ins, ih, pa]; omega
end Go.Pm
end

/-
  CHAPTER 6, PART 42: the program's result, Mul, Times. Conditions: none.
-/
section
set_option linter.unusedVariables false
set_option linter.unusedSimpArgs false
set_option linter.unusedVariables false
set_option linter.unusedSimpArgs false
set_option maxRecDepth 4000
namespace Go.Pm
open Go.Proofs
def idxI {α : Type} (p : α → Bool) (l : List α) : Int := match l.findIdx? p with | some i => i | none => -1
theorem idxI_at {α : Type} {p : α → Bool} {a q : List α} {x : α} (h : ∀ y ∈ a, p y = false) (hx : p x = true) : idxI p (a ++ x :: q) = a.length := by
  unfold idxI
  rw [List.findIdx?_append, List.findIdx?_eq_none_iff.2 h]
  simp [List.findIdx?_cons, hx]
theorem idxI_none {α : Type} {p : α → Bool} {a : List α} (h : ∀ y ∈ a, p y = false) : idxI p a = -1 := by
  unfold idxI
  rw [List.findIdx?_eq_none_iff.2 h]
theorem idxI_any {α : Type} (p : α → Bool) (l : List α) : decide (0 ≤ idxI p l) = l.any p := by
  unfold idxI
  cases h : l.findIdx? p with
  | none =>
    rw [List.findIdx?_eq_none_iff] at h
    have : l.any p = false := by rw [List.any_eq_false]; intro x hx; simp [h x hx]
    rw [this]; rfl
  | some i =>
    obtain ⟨h1, h2, _⟩ := List.findIdx?_eq_some_iff_getElem.1 h
    have : l.any p = true := List.any_eq_true.2 ⟨_, List.getElem_mem h1, h2⟩
    rw [this]; simp
attribute [local irreducible] thenQ blockQ loopQ bodyQ Ev EvOps CallEv FnEv EvD
theorem res1_fun (p : Pw) : Fun C 94 [encP p] (.bool (decide (p.2 < -1000 ∨ 1000 < p.2))) := by
  obtain ⟨t, n⟩ := p
  rw [encP_x]
  refine Fun.x T6 Tryz.func94 rfl ?_
  (repeat' (first | (refine Rn.go ?_; conv => whnf) | refine .mk ?_ | refine .tt ?_ | refine .ff ?_ | refine .m2 ?_ | refine .m3 ?_ | refine .mk (fun hc => ?_) (fun hc => ?_) | refine .lp (fun v H lp => ?_) | fail))
  all_goals exact ⟨_, rfl, by simp [tupOf, *]⟩
theorem idxP_fun (l : List Pw) (g : FuncId) (cs : List PV) (p : Pw → Bool) (hl : l.length < 1000000000) (hm : C.mode g = .pure) (hc : isVals cs = true) (hcn : nrms cs = cs) (hp : ∀ x ∈ l, Fun C g (encP x :: cs) (.bool (p x))) :
    Fun C 115 [.snap false (encPs l), .fn g cs] (.int .i64 (idxI p l)) := by
  have hel := encPs_len l
  refine Fun.x T6 Tryz.func115 rfl ?_
  (repeat' (first | (refine Rn.go ?_; conv => whnf) | refine .mk ?_ | refine .tt ?_ | refine .ff ?_ | refine .m2 ?_ | refine .m3 ?_ | refine .mk (fun hc => ?_) (fun hc => ?_) | refine .lp (fun v H lp => ?_) | fail))
  refine LpX.zip T6 l (fun a q L H => L = [(0, .snap false (encPs l)), (1, .fn g cs), (7, .int .i64 (encPs l).length), (8, .int .i64 a.length)] ∧ ∀ y ∈ a, p y = false) (.nx ⟨rfl, by simp⟩) ?_ ?_
  · rintro a ⟨t, n⟩ q _ h ρ e ⟨rfl, ha⟩
    have hat := at_encPs e
    have hl2 := congrArg List.length e
    simp only [List.length_append, List.length_cons] at hl2
    have hpx := hp (t, n) (by rw [e]; simp)
    (repeat' (first | (refine Rn.go ?_; conv => whnf) | refine .mk ?_ | refine .tt ?_ | refine .ff ?_ | refine .m2 ?_ | refine .m3 ?_ | refine .mk (fun hc => ?_) (fun hc => ?_) | refine .lp (fun v H lp => ?_) | fail))
    refine .p hpx ?_ hm (by simp [hc]) (by simp [hcn])
    cases hb : p (t, n)
    · (repeat' (first | (refine Rn.go ?_; conv => whnf) | refine .mk ?_ | refine .tt ?_ | refine .ff ?_ | refine .m2 ?_ | refine .m3 ?_ | refine .mk (fun hc => ?_) (fun hc => ?_) | refine .lp (fun v H lp => ?_) | fail))
      exact .nx ⟨rfl, fun y hy => by rcases List.mem_append.1 hy with h | h; exact ha y h; simp at h; rw [h]; exact hb⟩
    · (repeat' (first | (refine Rn.go ?_; conv => whnf) | refine .mk ?_ | refine .tt ?_ | refine .ff ?_ | refine .m2 ?_ | refine .m3 ?_ | refine .mk (fun hc => ?_) (fun hc => ?_) | refine .lp (fun v H lp => ?_) | fail))
      exact ⟨_, rfl, by rw [e, idxI_at ha hb]; rfl⟩
  · rintro _ h ρ ⟨rfl, ha⟩
    (repeat' (first | (refine Rn.go ?_; conv => whnf) | refine .mk ?_ | refine .tt ?_ | refine .ff ?_ | refine .m2 ?_ | refine .m3 ?_ | refine .mk (fun hc => ?_) (fun hc => ?_) | refine .lp (fun v H lp => ?_) | fail))
    exact ⟨_, rfl, by rw [idxI_none ha]; rfl⟩
theorem cntP_fun (l : List Pw) (g : FuncId) (cs : List PV) (p : Pw → Bool) (hl : l.length < 1000000000) (hm : C.mode g = .pure) (hc : isVals cs = true) (hcn : nrms cs = cs) (hp : ∀ x ∈ l, Fun C g (encP x :: cs) (.bool (p x))) :
    Fun C 93 [.snap false (encPs l), .fn g cs] (.bool (l.any p)) := by
  have hi := idxP_fun l g cs p hl hm hc hcn hp
  have ha := idxI_any p l
  refine Fun.x T6 Tryz.func93 rfl ?_
  (repeat' (first | (refine Rn.go ?_; conv => whnf) | refine .mk ?_ | refine .tt ?_ | refine .ff ?_ | refine .m2 ?_ | refine .m3 ?_ | refine .mk (fun hc => ?_) (fun hc => ?_) | refine .lp (fun v H lp => ?_) | fail))
  refine .p hi ?_ rfl (by simp [hc]) (by simp [hcn])
  (repeat' (first | (refine Rn.go ?_; conv => whnf) | refine .mk ?_ | refine .tt ?_ | refine .ff ?_ | refine .m2 ?_ | refine .m3 ?_ | refine .mk (fun hc => ?_) (fun hc => ?_) | refine .lp (fun v H lp => ?_) | fail))
  all_goals exact ⟨_, rfl, by rw [← ha]; simp [tupOf, *]⟩
theorem result_fun (l : List Pw) (hl : l.length < 1000000000) : Fun C 58 [.snap false (encPs l)] (.tup [.snap false (encPs (resP l).1), .int .i64 (resP l).2]) := by
  have hel := encPs_len l
  have hc := cntP_fun l 94 [] (fun p => decide (p.2 < -1000 ∨ 1000 < p.2)) hl rfl rfl rfl (fun x _ => res1_fun x)
  have hr : resP l = if inR l = true then ([], 7) else if 200 < l.length then ([], 3) else (l, 0) := rfl
  rw [show (l.any fun p => decide (p.2 < -1000 ∨ 1000 < p.2)) = inR l from rfl] at hc
  refine Fun.x T6 Tryz.func58 rfl ?_
  (repeat' (first | (refine Rn.go ?_; conv => whnf) | refine .mk ?_ | refine .tt ?_ | refine .ff ?_ | refine .m2 ?_ | refine .m3 ?_ | refine .mk (fun hc => ?_) (fun hc => ?_) | refine .lp (fun v H lp => ?_) | fail))
  refine .p hc ?_
  cases hb : inR l <;> rw [hb] at hr
  · (repeat' (first | (refine Rn.go ?_; conv => whnf) | refine .mk ?_ | refine .tt ?_ | refine .ff ?_ | refine .m2 ?_ | refine .m3 ?_ | refine .mk (fun hc => ?_) (fun hc => ?_) | refine .lp (fun v H lp => ?_) | fail))
    · exact ⟨_, rfl, by rw [hr, if_neg (by simp), if_pos (by omega)]; rfl⟩
    · exact ⟨_, rfl, by rw [hr, if_neg (by simp), if_neg (by omega)]; simp [tupOf]⟩
  · (repeat' (first | (refine Rn.go ?_; conv => whnf) | refine .mk ?_ | refine .tt ?_ | refine .ff ?_ | refine .m2 ?_ | refine .m3 ?_ | refine .mk (fun hc => ?_) (fun hc => ?_) | refine .lp (fun v H lp => ?_) | fail))
    exact ⟨_, rfl, by rw [hr, if_pos rfl]; rfl⟩
theorem pmul_fun (a b : List Pw) (ha : ∀ p ∈ a, bulk p.1 < 10000000) (hb : ∀ p ∈ b, bulk p.1 < 10000000) (la : a.length < 10000000) (lb : b.length < 10000000) :
    Fun C 15 [.snap false (encPs a), .snap false (encPs b)] (.tup [.snap false (encPs (mulT a b).1), .int .i64 (mulT a b).2]) := by
  have hva := pvalid_fun a (fun p hp => by have := ha p hp; omega) (by omega)
  have hvb := pvalid_fun b (fun p hp => by have := hb p hp; omega) (by omega)
  have hcp := fun H hH => copied_ev a (fun p hp => by have := ha p hp; omega) (by omega) H hH
  have r1 : validP a ≠ 0 → mulT a b = ([], validP a) := fun h => by rw [mulT, if_pos h]
  have r2 : validP a = 0 → validP b ≠ 0 → mulT a b = ([], validP b) := fun h h2 => by rw [mulT, if_neg (by omega), if_pos h2]
  have r3 : validP a = 0 → validP b = 0 → mulT a b = resP (mulP a b) := fun h h2 => by rw [mulT, if_neg (by omega), if_neg (by omega)]
  have hel := encPs_len b
  generalize mulT a b = R at *
  refine Fun.x T6 Tryz.func15 rfl ?_
  (repeat' (first | (refine Rn.go ?_; conv => whnf) | refine .mk ?_ | refine .tt ?_ | refine .ff ?_ | refine .m2 ?_ | refine .m3 ?_ | refine .mk (fun hc => ?_) (fun hc => ?_) | refine .lp (fun v H lp => ?_) | fail))
  refine .p hva ?_
  (repeat' (first | (refine Rn.go ?_; conv => whnf) | refine .mk ?_ | refine .tt ?_ | refine .ff ?_ | refine .m2 ?_ | refine .m3 ?_ | refine .mk (fun hc => ?_) (fun hc => ?_) | refine .lp (fun v H lp => ?_) | fail))
  rotate_left
  · exact ⟨_, rfl, by rw [r1 hc]; rfl⟩
  have va := hc
  clear hc
  refine .p hvb ?_
  (repeat' (first | (refine Rn.go ?_; conv => whnf) | refine .mk ?_ | refine .tt ?_ | refine .ff ?_ | refine .m2 ?_ | refine .m3 ?_ | refine .mk (fun hc => ?_) (fun hc => ?_) | refine .lp (fun v H lp => ?_) | fail))
  rotate_left
  · exact ⟨_, rfl, by rw [r2 va hc]; rfl⟩
  have vb := hc
  clear hc
  have r3 := r3 va vb
  clear r1 r2 hva hvb
  refine .lp (hcp _ HV.nil) (fun v H lp => ?_)
  (repeat' (first | (refine Rn.go ?_; conv => whnf) | refine .mk ?_ | refine .tt ?_ | refine .ff ?_ | refine .m2 ?_ | refine .m3 ?_ | refine .mk (fun hc => ?_) (fun hc => ?_) | refine .lp (fun v H lp => ?_) | fail))
  refine LpX.zip T6 b (fun p q L H => ∃ v, L = [(8, v), (23, .snap false (encPs b)), (24, .int .i64 (encPs b).length), (25, .int .i64 p.length)] ∧ HV H ∧ Out 5 H v (encPs (mulP a p))) (.nx ⟨_, rfl, lp.hv, lp.out⟩) ?_ ?_
  · rintro p ⟨t, n⟩ q _ h ρ e ⟨v, rfl, hH, ho⟩
    have hat := at_encPs e
    have hl2 := congrArg List.length e
    simp only [List.length_append, List.length_cons] at hl2
    have mi := MI.mul va vb (fun x hx => by rw [e]; exact List.mem_append.2 (.inl hx) : ∀ x ∈ p, x ∈ b)
    have hbt := hb (t, n) (by rw [e]; simp)
    have lb2 := (validP_zero vb).1
    have hins := insert_ev (mulP a p) t n (h ++ [⟨.m, 0, 5, [encP (t, n)]⟩]) v (hH.app (HV.one (by simp))) (ho.app _) mi.srt ⟨mulP_bulk (fun x hx => by have := ha x hx; omega) (fun x hx => by have := hb x (by rw [e]; exact List.mem_append.2 (.inl hx)); omega), by have := mi.len; omega⟩ (by simp only at hbt; omega) (fun x hx => by have := mi.bd x hx; omega) (by have := (validP_zero vb).2.1 (t, n) (by rw [e]; simp); simp only at this; omega)
    rw [encP_x] at hins
    (repeat' (first | (refine Rn.go ?_; conv => whnf) | refine .mk ?_ | refine .tt ?_ | refine .ff ?_ | refine .m2 ?_ | refine .m3 ?_ | refine .mk (fun hc => ?_) (fun hc => ?_) | refine .lp (fun v H lp => ?_) | fail))
    refine .lp hins (fun v' H' lp' => ?_)
    (repeat' (first | (refine Rn.go ?_; conv => whnf) | refine .mk ?_ | refine .tt ?_ | refine .ff ?_ | refine .m2 ?_ | refine .m3 ?_ | refine .mk (fun hc => ?_) (fun hc => ?_) | refine .lp (fun v H lp => ?_) | fail))
    exact .nx ⟨_, rfl, lp'.hv, by rw [mulP_snoc]; exact lp'.out⟩
  · rintro _ h ρ ⟨v, rfl, hH, ho⟩
    have mi := MI.mul va vb (fun x hx => hx : ∀ x ∈ b, x ∈ b)
    have hres := result_fun (mulP a b) (by have := mi.len; omega)
    rw [← r3] at hres
    (repeat' (first | (refine Rn.go ?_; conv => whnf) | refine .mk ?_ | refine .tt ?_ | refine .ff ?_ | refine .m2 ?_ | refine .m3 ?_ | refine .mk (fun hc => ?_) (fun hc => ?_) | refine .lp (fun v H lp => ?_) | fail))
    refine .po ho hres (fun _ _ => ?_)
    (repeat' (first | (refine Rn.go ?_; conv => whnf) | refine .mk ?_ | refine .tt ?_ | refine .ff ?_ | refine .m2 ?_ | refine .m3 ?_ | refine .mk (fun hc => ?_) (fun hc => ?_) | refine .lp (fun v H lp => ?_) | fail))
    exact ⟨_, rfl, by simp [tupOf]⟩
theorem mul_bd {n m B D : Int} (h1 : -B ≤ n) (h2 : n ≤ B) (h3 : -D ≤ m) (h4 : m ≤ D) : -(B * D) ≤ n * m ∧ n * m ≤ B * D := by
  have h : (n * m).natAbs ≤ (B * D).natAbs := by
    rw [Int.natAbs_mul, Int.natAbs_mul]
    exact Nat.mul_le_mul (by omega) (by omega)
  have hp : 0 ≤ B * D := Int.mul_nonneg (by omega) (by omega)
  omega
theorem ptimes_fun (a : List Pw) (m : Int) (ha : ∀ p ∈ a, bulk p.1 < 10000000) (la : a.length < 10000000) :
    Fun C 17 [.snap false (encPs a), .int .i64 m] (.tup [.snap false (encPs (timesT a m).1), .int .i64 (timesT a m).2]) := by
  have hva := pvalid_fun a (fun p hp => by have := ha p hp; omega) (by omega)
  have hcp := fun H hH => copied_ev a (fun p hp => by have := ha p hp; omega) (by omega) H hH
  have r1 : validP a ≠ 0 → timesT a m = ([], validP a) := fun h => by rw [timesT, if_pos h]
  have r2 : validP a = 0 → (m < -1000 ∨ 1000 < m) → timesT a m = ([], 7) := fun h h2 => by rw [timesT, if_neg (by omega), if_pos h2]
  have r3 : validP a = 0 → ¬ (m < -1000 ∨ 1000 < m) → timesT a m = resP (tmsP a m) := fun h h2 => by rw [timesT, if_neg (by omega), if_neg (by omega)]
  have hres := result_fun (tmsP a m) (by unfold tmsP; split <;> simp; omega)
  have hel := encPs_len a
  have ht : m = 0 → tmsP a m = [] := fun h => by rw [tmsP, if_pos h]
  have ht' : m ≠ 0 → tmsP a m = a.map fun p => (p.1, m * p.2) := fun h => by rw [tmsP, if_neg h]
  generalize timesT a m = R at *
  refine Fun.x T6 Tryz.func17 rfl ?_
  (repeat' (first | (refine Rn.go ?_; conv => whnf) | refine .mk ?_ | refine .tt ?_ | refine .ff ?_ | refine .m2 ?_ | refine .m3 ?_ | refine .mk (fun hc => ?_) (fun hc => ?_) | refine .lp (fun v H lp => ?_) | fail))
  refine .p hva ?_
  (repeat' (first | (refine Rn.go ?_; conv => whnf) | refine .mk ?_ | refine .tt ?_ | refine .ff ?_ | refine .m2 ?_ | refine .m3 ?_ | refine .mk (fun hc => ?_) (fun hc => ?_) | refine .lp (fun v H lp => ?_) | fail))
  rotate_left 4
  · exact ⟨_, rfl, by rw [r1 hc]; rfl⟩
  · exact ⟨_, rfl, by rw [r2 (by assumption) (by omega)]; rfl⟩
  · exact ⟨_, rfl, by rw [r2 (by assumption) (by omega)]; rfl⟩
  · exact ⟨_, rfl, by rw [r3 (by assumption) (by omega), ht hc]; rfl⟩
  have va : validP a = 0 := by assumption
  have hb := (validP_zero va).2.1
  refine .lp (hcp _ HV.nil) (fun v H lp => ?_)
  rw [← r3 va (by omega)] at hres
  have ht' := ht' hc
  rcases lp.out with ⟨rfl, e0⟩ | ⟨id, ep, rfl, e1⟩
  · obtain rfl : a = [] := List.eq_nil_of_length_eq_zero (by rw [← hel, e0]; rfl)
    (repeat' (first | (refine Rn.go ?_; conv => whnf) | refine .mk ?_ | refine .tt ?_ | refine .ff ?_ | refine .m2 ?_ | refine .m3 ?_ | refine .mk (fun hc => ?_) (fun hc => ?_) | refine .lp (fun v H lp => ?_) | fail))
    refine LpX.zip T6 ([] : List Pw) (fun p q L H => L = [(7, .snap true []), (25, .int .i64 0), (26, .int .i64 0)]) (.nx rfl) (fun p x q _ _ _ e => by simp at e) ?_
    rintro _ h ρ rfl
    (repeat' (first | (refine Rn.go ?_; conv => whnf) | refine .mk ?_ | refine .tt ?_ | refine .ff ?_ | refine .m2 ?_ | refine .m3 ?_ | refine .mk (fun hc => ?_) (fun hc => ?_) | refine .lp (fun v H lp => ?_) | fail))
    rw [ht'] at hres
    refine .p hres ?_
    (repeat' (first | (refine Rn.go ?_; conv => whnf) | refine .mk ?_ | refine .tt ?_ | refine .ff ?_ | refine .m2 ?_ | refine .m3 ?_ | refine .mk (fun hc => ?_) (fun hc => ?_) | refine .lp (fun v H lp => ?_) | fail))
    exact ⟨_, rfl, by simp [tupOf]⟩
  · have hV := lp.hv
    clear lp
    (repeat' (first | (refine Rn.go ?_; conv => whnf) | refine .mk ?_ | refine .tt ?_ | refine .ff ?_ | refine .m2 ?_ | refine .m3 ?_ | refine .mk (fun hc => ?_) (fun hc => ?_) | refine .lp (fun v H lp => ?_) | fail))
    refine LpX.zip T6 a (fun p q L H => L = [(1, .int .i64 m), (7, .mref id ep 0 (encPs a).length), (25, .int .i64 (encPs a).length), (26, .int .i64 p.length)] ∧ HV H ∧ H[id]? = some ⟨.m, ep, 5, encPs ((p.map fun p => (p.1, m * p.2)) ++ q)⟩) (.nx ⟨rfl, hV, e1⟩) ?_ ?_
    · rintro p ⟨t, n⟩ q _ h ρ e ⟨rfl, hH, e1⟩
      have hl2 := congrArg List.length e
      simp only [List.length_append, List.length_cons] at hl2
      have hle : (encPs ((p.map fun p => (p.1, m * p.2)) ++ (t, n) :: q)).length = a.length := by rw [encPs_len, e]; simp
      have hat : (encPs ((p.map fun p => (p.1, m * p.2)) ++ (t, n) :: q))[0 + p.length]? = some (.agg [.int .i64 t.k, .str t.s, .int .i64 t.o, .snap false (encs t.l), .int .i64 n]) := by
        have := at_encPs (l := (p.map fun p => (p.1, m * p.2)) ++ (t, n) :: q) rfl
        rw [List.length_map] at this
        rw [Nat.zero_add]; exact this
      have hn := hb (t, n) (by rw [e]; simp)
      have hnm := mul_bd hn.1 hn.2 (show -1000 ≤ m by omega) (show m ≤ 1000 by omega)
      dsimp only at hn hnm
      (repeat' (first | (refine Rn.go ?_; conv => whnf) | refine .mk ?_ | refine .tt ?_ | refine .ff ?_ | refine .m2 ?_ | refine .m3 ?_ | refine .mk (fun hc => ?_) (fun hc => ?_) | refine .lp (fun v H lp => ?_) | fail))
      have hs := set_encPs (p.map fun p => (p.1, m * p.2)) q (t, n) (t, n * m)
      rw [List.length_map, encP_x] at hs
      rw [Nat.zero_add, hs]
      exact .nx ⟨rfl, hH.set id (by simp) (by simp), by rw [List.getElem?_set_self (lt_of_some e1)]; simp [Int.mul_comm]⟩
    · rintro _ h ρ ⟨rfl, hH, e1⟩
      rw [List.append_nil, ← ht'] at e1
      have ho : Out 5 h (.mref id ep 0 (encPs a).length) (encPs (tmsP a m)) := .inr ⟨id, ep, by rw [encPs_len, encPs_len, ht', List.length_map], e1⟩
      (repeat' (first | (refine Rn.go ?_; conv => whnf) | refine .mk ?_ | refine .tt ?_ | refine .ff ?_ | refine .m2 ?_ | refine .m3 ?_ | refine .mk (fun hc => ?_) (fun hc => ?_) | refine .lp (fun v H lp => ?_) | fail))
      refine .po ho hres (fun _ _ => ?_)
      (repeat' (first | (refine Rn.go ?_; conv => whnf) | refine .mk ?_ | refine .tt ?_ | refine .ff ?_ | refine .m2 ?_ | refine .m3 ?_ | refine .mk (fun hc => ?_) (fun hc => ?_) | refine .lp (fun v H lp => ?_) | fail))
      exact ⟨_, rfl, by simp [tupOf]⟩
end Go.Pm
end

/-
  CHAPTER 6, PART 46: the reference's inRange, Mul, Times. Conditions: none.
-/
section
set_option linter.unusedVariables false
set_option linter.unusedSimpArgs false
set_option linter.unusedVariables false
set_option linter.unusedSimpArgs false
set_option maxRecDepth 4000
namespace Go.Pm
open Go.Proofs
@[simp] theorem esOk_encPs (l : List Pw) : esOk (4 + 1) (encPs l) := by
  unfold esOk encPs
  rw [List.all_map, List.all_eq_true]
  rintro ⟨t, n⟩ _
  simp only [Function.comp, encP_x]
  rfl
def inE (l : List Pw) : Int := if inR l = true then 7 else if 200 < l.length then 3 else 0
theorem resP_inE (l : List Pw) : resP l = if inE l ≠ 0 then ([], inE l) else (l, 0) := by
  unfold resP inE
  split
  · rfl
  · split <;> rfl
theorem inR_at {p q : List Pw} {x : Pw} (h : x.2 < -1000 ∨ 1000 < x.2) : inR (p ++ x :: q) = true := by
  unfold inR
  rw [List.any_eq_true]
  exact ⟨x, by simp, by simpa using h⟩
theorem inR_none {l : List Pw} (h : ∀ x ∈ l, ¬ (x.2 < -1000 ∨ 1000 < x.2)) : inR l = false := by
  unfold inR
  rw [List.any_eq_false]
  intro x hx
  simpa using h x hx
attribute [local irreducible] thenQ blockQ loopQ bodyQ Ev EvOps CallEv FnEv EvD
theorem inRange_fun (l : List Pw) (hl : l.length < 1000000000) : Fun C 60 [.snap false (encPs l)] (.int .i64 (inE l)) := by
  have hel := encPs_len l
  refine Fun.x T6 Tryz.func60 rfl ?_
  (repeat' (first | (refine Rn.go ?_; conv => whnf) | refine .mk ?_ | refine .tt ?_ | refine .ff ?_ | refine .m2 ?_ | refine .m3 ?_ | refine .mk (fun hc => ?_) (fun hc => ?_) | refine .lp (fun v H lp => ?_) | fail))
  refine LpX.zip T6 l (fun p q L H => L = [(0, .snap false (encPs l)), (3, .int .i64 p.length)] ∧ ∀ x ∈ p, ¬ (x.2 < -1000 ∨ 1000 < x.2)) (.nx ⟨rfl, by simp⟩) ?_ ?_
  · rintro p ⟨t, n⟩ q _ h ρ e ⟨rfl, hp⟩
    have hat := at_encPs e
    have hl2 := congrArg List.length e
    simp only [List.length_append, List.length_cons] at hl2
    (repeat' (first | (refine Rn.go ?_; conv => whnf) | refine .mk ?_ | refine .tt ?_ | refine .ff ?_ | refine .m2 ?_ | refine .m3 ?_ | refine .mk (fun hc => ?_) (fun hc => ?_) | refine .lp (fun v H lp => ?_) | fail))
    · exact ⟨_, rfl, by rw [inE, e, inR_at (.inl hc)]; rfl⟩
    · exact ⟨_, rfl, by rw [inE, e, inR_at (.inr hc)]; rfl⟩
    · exact .nx ⟨rfl, fun x hx => by rcases List.mem_append.1 hx with h | h; exact hp x h; simp at h; subst h; simp only; omega⟩
  · rintro _ h ρ ⟨rfl, hp⟩
    have h1 := inR_none hp
    (repeat' (first | (refine Rn.go ?_; conv => whnf) | refine .mk ?_ | refine .tt ?_ | refine .ff ?_ | refine .m2 ?_ | refine .m3 ?_ | refine .mk (fun hc => ?_) (fun hc => ?_) | refine .lp (fun v H lp => ?_) | fail))
    · exact ⟨_, rfl, by rw [inE, h1, if_neg (by simp), if_pos (by omega)]; rfl⟩
    · exact ⟨_, rfl, by rw [inE, h1, if_neg (by simp), if_neg (by omega)]; rfl⟩
theorem rmul_fun (a b : List Pw) (ha : ∀ p ∈ a, bulk p.1 < 10000000) (hb : ∀ p ∈ b, bulk p.1 < 10000000) (la : a.length < 10000000) (lb : b.length < 10000000) :
    Fun C 16 [.snap false (encPs a), .snap false (encPs b)] (.tup [.snap false (encPs (mulT a b).1), .int .i64 (mulT a b).2]) := by
  have hva := rpvalid_fun a (fun p hp => by have := ha p hp; omega) (by omega)
  have hvb := rpvalid_fun b (fun p hp => by have := hb p hp; omega) (by omega)
  have r1 : validP a ≠ 0 → mulT a b = ([], validP a) := fun h => by rw [mulT, if_pos h]
  have r2 : validP a = 0 → validP b ≠ 0 → mulT a b = ([], validP b) := fun h h2 => by rw [mulT, if_neg (by omega), if_pos h2]
  have r3 : validP a = 0 → validP b = 0 → mulT a b = resP (mulP a b) := fun h h2 => by rw [mulT, if_neg (by omega), if_neg (by omega)]
  have hel := encPs_len b
  have hela := encPs_len a
  generalize mulT a b = R at *
  refine Fun.x T6 Tryz.func16 rfl ?_
  (repeat' (first | (refine Rn.go ?_; conv => whnf) | refine .mk ?_ | refine .tt ?_ | refine .ff ?_ | refine .m2 ?_ | refine .m3 ?_ | refine .mk (fun hc => ?_) (fun hc => ?_) | refine .lp (fun v H lp => ?_) | fail))
  refine .p hva ?_
  (repeat' (first | (refine Rn.go ?_; conv => whnf) | refine .mk ?_ | refine .tt ?_ | refine .ff ?_ | refine .m2 ?_ | refine .m3 ?_ | refine .mk (fun hc => ?_) (fun hc => ?_) | refine .lp (fun v H lp => ?_) | fail))
  rotate_left
  · exact ⟨_, rfl, by rw [r1 hc]; rfl⟩
  have va := hc
  clear hc
  refine .p hvb ?_
  (repeat' (first | (refine Rn.go ?_; conv => whnf) | refine .mk ?_ | refine .tt ?_ | refine .ff ?_ | refine .m2 ?_ | refine .m3 ?_ | refine .mk (fun hc => ?_) (fun hc => ?_) | refine .lp (fun v H lp => ?_) | fail))
  rotate_left
  · exact ⟨_, rfl, by rw [r2 va hc]; rfl⟩
  have vb := hc
  clear hc
  have r3 := r3 va vb
  rw [resP_inE] at r3
  clear r1 r2 hva hvb
  have lb2 := (validP_zero vb).1
  refine LpX.zip T6 b (fun p q L H => ∃ v, L = [(1, .snap false (encPs b)), (8, v), (9, .int .i64 p.length)] ∧ HV H ∧ Ls 5 H v (encPs (mulP a p))) (.nx ⟨_, rfl, lp.hv, .inl lp.out⟩) ?_ ?_
  · rintro p ⟨t, n⟩ q _ h ρ e ⟨v, rfl, hH, ho⟩
    have hat := at_encPs e
    have hl2 := congrArg List.length e
    simp only [List.length_append, List.length_cons] at hl2
    have hpb : ∀ x ∈ p, x ∈ b := fun x hx => by rw [e]; exact List.mem_append.2 (.inl hx)
    have mi := MI.mul va vb hpb
    have hbt := hb (t, n) (by rw [e]; simp)
    have hadd := radd_fun (mulP a p) t n ⟨mulP_bulk (fun x hx => by have := ha x hx; omega) (fun x hx => by have := hb x (hpb x hx); omega), by have := mi.len; omega⟩ (by simp only at hbt; omega) (fun x hx => by have := mi.bd x hx; omega) (by have := (validP_zero vb).2.1 (t, n) (by rw [e]; simp); simp only at this; omega)
    rw [mulP_add va vb hpb] at hadd
    (repeat' (first | (refine Rn.go ?_; conv => whnf) | refine .mk ?_ | refine .tt ?_ | refine .ff ?_ | refine .m2 ?_ | refine .m3 ?_ | refine .mk (fun hc => ?_) (fun hc => ?_) | refine .lp (fun v H lp => ?_) | fail))
    refine .pl ho hadd (fun h' z => ?_)
    (repeat' (first | (refine Rn.go ?_; conv => whnf) | refine .mk ?_ | refine .tt ?_ | refine .ff ?_ | refine .m2 ?_ | refine .m3 ?_ | refine .mk (fun hc => ?_) (fun hc => ?_) | refine .lp (fun v H lp => ?_) | fail))
    exact .nx ⟨_, rfl, z.hv hH (by simp), .inr ⟨_, by rw [mulP_snoc]⟩⟩
  · rintro _ h ρ ⟨v, rfl, hH, ho⟩
    have mi := MI.mul va vb (fun x hx => hx : ∀ x ∈ b, x ∈ b)
    have hin := inRange_fun (mulP a b) (by have := mi.len; omega)
    (repeat' (first | (refine Rn.go ?_; conv => whnf) | refine .mk ?_ | refine .tt ?_ | refine .ff ?_ | refine .m2 ?_ | refine .m3 ?_ | refine .mk (fun hc => ?_) (fun hc => ?_) | refine .lp (fun v H lp => ?_) | fail))
    refine .plS ho hin ?_
    (repeat' (first | (refine Rn.go ?_; conv => whnf) | refine .mk ?_ | refine .tt ?_ | refine .ff ?_ | refine .m2 ?_ | refine .m3 ?_ | refine .mk (fun hc => ?_) (fun hc => ?_) | refine .lp (fun v H lp => ?_) | fail))
    · rw [r3, if_neg (by omega)]; exact ho.ret2
    · exact ⟨_, rfl, by rw [r3, if_pos hc]; rfl⟩
theorem rtimes_fun (a : List Pw) (m : Int) (ha : ∀ p ∈ a, bulk p.1 < 10000000) (la : a.length < 10000000) :
    Fun C 18 [.snap false (encPs a), .int .i64 m] (.tup [.snap false (encPs (timesT a m).1), .int .i64 (timesT a m).2]) := by
  have hva := rpvalid_fun a (fun p hp => by have := ha p hp; omega) (by omega)
  have r1 : validP a ≠ 0 → timesT a m = ([], validP a) := fun h => by rw [timesT, if_pos h]
  have r2 : validP a = 0 → (m < -1000 ∨ 1000 < m) → timesT a m = ([], 7) := fun h h2 => by rw [timesT, if_neg (by omega), if_pos h2]
  have r3 : validP a = 0 → ¬ (m < -1000 ∨ 1000 < m) → timesT a m = resP (tmsP a m) := fun h h2 => by rw [timesT, if_neg (by omega), if_neg (by omega)]
  have hin := inRange_fun (tmsP a m) (by unfold tmsP; split <;> simp; omega)
  have hel := encPs_len a
  have ht : m = 0 → tmsP a m = [] := fun h => by rw [tmsP, if_pos h]
  have ht' : m ≠ 0 → tmsP a m = a.map fun p => (p.1, m * p.2) := fun h => by rw [tmsP, if_neg h]
  rw [resP_inE] at r3
  generalize timesT a m = R at *
  refine Fun.x T6 Tryz.func18 rfl ?_
  (repeat' (first | (refine Rn.go ?_; conv => whnf) | refine .mk ?_ | refine .tt ?_ | refine .ff ?_ | refine .m2 ?_ | refine .m3 ?_ | refine .mk (fun hc => ?_) (fun hc => ?_) | refine .lp (fun v H lp => ?_) | fail))
  refine .p hva ?_
  (repeat' (first | (refine Rn.go ?_; conv => whnf) | refine .mk ?_ | refine .tt ?_ | refine .ff ?_ | refine .m2 ?_ | refine .m3 ?_ | refine .mk (fun hc => ?_) (fun hc => ?_) | refine .lp (fun v H lp => ?_) | fail))
  rotate_left 3
  · exact ⟨_, rfl, by rw [r1 hc]; rfl⟩
  · exact ⟨_, rfl, by rw [r2 (by assumption) (by omega)]; rfl⟩
  · exact ⟨_, rfl, by rw [r2 (by assumption) (by omega)]; rfl⟩
  have va : validP a = 0 := by assumption
  have hb := (validP_zero va).2.1
  have r3 := r3 va (by omega)
  by_cases h0 : m = 0
  · have ht := ht h0
    have hil : inE ([] : List Pw) = 0 := rfl
    rw [ht, hil] at hin
    rw [ht, hil, if_neg (by simp)] at r3
    refine LpX.nat T6 (fun _ L H => L = [(0, .snap false (encPs a)), (1, .int .i64 m), (7, .snap true []), (8, .int .i64 0)]) 0 (.nx rfl) ?_
    rintro _ _ h ρ rfl
    (repeat' (first | (refine Rn.go ?_; conv => whnf) | refine .mk ?_ | refine .tt ?_ | refine .ff ?_ | refine .m2 ?_ | refine .m3 ?_ | refine .mk (fun hc => ?_) (fun hc => ?_) | refine .lp (fun v H lp => ?_) | fail))
    all_goals (refine .p hin ?_; (repeat' (first | (refine Rn.go ?_; conv => whnf) | refine .mk ?_ | refine .tt ?_ | refine .ff ?_ | refine .m2 ?_ | refine .m3 ?_ | refine .mk (fun hc => ?_) (fun hc => ?_) | refine .lp (fun v H lp => ?_) | fail)); exact ⟨_, rfl, by rw [r3]; rfl⟩)
  · have ht' := ht' h0
    refine LpX.zip T6 a (fun p q L H => ∃ v, L = [(0, .snap false (encPs a)), (1, .int .i64 m), (7, v), (8, .int .i64 p.length)] ∧ HV H ∧ Out 5 H v (encPs (p.map fun p => (p.1, m * p.2)))) (.nx ⟨_, rfl, HV.nil, .inl ⟨rfl, rfl⟩⟩) ?_ ?_
    · rintro p ⟨t, n⟩ q _ h ρ e ⟨v, rfl, hH, ho⟩
      have hat := at_encPs e
      have hl2 := congrArg List.length e
      simp only [List.length_append, List.length_cons] at hl2
      have hlp : (encPs (p.map fun p => (p.1, m * p.2))).length = p.length := by rw [encPs_len, List.length_map]
      have hn := hb (t, n) (by rw [e]; simp)
      have hnm := mul_bd (show -1000 ≤ m by omega) (show m ≤ 1000 by omega) hn.1 hn.2
      dsimp only at hn hnm
      (repeat' (first | (refine Rn.go ?_; conv => whnf) | refine .mk ?_ | refine .tt ?_ | refine .ff ?_ | refine .m2 ?_ | refine .m3 ?_ | refine .mk (fun hc => ?_) (fun hc => ?_) | refine .lp (fun v H lp => ?_) | fail))
      exact .nx ⟨_, rfl, lp.hv, by simpa [encPs] using lp.out⟩
    · rintro _ h ρ ⟨v, rfl, hH, ho⟩
      rw [← ht'] at ho
      (repeat' (first | (refine Rn.go ?_; conv => whnf) | refine .mk ?_ | refine .tt ?_ | refine .ff ?_ | refine .m2 ?_ | refine .m3 ?_ | refine .mk (fun hc => ?_) (fun hc => ?_) | refine .lp (fun v H lp => ?_) | fail))
      refine .plS (.inl ho) hin ?_
      (repeat' (first | (refine Rn.go ?_; conv => whnf) | refine .mk ?_ | refine .tt ?_ | refine .ff ?_ | refine .m2 ?_ | refine .m3 ?_ | refine .mk (fun hc => ?_) (fun hc => ?_) | refine .lp (fun v H lp => ?_) | fail))
      · rw [r3, if_neg (by omega)]; exact Ls.ret2 (.inl ho)
      · exact ⟨_, rfl, by rw [r3, if_pos hc]; rfl⟩
theorem bulk_resP {B : Nat} {l : List Pw} (h : ∀ p ∈ l, bulk p.1 < B) (hl : l.length ≤ B) : (∀ p ∈ (resP l).1, bulk p.1 < B) ∧ (resP l).1.length ≤ B := by
  unfold resP
  split
  · exact ⟨(fun p hp => by cases hp), by simp⟩
  · split
    · exact ⟨(fun p hp => by cases hp), by simp⟩
    · exact ⟨h, hl⟩
theorem sm_mulT {a b : List Pw} (ha : ∀ p ∈ a, bulk p.1 < 10000000) (hb : ∀ p ∈ b, bulk p.1 < 10000000) : Sm (mulT a b).1 := by
  unfold mulT
  split
  · exact ⟨(fun p hp => by cases hp), by simp⟩
  · split
    · exact ⟨(fun p hp => by cases hp), by simp⟩
    · rename_i h1 h2
      have mi := MI.mul (Decidable.not_not.1 h1) (Decidable.not_not.1 h2) (fun x hx => hx : ∀ x ∈ b, x ∈ b)
      have lb2 := (validP_zero (Decidable.not_not.1 h2)).1
      obtain ⟨h3, h4⟩ := bulk_resP (l := mulP a b) (mulP_bulk ha hb) (by have := mi.len; omega)
      exact ⟨fun p hp => by have := h3 p hp; omega, by omega⟩
theorem sm_timesT {a : List Pw} (m : Int) (ha : ∀ p ∈ a, bulk p.1 < 10000000) : Sm (timesT a m).1 := by
  unfold timesT
  split
  · exact ⟨(fun p hp => by cases hp), by simp⟩
  · split
    · exact ⟨(fun p hp => by cases hp), by simp⟩
    · rename_i h1 h2
      have la := (validP_zero (Decidable.not_not.1 h1)).1
      obtain ⟨h3, h4⟩ := bulk_resP (B := 10000000) (l := tmsP a m) (fun p hp => by
        unfold tmsP at hp
        split at hp
        · cases hp
        · obtain ⟨q, hq, rfl⟩ := List.mem_map.1 hp; exact ha q hq) (by unfold tmsP; split <;> simp; omega)
      exact ⟨fun p hp => by have := h3 p hp; omega, by omega⟩
end Go.Pm
end

/-
  CHAPTER 6, PART 50: characters, the reference. Conditions: none.
-/
section
set_option linter.unusedVariables false
set_option linter.unusedSimpArgs false
set_option linter.unusedVariables false
set_option linter.unusedSimpArgs false
set_option maxRecDepth 4000
namespace Go.Pm
open Go.Proofs
def pwr : List Pw → Tm → Int
  | [], _ => 0
  | p :: l, t => if cmpT p.1 t = 0 then p.2 else pwr l t
def valS (vs m : List Pw) : Int := (m.map fun p => p.2 * pwr vs p.1).sum
def modI (n q : Int) : Int := ((n.tmod q) + q).tmod q
def valC (q : Int) (vs m : List Pw) : Int := if q = 0 then valS vs m else modI (valS vs m) q
theorem valS_snoc (vs p : List Pw) (x : Pw) : valS vs (p ++ [x]) = valS vs p + x.2 * pwr vs x.1 := by simp [valS]
theorem pwr_bd {B : Int} (hB : 0 ≤ B) : ∀ {l : List Pw}, Bd B l → ∀ t, -B ≤ pwr l t ∧ pwr l t ≤ B
  | [], _, t => by simp [pwr]; omega
  | p :: l, b, t => by
    have ih := pwr_bd hB (l := l) (fun q hq => b q (by simp [hq])) t
    have hp := b p (by simp)
    rw [pwr]
    split <;> omega
theorem pwr_at {p q : List Pw} {x : Pw} {t : Tm} (h : ∀ y ∈ p, cmpT y.1 t ≠ 0) (hx : cmpT x.1 t = 0) : pwr (p ++ x :: q) t = x.2 := by
  induction p with
  | nil => rw [List.nil_append, pwr, if_pos hx]
  | cons y p ih => rw [List.cons_append, pwr, if_neg (h y (by simp)), ih (fun z hz => h z (by simp [hz]))]
theorem pwr_none {p : List Pw} {t : Tm} (h : ∀ y ∈ p, cmpT y.1 t ≠ 0) : pwr p t = 0 := by
  induction p with
  | nil => rfl
  | cons y p ih => rw [pwr, if_neg (h y (by simp)), ih (fun z hz => h z (by simp [hz]))]
/-- the values of a character, one after another -/
def bef (pr : Option Tm) (t : Tm) : Bool := match pr with | none => false | some q => decide (0 ≤ cmpT q t)
def rgtGo : Option Tm → List Pw → Bool
  | _, [] => true
  | pr, p :: l => if valid p.1 ≠ 0 ∨ special p.1 = true ∨ p.2 = 0 ∨ p.2 < -35184372088832 ∨ 35184372088832 < p.2 ∨ bef pr p.1 = true then false else rgtGo (some p.1) l
theorem rgtGo_cons (pr : Option Tm) (p : Pw) (l : List Pw) : rgtGo pr (p :: l) = if valid p.1 ≠ 0 ∨ special p.1 = true ∨ p.2 = 0 ∨ p.2 < -35184372088832 ∨ 35184372088832 < p.2 ∨ bef pr p.1 = true then false else rgtGo (some p.1) l := by
  cases pr <;> rfl
theorem rgtGo_nil (pr : Option Tm) : rgtGo pr [] = true := by cases pr <;> rfl
def rgtC (q : Int) (vs : List Pw) : Bool := if q < 0 ∨ q = 1 ∨ 35184372088832 < q ∨ 200 < vs.length then false else rgtGo none vs
def lastT (pr : Option Tm) (l : List Pw) : Option Tm := match l.getLast? with | some p => some p.1 | none => pr
theorem lastT_snoc (l : List Pw) (x : Pw) (pr : Option Tm) : lastT pr (l ++ [x]) = some x.1 := by simp [lastT]
theorem rgtGo_ok : ∀ {l : List Pw} {pr : Option Tm}, rgtGo pr l = true → Bd 35184372088832 l ∧ Srt l ∧ (∀ p ∈ l, valid p.1 = 0 ∧ special p.1 = false) ∧ ∀ q, pr = some q → ∀ p ∈ l, cmpT q p.1 < 0
  | [], _, _ => ⟨(fun p hp => by cases hp), by simp [Srt], (fun p hp => by cases hp), fun _ _ p hp => by cases hp⟩
  | p :: l, pr, h => by
    rw [rgtGo_cons] at h
    split at h
    · cases h
    · rename_i hn
      obtain ⟨b1, b2, b3, b4⟩ := rgtGo_ok h
      have hq : ∀ q, pr = some q → cmpT q p.1 < 0 := fun q hq => by
        subst hq
        have : ¬ 0 ≤ cmpT q p.1 := fun hh => hn (.inr (.inr (.inr (.inr (.inr (by simpa [bef] using hh))))))
        omega
      refine ⟨fun x hx => ?_, List.pairwise_cons.2 ⟨fun x hx => b4 p.1 rfl x hx, b2⟩, fun x hx => ?_, fun q hq' x hx => ?_⟩
      all_goals (rcases List.mem_cons.1 hx with rfl | hx)
      · omega
      · exact b1 x hx
      · refine ⟨by omega, ?_⟩
        cases hs : special x.1 with
        | false => rfl
        | true => exact absurd (.inr (.inl hs)) hn
      · exact b3 x hx
      · exact hq q hq'
      · exact cmpT_trans (hq q hq') (b4 p.1 rfl x hx)
attribute [local irreducible] thenQ blockQ loopQ bodyQ Ev EvOps CallEv FnEv EvD
theorem rpower_fun (l : List Pw) (t : Tm) (hl : Sm l) (ht : bulk t < 1000000000) : Fun C 55 [.snap false (encPs l), enc t] (.int .i64 (pwr l t)) := by
  have hel := encPs_len l
  have hl2 := hl.2
  rw [enc_x]
  refine Fun.x T6 Tryz.func55 rfl ?_
  (repeat' (first | (refine Rn.go ?_; conv => whnf) | refine .mk ?_ | refine .tt ?_ | refine .ff ?_ | refine .m2 ?_ | refine .m3 ?_ | refine .mk (fun hc => ?_) (fun hc => ?_) | refine .lp (fun v H lp => ?_) | fail))
  refine LpX.zip T6 l (fun p q L H => L = [(0, .snap false (encPs l)), (3, .ptr 0 0 0 0), (5, .int .i64 p.length)] ∧ H = [⟨.m, 0, 4, [.agg [.int .i64 t.k, .str t.s, .int .i64 t.o, .snap false (encs t.l)]]⟩] ∧ ∀ y ∈ p, cmpT y.1 t ≠ 0) (.nx ⟨rfl, rfl, by simp⟩) ?_ ?_
  · rintro p ⟨u, n⟩ q _ _ ρ e ⟨rfl, rfl, hp⟩
    have hat := at_encPs e
    have hl2 := congrArg List.length e
    simp only [List.length_append, List.length_cons] at hl2
    have hs := rsame_fun u t (hl.1 (u, n) (by rw [e]; simp)) ht
    (repeat' (first | (refine Rn.go ?_; conv => whnf) | refine .mk ?_ | refine .tt ?_ | refine .ff ?_ | refine .m2 ?_ | refine .m3 ?_ | refine .mk (fun hc => ?_) (fun hc => ?_) | refine .lp (fun v H lp => ?_) | fail))
    refine .p hs ?_
    by_cases hc : cmpT u t = 0
    · rw [decide_eq_true hc]
      (repeat' (first | (refine Rn.go ?_; conv => whnf) | refine .mk ?_ | refine .tt ?_ | refine .ff ?_ | refine .m2 ?_ | refine .m3 ?_ | refine .mk (fun hc => ?_) (fun hc => ?_) | refine .lp (fun v H lp => ?_) | fail))
      exact ⟨_, rfl, by rw [e, pwr_at hp hc]; rfl⟩
    · rw [decide_eq_false hc]
      (repeat' (first | (refine Rn.go ?_; conv => whnf) | refine .mk ?_ | refine .tt ?_ | refine .ff ?_ | refine .m2 ?_ | refine .m3 ?_ | refine .mk (fun hc => ?_) (fun hc => ?_) | refine .lp (fun v H lp => ?_) | fail))
      exact .nx ⟨rfl, rfl, fun y hy => by rcases List.mem_append.1 hy with h | h; exact hp y h; simp at h; rw [h]; exact hc⟩
  · rintro _ _ ρ ⟨rfl, rfl, hp⟩
    (repeat' (first | (refine Rn.go ?_; conv => whnf) | refine .mk ?_ | refine .tt ?_ | refine .ff ?_ | refine .m2 ?_ | refine .m3 ?_ | refine .mk (fun hc => ?_) (fun hc => ?_) | refine .lp (fun v H lp => ?_) | fail))
    exact ⟨_, rfl, by rw [pwr_none hp]; rfl⟩
theorem mod_fun (n q : Int) (hn : -9000000000000000000 ≤ n ∧ n ≤ 9000000000000000000) (hq : 1 ≤ q ∧ q ≤ 35184372088832) : Fun C 83 [.int .i64 n, .int .i64 q] (.int .i64 (modI n q)) := by
  have h1 : -q < n.tmod q ∧ n.tmod q < q := by
    have a1 := Int.tmod_lt_of_pos n (show 0 < q by omega)
    have a2 := Int.lt_tmod_of_pos n (show 0 < q by omega)
    omega
  refine Fun.x T6 Tryz.func83 rfl ?_
  (repeat' (first | (refine Rn.go ?_; conv => whnf) | refine .mk ?_ | refine .tt ?_ | refine .ff ?_ | refine .m2 ?_ | refine .m3 ?_ | refine .mk (fun hc => ?_) (fun hc => ?_) | refine .lp (fun v H lp => ?_) | fail))
  exact ⟨_, rfl, rfl⟩
theorem valS_bd {vs p : List Pw} (hv : Bd 35184372088832 vs) (hp : Bd 1000 p) : -(35184372088832000 * (p.length : Int)) ≤ valS vs p ∧ valS vs p ≤ 35184372088832000 * p.length := by
  induction p using snocInd with
  | h0 => simp [valS]
  | h1 p x ih =>
    have ih := ih (fun y hy => hp y (by simp [hy]))
    have hx := hp x (by simp)
    have h1 := pwr_bd (by omega) hv x.1
    have h2 := mul_bd hx.1 hx.2 h1.1 h1.2
    rw [valS_snoc, List.length_append]
    simp only [List.length_cons, List.length_nil, Int.natCast_add]
    omega
theorem value_fun (q : Int) (vs m : List Pw) (hq : q = 0 ∨ 1 ≤ q ∧ q ≤ 35184372088832) (hv : Bd 35184372088832 vs) (sv : Sm vs) (hm : Bd 1000 m) (lm : m.length ≤ 200) (sm : Sm m) : Fun C 47 [.snap false (encPs m), .agg [.int .i64 q, .snap false (encPs vs)]] (.int .i64 (valC q vs m)) := by
  have hel := encPs_len m
  refine Fun.x T6 Tryz.func47 rfl ?_
  (repeat' (first | (refine Rn.go ?_; conv => whnf) | refine .mk ?_ | refine .tt ?_ | refine .ff ?_ | refine .m2 ?_ | refine .m3 ?_ | refine .mk (fun hc => ?_) (fun hc => ?_) | refine .lp (fun v H lp => ?_) | fail))
  refine LpX.zip T6 m (fun p _ L H => L = [(0, .snap false (encPs m)), (3, .ptr 0 0 0 0), (5, .int .i64 (valS vs p)), (6, .int .i64 p.length)] ∧ H = [⟨.m, 0, 2, [.agg [.int .i64 q, .snap false (encPs vs)]]⟩]) (.nx ⟨rfl, rfl⟩) ?_ ?_
  · rintro p ⟨u, n⟩ r _ _ ρ e ⟨rfl, rfl⟩
    have hat := at_encPs e
    have hl2 := congrArg List.length e
    simp only [List.length_append, List.length_cons] at hl2
    have hpw := rpower_fun vs u sv (sm.1 (u, n) (by rw [e]; simp))
    have hn := hm (u, n) (by rw [e]; simp)
    have h1 := pwr_bd (by omega) hv u
    have h2 := mul_bd hn.1 hn.2 h1.1 h1.2
    have h3 := valS_bd hv (p := p) (fun y hy => hm y (by rw [e]; simp [hy]))
    dsimp only at hn h2
    have hsn := valS_snoc vs p (u, n)
    (repeat' (first | (refine Rn.go ?_; conv => whnf) | refine .mk ?_ | refine .tt ?_ | refine .ff ?_ | refine .m2 ?_ | refine .m3 ?_ | refine .mk (fun hc => ?_) (fun hc => ?_) | refine .lp (fun v H lp => ?_) | fail))
    refine .p hpw ?_
    (repeat' (first | (refine Rn.go ?_; conv => whnf) | refine .mk ?_ | refine .tt ?_ | refine .ff ?_ | refine .m2 ?_ | refine .m3 ?_ | refine .mk (fun hc => ?_) (fun hc => ?_) | refine .lp (fun v H lp => ?_) | fail))
    exact .nx ⟨by rw [hsn], rfl⟩
  · rintro _ _ ρ ⟨rfl, rfl⟩
    have h3 := valS_bd hv hm
    (repeat' (first | (refine Rn.go ?_; conv => whnf) | refine .mk ?_ | refine .tt ?_ | refine .ff ?_ | refine .m2 ?_ | refine .m3 ?_ | refine .mk (fun hc => ?_) (fun hc => ?_) | refine .lp (fun v H lp => ?_) | fail))
    · exact ⟨_, rfl, by rw [valC, if_pos hc]; rfl⟩
    · refine .p (mod_fun (valS vs m) q (by omega) (by omega)) ?_
      (repeat' (first | (refine Rn.go ?_; conv => whnf) | refine .mk ?_ | refine .tt ?_ | refine .ff ?_ | refine .m2 ?_ | refine .m3 ?_ | refine .mk (fun hc => ?_) (fun hc => ?_) | refine .lp (fun v H lp => ?_) | fail))
      exact ⟨_, rfl, by rw [valC, if_neg hc]; rfl⟩
end Go.Pm
end

/-
  CHAPTER 6, PART 51: characters, the reference's right and CheckRefute. Conditions: none.
-/
section
set_option linter.unusedVariables false
set_option linter.unusedSimpArgs false
set_option linter.unusedVariables false
set_option linter.unusedSimpArgs false
set_option maxRecDepth 4000
namespace Go.Pm
open Go.Proofs
theorem at_encPPs {l p q : List (List Pw)} {x : List Pw} (e : l = p ++ x :: q) : (encPPs l)[p.length]? = some (.snap false (encPs x)) := by rw [encPPs, e]; simp
@[simp] theorem encPPs_lenS (l : List (List Pw)) : (encPPs l).length = l.length := by simp [encPPs]
@[simp] theorem encPPs_vals (l : List (List Pw)) : isVals (encPPs l) = true := by induction l with | nil => rfl | cons x l ih => simpa [encPPs] using ih
@[simp] theorem encPPs_nrms (l : List (List Pw)) : nrms (encPPs l) = encPPs l := by induction l with | nil => rfl | cons x l ih => simpa [encPPs] using ih
theorem rgtGo_split {p q : List Pw} {x : Pw} {l : List Pw} (e : l = p ++ x :: q) (i : Nat) (hp : p ≠ []) : ∃ y, p.getLast? = some y ∧ l[p.length - 1]? = some y := by
  refine ⟨p.getLast hp, List.getLast?_eq_some_getLast hp, ?_⟩
  rw [e, List.getElem?_append_left (by have := List.length_pos_iff.2 hp; omega), List.getLast_eq_getElem hp, List.getElem?_eq_getElem]
attribute [local irreducible] thenQ blockQ loopQ bodyQ Ev EvOps CallEv FnEv EvD
theorem right_fun (c : Int) (vs : List Pw) (sv : Sm vs) : Fun C 46 [.agg [.int .i64 c, .snap false (encPs vs)]] (.bool (rgtC c vs)) := by
  have hel := encPs_len vs
  have hl2 := sv.2
  refine Fun.x T6 Tryz.func46 rfl ?_
  (repeat' (first | (refine Rn.go ?_; conv => whnf) | refine .mk ?_ | refine .tt ?_ | refine .ff ?_ | refine .m2 ?_ | refine .m3 ?_ | refine .mk (fun hc => ?_) (fun hc => ?_) | refine .lp (fun v H lp => ?_) | fail))
  all_goals first | (refine ⟨_, rfl, ?_⟩; rw [rgtC, if_pos (by omega)]; rfl) | skip
  refine LpX.zip T6 vs (fun p q L H => L = [(1, .ptr 0 0 0 0), (3, .int .i64 p.length)] ∧ HV H ∧ H[0]? = some ⟨.m, 0, 2, [.agg [.int .i64 c, .snap false (encPs vs)]]⟩ ∧ rgtC c vs = rgtGo (lastT none p) q) (.nx ⟨rfl, HV.one rfl, rfl, by rw [rgtC, if_neg (by omega)]; rfl⟩) ?_ ?_
  · rintro p ⟨u, n⟩ r _ h ρ e ⟨rfl, hH, h0, hg⟩
    have hat := at_encPs e
    have hl3 := congrArg List.length e
    simp only [List.length_append, List.length_cons] at hl3
    have hsm := sv.1 (u, n) (by rw [e]; simp)
    have hv := rvalid_fun u hsm
    have hsp : Fun C 82 [enc u] (.bool (special u)) := by obtain ⟨k1, s1, o1, l1⟩ := u; exact rspecial_fun k1 s1 o1 l1
    rw [rgtGo_cons] at hg
    (repeat' (first | (refine Rn.go ?_; conv => whnf) | refine .mk ?_ | refine .tt ?_ | refine .ff ?_ | refine .m2 ?_ | refine .m3 ?_ | refine .mk (fun hc => ?_) (fun hc => ?_) | refine .lp (fun v H lp => ?_) | fail))
    refine .p hv ?_
    (repeat' (first | (refine Rn.go ?_; conv => whnf) | refine .mk ?_ | refine .tt ?_ | refine .ff ?_ | refine .m2 ?_ | refine .m3 ?_ | refine .mk (fun hc => ?_) (fun hc => ?_) | refine .lp (fun v H lp => ?_) | fail))
    rotate_left
    · exact ⟨_, rfl, by rw [hg, if_pos (.inl hc)]; rfl⟩
    have v0 := hc
    clear hc hv
    refine .p hsp ?_
    cases hs : special u
    rotate_left
    · (repeat' (first | (refine Rn.go ?_; conv => whnf) | refine .mk ?_ | refine .tt ?_ | refine .ff ?_ | refine .m2 ?_ | refine .m3 ?_ | refine .mk (fun hc => ?_) (fun hc => ?_) | refine .lp (fun v H lp => ?_) | fail))
      exact ⟨_, rfl, by rw [hg, if_pos (.inr (.inl hs))]; rfl⟩
    rw [hs] at hsp
    rcases List.eq_nil_or_concat p with rfl | ⟨p', ⟨y, ny⟩, rfl⟩
    · (repeat' (first | (refine Rn.go ?_; conv => whnf) | refine .mk ?_ | refine .tt ?_ | refine .ff ?_ | refine .m2 ?_ | refine .m3 ?_ | refine .mk (fun hc => ?_) (fun hc => ?_) | refine .lp (fun v H lp => ?_) | fail))
      all_goals first
        | (refine ⟨_, rfl, ?_⟩; rw [hg, if_pos (by simp only; omega)]; rfl)
        | (refine .nx ⟨rfl, hH.app (HV.one (by simp)), by rw [List.getElem?_append_left (lt_of_some h0)]; exact h0, ?_⟩
           rw [hg, if_neg (by simp [v0, hs, lastT, bef]; omega)]; rfl)
    · have hy : (encPs vs)[p'.length]? = some (.agg [.int .i64 y.k, .str y.s, .int .i64 y.o, .snap false (encs y.l), .int .i64 ny]) := at_encPs (q := (u, n) :: r) (by rw [e]; simp)
      have hcm := rcmp_fun y u (sv.1 (y, ny) (by rw [e]; simp)) hsm
      have hll : (p'.concat (y, ny)).length = p'.length + 1 := by simp
      rw [List.concat_eq_append, lastT_snoc, bef] at hg
      (repeat' (first | (refine Rn.go ?_; conv => whnf) | refine .mk ?_ | refine .tt ?_ | refine .ff ?_ | refine .m2 ?_ | refine .m3 ?_ | refine .mk (fun hc => ?_) (fun hc => ?_) | refine .lp (fun v H lp => ?_) | fail))
      all_goals first
        | (refine ⟨_, rfl, ?_⟩; rw [hg, if_pos (by simp only; omega)]; rfl)
        | skip
      refine .mk (n := p'.length) ?_ (by omega) hy
      (repeat' (first | (refine Rn.go ?_; conv => whnf) | refine .mk ?_ | refine .tt ?_ | refine .ff ?_ | refine .m2 ?_ | refine .m3 ?_ | refine .mk (fun hc => ?_) (fun hc => ?_) | refine .lp (fun v H lp => ?_) | fail))
      refine .p hcm ?_
      (repeat' (first | (refine Rn.go ?_; conv => whnf) | refine .mk ?_ | refine .tt ?_ | refine .ff ?_ | refine .m2 ?_ | refine .m3 ?_ | refine .mk (fun hc => ?_) (fun hc => ?_) | refine .lp (fun v H lp => ?_) | fail))
      · exact ⟨_, rfl, by rw [hg, if_pos (by simp only; simp [hc])]; rfl⟩
      · refine .nx ⟨rfl, hH.app (HV.one (by simp)), by rw [List.getElem?_append_left (lt_of_some h0)]; exact h0, ?_⟩
        rw [hg, if_neg (by simp [v0, hs]; omega), lastT_snoc]
  · rintro _ h ρ ⟨rfl, hH, h0, hg⟩
    (repeat' (first | (refine Rn.go ?_; conv => whnf) | refine .mk ?_ | refine .tt ?_ | refine .ff ?_ | refine .m2 ?_ | refine .m3 ?_ | refine .mk (fun hc => ?_) (fun hc => ?_) | refine .lp (fun v H lp => ?_) | fail))
    exact ⟨_, rfl, by rw [hg, rgtGo_nil]; rfl⟩
theorem rcr_fun (c : Int) (vs m : List Pw) (l : List (List Pw)) (sv : Sm vs) (sm : ∀ p ∈ m, bulk p.1 < 100000000) (lm : m.length < 100000000) (sl : ∀ x ∈ l, (∀ p ∈ x, bulk p.1 < 100000000) ∧ x.length < 100000000) (ll : l.length < 100000000) :
    Fun C 11 [.snap false (encPPs l), .snap false (encPs m), .agg [.int .i64 c, .snap false (encPs vs)]]
      (.bool (decide (validP m = 0) && rgtC c vs && l.all (fun x => decide (validP x = 0) && decide (valC c vs x = 0)) && decide (valC c vs m ≠ 0))) := by
  have hel := encPs_len m
  have hell : (encPPs l).length = l.length := by simp
  have hvm := rpvalid_fun m sm lm
  have hrg := right_fun c vs sv
  refine Fun.x T6 Tryz.func11 rfl ?_
  (repeat' (first | (refine Rn.go ?_; conv => whnf) | refine .mk ?_ | refine .tt ?_ | refine .ff ?_ | refine .m2 ?_ | refine .m3 ?_ | refine .mk (fun hc => ?_) (fun hc => ?_) | refine .lp (fun v H lp => ?_) | fail))
  refine .p hvm ?_
  (repeat' (first | (refine Rn.go ?_; conv => whnf) | refine .mk ?_ | refine .tt ?_ | refine .ff ?_ | refine .m2 ?_ | refine .m3 ?_ | refine .mk (fun hc => ?_) (fun hc => ?_) | refine .lp (fun v H lp => ?_) | fail))
  rotate_left
  · exact ⟨_, rfl, by simp [hc, tupOf]⟩
  have vm := hc
  clear hc
  refine .p hrg ?_
  cases hr : rgtC c vs
  · (repeat' (first | (refine Rn.go ?_; conv => whnf) | refine .mk ?_ | refine .tt ?_ | refine .ff ?_ | refine .m2 ?_ | refine .m3 ?_ | refine .mk (fun hc => ?_) (fun hc => ?_) | refine .lp (fun v H lp => ?_) | fail))
    exact ⟨_, rfl, by simp [tupOf]⟩
  obtain ⟨bv, _, _, _⟩ := rgtGo_ok (l := vs) (pr := none) (by unfold rgtC at hr; split at hr; cases hr; exact hr)
  have hcq : c = 0 ∨ 1 ≤ c ∧ c ≤ 35184372088832 := by unfold rgtC at hr; split at hr; cases hr; omega
  rw [hr] at hrg
  have fv : ∀ x, validP x = 0 → (∀ p ∈ x, bulk p.1 < 100000000) → Fun C 47 [.snap false (encPs x), .agg [.int .i64 c, .snap false (encPs vs)]] (.int .i64 (valC c vs x)) := fun x hx hb => by
    obtain ⟨h1, h2, _⟩ := validP_zero hx
    exact value_fun c vs x hcq bv sv h2 h1 ⟨fun p hp => by have := hb p hp; omega, by omega⟩
  have hval := fv m vm sm
  (repeat' (first | (refine Rn.go ?_; conv => whnf) | refine .mk ?_ | refine .tt ?_ | refine .ff ?_ | refine .m2 ?_ | refine .m3 ?_ | refine .mk (fun hc => ?_) (fun hc => ?_) | refine .lp (fun v H lp => ?_) | fail))
  refine LpX.zip T6 l (fun p q L H => L = [(0, .snap false (encPPs l)), (1, .snap false (encPs m)), (5, .ptr 0 0 0 0), (7, .int .i64 p.length)] ∧ H = [⟨.m, 0, 2, [.agg [.int .i64 c, .snap false (encPs vs)]]⟩] ∧ (p.all fun x => decide (validP x = 0) && decide (valC c vs x = 0)) = true) (.nx ⟨rfl, rfl, rfl⟩) ?_ ?_
  · rintro p x q _ _ ρ e ⟨rfl, rfl, hp⟩
    have hat := at_encPPs e
    have hl3 := congrArg List.length e
    simp only [List.length_append, List.length_cons] at hl3
    obtain ⟨s1, s2⟩ := sl x (by rw [e]; simp)
    have hvx := rpvalid_fun x s1 s2
    (repeat' (first | (refine Rn.go ?_; conv => whnf) | refine .mk ?_ | refine .tt ?_ | refine .ff ?_ | refine .m2 ?_ | refine .m3 ?_ | refine .mk (fun hc => ?_) (fun hc => ?_) | refine .lp (fun v H lp => ?_) | fail))
    refine .p hvx ?_
    (repeat' (first | (refine Rn.go ?_; conv => whnf) | refine .mk ?_ | refine .tt ?_ | refine .ff ?_ | refine .m2 ?_ | refine .m3 ?_ | refine .mk (fun hc => ?_) (fun hc => ?_) | refine .lp (fun v H lp => ?_) | fail))
    · have hvv := fv x hc s1
      refine .p hvv ?_
      (repeat' (first | (refine Rn.go ?_; conv => whnf) | refine .mk ?_ | refine .tt ?_ | refine .ff ?_ | refine .m2 ?_ | refine .m3 ?_ | refine .mk (fun hc => ?_) (fun hc => ?_) | refine .lp (fun v H lp => ?_) | fail))
      · exact .nx ⟨rfl, rfl, by rw [List.all_append, hp]; simp [*]⟩
      · exact ⟨_, rfl, by rw [e, List.all_append, List.all_cons]; simp [*, tupOf]⟩
    · exact ⟨_, rfl, by rw [e, List.all_append, List.all_cons]; simp [hc, tupOf]⟩
  · rintro _ _ ρ ⟨rfl, rfl, hp⟩
    (repeat' (first | (refine Rn.go ?_; conv => whnf) | refine .mk ?_ | refine .tt ?_ | refine .ff ?_ | refine .m2 ?_ | refine .m3 ?_ | refine .mk (fun hc => ?_) (fun hc => ?_) | refine .lp (fun v H lp => ?_) | fail))
    refine .p hval ?_
    (repeat' (first | (refine Rn.go ?_; conv => whnf) | refine .mk ?_ | refine .tt ?_ | refine .ff ?_ | refine .m2 ?_ | refine .m3 ?_ | refine .mk (fun hc => ?_) (fun hc => ?_) | refine .lp (fun v H lp => ?_) | fail))
    all_goals exact ⟨_, rfl, by rw [hp]; simp [*, tupOf]⟩
end Go.Pm
end

/-
  CHAPTER 6, PART 43: Atom, Made. Conditions: none.
-/
section
set_option linter.unusedVariables false
set_option linter.unusedSimpArgs false
set_option linter.unusedVariables false
set_option linter.unusedSimpArgs false
set_option maxRecDepth 4000
namespace Go.Pm
open Go.Proofs
def sAbc : ByteArray := ⟨#[97, 98, 99, 100, 101, 102]⟩
def atm (i : Nat) : Tm := .mk 2 (sAbc.extract i (i + 1)) 2 []
def madeI : Nat → List Int → List Pw
  | _, [] => []
  | i, x :: l => if x = 0 then madeI (i + 1) l else (atm i, x) :: madeI (i + 1) l
def made (l : List Int) : List Pw := madeI 0 (l.take 6)
theorem madeI_snoc (x : Int) : ∀ (i : Nat) (l : List Int), madeI i (l ++ [x]) = madeI i l ++ if x = 0 then [] else [(atm (i + l.length), x)]
  | i, [] => by simp [madeI]
  | i, y :: l => by
    have ih := madeI_snoc x (i + 1) l
    simp only [List.cons_append, madeI, ih, List.length_cons, show i + 1 + l.length = i + (l.length + 1) by omega]
    split <;> simp
theorem madeI_len : ∀ (i : Nat) (l : List Int), (madeI i l).length ≤ l.length
  | i, [] => by simp [madeI]
  | i, y :: l => by have := madeI_len (i + 1) l; simp only [madeI]; split <;> simp <;> omega
def encI8 (l : List Int) : List PV := l.map fun x => .int .i8 x
theorem at_encI8 {l p q : List Int} {x : Int} (e : l = p ++ x :: q) : (encI8 l)[p.length]? = some (.int .i8 x) := by rw [encI8, e]; simp
@[simp] theorem encI8_len (l : List Int) : (encI8 l).length = l.length := by simp [encI8]
@[simp] theorem encI8_vals (l : List Int) : isVals (encI8 l) = true := by induction l with | nil => rfl | cons x l ih => simpa [encI8] using ih
@[simp] theorem encI8_nrms (l : List Int) : nrms (encI8 l) = encI8 l := by induction l with | nil => rfl | cons x l ih => simpa [encI8] using ih
attribute [local irreducible] thenQ blockQ loopQ bodyQ Ev EvOps CallEv FnEv EvD
theorem atom_fun (s : ByteArray) (n : Int) : Fun C 24 [.str s, .int .i64 n] (enc (.mk 2 s n [])) := by
  rw [enc_mk]
  refine Fun.x T6 Tryz.func24 rfl ?_
  (repeat' (first | (refine Rn.go ?_; conv => whnf) | refine .mk ?_ | refine .tt ?_ | refine .ff ?_ | refine .m2 ?_ | refine .m3 ?_ | refine .mk (fun hc => ?_) (fun hc => ?_) | refine .lp (fun v H lp => ?_) | fail))
  exact ⟨_, rfl, by simp [tupOf, nrm, nrms]⟩
theorem made_fun (l : List Int) (hl : l.length < 1000000000) (hr : ∀ x ∈ l, -128 ≤ x ∧ x ≤ 127) : Fun C 30 [.snap false (encI8 l)] (.snap false (encPs (made l))) := by
  have hel := encI8_len l
  have hsz : (ByteArray.mk #[97, 98, 99, 100, 101, 102]).size = 6 := rfl
  refine Fun.x T6 Tryz.func30 rfl ?_
  (repeat' (first | (refine Rn.go ?_; conv => whnf) | refine .mk ?_ | refine .tt ?_ | refine .ff ?_ | refine .m2 ?_ | refine .m3 ?_ | refine .mk (fun hc => ?_) (fun hc => ?_) | refine .lp (fun v H lp => ?_) | fail))
  refine LpX.zip T6 (l.take 6) (fun p q L H => ∃ v, L = [(0, .snap false (encI8 l)), (3, v), (4, .int .i64 p.length)] ∧ HV H ∧ Out 5 H v (encPs (madeI 0 p))) (.nx ⟨_, rfl, HV.nil, .inl ⟨rfl, rfl⟩⟩) ?_ ?_
  · rintro p x q _ h ρ e ⟨v, rfl, hH, ho⟩
    have hl2 := congrArg List.length e
    simp only [List.length_append, List.length_cons, List.length_take] at hl2
    have e2 : l = p ++ x :: (q ++ l.drop 6) := by have := (List.take_append_drop 6 l).symm; rw [e] at this; simpa using this
    have hat := at_encI8 e2
    have hx := hr x (by rw [e2]; simp)
    have hll := madeI_len 0 p
    have hlp : (encPs (madeI 0 p)).length = (madeI 0 p).length := encPs_len _
    have hsn := madeI_snoc x 0 p
    rw [Nat.zero_add] at hsn
    have hatm := atom_fun ((ByteArray.mk #[97, 98, 99, 100, 101, 102]).extract p.length (p.length + 1)) 2
    rw [enc_mk] at hatm
    (repeat' (first | (refine Rn.go ?_; conv => whnf) | refine .mk ?_ | refine .tt ?_ | refine .ff ?_ | refine .m2 ?_ | refine .m3 ?_ | refine .mk (fun hc => ?_) (fun hc => ?_) | refine .lp (fun v H lp => ?_) | fail))
    · refine .nx ⟨v, rfl, hH, ?_⟩
      rw [hsn, if_pos hc]; simpa using ho
    · refine .p hatm ?_
      (repeat' (first | (refine Rn.go ?_; conv => whnf) | refine .mk ?_ | refine .tt ?_ | refine .ff ?_ | refine .m2 ?_ | refine .m3 ?_ | refine .mk (fun hc => ?_) (fun hc => ?_) | refine .lp (fun v H lp => ?_) | fail))
      refine .nx ⟨_, rfl, lp.hv, ?_⟩
      rw [hsn, if_neg hc]
      have := lp.out
      rwa [show ([PV.agg [.int .i64 2, .str ((ByteArray.mk #[97, 98, 99, 100, 101, 102]).extract p.length (p.length + 1)), .int .i64 2, .snap false (encs []), .int .i64 x]] : List PV) = encPs [(atm p.length, x)] from rfl, encPs, encPs, ← List.map_append] at this
  · rintro _ h ρ ⟨v, rfl, hH, ho⟩
    have hl6 : (l.take 6).length = min 6 l.length := by simp
    obtain ⟨r1, e1, e2⟩ := ho.rbA (encPs_vals _)
    have fin : ∃ r1, rb h (tupOf [v]) = some r1 ∧ nrm r1 = .snap false (encPs (made l)) := ⟨r1, by rcases ho with ⟨rfl, _⟩ | ⟨id, ep, rfl, _⟩ <;> exact e1, by simpa [made] using e2⟩
    (repeat' (first | (refine Rn.go ?_; conv => whnf) | refine .mk ?_ | refine .tt ?_ | refine .ff ?_ | refine .m2 ?_ | refine .m3 ?_ | refine .mk (fun hc => ?_) (fun hc => ?_) | refine .lp (fun v H lp => ?_) | fail))
    all_goals exact fin
theorem atm_ok : ∀ i, i < 6 → valid (atm i) = 0 ∧ special (atm i) = false ∧ bulk (atm i) < 100 := by decide +kernel
theorem atm_lt : ∀ i, i < 6 → ∀ j, j < i → cmpT (atm j) (atm i) < 0 := by decide +kernel
end Go.Pm
end

/-
  CHAPTER 6, PART 52: the reference's All. Conditions: none.
-/
section
set_option linter.unusedVariables false
set_option linter.unusedSimpArgs false
set_option linter.unusedVariables false
set_option linter.unusedSimpArgs false
set_option maxRecDepth 4000
namespace Go.Pm
open Go.Proofs
def stepA (mix : List Int) (m : List Pw) (i : Nat) (x : List Int) : List Pw :=
  match mix[i]? with
  | none => m
  | some k => if (timesT (made x) k).2 = 0 then (if (mulT m (timesT (made x) k).1).2 = 0 then (mulT m (timesT (made x) k).1).1 else m) else m
def allM (mix : List Int) : Nat → List (List Int) → List Pw → List Pw
  | _, [], m => m
  | i, x :: l, m => allM mix (i + 1) l (stepA mix m i x)
def SmA (m : List Pw) : Prop := (∀ p ∈ m, bulk p.1 < 10000000) ∧ m.length ≤ 200
theorem resP_sm {l : List Pw} (h : ∀ p ∈ l, bulk p.1 < 10000000) : SmA (resP l).1 := by
  unfold resP
  split
  · exact ⟨(fun p hp => by cases hp), by simp⟩
  · split
    · exact ⟨(fun p hp => by cases hp), by simp⟩
    · exact ⟨h, by simp only; omega⟩
theorem mulT_sm {a b : List Pw} (ha : ∀ p ∈ a, bulk p.1 < 10000000) (hb : ∀ p ∈ b, bulk p.1 < 10000000) : SmA (mulT a b).1 := by
  unfold mulT
  split
  · exact ⟨(fun p hp => by cases hp), by simp⟩
  · split
    · exact ⟨(fun p hp => by cases hp), by simp⟩
    · exact resP_sm (mulP_bulk ha hb)
theorem timesT_sm {a : List Pw} (m : Int) (ha : ∀ p ∈ a, bulk p.1 < 10000000) : SmA (timesT a m).1 := by
  unfold timesT
  split
  · exact ⟨(fun p hp => by cases hp), by simp⟩
  · split
    · exact ⟨(fun p hp => by cases hp), by simp⟩
    · refine resP_sm fun p hp => ?_
      unfold tmsP at hp
      split at hp
      · cases hp
      · obtain ⟨q, hq, rfl⟩ := List.mem_map.1 hp; exact ha q hq
theorem made_mem : ∀ (i : Nat) (l : List Int), ∀ p ∈ madeI i l, ∃ j, p.1 = atm j
  | _, [], p, hp => by simp [madeI] at hp
  | i, x :: l, p, hp => by
    simp only [madeI] at hp
    split at hp
    · exact made_mem (i + 1) l p hp
    · rcases List.mem_cons.1 hp with rfl | hp
      · exact ⟨i, rfl⟩
      · exact made_mem (i + 1) l p hp
theorem atm_bulk (i : Nat) : bulk (atm i) < 100 := by
  have : (sAbc.extract i (i + 1)).size ≤ 6 := by
    have : sAbc.size = 6 := rfl
    simp [ByteArray.size_extract]; omega
  simp only [atm, bulk, bulks]; omega
theorem made_sm (l : List Int) : SmA (made l) := by
  refine ⟨fun p hp => ?_, ?_⟩
  · obtain ⟨j, e⟩ := made_mem 0 _ p hp
    rw [e]; have := atm_bulk j; omega
  · have := madeI_len 0 (l.take 6)
    simp only [List.length_take] at this
    unfold made; omega
theorem stepA_sm {mix : List Int} {m : List Pw} (i : Nat) (x : List Int) (h : SmA m) : SmA (stepA mix m i x) := by
  unfold stepA
  split
  · exact h
  · split
    · split
      · exact mulT_sm h.1 (timesT_sm _ (made_sm x).1).1
      · exact h
    · exact h
theorem allM_sm {mix : List Int} : ∀ {l : List (List Int)} {i : Nat} {m : List Pw}, SmA m → SmA (allM mix i l m)
  | [], _, _, h => h
  | x :: l, i, m, h => allM_sm (l := l) (stepA_sm i x h)
def encLL (l : List (List Int)) : List PV := l.map fun x => .snap false (encI8 x)
theorem at_encLL {l p q : List (List Int)} {x : List Int} (e : l = p ++ x :: q) : (encLL l)[p.length]? = some (.snap false (encI8 x)) := by rw [encLL, e]; simp
@[simp] theorem encLL_len (l : List (List Int)) : (encLL l).length = l.length := by simp [encLL]
@[simp] theorem encLL_vals (l : List (List Int)) : isVals (encLL l) = true := by induction l with | nil => rfl | cons x l ih => simpa [encLL] using ih
@[simp] theorem encLL_nrms (l : List (List Int)) : nrms (encLL l) = encLL l := by induction l with | nil => rfl | cons x l ih => simpa [encLL] using ih
def i8L (l : List Int) : Prop := ∀ x ∈ l, -128 ≤ x ∧ x ≤ 127
attribute [local irreducible] thenQ blockQ loopQ bodyQ Ev EvOps CallEv FnEv EvD
theorem ret_ls {h : AHeap} {v : PV} {l : List (List Pw)} {m : List Pw} (o : Out 1 h v (encPPs l)) : ∃ r1, rb h (tupOf [v, .snap false (encPs m)]) = some r1 ∧ nrm r1 = .tup [.snap false (encPPs l), .snap false (encPs m)] := by
  obtain ⟨r1, h1, h2⟩ := o.rbA (encPPs_vals _)
  refine ⟨.tup [r1, .snap false (encPs m)], by simp only [tupOf, rb, rbAs, h1]; rfl, ?_⟩
  simp only [nrm, nrms, h2, encPPs_nrms, nrms_encPs]
theorem all_fun (l : List (List Int)) (mix rest : List Int) (hl : ∀ x ∈ l, i8L x ∧ x.length < 1000000000) (ll : l.length < 1000000000) (hm : i8L mix) (lm : mix.length < 1000000000) (hr : i8L rest) (lr : rest.length < 1000000000) :
    Fun C 9 [.agg [.snap false (encLL l), .snap false (encI8 mix), .snap false (encI8 rest)]] (.tup [.snap false (encPPs ((l.take 8).map made)), .snap false (encPs (allM mix 0 (l.take 8) (made rest)))]) := by
  have hel := encLL_len l
  have hmr := made_fun rest lr hr
  have hem := encI8_len mix
  refine Fun.x T6 Tryz.func9 rfl ?_
  (repeat' (first | (refine Rn.go ?_; conv => whnf) | refine .mk ?_ | refine .tt ?_ | refine .ff ?_ | refine .m2 ?_ | refine .m3 ?_ | refine .mk (fun hc => ?_) (fun hc => ?_) | refine .lp (fun v H lp => ?_) | fail))
  refine .p hmr ?_
  (repeat' (first | (refine Rn.go ?_; conv => whnf) | refine .mk ?_ | refine .tt ?_ | refine .ff ?_ | refine .m2 ?_ | refine .m3 ?_ | refine .mk (fun hc => ?_) (fun hc => ?_) | refine .lp (fun v H lp => ?_) | fail))
  refine LpX.zip T6 (l.take 8) (fun p q L H => ∃ v m, L = [(1, .ptr 0 0 0 0), (4, v), (5, .snap false (encPs m)), (6, .int .i64 p.length)] ∧ HV H ∧ H[0]? = some ⟨.m, 0, 3, [.agg [.snap false (encLL l), .snap false (encI8 mix), .snap false (encI8 rest)]]⟩ ∧ Out 1 H v (encPPs (p.map made)) ∧ (∀ ep n, v ≠ .mref 0 ep 0 n) ∧ SmA m ∧ allM mix 0 (l.take 8) (made rest) = allM mix p.length q m) (.nx ⟨_, _, rfl, HV.one rfl, rfl, .inl ⟨rfl, rfl⟩, (fun _ _ h => by cases h), made_sm _, rfl⟩) ?_ ?_
  · rintro p x q _ h ρ e ⟨v, m, rfl, hH, h0, ho, hv0, sm, hg⟩
    have hl2 := congrArg List.length e
    simp only [List.length_append, List.length_cons, List.length_take] at hl2
    have e2 : l = p ++ x :: (q ++ l.drop 8) := by have := (List.take_append_drop 8 l).symm; rw [e] at this; simpa using this
    have hat := at_encLL e2
    obtain ⟨hx1, hx2⟩ := hl x (by rw [e2]; simp)
    have hmx := made_fun x hx2 hx1
    have hlp : (encPPs (p.map made)).length = p.length := by simp
    (repeat' (first | (refine Rn.go ?_; conv => whnf) | refine .mk ?_ | refine .tt ?_ | refine .ff ?_ | refine .m2 ?_ | refine .m3 ?_ | refine .mk (fun hc => ?_) (fun hc => ?_) | refine .lp (fun v H lp => ?_) | fail))
    refine .p hmx ?_
    (repeat' (first | (refine Rn.go ?_; conv => whnf) | refine .mk ?_ | refine .tt ?_ | refine .ff ?_ | refine .m2 ?_ | refine .m3 ?_ | refine .mk (fun hc => ?_) (fun hc => ?_) | refine .lp (fun v H lp => ?_) | fail))
    obtain ⟨h0', hv0'⟩ := lp.obj h0 hv0
    have hH' := lp.hv
    have lpo := lp.out
    have hpp : encPPs (p.map made) ++ [.snap false (encPs (made x))] = encPPs ((p ++ [x]).map made) := by simp [encPPs]
    rw [hpp] at lpo
    have lpo' := lpo
    have hlp2 : (encPPs ((p ++ [x]).map made)).length = p.length + 1 := by simp
    rcases lpo with ⟨rfl, hn⟩ | ⟨id, ep, rfl, e1⟩
    · rw [hn] at hlp2; simp at hlp2
    have hat2 : (encPPs ((p ++ [x]).map made))[0 + p.length]? = some (.snap false (encPs (made x))) := by rw [Nat.zero_add]; simp [encPPs]
    by_cases hi : p.length < mix.length
    · obtain ⟨k, hk⟩ : ∃ k, mix[p.length]? = some k := ⟨mix[p.length], List.getElem?_eq_getElem hi⟩
      have hatm : (encI8 mix)[p.length]? = some (.int .i8 k) := by rw [encI8, List.getElem?_map, hk]; rfl
      have hk2 := hm k (List.mem_of_getElem? hk)
      have hst : stepA mix m p.length x = if (timesT (made x) k).2 = 0 then (if (mulT m (timesT (made x) k).1).2 = 0 then (mulT m (timesT (made x) k).1).1 else m) else m := by rw [stepA, hk]
      have hti := rtimes_fun (made x) k (made_sm x).1 (by have := (made_sm x).2; omega)
      have tsm := timesT_sm k (made_sm x).1
      have hmu := rmul_fun m (timesT (made x) k).1 sm.1 tsm.1 (by have := sm.2; omega) (by have := tsm.2; omega)
      have ssm := stepA_sm (mix := mix) p.length x sm
      rw [allM] at hg
      (repeat' (first | (refine Rn.go ?_; conv => whnf) | refine .mk ?_ | refine .tt ?_ | refine .ff ?_ | refine .m2 ?_ | refine .m3 ?_ | refine .mk (fun hc => ?_) (fun hc => ?_) | refine .lp (fun v H lp => ?_) | fail))
      refine .p hti ?_
      (repeat' (first | (refine Rn.go ?_; conv => whnf) | refine .mk ?_ | refine .tt ?_ | refine .ff ?_ | refine .m2 ?_ | refine .m3 ?_ | refine .mk (fun hc => ?_) (fun hc => ?_) | refine .lp (fun v H lp => ?_) | fail))
      · refine .p hmu ?_
        (repeat' (first | (refine Rn.go ?_; conv => whnf) | refine .mk ?_ | refine .tt ?_ | refine .ff ?_ | refine .m2 ?_ | refine .m3 ?_ | refine .mk (fun hc => ?_) (fun hc => ?_) | refine .lp (fun v H lp => ?_) | fail))
        · exact .nx ⟨_, _, rfl, hH', h0', lpo', hv0', by rw [hst, if_pos (by assumption), if_pos hc] at ssm; exact ssm, by rw [hg, hst, if_pos (by assumption), if_pos hc]; simp⟩
        · exact .nx ⟨_, _, rfl, hH', h0', lpo', hv0', sm, by rw [hg, hst, if_pos (by assumption), if_neg hc]; simp⟩
      · exact .nx ⟨_, _, rfl, hH', h0', lpo', hv0', sm, by rw [hg, hst, if_neg hc]; simp⟩
    · have hst : stepA mix m p.length x = m := by rw [stepA, List.getElem?_eq_none (by omega)]
      rw [allM, hst] at hg
      (repeat' (first | (refine Rn.go ?_; conv => whnf) | refine .mk ?_ | refine .tt ?_ | refine .ff ?_ | refine .m2 ?_ | refine .m3 ?_ | refine .mk (fun hc => ?_) (fun hc => ?_) | refine .lp (fun v H lp => ?_) | fail))
      exact .nx ⟨_, _, rfl, hH', h0', lpo', hv0', sm, by rw [hg]; simp⟩
  · rintro _ h ρ ⟨v, m, rfl, hH, h0, ho, hv0, sm, hg⟩
    have hl6 : (l.take 8).length = min 8 l.length := by simp
    rw [allM] at hg
    (repeat' (first | (refine Rn.go ?_; conv => whnf) | refine .mk ?_ | refine .tt ?_ | refine .ff ?_ | refine .m2 ?_ | refine .m3 ?_ | refine .mk (fun hc => ?_) (fun hc => ?_) | refine .lp (fun v H lp => ?_) | fail))
    all_goals (rw [hg]; exact ret_ls ho)
end Go.Pm
end

/-
  CHAPTER 6, PART 56: the reading of descriptions and of characters. Conditions: none.
-/
section
set_option linter.unusedVariables false
set_option linter.unusedSimpArgs false
set_option linter.unusedVariables false
set_option linter.unusedSimpArgs false
set_option maxRecDepth 100000
set_option maxHeartbeats 2000000
namespace Go.Pm
open Go.Proofs Go.ChangeShapes Go.WideShapes
theorem ones {α : Type} : ∀ (l : List α), (l.map fun _ => 1).sum = l.length
  | [] => rfl
  | _ :: l => by rw [List.map_cons, List.sum_cons, ones l, List.length_cons]; omega
theorem mem_sumN {α : Type} (f : α → Nat) : ∀ {l : List α} {x : α}, x ∈ l → f x ≤ (l.map f).sum
  | y :: l, x, h => by
    rw [List.map_cons, List.sum_cons]
    rcases List.mem_cons.1 h with rfl | h
    · omega
    · have := mem_sumN f h; omega
theorem len_sumN {α : Type} (f : α → Nat) (hf : ∀ x, 1 ≤ f x) : ∀ (l : List α), l.length ≤ (l.map f).sum
  | [] => by simp
  | y :: l => by have := len_sumN f hf l; have := hf y; rw [List.map_cons, List.sum_cons, List.length_cons]; omega
instance : Inhabited { x : Int // -128 ≤ x ∧ x ≤ 127 } := ⟨⟨0, by decide⟩⟩
instance : Inhabited { l : List Int // i8L l } := ⟨⟨[], by intro x h; cases h⟩⟩
theorem coI8 : C.P.cellsOf 62 = 1 := by kernel_rfl
theorem coI8s : C.P.cellsOf 23 = 1 := by kernel_rfl
theorem coLL : C.P.cellsOf 22 = 1 := by kernel_rfl
theorem coPws : C.P.cellsOf 26 = 1 := by kernel_rfl
theorem coInt : C.P.cellsOf 3 = 1 := by kernel_rfl
theorem coDr : C.P.cellsOf 25 = 3 := by kernel_rfl
theorem coCh : C.P.cellsOf 28 = 2 := by kernel_rfl
theorem unDr : ∃ fs, C.P.underlying 25 = some (.struct fs) ∧ fs.toList.map (fun f => (f.offset, f.type)) = [(0, 22), (1, 23), (2, 23)] := kd_st (T6.hkd 25 _ rfl)
theorem unCh : ∃ fs, C.P.underlying 28 = some (.struct fs) ∧ fs.toList.map (fun f => (f.offset, f.type)) = [(0, 3), (1, 26)] := kd_st (T6.hkd 28 _ rfl)
open Go.Proofs.YtejhjciockgicaaGreat in
theorem read_i8s {H : Type} {ec : TypeId × Value → H} {w : World} {sp : Nat → Bool} {held : Bool} {n : Nat} {cs : List Value} {x : DataW H × List MemPlace} (h : DataW.trod ec C.P w 0 sp held n 23 cs = some x) :
    ∃ (c : Value) (l : List Int), cs = [c] ∧ SRel w NoB c (.snap false (encI8 l)) ∧ i8L l ∧ l.length + 1 ≤ Rows.uptoBulk x.1 := by
  obtain ⟨c, l, hc, h1, h2⟩ := read_slice (E := { x : Int // -128 ≤ x ∧ x ≤ 127 }) (fun e => .int .i8 e.1) (fun _ => 1) (kd_sl (T6.hkd 23 _ rfl)) coI8 (by decide) (fun _ => rfl) (fun n cs x hx => by
    obtain ⟨k, rfl, rfl, hw⟩ := DataW.trod_int (kd_int (T6.hkd 62 _ rfl)) hx
    have hk : -128 ≤ k ∧ k ≤ 127 := by
      simp only [Lit.wf, decide_eq_true_eq, Bool.and_eq_true] at hw
      have h1 : IntKind.i8.min = -128 := rfl
      have h2 : IntKind.i8.max = 127 := rfl
      omega
    exact ⟨⟨k, hk⟩, rfl, fun j hj => by obtain rfl : j = 0 := by omega
                                        exact .int _ _, by simp [Rows.uptoBulk]⟩) h
  refine ⟨c, l.map (·.1), hc, by simpa [encI8] using h1, fun x hx => ?_, ?_⟩
  · obtain ⟨y, _, rfl⟩ := List.mem_map.1 hx; exact y.2
  · rw [ones] at h2
    simp only [List.length_map]; exact h2
open Go.Proofs.YtejhjciockgicaaGreat in
theorem read_LL {H : Type} {ec : TypeId × Value → H} {w : World} {sp : Nat → Bool} {held : Bool} {n : Nat} {cs : List Value} {x : DataW H × List MemPlace} (h : DataW.trod ec C.P w 0 sp held n 22 cs = some x) :
    ∃ (c : Value) (l : List (List Int)), cs = [c] ∧ SRel w NoB c (.snap false (encLL l)) ∧ (∀ y ∈ l, i8L y ∧ y.length < Rows.uptoBulk x.1) ∧ l.length < Rows.uptoBulk x.1 := by
  obtain ⟨c, l, hc, h1, h2⟩ := read_slice (E := { l : List Int // i8L l }) (fun e => .snap false (encI8 e.1)) (fun e => e.1.length + 1) (kd_sl (T6.hkd 22 _ rfl)) coI8s (by decide) (fun _ => rfl) (fun n cs x hx => by
    obtain ⟨c, l, rfl, a1, a2, a3⟩ := read_i8s hx
    exact ⟨⟨l, a2⟩, rfl, fun j hj => by obtain rfl : j = 0 := by omega
                                        exact a1, a3⟩) h
  refine ⟨c, l.map (·.1), hc, by simpa [encLL, List.map_map, Function.comp_def] using h1, fun y hy => ?_, ?_⟩
  · obtain ⟨z, hz, rfl⟩ := List.mem_map.1 hy
    have := mem_sumN (fun e : { l : List Int // i8L l } => e.1.length + 1) hz
    exact ⟨z.2, by omega⟩
  · have := len_sumN (fun e : { l : List Int // i8L l } => e.1.length + 1) (fun x => by omega) l
    simp only [List.length_map]; omega
theorem fldOf {fs : Array Field} {os : List (Nat × TypeId)} (hfs : fs.toList.map (fun f => (f.offset, f.type)) = os) {i a b : Nat} (hi : os[i]? = some (a, b)) : ∃ f, fs[i]? = some f ∧ f.offset = a ∧ f.type = b := by
  rw [← hfs, List.getElem?_map] at hi
  have : fs[i]? = fs.toList[i]? := by simp
  rw [this]
  cases hh : fs.toList[i]? with
  | none => rw [hh] at hi; cases hi
  | some f =>
    rw [hh] at hi
    simp only [Option.map_some, Option.some.injEq, Prod.mk.injEq] at hi
    exact ⟨f, rfl, hi.1, hi.2⟩
open Go.Proofs.YtejhjciockgicaaGreat in
theorem read_draft {H : Type} {ec : TypeId × Value → H} {w : World} {sp : Nat → Bool} {held : Bool} {n : Nat} {cs : List Value} {x : DataW H × List MemPlace} (h : DataW.trod ec C.P w 0 sp held n 25 cs = some x) :
    ∃ (l : List (List Int)) (mix rest : List Int), SRel w NoB (.agg cs.toArray) (.agg [.snap false (encLL l), .snap false (encI8 mix), .snap false (encI8 rest)]) ∧ (∀ y ∈ l, i8L y ∧ y.length < Rows.uptoBulk x.1) ∧ l.length < Rows.uptoBulk x.1 ∧ i8L mix ∧ mix.length < Rows.uptoBulk x.1 ∧ i8L rest ∧ rest.length < Rows.uptoBulk x.1 := by
  obtain ⟨fs, hu, hfs⟩ := unDr
  obtain ⟨xs, m, rfl, rfl, hlen, hxl, hf⟩ := DataW.trod_struct hu h
  rw [coDr] at hlen
  have hsz : fs.size = 3 := by have := congrArg List.length hfs; simpa using this
  rw [hsz] at hxl
  match cs, hlen, xs, hxl with
  | [c0, c1, c2], _, [x0, x1, x2], _ =>
    obtain ⟨f0, g0, a0, b0⟩ := fldOf hfs (i := 0) rfl
    obtain ⟨f1, g1, a1, b1⟩ := fldOf hfs (i := 1) rfl
    obtain ⟨f2, g2, a2, b2⟩ := fldOf hfs (i := 2) rfl
    have h0 := hf 0 f0 g0
    have h1 := hf 1 f1 g1
    have h2 := hf 2 f2 g2
    rw [a0, b0, coLL] at h0
    rw [a1, b1, coI8s] at h1
    rw [a2, b2, coI8s] at h2
    simp only [List.drop_zero, List.take_succ_cons, List.take_zero, List.drop_succ_cons, List.getElem?_cons_zero, List.getElem?_cons_succ] at h0 h1 h2
    obtain ⟨d0, l, e0, s0, r0, q0⟩ := read_LL h0
    obtain ⟨d1, mix, e1, s1, r1, q1⟩ := read_i8s h1
    obtain ⟨d2, rest, e2, s2, r2, q2⟩ := read_i8s h2
    obtain rfl : c0 = d0 := by simpa using e0
    obtain rfl : c1 = d1 := by simpa using e1
    obtain rfl : c2 = d2 := by simpa using e2
    refine ⟨l, mix, rest, .agg _ _ rfl (fun j hj => by
      match j, hj with
      | 0, _ => exact s0
      | 1, _ => exact s1
      | 2, _ => exact s2), ?_⟩
    simp only [List.map_cons, List.map_nil, Rows.uptoBulk, Rows.uptoBulkAll]
    exact ⟨fun y hy => ⟨(r0 y hy).1, by have := (r0 y hy).2; omega⟩, by omega, r1, by omega, r2, by omega⟩
open Go.Proofs.YtejhjciockgicaaGreat in
theorem read_chr {H : Type} {ec : TypeId × Value → H} {w : World} {sp : Nat → Bool} {held : Bool} {n : Nat} {cs : List Value} {x : DataW H × List MemPlace} (h : DataW.trod ec C.P w 0 sp held n 28 cs = some x) :
    ∃ (c : Int) (vs : List Pw), SRel w NoB (.agg cs.toArray) (.agg [.int .i64 c, .snap false (encPs vs)]) ∧ (vs.map fun p => bulk p.1 + 1).sum < Rows.uptoBulk x.1 := by
  obtain ⟨fs, hu, hfs⟩ := unCh
  obtain ⟨xs, m, rfl, rfl, hlen, hxl, hf⟩ := DataW.trod_struct hu h
  rw [coCh] at hlen
  have hsz : fs.size = 2 := by have := congrArg List.length hfs; simpa using this
  rw [hsz] at hxl
  match cs, hlen, xs, hxl with
  | [c0, c1], _, [x0, x1], _ =>
    obtain ⟨f0, g0, a0, b0⟩ := fldOf hfs (i := 0) rfl
    obtain ⟨f1, g1, a1, b1⟩ := fldOf hfs (i := 1) rfl
    have h0 := hf 0 f0 g0
    have h1 := hf 1 f1 g1
    rw [a0, b0, coInt] at h0
    rw [a1, b1, coPws] at h1
    simp only [List.drop_zero, List.take_succ_cons, List.take_zero, List.drop_succ_cons, List.getElem?_cons_zero, List.getElem?_cons_succ] at h0 h1
    obtain ⟨k, e0, e0', _⟩ := DataW.trod_int (kd_int (T6.hkd 3 _ rfl)) h0
    obtain ⟨d1, vs, e1, s1, q1⟩ := read_pws h1
    obtain rfl : c0 = .int .i64 k := by simpa using e0
    obtain rfl : c1 = d1 := by simpa using e1
    refine ⟨k, vs, .agg _ _ rfl (fun j hj => by
      match j, hj with
      | 0, _ => exact .int _ _
      | 1, _ => exact s1), ?_⟩
    simp only [List.map_cons, List.map_nil, Rows.uptoBulk, Rows.uptoBulkAll]
    omega
open Go.Proofs.YtejhjciockgicaaGreat in
theorem read_draftv {H : Type} {ec : TypeId × Value → H} {w : World} {base : Nat} {sp : Nat → Bool} {v : Value} {d : DataW H} {p : List MemPlace} (hok : Value.okWide C.P w .any base 25 v) (h : DataW.Trod ec C.P w 0 sp true 25 v d p) :
    ∃ (l : List (List Int)) (mix rest : List Int), SRel w NoB v (.agg [.snap false (encLL l), .snap false (encI8 mix), .snap false (encI8 rest)]) ∧ (∀ y ∈ l, i8L y ∧ y.length < Rows.uptoBulk d) ∧ l.length < Rows.uptoBulk d ∧ i8L mix ∧ mix.length < Rows.uptoBulk d ∧ i8L rest ∧ rest.length < Rows.uptoBulk d := by
  obtain ⟨n, hn⟩ := h
  obtain ⟨fs, hu, hfs⟩ := unDr
  obtain ⟨cs, rfl, _⟩ := okWide_struct hu hok
  have := read_draft hn
  simpa [Value.cells] using this
open Go.Proofs.YtejhjciockgicaaGreat in
theorem read_chrv {H : Type} {ec : TypeId × Value → H} {w : World} {base : Nat} {sp : Nat → Bool} {v : Value} {d : DataW H} {p : List MemPlace} (hok : Value.okWide C.P w .any base 28 v) (h : DataW.Trod ec C.P w 0 sp true 28 v d p) :
    ∃ (c : Int) (vs : List Pw), SRel w NoB v (.agg [.int .i64 c, .snap false (encPs vs)]) ∧ (vs.map fun p => bulk p.1 + 1).sum < Rows.uptoBulk d := by
  obtain ⟨n, hn⟩ := h
  obtain ⟨fs, hu, hfs⟩ := unCh
  obtain ⟨cs, rfl, _⟩ := okWide_struct hu hok
  have := read_chr hn
  simpa [Value.cells] using this
end Go.Pm
end
