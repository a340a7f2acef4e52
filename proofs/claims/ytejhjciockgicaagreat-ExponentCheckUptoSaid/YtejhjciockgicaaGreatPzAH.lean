/-
  A part of the library Pm and its contracts (joined by program): PmTm2 PmRVal PmOpen PmCode PmMask PmAbs PmDraw. Conditions: none.
-/
import Derived.Test.YtejhjciockgicaaGreatPzAF
import Derived.Test.YtejhjciockgicaaGreatPzAC
import Derived.Test.YtejhjciockgicaaGreatPzAA
/-
  CHAPTER 6, PART 22: the program's Term. Conditions: none.
-/
section
set_option linter.unusedVariables false
set_option linter.unusedSimpArgs false
set_option linter.unusedVariables false
set_option linter.unusedSimpArgs false
set_option maxRecDepth 4000
set_option maxHeartbeats 4000000
namespace Go.Pm
open Go.Proofs
attribute [local irreducible] thenQ blockQ loopQ bodyQ Ev EvOps CallEv FnEv EvD

structure TI (H : AHeap) (vp vn : PV) (A B : List Tm) : Prop where
  hv : HV H
  z0 : H[0]? = some ⟨.m, 0, 4, [.agg [.int .i64 0, .str ByteArray.empty, .int .i64 0, .snap true []]]⟩
  op : Out 4 H vp (encs A)
  on : Out 4 H vn (encs B)
  ap : Apart vp vn
  p0 : ∀ ep n, vp ≠ .mref 0 ep 0 n
  n0 : ∀ ep n, vn ≠ .mref 0 ep 0 n
theorem TI.app {H : AHeap} {vp vn : PV} {A B : List Tm} (a : TI H vp vn A B) {K : AHeap} (hK : HV K) : TI (H ++ K) vp vn A B :=
  ⟨a.hv.app hK, by rw [List.getElem?_append_left (lt_of_some a.z0)]; exact a.z0, a.op.app K, a.on.app K, a.ap, a.p0, a.n0⟩
theorem TI.pos {H : AHeap} {vp vn : PV} {A B : List Tm} (a : TI H vp vn A B) {A' : List Tm} {v' : PV} {H' : AHeap} (lp : LP H vp 4 (encs A') v' H') : TI H' v' vn A' B :=
  have k := lp.keep a.on a.ap
  have z := lp.obj a.z0 a.p0
  ⟨lp.hv, z.1, lp.out, k.1, k.2, z.2, a.n0⟩
theorem TI.neg {H : AHeap} {vp vn : PV} {A B : List Tm} (a : TI H vp vn A B) {B' : List Tm} {v' : PV} {H' : AHeap} (lp : LP H vn 4 (encs B') v' H') : TI H' vp v' A B' :=
  have k := lp.keep a.op (fun j ep n ep' n' h1 h2 => a.ap j ep' n' ep n h2 h1)
  have z := lp.obj a.z0 a.n0
  ⟨lp.hv, z.1, k.1, lp.out, fun j ep n ep' n' h1 h2 => k.2 j ep' n' ep n h2 h1, a.p0, z.2⟩
theorem Out.notNew {sz : Nat} {h : AHeap} {v : PV} {es : List PV} (o : Out sz h v es) : ∀ ep n, v ≠ .mref h.length ep 0 n := fun ep n hh => by have := o.lt hh; omega
theorem wide_false {l : List Pw} {i : Nat} (h : wide (l.take i) = false) {p : Pw} (hp : l[i]? = some p) (h1 : ¬ 8 < p.2) (h2 : ¬ p.2 < -8) : wide (l.take (i + 1)) = false := by
  rw [take_snoc hp]
  unfold wide at h ⊢
  rw [List.any_append, h]
  simp; omega
theorem wide_true {l : List Pw} {p : Pw} (hp : p ∈ l) (h : 8 < p.2 ∨ p.2 < -8) : wide l = true := by
  unfold wide
  rw [List.any_eq_true]
  exact ⟨p, hp, decide_eq_true h⟩

theorem posT_len : ∀ {l : List Pw}, wide l = false → (posT l).length ≤ 8 * l.length
  | [], _ => by simp [posT]
  | p :: l, h => by
    have e : posT (p :: l) = List.replicate p.2.toNat p.1 ++ posT l := by simp [posT]
    unfold wide at h
    rw [List.any_cons, Bool.or_eq_false_iff] at h
    have h1 := of_decide_eq_false h.1
    have := posT_len h.2
    rw [e]; simp; omega
theorem negT_len : ∀ {l : List Pw}, wide l = false → (negT l).length ≤ 8 * l.length
  | [], _ => by simp [negT]
  | p :: l, h => by
    have e : negT (p :: l) = List.replicate (-p.2).toNat (invT p.1) ++ negT l := by simp [negT]
    unfold wide at h
    rw [List.any_cons, Bool.or_eq_false_iff] at h
    have h1 := of_decide_eq_false h.1
    have := negT_len h.2
    rw [e]; simp; omega
theorem encs_snoc (l : List Tm) (t : Tm) : encs l ++ [enc t] = encs (l ++ [t]) := by rw [encs_eq, encs_eq]; simp

theorem joinT_many : ∀ {l : List Tm}, 2 ≤ l.length → joinT l = .mk 3 sMul 0 l
  | [], h => by simp at h
  | [_], h => by simp at h
  | _ :: _ :: _, _ => rfl
theorem bulks_le {B : Nat} : ∀ {l : List Tm}, (∀ t ∈ l, bulk t ≤ B) → bulks l ≤ l.length * B
  | [], _ => by simp [bulks]
  | t :: l, h => by
    have h1 := h t (by simp)
    have h2 := bulks_le (l := l) (fun u hu => h u (by simp [hu]))
    simp only [bulks, List.length_cons, Nat.succ_mul]; omega
theorem sMul_sz : sMul.size = 3 := rfl
theorem sInv_sz : sInv.size = 3 := rfl
theorem sOne_sz : sOne.size = 3 := rfl
theorem bulk_join {l : List Pw} (hb : ∀ p ∈ l, bulk p.1 < 10000000) (h8 : ¬ 8 < (opsT l).length) : bulk (joinT (opsT l)) < 100000000 := by
  have h1 : ∀ t ∈ opsT l, bulk t ≤ 10000010 := by
    intro t ht
    unfold opsT posT negT at ht
    rcases List.mem_append.1 ht with ht | ht
    · obtain ⟨p, hp, ht⟩ := List.mem_flatMap.1 ht
      rw [(List.mem_replicate.1 ht).2]; have := hb p hp; omega
    · obtain ⟨p, hp, ht⟩ := List.mem_flatMap.1 ht
      rw [(List.mem_replicate.1 ht).2]
      have := hb p hp
      simp only [invT, bulk, bulks, sInv_sz]; omega
  generalize opsT l = al at h1 h8
  match al, h1, h8 with
  | [], _, _ => simp [joinT, bulk, bulks, sOne_sz]
  | [t], h1, _ => have := h1 t (by simp); simp only [joinT]; omega
  | t :: u :: r, h1, h8 =>
    have := bulks_le h1
    simp only [joinT, bulk, sMul_sz]
    simp only [List.length_cons] at this h8
    have : (r.length + 1 + 1) * 10000010 ≤ 8 * 10000010 := Nat.mul_le_mul_right _ (by omega)
    omega

set_option maxHeartbeats 16000000 in
theorem term_fun (l : List Pw) (hb : ∀ p ∈ l, bulk p.1 < 10000000) (hl : l.length < 1000000) : Fun C 29 [.snap false (encPs l)] (.tup [enc (termT l).1, .int .i64 (termT l).2]) := by
  have hva := pvalid_fun l (fun p hp => by have := hb p hp; omega) (by omega)
  have hel := encPs_len l
  have r1 : validP l ≠ 0 → termT l = (zeroT, validP l) := fun h => by rw [termT, if_pos h]
  have r2 : validP l = 0 → wide l = true → termT l = (zeroT, 3) := fun h h' => by rw [termT, if_neg (by omega), if_pos h']
  have r3 : validP l = 0 → wide l = false → 8 < (opsT l).length → termT l = (zeroT, 3) := fun h h' h2 => by rw [termT, if_neg (by omega), if_neg (by rw [h']; simp), if_pos h2]
  have r4 : validP l = 0 → wide l = false → ¬ 8 < (opsT l).length → valid (joinT (opsT l)) ≠ 0 → termT l = (zeroT, valid (joinT (opsT l))) := fun h h' h2 h3 => by rw [termT, if_neg (by omega), if_neg (by rw [h']; simp), if_neg h2, if_pos h3]
  have r5 : validP l = 0 → wide l = false → ¬ 8 < (opsT l).length → valid (joinT (opsT l)) = 0 → termT l = (joinT (opsT l), 0) := fun h h' h2 h3 => by rw [termT, if_neg (by omega), if_neg (by rw [h']; simp), if_neg h2, if_neg (by omega)]
  refine Fun.of (FnEv.bodyL Tryz.func29 rfl ?_)
  generalize termT l = R0 at r1 r2 r3 r4 r5 ⊢
  have fin : ∀ (t : Tm) (e : Int), R0 = (t, e) → ∀ (K : AHeap) (cs : List PV), nrm (.agg cs) = enc t → isVals cs = true → ∃ r1, rb K (tupOf [.agg cs, .int .i64 e]) = some r1 ∧ nrm r1 = PV.tup [enc R0.1, .int .i64 R0.2] := by
    intro t e hR K cs h1 h2
    have key : ∀ cs : List PV, isVals cs = true → rb1s K cs = some cs := by
      intro cs
      induction cs with
      | nil => intro _; rfl
      | cons c cs ih =>
        intro hh
        simp only [isVals, Bool.and_eq_true] at hh
        have : rb1 K c = some c := by
          unfold rb1
          split
          · simp [isVal] at hh
          · rw [if_pos hh.1]
        simp only [rb1s, this, ih hh.2]
    refine ⟨.tup [.agg cs, .int .i64 e], ?_, by rw [hR]; simp only [nrm, nrms] at h1 ⊢; rw [h1]⟩
    simp only [tupOf, rb, rbAs, rbA, key cs h2, Option.map_some]
    rfl
  have zz : nrm (.agg [.int .i64 0, .str ByteArray.empty, .int .i64 0, .snap true []]) = enc zeroT := by rw [zeroT, enc_mk]; rfl
  (repeat' (first | refine EvOps.nil ?_ | (apply R.move; exact rfl) | (apply R.assign; exact rfl) | (apply R.alloc T6; exact rfl; exact rfl; exact rfl; exact .nil) | refine Ev.seq ?_ | refine Ev.region ?_ | refine thenQ.normal ?_ | fail))
  refine R.call rfl rfl (CallEv.pure rfl (by simp [isVals, isVal]) (by simpa [nrms, nrm, nrms_encPs] using hva) ?_)
  (repeat' (first | refine EvOps.nil ?_ | (apply R.move; exact rfl) | (apply R.assign; exact rfl) | (apply R.cmp; exact rfl; exact rfl; exact rfl; all_goals intro hc) | (apply R.build T6; exact rfl; exact rfl; exact rfl; exact rfl; exact rfl; exact rfl) | (apply R.lenS T6; exact rfl; exact rfl) | refine Ev.seq ?_ | refine Ev.region ?_ | (apply Ev.condB; exact rfl) | refine Ev.skip ?_ | refine Ev.block ?_ | refine thenQ.normal ?_ | fail))
  · refine R.storeH T6 (n := 0) (o := ⟨.m, 0, 4, [.agg [.int .i64 0, .str ByteArray.empty, .int .i64 0, .snap true []]]⟩) (i := 0) (e := .agg [.int .i64 0, .str ByteArray.empty, .int .i64 0, .snap true []]) rfl rfl rfl rfl rfl rfl rfl rfl (Nat.le_refl 4) ?_
    (repeat' (first | refine EvOps.nil ?_ | (apply R.assign; exact rfl) | refine Ev.ret ?_ | refine thenQ.normal ?_ | refine thenQ.ret ?_ | (apply bodyQ.retC T6; exact rfl) | fail))
    exact fin _ _ (r1 (by assumption)) _ _ zz rfl
  have v0 := Decidable.not_not.1 hc
  clear hc r1
  have r2 := r2 v0
  have r3 := r3 v0
  have r4 := r4 v0
  have r5 := r5 v0
  refine Ev.loop (I := fun k' st => ∃ (i : Nat) (H : AHeap) (vp vn : PV) (ρ' : Nat → PV), st = ⟨al [(2, .ptr 0 0 0 0), (5, vp), (6, vn), (18, .snap false (encPs l)), (19, .int .i64 (encPs l).length), (20, .int .i64 i)] ρ', H⟩ ∧ k' + i = l.length ∧ TI H vp vn (posT (l.take i)) (negT (l.take i)) ∧ wide (l.take i) = false) l.length ?_ ?_
  · exact ⟨0, [⟨.m, 0, 4, [.agg [.int .i64 0, .str ByteArray.empty, .int .i64 0, .snap true []]]⟩], .snap true [], .snap true [], _, St.keep ⟨rfl, rfl, rfl, rfl, rfl, rfl, trivial⟩, rfl, ⟨HV.one rfl, rfl, Out.nil _ _, Out.nil _ _, (fun j ep n ep' n' h1 h2 => by cases h1), (fun ep n hh => by cases hh), (fun ep n hh => by cases hh)⟩, rfl⟩
  · rintro k' _ ⟨i, H, vp, vn, ρ', rfl, hk, ti, hw⟩
    (repeat' (first | refine EvOps.nil ?_ | (apply R.move; exact rfl) | (apply R.cmp; exact rfl; exact rfl; exact rfl; all_goals intro hc) | refine Ev.seq ?_ | refine Ev.region ?_ | (apply Ev.condB; exact rfl) | refine Ev.skip ?_ | refine Ev.exit ?_ | refine Ev.block ?_ | refine thenQ.normal ?_ | refine thenQ.exit ?_ | refine blockQ.hit ?_ | refine loopQ.exit ?_ | fail))
    · obtain ⟨k1, s1, o1, l1, n1, hmem, hat, hd, hil, hget⟩ := encPs_at hc
      have hcl := clone_fun (.mk k1 s1 o1 l1) (by have := hb _ hmem; simp only at this; omega)
      rw [enc_mk] at hcl
      refine R.indexS T6 rfl rfl rfl rfl hat rfl rfl ?_
      clear hc
      have t1 := ti.app (K := [⟨.m, 0, 5, [.agg [.int .i64 k1, .str s1, .int .i64 o1, .snap false (encs l1), .int .i64 n1]]⟩]) (HV.one rfl)
      have b1 : (H ++ [(⟨.m, 0, 5, [.agg [.int .i64 k1, .str s1, .int .i64 o1, .snap false (encs l1), .int .i64 n1]]⟩ : AObj)])[H.length]? = some ⟨.m, 0, 5, [.agg [.int .i64 k1, .str s1, .int .i64 o1, .snap false (encs l1), .int .i64 n1]]⟩ := by simp
      have q1 := ti.op.notNew
      have q2 := ti.on.notNew
      (repeat' (first | refine EvOps.nil ?_ | (apply R.gOn; exact rfl; exact rfl; exact rfl) | (apply R.gOff; exact rfl; exact rfl; exact rfl) | (apply R.move; exact rfl) | (apply R.pickT; exact rfl; exact rfl) | (apply R.pickF; exact rfl; exact rfl) | (apply R.loadA T6; exact rfl; exact rfl; exact rfl; exact rfl; exact (by repeat constructor)) | (apply R.fieldAddr T6; exact rfl; exact rfl; exact rfl; exact rfl) | (apply R.cmp; exact rfl; exact rfl; exact rfl; all_goals intro hc) | (apply R.build T6; exact rfl; exact rfl; exact rfl; exact rfl; exact rfl; exact rfl) | (apply R.allocN T6; exact rfl; exact rfl; exact rfl) | (apply R.storeN T6; exact rfl; exact rfl; exact rfl; exact rfl; exact rfl; exact rfl) | (apply R.load1H T6; exact rfl; exact rfl; exact rfl; exact (by assumption); exact rfl) | refine Ev.seq ?_ | refine Ev.region ?_ | (apply Ev.condB; exact rfl) | refine Ev.skip ?_ | refine Ev.block ?_ | refine thenQ.normal ?_ | fail))
      · refine R.storeH T6 (n := 0) (o := ⟨.m, 0, 4, [.agg [.int .i64 0, .str ByteArray.empty, .int .i64 0, .snap true []]]⟩) (i := 0) (e := .agg [.int .i64 0, .str ByteArray.empty, .int .i64 0, .snap true []]) rfl rfl rfl (getM_at t1.z0 rfl (by simp)) rfl rfl rfl rfl (Nat.le_refl 4) ?_
        (repeat' (first | refine EvOps.nil ?_ | (apply R.assign; exact rfl) | refine Ev.ret ?_ | refine thenQ.normal ?_ | refine thenQ.ret ?_ | refine blockQ.ret ?_ | refine loopQ.ret ?_ | fail))
        refine bodyQ.retC T6 (resC_cell T6 rfl (List.getElem?_set_self (lt_of_some t1.z0)) rfl rfl rfl rfl) ?_
        exact fin _ _ (r2 (wide_true hmem (by simp only; omega))) _ _ zz rfl
      · refine R.storeH T6 (n := 0) (o := ⟨.m, 0, 4, [.agg [.int .i64 0, .str ByteArray.empty, .int .i64 0, .snap true []]]⟩) (i := 0) (e := .agg [.int .i64 0, .str ByteArray.empty, .int .i64 0, .snap true []]) rfl rfl rfl (getM_at t1.z0 rfl (by simp)) rfl rfl rfl rfl (Nat.le_refl 4) ?_
        (repeat' (first | refine EvOps.nil ?_ | (apply R.assign; exact rfl) | refine Ev.ret ?_ | refine thenQ.normal ?_ | refine thenQ.ret ?_ | refine blockQ.ret ?_ | refine loopQ.ret ?_ | fail))
        refine bodyQ.retC T6 (resC_cell T6 rfl (List.getElem?_set_self (lt_of_some t1.z0)) rfl rfl rfl rfl) ?_
        exact fin _ _ (r2 (wide_true hmem (by simp only; omega))) _ _ zz rfl
      · have hn1 : -8 ≤ n1 ∧ n1 ≤ 8 := by omega
        have lenp := posT_len hw
        have lenn := negT_len hw
        rw [List.length_take_of_le (by omega)] at lenp lenn
        have hw' := wide_false hw hget (by simp only; omega) (by simp only; omega)
        clear hc
        refine Ev.loop (I := fun k2 st => ∃ (j : Nat) (H' : AHeap) (vp' : PV) (ρ' : Nat → PV), st = ⟨al [(2, .ptr 0 0 0 0), (5, vp'), (6, vn), (8, .ptr H.length 0 0 0), (18, .snap false (encPs l)), (19, .int .i64 (encPs l).length), (20, .int .i64 i), (34, .int .i64 n1), (35, .int .i64 j)] ρ', H'⟩ ∧ k2 + j = n1.toNat ∧
          TI H' vp' vn (posT (l.take i) ++ List.replicate j (.mk k1 s1 o1 l1)) (negT (l.take i)) ∧ H'[H.length]? = some ⟨.m, 0, 5, [.agg [.int .i64 k1, .str s1, .int .i64 o1, .snap false (encs l1), .int .i64 n1]]⟩ ∧ (∀ ep n, vp' ≠ .mref H.length ep 0 n)) n1.toNat ?_ ?_
        · exact ⟨0, _, vp, _, St.keep ⟨rfl, rfl, rfl, rfl, rfl, rfl, rfl, rfl, rfl, trivial⟩, by omega, by simpa using t1, b1, q1⟩
        · clear t1 b1 q1 ti
          rintro k2 _ ⟨j, H2, vp2, ρ2, rfl, hk2, t2, b2, q3⟩
          (repeat' (first | refine EvOps.nil ?_ | (apply R.move; exact rfl) | (apply R.fieldAddr T6; exact rfl; exact rfl; exact rfl; exact rfl) | (apply R.cmp; exact rfl; exact rfl; exact rfl; all_goals intro hc) | (apply R.neg; exact rfl; exact (wrapI (by omega) (by omega))) | (apply R.load1H T6; exact rfl; exact rfl; exact rfl; exact (by assumption); exact rfl) | (apply R.loadAH T6; exact rfl; exact rfl; exact rfl; exact (by assumption); exact (by repeat constructor)) | refine Ev.seq ?_ | refine Ev.region ?_ | (apply Ev.condB; exact rfl) | refine Ev.skip ?_ | refine Ev.exit ?_ | refine Ev.block ?_ | refine thenQ.normal ?_ | refine thenQ.exit ?_ | refine blockQ.hit ?_ | refine loopQ.exit ?_ | fail))
          · have hjn := hc
            refine R.call rfl rfl (CallEv.pure rfl (by simp [isVals, isVal]) (by simpa [nrms, nrm, nrms_encs] using hcl) ?_)
            (repeat' (first | (apply R.buildSlice T6; exact rfl; exact rfl; exact rfl; exact rfl; exact (by decide); exact rfl; exact rfl; exact rfl; exact rfl; exact rfl) | fail))
            refine R.appendLP T6 rfl rfl rfl rfl rfl rfl rfl (by decide) rfl rfl rfl rfl t2.op (show (encs _).length + 1 < _ by rw [encs_len, List.length_append, List.length_replicate]; omega) (by rw [isVals_eq, List.all_append, ← isVals_eq, isVals_encs]; rfl) t2.hv ?_
            intro v3 H3 lp
            have es : encs (posT (l.take i) ++ List.replicate j (.mk k1 s1 o1 l1)) ++ [.agg [.int .i64 k1, .str s1, .int .i64 o1, .snap false (encs l1)]] = encs (posT (l.take i) ++ List.replicate (j + 1) (.mk k1 s1 o1 l1)) := by
              rw [← enc_mk, encs_snoc, List.append_assoc, ← List.replicate_succ']
            have lp : LP H2 vp2 4 (encs (posT (l.take i) ++ List.replicate (j + 1) (.mk k1 s1 o1 l1))) v3 H3 := by rw [← es]; exact lp
            have ob := lp.obj b2 q3
            (repeat' (first | refine EvOps.nil ?_ | (apply R.move; exact rfl) | (apply R.assign; exact rfl) | (apply R.arith; exact rfl; exact rfl; exact rfl; exact (wrapI (by omega) (by omega))) | refine Ev.region ?_ | refine thenQ.normal ?_ | refine blockQ.normal ?_ | refine loopQ.normal ?_ | fail))
            exact ⟨k2 - 1, by omega, j + 1, H3, v3, _, St.keep ⟨rfl, rfl, rfl, rfl, rfl, rfl, rfl, rfl, rfl, trivial⟩, by omega, t2.pos lp, ob.1, ob.2⟩
          · obtain rfl : j = n1.toNat := by omega
            clear hc
            refine Ev.loop (I := fun k3 st => ∃ (j : Nat) (H' : AHeap) (vn' : PV) (ρ' : Nat → PV), st = ⟨al [(2, .ptr 0 0 0 0), (5, vp2), (6, vn'), (8, .ptr H.length 0 0 0), (18, .snap false (encPs l)), (19, .int .i64 (encPs l).length), (20, .int .i64 i), (46, .int .i64 (0 - n1)), (47, .int .i64 j)] ρ', H'⟩ ∧ k3 + j = (-n1).toNat ∧
              TI H' vp2 vn' (posT (l.take i) ++ List.replicate n1.toNat (.mk k1 s1 o1 l1)) (negT (l.take i) ++ List.replicate j (invT (.mk k1 s1 o1 l1))) ∧ H'[H.length]? = some ⟨.m, 0, 5, [.agg [.int .i64 k1, .str s1, .int .i64 o1, .snap false (encs l1), .int .i64 n1]]⟩ ∧ (∀ ep n, vn' ≠ .mref H.length ep 0 n)) (-n1).toNat ?_ ?_
            · exact ⟨0, _, vn, _, St.keep ⟨rfl, rfl, rfl, rfl, rfl, rfl, rfl, rfl, rfl, trivial⟩, by omega, by simpa using t2, b2, q2⟩
            · clear t2 b2
              rintro k3 _ ⟨j, H3, vn3, ρ3, rfl, hk3, t3, b3, q4⟩
              (repeat' (first | refine EvOps.nil ?_ | (apply R.move; exact rfl) | (apply R.fieldAddr T6; exact rfl; exact rfl; exact rfl; exact rfl) | (apply R.cmp; exact rfl; exact rfl; exact rfl; all_goals intro hc) | (apply R.arith; exact rfl; exact rfl; exact rfl; exact (wrapI (by omega) (by omega))) | (apply R.loadAH T6; exact rfl; exact rfl; exact rfl; exact (by assumption); exact (by repeat constructor)) | refine Ev.seq ?_ | refine Ev.region ?_ | (apply Ev.condB; exact rfl) | refine Ev.skip ?_ | refine Ev.exit ?_ | refine Ev.block ?_ | refine thenQ.normal ?_ | refine thenQ.exit ?_ | refine blockQ.normal ?_ | refine blockQ.hit ?_ | refine loopQ.normal ?_ | refine loopQ.exit ?_ | fail))
              · have hjn := hc
                refine R.call rfl rfl (CallEv.pure rfl (by simp [isVals, isVal]) (by simpa [nrms, nrm, nrms_encs] using hcl) ?_)
                (repeat' (first | (apply R.buildSlice T6; exact rfl; exact rfl; exact rfl; exact rfl; exact (by decide); exact rfl; exact rfl; exact rfl; exact rfl; exact rfl) | fail))
                have hap := app_fun sInv [.mk k1 s1 o1 l1]
                simp only [encs, enc_mk] at hap
                refine R.call rfl rfl (CallEv.pure rfl rfl (by show Fun C _ (nrms [.str sInv, .snap true [.agg [.int .i64 k1, .str s1, .int .i64 o1, .snap false (encs l1)]]]) _; simpa [nrms, nrm, nrms_encs] using hap) ?_)
                (repeat' (first | (apply R.buildSlice T6; exact rfl; exact rfl; exact rfl; exact rfl; exact (by decide); exact rfl; exact rfl; exact rfl; exact rfl; exact rfl) | fail))
                refine R.appendLP T6 rfl rfl rfl rfl rfl rfl rfl (by decide) rfl rfl rfl rfl t3.on (show (encs _).length + 1 < _ by rw [encs_len, List.length_append, List.length_replicate]; omega) (by rw [isVals_eq, List.all_append, ← isVals_eq, isVals_encs]; rfl) t3.hv ?_
                intro v4 H4 lp
                have es : encs (negT (l.take i) ++ List.replicate j (invT (.mk k1 s1 o1 l1))) ++ [.agg [.int .i64 3, .str sInv, .int .i64 0, .snap false [.agg [.int .i64 k1, .str s1, .int .i64 o1, .snap false (encs l1)]]]] = encs (negT (l.take i) ++ List.replicate (j + 1) (invT (.mk k1 s1 o1 l1))) := by
                  have : enc (invT (.mk k1 s1 o1 l1)) = .agg [.int .i64 3, .str sInv, .int .i64 0, .snap false [.agg [.int .i64 k1, .str s1, .int .i64 o1, .snap false (encs l1)]]] := by
                    unfold invT; rw [enc_mk]; simp only [encs, enc_mk]
                  rw [← this, encs_snoc, List.append_assoc, ← List.replicate_succ']
                have lp : LP H3 vn3 4 (encs (negT (l.take i) ++ List.replicate (j + 1) (invT (.mk k1 s1 o1 l1)))) v4 H4 := by rw [← es]; exact lp
                have ob := lp.obj b3 q4
                (repeat' (first | refine EvOps.nil ?_ | (apply R.move; exact rfl) | (apply R.assign; exact rfl) | (apply R.arith; exact rfl; exact rfl; exact rfl; exact (wrapI (by omega) (by omega))) | refine Ev.region ?_ | refine thenQ.normal ?_ | refine blockQ.normal ?_ | refine loopQ.normal ?_ | fail))
                exact ⟨k3 - 1, by omega, j + 1, H4, v4, _, St.keep ⟨rfl, rfl, rfl, rfl, rfl, rfl, rfl, rfl, rfl, trivial⟩, by omega, t3.neg lp, ob.1, ob.2⟩
              · obtain rfl : j = (-n1).toNat := by omega
                refine ⟨k' - 1, by omega, i + 1, H3, vp2, vn3, _, St.keep ⟨rfl, rfl, rfl, rfl, rfl, rfl, trivial⟩, by omega, ?_, hw'⟩
                rw [take_snoc hget, posT_snoc, negT_snoc]
                exact t3
    · have tk : l.take i = l := List.take_of_length_le (by omega)
      rw [tk] at ti hw
      have r2 := hw
      have r3 := r3 hw
      have r4 := r4 hw
      have r5 := r5 hw
      have lenp := posT_len hw
      have lenn := negT_len hw
      have hbj := bulk_join hb
      have hops : opsT l = posT l ++ negT l := rfl
      clear hc hw tk
      apply R.buildPair T6; exact rfl; exact rfl; exact rfl; exact rfl; exact rfl; exact rfl; exact rfl; exact ti.op; exact ti.on
      intro w H1 hx2 hH1
      have op1 : Out 4 H1 vp (encs (posT l)) := by rcases hH1 with rfl | rfl; exact ti.op; exact ti.op.app _
      have on1 : Out 4 H1 vn (encs (negT l)) := by rcases hH1 with rfl | rfl; exact ti.on; exact ti.on.app _
      have z1 : H1[0]? = some ⟨.m, 0, 4, [.agg [.int .i64 0, .str ByteArray.empty, .int .i64 0, .snap true []]]⟩ := by rcases hH1 with rfl | rfl; exact ti.z0; rw [List.getElem?_append_left (lt_of_some ti.z0)]; exact ti.z0
      clear hH1 ti
      skip
      refine R.call rfl rfl (CallEv.opened rfl ((concat_ev (posT l) (negT l) H1 w vp vn hx2 op1 on1 (by omega)).mono ?_))
      rintro r h' hcat
      have key : (if (belowR H1.length r && (h'.take H1.length).all fun o => o.es.all (belowA H1.length)) = true then h'.take H1.length else h') = h' := by
        rcases hcat with ⟨_, rfl, rfl⟩ | ⟨ep, rfl, rfl⟩
        · simp
        · rw [if_neg (by simp [belowR, belowA, below1])]
      rw [key]
      have ho : Out 4 h' r (encs (opsT l)) := by
        rw [hops]
        rcases hcat with ⟨h1, rfl, rfl⟩ | ⟨ep, rfl, rfl⟩
        · rw [h1]; exact .inl ⟨rfl, rfl⟩
        · exact .inr ⟨H1.length, ep, rfl, by simp⟩
      have z2 : h'[0]? = some ⟨.m, 0, 4, [.agg [.int .i64 0, .str ByteArray.empty, .int .i64 0, .snap true []]]⟩ := by
        rcases hcat with ⟨h1, rfl, rfl⟩ | ⟨ep, rfl, rfl⟩
        · exact z1
        · rw [List.getElem?_append_left (lt_of_some z1)]; exact z1
      have q2 : ∀ ep n, r ≠ .mref 0 ep 0 n := by
        intro ep n hh
        rcases hcat with ⟨h1, rfl, rfl⟩ | ⟨ep, rfl, rfl⟩
        · cases hh
        · have h0 := lt_of_some z1
          have := (PV.mref.inj hh).1
          omega
      have hal := encs_len (opsT l)
      clear key hcat z1 op1 on1 hx2
      (repeat' (first | refine EvOps.nil ?_ | (apply R.move; exact rfl) | (apply R.assign; exact rfl) | refine Ev.seq ?_ | refine Ev.region ?_ | refine thenQ.normal ?_ | fail))
      apply R.lenOut T6; exact rfl; exact rfl; exact ho
      (repeat' (first | refine EvOps.nil ?_ | (apply R.move; exact rfl) | (apply R.cmp; exact rfl; exact rfl; exact rfl; all_goals intro hc) | (apply R.build T6; exact rfl; exact rfl; exact rfl; exact rfl; exact rfl; exact rfl) | refine Ev.seq ?_ | refine Ev.region ?_ | (apply Ev.condB; exact rfl) | refine Ev.skip ?_ | refine thenQ.normal ?_ | fail))
      · refine R.storeH T6 (n := 0) (o := ⟨.m, 0, 4, [.agg [.int .i64 0, .str ByteArray.empty, .int .i64 0, .snap true []]]⟩) (i := 0) (e := .agg [.int .i64 0, .str ByteArray.empty, .int .i64 0, .snap true []]) rfl rfl rfl (getM_at z2 rfl (by simp)) rfl rfl rfl rfl (Nat.le_refl 4) ?_
        (repeat' (first | refine EvOps.nil ?_ | (apply R.assign; exact rfl) | refine Ev.ret ?_ | refine thenQ.normal ?_ | refine thenQ.ret ?_ | fail))
        refine bodyQ.retC T6 (resC_cell T6 rfl (List.getElem?_set_self (lt_of_some z2)) rfl rfl rfl rfl) ?_
        exact fin _ _ (r3 (by omega)) _ _ zz rfl
      · have h8 : ¬ 8 < (opsT l).length := by omega
        have hva := valid_fun _ (hbj h8)
        have r4 := r4 h8
        have r5 := r5 h8
        clear hc
        have hap := app_fun sMul (opsT l)
        rw [enc_mk] at hap
        refine R.call rfl rfl (CallEv.outF rfl ho (isVals_encs _) (by rw [nrms_encs]; exact hap) rfl ?_)
        intro H3 of3 len3 fr3
        have z3 : H3[0]? = some ⟨.m, 0, 4, [.agg [.int .i64 0, .str ByteArray.empty, .int .i64 0, .snap true []]]⟩ := by rw [fr3 0 q2]; exact z2
        (repeat' (first | refine EvOps.nil ?_ | (apply R.move; exact rfl) | (apply R.allocN T6; exact rfl; exact rfl; exact rfl) | (apply R.storeN T6; exact rfl; exact rfl; exact rfl; exact rfl; exact rfl; exact rfl) | refine Ev.seq ?_ | refine Ev.region ?_ | refine thenQ.normal ?_ | fail))
        apply R.lenOutF T6; exact rfl; exact rfl; exact of3.app _
        obtain ⟨H4, hH4⟩ : ∃ x, x = H3 ++ [⟨.m, 0, 4, [.agg [.int .i64 3, .str sMul, .int .i64 0, .snap false (encs (opsT l))]]⟩] := ⟨_, rfl⟩
        have z4 : H4[0]? = some ⟨.m, 0, 4, [.agg [.int .i64 0, .str ByteArray.empty, .int .i64 0, .snap true []]]⟩ := by rw [hH4, List.getElem?_append_left (lt_of_some z3)]; exact z3
        have b4 : H4[H3.length]? = some ⟨.m, 0, 4, [.agg [.int .i64 3, .str sMul, .int .i64 0, .snap false (encs (opsT l))]]⟩ := by rw [hH4]; simp
        have of4 : OutF 4 H4 r (encs (opsT l)) := by rw [hH4]; exact of3.app _
        refine EvOps.heap hH4.symm ?_
        have ne0 : H3.length ≠ 0 := by have := lt_of_some z3; omega
        clear hH4 of3 fr3
        (repeat' (first | refine EvOps.nil ?_ | (apply R.move; exact rfl) | (apply R.assign; exact rfl) | (apply R.cmp; exact rfl; exact rfl; exact rfl; all_goals intro hc) | (apply R.loadAH T6; exact rfl; exact rfl; exact rfl; exact (by assumption); exact (by repeat constructor)) | refine Ev.seq ?_ | refine Ev.region ?_ | (apply Ev.condB; exact rfl) | refine Ev.skip ?_ | refine Ev.block ?_ | refine thenQ.normal ?_ | refine blockQ.normal ?_ | fail))
        · -- no operand
          have hnil : opsT l = [] := List.eq_nil_of_length_eq_zero (by omega)
          have hj : joinT (opsT l) = .mk 3 sOne 0 [] := by rw [hnil]; rfl
          have ha1 := app_fun sOne []
          simp only [encs, enc_mk] at ha1
          refine R.call rfl rfl (CallEv.pure rfl rfl (by show Fun C _ (nrms [.str sOne, .snap true []]) _; simpa [nrms, nrm] using ha1) ?_)
          refine R.storeH T6 (n := 0) (o := ⟨.m, 0, 4, [.agg [.int .i64 3, .str sMul, .int .i64 0, .snap false (encs (opsT l))]]⟩) (i := 0) (e := .agg [.int .i64 3, .str sMul, .int .i64 0, .snap false (encs (opsT l))]) rfl rfl rfl (getM_at b4 rfl (by simp)) rfl rfl rfl rfl (Nat.le_refl 4) ?_
          obtain ⟨H5, hH5⟩ : ∃ x, x = H4.set H3.length ⟨.m, 0, 4, [.agg [.int .i64 3, .str sOne, .int .i64 0, .snap false []]]⟩ := ⟨_, rfl⟩
          have z5 : H5[0]? = some ⟨.m, 0, 4, [.agg [.int .i64 0, .str ByteArray.empty, .int .i64 0, .snap true []]]⟩ := by rw [hH5, List.getElem?_set_ne ne0]; exact z4
          have b5 : H5[H3.length]? = some ⟨.m, 0, 4, [.agg [.int .i64 3, .str sOne, .int .i64 0, .snap false []]]⟩ := by rw [hH5]; exact List.getElem?_set_self (lt_of_some b4)
          refine EvOps.heap hH5.symm ?_
          clear b4 hH5
          rw [hj, enc_mk] at hva
          (repeat' (first | refine EvOps.nil ?_ | (apply R.loadAH T6; exact rfl; exact rfl; exact rfl; exact (by assumption); exact (by repeat constructor)) | refine Ev.seq ?_ | refine Ev.region ?_ | refine thenQ.normal ?_ | refine blockQ.normal ?_ | fail))
          refine R.call rfl rfl (CallEv.pure rfl (by simp [isVals, isVal]) (by simpa [nrms, nrm, nrms_encs, encs] using hva) ?_)
          (repeat' (first | refine EvOps.nil ?_ | (apply R.move; exact rfl) | (apply R.assign; exact rfl) | (apply R.cmp; exact rfl; exact rfl; exact rfl; all_goals intro hc) | (apply R.build T6; exact rfl; exact rfl; exact rfl; exact rfl; exact rfl; exact rfl) | (apply R.loadAH T6; exact rfl; exact rfl; exact rfl; exact (by assumption); exact (by repeat constructor)) | refine Ev.seq ?_ | refine Ev.region ?_ | (apply Ev.condB; exact rfl) | refine Ev.skip ?_ | refine thenQ.normal ?_ | fail))
          · have hne := hc
            refine R.storeH T6 (n := 0) (o := ⟨.m, 0, 4, [.agg [.int .i64 0, .str ByteArray.empty, .int .i64 0, .snap true []]]⟩) (i := 0) (e := .agg [.int .i64 0, .str ByteArray.empty, .int .i64 0, .snap true []]) rfl rfl rfl (getM_at z5 rfl (by simp)) rfl rfl rfl rfl (Nat.le_refl 4) ?_
            (repeat' (first | refine EvOps.nil ?_ | (apply R.assign; exact rfl) | refine Ev.ret ?_ | refine thenQ.normal ?_ | refine thenQ.ret ?_ | fail))
            refine bodyQ.retC T6 (resC_cell T6 rfl (List.getElem?_set_self (lt_of_some z5)) rfl rfl rfl rfl) ?_
            exact fin _ _ ((r4 (by rw [hj]; exact hne)).trans (by rw [hj])) _ _ zz rfl
          · have h0 := Decidable.not_not.1 hc
            refine R.storeH T6 (n := 0) (o := ⟨.m, 0, 4, [.agg [.int .i64 0, .str ByteArray.empty, .int .i64 0, .snap true []]]⟩) (i := 0) (e := .agg [.int .i64 0, .str ByteArray.empty, .int .i64 0, .snap true []]) rfl rfl rfl (getM_at z5 rfl (by simp)) rfl rfl rfl rfl (Nat.le_refl 4) ?_
            (repeat' (first | refine EvOps.nil ?_ | (apply R.assign; exact rfl) | refine Ev.ret ?_ | refine thenQ.normal ?_ | fail))
            refine bodyQ.retC T6 (resC_cell T6 rfl (List.getElem?_set_self (lt_of_some z5)) rfl rfl rfl rfl) ?_
            refine fin _ _ (r5 (by rw [hj]; exact h0)) _ [.int .i64 3, .str sOne, .int .i64 0, .snap false []] ?_ rfl
            rw [hj, enc_mk]; simp [nrm, nrms, encs]
        · -- one operand
          have h1 : (opsT l).length = 1 := by omega
          obtain ⟨t, ht⟩ := List.length_eq_one_iff.1 h1
          have hj : joinT (opsT l) = t := by rw [ht]; rfl
          obtain ⟨k1, s1, o1, l1⟩ := t
          have hel : encs (opsT l) = [.agg [.int .i64 k1, .str s1, .int .i64 o1, .snap false (encs l1)]] := by rw [ht]; simp only [encs, enc_mk]
          rcases of4 with ⟨rfl, e0⟩ | ⟨id, ep, mu, rfl, e4, hmu⟩
          · rw [e0] at hel; cases hel
          have hmx : mu ≠ .x := by rcases hmu with rfl | rfl <;> simp
          rw [hel] at e4
          refine R.indexM T6 (i := 0) (o := ⟨mu, ep, 4, [.agg [.int .i64 k1, .str s1, .int .i64 o1, .snap false (encs l1)]]⟩) rfl rfl rfl (getM_at e4 rfl hmx) rfl (by omega) (by rw [hel]; exact Nat.le_refl 1) ?_
          refine R.loadA T6 (cs := [.int .i64 k1, .str s1, .int .i64 o1, .snap false (encs l1)]) rfl rfl rfl ?_ (by repeat constructor) ?_
          · simp only [pcells, getM_at e4 rfl hmx]; rfl
          refine R.storeH T6 (n := 0) (o := ⟨.m, 0, 4, [.agg [.int .i64 3, .str sMul, .int .i64 0, .snap false (encs (opsT l))]]⟩) (i := 0) (e := .agg [.int .i64 3, .str sMul, .int .i64 0, .snap false (encs (opsT l))]) rfl rfl rfl (getM_at b4 rfl (by simp)) rfl rfl rfl rfl (Nat.le_refl 4) ?_
          obtain ⟨H5, hH5⟩ : ∃ x, x = H4.set H3.length ⟨.m, 0, 4, [.agg [.int .i64 k1, .str s1, .int .i64 o1, .snap false (encs l1)]]⟩ := ⟨_, rfl⟩
          have z5 : H5[0]? = some ⟨.m, 0, 4, [.agg [.int .i64 0, .str ByteArray.empty, .int .i64 0, .snap true []]]⟩ := by rw [hH5, List.getElem?_set_ne ne0]; exact z4
          have b5 : H5[H3.length]? = some ⟨.m, 0, 4, [.agg [.int .i64 k1, .str s1, .int .i64 o1, .snap false (encs l1)]]⟩ := by rw [hH5]; exact List.getElem?_set_self (lt_of_some b4)
          refine EvOps.heap hH5.symm ?_
          clear b4 hH5
          rw [hj, enc_mk] at hva
          (repeat' (first | refine EvOps.nil ?_ | (apply R.loadAH T6; exact rfl; exact rfl; exact rfl; exact (by assumption); exact (by repeat constructor)) | refine Ev.seq ?_ | refine Ev.region ?_ | refine thenQ.normal ?_ | refine blockQ.normal ?_ | fail))
          refine R.call rfl rfl (CallEv.pure rfl (by simp [isVals, isVal]) (by simpa [nrms, nrm, nrms_encs, encs] using hva) ?_)
          (repeat' (first | refine EvOps.nil ?_ | (apply R.move; exact rfl) | (apply R.assign; exact rfl) | (apply R.cmp; exact rfl; exact rfl; exact rfl; all_goals intro hc) | (apply R.build T6; exact rfl; exact rfl; exact rfl; exact rfl; exact rfl; exact rfl) | (apply R.loadAH T6; exact rfl; exact rfl; exact rfl; exact (by assumption); exact (by repeat constructor)) | refine Ev.seq ?_ | refine Ev.region ?_ | (apply Ev.condB; exact rfl) | refine Ev.skip ?_ | refine thenQ.normal ?_ | fail))
          · have hne := hc
            refine R.storeH T6 (n := 0) (o := ⟨.m, 0, 4, [.agg [.int .i64 0, .str ByteArray.empty, .int .i64 0, .snap true []]]⟩) (i := 0) (e := .agg [.int .i64 0, .str ByteArray.empty, .int .i64 0, .snap true []]) rfl rfl rfl (getM_at z5 rfl (by simp)) rfl rfl rfl rfl (Nat.le_refl 4) ?_
            (repeat' (first | refine EvOps.nil ?_ | (apply R.assign; exact rfl) | refine Ev.ret ?_ | refine thenQ.normal ?_ | refine thenQ.ret ?_ | fail))
            refine bodyQ.retC T6 (resC_cell T6 rfl (List.getElem?_set_self (lt_of_some z5)) rfl rfl rfl rfl) ?_
            exact fin _ _ ((r4 (by rw [hj]; exact hne)).trans (by rw [hj])) _ _ zz rfl
          · have h0 := Decidable.not_not.1 hc
            refine R.storeH T6 (n := 0) (o := ⟨.m, 0, 4, [.agg [.int .i64 0, .str ByteArray.empty, .int .i64 0, .snap true []]]⟩) (i := 0) (e := .agg [.int .i64 0, .str ByteArray.empty, .int .i64 0, .snap true []]) rfl rfl rfl (getM_at z5 rfl (by simp)) rfl rfl rfl rfl (Nat.le_refl 4) ?_
            (repeat' (first | refine EvOps.nil ?_ | (apply R.assign; exact rfl) | refine Ev.ret ?_ | refine thenQ.normal ?_ | fail))
            refine bodyQ.retC T6 (resC_cell T6 rfl (List.getElem?_set_self (lt_of_some z5)) rfl rfl rfl rfl) ?_
            refine fin _ _ (r5 (by rw [hj]; exact h0)) _ [.int .i64 k1, .str s1, .int .i64 o1, .snap false (encs l1)] ?_ rfl
            rw [hj, enc_mk]; simp [nrm, nrms, nrms_encs]
        · -- two or more
          have hj : joinT (opsT l) = .mk 3 sMul 0 (opsT l) := joinT_many (by omega)
          clear of4
          rw [hj, enc_mk] at hva
          refine R.call rfl rfl (CallEv.pure rfl (by simp [isVals, isVal]) (by simpa [nrms, nrm, nrms_encs, encs] using hva) ?_)
          (repeat' (first | refine EvOps.nil ?_ | (apply R.move; exact rfl) | (apply R.assign; exact rfl) | (apply R.cmp; exact rfl; exact rfl; exact rfl; all_goals intro hc) | (apply R.build T6; exact rfl; exact rfl; exact rfl; exact rfl; exact rfl; exact rfl) | (apply R.loadAH T6; exact rfl; exact rfl; exact rfl; exact (by assumption); exact (by repeat constructor)) | refine Ev.seq ?_ | refine Ev.region ?_ | (apply Ev.condB; exact rfl) | refine Ev.skip ?_ | refine thenQ.normal ?_ | fail))
          · have hne := hc
            refine R.storeH T6 (n := 0) (o := ⟨.m, 0, 4, [.agg [.int .i64 0, .str ByteArray.empty, .int .i64 0, .snap true []]]⟩) (i := 0) (e := .agg [.int .i64 0, .str ByteArray.empty, .int .i64 0, .snap true []]) rfl rfl rfl (getM_at z4 rfl (by simp)) rfl rfl rfl rfl (Nat.le_refl 4) ?_
            (repeat' (first | refine EvOps.nil ?_ | (apply R.assign; exact rfl) | refine Ev.ret ?_ | refine thenQ.normal ?_ | refine thenQ.ret ?_ | fail))
            refine bodyQ.retC T6 (resC_cell T6 rfl (List.getElem?_set_self (lt_of_some z4)) rfl rfl rfl rfl) ?_
            exact fin _ _ ((r4 (by rw [hj]; exact hne)).trans (by rw [hj])) _ _ zz rfl
          · have h0 := Decidable.not_not.1 hc
            refine R.storeH T6 (n := 0) (o := ⟨.m, 0, 4, [.agg [.int .i64 0, .str ByteArray.empty, .int .i64 0, .snap true []]]⟩) (i := 0) (e := .agg [.int .i64 0, .str ByteArray.empty, .int .i64 0, .snap true []]) rfl rfl rfl (getM_at z4 rfl (by simp)) rfl rfl rfl rfl (Nat.le_refl 4) ?_
            (repeat' (first | refine EvOps.nil ?_ | (apply R.assign; exact rfl) | refine Ev.ret ?_ | refine thenQ.normal ?_ | fail))
            refine bodyQ.retC T6 (resC_cell T6 rfl (List.getElem?_set_self (lt_of_some z4)) rfl rfl rfl rfl) ?_
            refine fin _ _ (r5 (by rw [hj]; exact h0)) _ [.int .i64 3, .str sMul, .int .i64 0, .snap false (encs (opsT l))] ?_ rfl
            rw [hj, enc_mk]; simp [nrm, nrms, nrms_encs]

end Go.Pm
end

/-
  CHAPTER 6, PART 26: the reference's Valid of a product, and its operands. Conditions: none.
-/
section
set_option linter.unusedVariables false
set_option linter.unusedSimpArgs false
set_option linter.unusedVariables false
set_option linter.unusedSimpArgs false
set_option maxRecDepth 4000
set_option maxHeartbeats 8000000
namespace Go.Pm
open Go.Proofs
attribute [local irreducible] thenQ blockQ loopQ bodyQ Ev EvOps CallEv FnEv EvD
theorem rpvalid_fun (l : List Pw) (hb : ∀ p ∈ l, bulk p.1 < 100000000) (hl : l.length < 100000000) : Fun C 45 [.snap false (encPs l)] (.int .i64 (validP l)) := by
  have hel := encPs_len l
  have r1 : 200 < l.length → validP l = 3 := fun h => by rw [validP, if_pos h]
  have r2 : ¬ 200 < l.length → validP l = validGo none l := fun h => by rw [validP, if_neg h]
  refine Fun.of (FnEv.bodyL Tryz.func45 rfl ?_)
  generalize validP l = R0 at r1 r2 ⊢
  (repeat' (first | refine EvOps.nil ?_ | (apply R.move; exact rfl) | (apply R.assign; exact rfl) | (apply R.cmp; exact rfl; exact rfl; exact rfl; all_goals intro hc) | (apply R.lenS T6; exact rfl; exact rfl) | refine Ev.seq ?_ | refine Ev.region ?_ | (apply Ev.condB; exact rfl) | refine Ev.ret ?_ | refine Ev.skip ?_ | refine Ev.block ?_ | refine thenQ.normal ?_ | refine thenQ.ret ?_ | (apply bodyQ.ret; exact rfl) | fail))
  · exact ⟨_, rfl, by rw [r1 (by omega)]; rfl⟩
  · have r2 := r2 (by omega)
    clear r1
    refine Ev.loop (I := fun k' st => ∃ (i : Nat) (ρ' : Nat → PV), st = ⟨al [(0, .snap false (encPs l)), (3, .int .i64 i)] ρ', []⟩ ∧ k' + i = l.length ∧ R0 = validGo (prv l i) (l.drop i)) l.length ?_ ?_
    · exact ⟨0, _, St.keep ⟨rfl, rfl, trivial⟩, rfl, r2⟩
    · clear r2
      rintro k' _ ⟨i, ρ', rfl, hk, hb'⟩
      (repeat' (first | refine EvOps.nil ?_ | (apply R.move; exact rfl) | (apply R.assign; exact rfl) | (apply R.cmp; exact rfl; exact rfl; exact rfl; all_goals intro hc) | (apply R.lenS T6; exact rfl; exact rfl) | refine Ev.seq ?_ | refine Ev.region ?_ | (apply Ev.condB; exact rfl) | refine Ev.ret ?_ | refine Ev.skip ?_ | refine Ev.exit ?_ | refine Ev.block ?_ | refine thenQ.normal ?_ | refine thenQ.exit ?_ | refine blockQ.hit ?_ | refine loopQ.exit ?_ | (apply bodyQ.ret; exact rfl) | fail))
      · obtain ⟨k1, s1, o1, l1, n1, hmem, hat, hd, hil, hget⟩ := encPs_at hc
        have hva := rvalid_fun _ (by have := hb _ hmem; simp only at this; omega : bulk (.mk k1 s1 o1 l1) < 1000000000)
        have hsy := rspecial_fun k1 s1 o1 l1
        rw [hd, validGo_cons] at hb'
        simp only at hva hb'
        rw [enc_mk] at hva hsy
        clear hc
        refine R.indexS T6 rfl rfl rfl rfl hat rfl rfl ?_
        (repeat' (first | (apply R.loadA T6; exact rfl; exact rfl; exact rfl; exact rfl; exact (by repeat constructor)) | (apply R.fieldAddrS T6; exact rfl; exact rfl; exact rfl; exact rfl; exact rfl) | fail))
        refine R.call rfl rfl (CallEv.pure rfl (by simp [isVals, isVal]) (by simpa [nrms, nrm, nrms_encs] using hva) ?_)
        (repeat' (first | refine EvOps.nil ?_ | (apply R.move; exact rfl) | (apply R.assign; exact rfl) | (apply R.cmp; exact rfl; exact rfl; exact rfl; all_goals intro hc) | refine Ev.seq ?_ | refine Ev.region ?_ | (apply Ev.condB; exact rfl) | refine Ev.ret ?_ | refine Ev.skip ?_ | refine thenQ.normal ?_ | refine thenQ.ret ?_ | refine blockQ.ret ?_ | refine loopQ.ret ?_ | (apply bodyQ.ret; exact rfl) | fail))
        · rw [if_pos (by assumption)] at hb'
          exact ⟨_, rfl, by rw [hb']; rfl⟩
        · rw [if_neg (by assumption)] at hb'
          refine R.indexS T6 rfl rfl rfl rfl hat rfl rfl ?_
          (repeat' (first | (apply R.loadA T6; exact rfl; exact rfl; exact rfl; exact rfl; exact (by repeat constructor)) | (apply R.fieldAddrS T6; exact rfl; exact rfl; exact rfl; exact rfl; exact rfl) | fail))
          refine R.call rfl rfl (CallEv.pure rfl (by simp [isVals, isVal]) (by simpa [nrms, nrm, nrms_encs] using hsy) ?_)
          cases hsp : special (.mk k1 s1 o1 l1)
          · rw [if_neg (by rw [hsp]; simp)] at hb'
            (repeat' (first | refine EvOps.nil ?_ | (apply R.move; exact rfl) | refine Ev.seq ?_ | refine Ev.region ?_ | (apply Ev.condB; exact rfl) | refine Ev.skip ?_ | refine thenQ.normal ?_ | fail))
            refine R.indexS T6 rfl rfl rfl rfl hat rfl rfl ?_
            (repeat' (first | refine EvOps.nil ?_ | (apply R.gOn; exact rfl; exact rfl; exact rfl) | (apply R.gOff; exact rfl; exact rfl; exact rfl) | (apply R.move; exact rfl) | (apply R.assign; exact rfl) | (apply R.pickT; exact rfl; exact rfl) | (apply R.load1 T6; exact rfl; exact rfl; exact rfl; exact rfl) | (apply R.fieldAddrS T6; exact rfl; exact rfl; exact rfl; exact rfl; exact rfl) | (apply R.cmp; exact rfl; exact rfl; exact rfl; all_goals intro hc; all_goals (try (exfalso; omega))) | refine Ev.seq ?_ | refine Ev.region ?_ | (apply Ev.condB; exact rfl) | refine Ev.ret ?_ | refine thenQ.normal ?_ | refine thenQ.ret ?_ | refine blockQ.ret ?_ | refine loopQ.ret ?_ | (apply bodyQ.ret; exact rfl) | fail))
            · rw [if_pos (by omega)] at hb'; exact ⟨_, rfl, by rw [hb']; rfl⟩
            refine R.indexS T6 rfl rfl rfl rfl hat rfl rfl ?_
            (repeat' (first | refine EvOps.nil ?_ | (apply R.gOn; exact rfl; exact rfl; exact rfl) | (apply R.gOff; exact rfl; exact rfl; exact rfl) | (apply R.move; exact rfl) | (apply R.assign; exact rfl) | (apply R.pickT; exact rfl; exact rfl) | (apply R.pickF; exact rfl; exact rfl) | (apply R.load1 T6; exact rfl; exact rfl; exact rfl; exact rfl) | (apply R.fieldAddrS T6; exact rfl; exact rfl; exact rfl; exact rfl; exact rfl) | (apply R.cmp; exact rfl; exact rfl; exact rfl; all_goals intro hc; all_goals (try (exfalso; omega))) | refine Ev.seq ?_ | refine Ev.region ?_ | (apply Ev.condB; exact rfl) | refine Ev.ret ?_ | refine thenQ.normal ?_ | refine thenQ.ret ?_ | refine blockQ.ret ?_ | refine loopQ.ret ?_ | (apply bodyQ.ret; exact rfl) | fail))
            · rw [if_pos (by omega)] at hb'; exact ⟨_, rfl, by rw [hb']; rfl⟩
            refine R.indexS T6 rfl rfl rfl rfl hat rfl rfl ?_
            (repeat' (first | refine EvOps.nil ?_ | (apply R.gOn; exact rfl; exact rfl; exact rfl) | (apply R.move; exact rfl) | (apply R.assign; exact rfl) | (apply R.pickF; exact rfl; exact rfl) | (apply R.load1 T6; exact rfl; exact rfl; exact rfl; exact rfl) | (apply R.fieldAddrS T6; exact rfl; exact rfl; exact rfl; exact rfl; exact rfl) | (apply R.cmp; exact rfl; exact rfl; exact rfl; all_goals intro hc; all_goals (try (exfalso; omega))) | (apply R.arith; exact rfl; exact rfl; exact rfl; exact (wrapI (by omega) (by omega))) | refine Ev.seq ?_ | refine Ev.region ?_ | refine Ev.regionD ?_ | refine EvD.nil ?_ | (apply D.move; exact rfl) | (apply D.gOn; exact rfl; exact rfl; exact rfl; exact rfl) | (apply D.gOff; exact rfl; exact rfl; exact rfl) | (apply D.pickF; exact rfl; exact rfl) | (apply D.cmp; exact rfl; exact rfl; exact rfl; all_goals intro hc; all_goals (try (exfalso; omega))) | (apply D.arith; exact rfl; exact rfl; exact rfl; exact (wrapI (by omega) (by omega))) | (apply Ev.condB; exact rfl) | refine Ev.ret ?_ | refine Ev.skip ?_ | refine thenQ.normal ?_ | refine thenQ.ret ?_ | refine blockQ.normal ?_ | refine blockQ.ret ?_ | refine loopQ.normal ?_ | refine loopQ.ret ?_ | (apply bodyQ.ret; exact rfl) | fail))
            · rw [if_pos (by omega)] at hb'; exact ⟨_, rfl, by rw [hb']; rfl⟩
            · -- a factor before it
              rw [if_neg (by omega)] at hb'
              obtain ⟨i', rfl⟩ : ∃ i', i = i' + 1 := ⟨i - 1, by omega⟩
              obtain ⟨k2, s2, o2, l2, n2, hmem2, hat2, hd2, hil2, hget2⟩ := encPs_at (l := l) (i := i') (by omega)
              have hcm := rcmp_fun _ _ (by have := hb _ hmem2; simp only at this; omega : bulk (.mk k2 s2 o2 l2) < 1000000000) (by have := hb _ hmem; simp only at this; omega : bulk (.mk k1 s1 o1 l1) < 1000000000)
              rw [enc_mk, enc_mk] at hcm
              have hpr : prv l (i' + 1) = some (.mk k2 s2 o2 l2) := by simp only [prv, hget2]; rfl
              rw [hpr] at hb'
              simp only at hb'
              refine D.indexS T6 rfl rfl (congrArg (fun z => some (PV.int .i64 z)) (show ((i' + 1 : Nat) : Int) - 1 = (i' : Int) by omega)) rfl rfl hat2 rfl rfl ?_
              (repeat' (first | (apply D.move; exact rfl) | (apply D.gOn; exact rfl; exact rfl; exact rfl; exact rfl) | (apply D.fieldAddrS T6; exact rfl; exact rfl; exact rfl; exact rfl; exact rfl) | (apply D.loadA T6; exact (by first | exact rfl | assumption); exact rfl; exact rfl; exact rfl; exact rfl; exact rfl; exact (by repeat constructor)) | fail))
              refine D.indexS T6 rfl rfl rfl rfl rfl hat rfl rfl ?_
              (repeat' (first | (apply D.gOn; exact rfl; exact rfl; exact rfl; exact rfl) | (apply D.fieldAddrS T6; exact rfl; exact rfl; exact rfl; exact rfl; exact rfl) | (apply D.loadA T6; exact (by first | exact rfl | assumption); exact rfl; exact rfl; exact rfl; exact rfl; exact rfl; exact (by repeat constructor)) | fail))
              refine D.callP rfl rfl rfl rfl rfl rfl rfl (by simpa [nrms, nrm, nrms_encs] using hcm) ?_
              (repeat' (first | refine EvOps.nil ?_ | (apply R.move; exact rfl) | (apply R.assign; exact rfl) | (apply R.arith; exact rfl; exact rfl; exact rfl; exact (wrapI (by omega) (by omega))) | refine Ev.seq ?_ | refine Ev.region ?_ | refine EvD.nil ?_ | (apply D.gOn; exact rfl; exact rfl; exact rfl; exact rfl) | (apply D.pickT; exact rfl; exact rfl) | (apply D.cmp; exact rfl; exact rfl; exact rfl; all_goals intro hc) | (apply Ev.condB; exact rfl) | refine Ev.ret ?_ | refine Ev.skip ?_ | refine thenQ.normal ?_ | refine thenQ.ret ?_ | refine blockQ.normal ?_ | refine blockQ.ret ?_ | refine loopQ.normal ?_ | refine loopQ.ret ?_ | (apply bodyQ.ret; exact rfl) | fail))
              · rw [if_pos (decide_eq_true (by assumption))] at hb'
                exact ⟨_, rfl, by rw [hb']; rfl⟩
              · rw [if_neg (by rw [decide_eq_false (by assumption)]; simp)] at hb'
                refine ⟨k' - 1, by omega, i' + 1 + 1, _, St.keep ⟨rfl, rfl, trivial⟩, by omega, ?_⟩
                have : prv l (i' + 1 + 1) = some (.mk k1 s1 o1 l1) := by simp only [prv, hget]; rfl
                rw [this]; exact hb'
            · rw [if_neg (by omega)] at hb'
              obtain rfl : i = 0 := by omega
              simp only [prv, Bool.false_eq_true, if_false] at hb'
              refine ⟨k' - 1, by omega, 0 + 1, _, St.keep ⟨rfl, rfl, trivial⟩, by omega, ?_⟩
              have : prv l (0 + 1) = some (.mk k1 s1 o1 l1) := by simp only [prv, hget]; rfl
              rw [this]; exact hb'
          · rw [if_pos hsp] at hb'
            (repeat' (first | refine EvOps.nil ?_ | (apply R.assign; exact rfl) | refine Ev.seq ?_ | refine Ev.region ?_ | (apply Ev.condB; exact rfl) | refine Ev.ret ?_ | refine thenQ.normal ?_ | refine thenQ.ret ?_ | refine blockQ.ret ?_ | refine loopQ.ret ?_ | (apply bodyQ.ret; exact rfl) | fail))
            exact ⟨_, rfl, by rw [hb']; rfl⟩
      · rw [encPs_end hc, validGo_nil] at hb'
        exact ⟨_, rfl, by rw [hb']; rfl⟩
end Go.Pm
end

/-
  PM, PART 10: OPEN CALLS, LOCKED CALLS; a call of whichever function. Conditions: none.
-/
section
set_option linter.unusedVariables false
set_option linter.unusedSimpArgs false
set_option linter.unusedVariables false
namespace Go.Pm
variable {P : Program} {w : World} {F : Nat → Prop} {β : List (Nat × Nat)} {h : AHeap}

/-- two heaps of one shape -/
def Alike (h h' : AHeap) : Prop := h.length = h'.length ∧ ∀ (id : Nat) (o o' : AObj), h[id]? = some o → h'[id]? = some o' → o.ep = o'.ep ∧ o.esz = o'.esz ∧ o.es = o'.es ∧ (o.mu = .x ↔ o'.mu = .x)

theorem Alike.symm {h h' : AHeap} (a : Alike h h') : Alike h' h :=
  ⟨a.1.symm, fun id o o' e1 e2 => by obtain ⟨p1, p2, p3, p4⟩ := a.2 id o' o e2 e1; exact ⟨p1.symm, p2.symm, p3.symm, p4.symm⟩⟩

theorem at_of_lt {α : Type} {l : List α} {i : Nat} (h : i < l.length) : ∃ x, l[i]? = some x := ⟨l[i], List.getElem?_eq_getElem h⟩

theorem Alike.fwd {h' : AHeap} (a : Alike h h') (β : List (Nat × Nat)) : Fwd h β h' β := by
  intro id o bc e1 e2 e3
  have hid := lt_of_some e1
  obtain ⟨o', ho⟩ := at_of_lt (l := h') (i := id) (by rw [← a.1]; exact hid)
  obtain ⟨p1, p2, p3, p4⟩ := a.2 id o o' e1 ho
  exact ⟨o', bc, ho, e2, fun hh => e3 (p4.2 hh), by omega, fun _ => ⟨p2.symm, by rw [p3], rfl⟩⟩

theorem VRel.alike {h' : AHeap} (a : Alike h h') {A A' : Nat → Prop} (hA : ∀ b, A' b → A b) {v : Value} {p : PV} (r : VRel w A β h v p) : VRel w A' β h' v p :=
  r.fwd (a.fwd β) (fun _ _ _ => rfl) (fun b _ hn ha => hn (hA b ha))

theorem ORel.alike {h' : AHeap} (a : Alike h h') {A A' : Nat → Prop} (hA : ∀ b, A' b → A b) {o o' : AObj} {bc : Nat × Nat} (e1 : o.esz = o'.esz) (e2 : o.es = o'.es) (r : ORel w A β h o bc) : ORel w A' β h' o' bc := by
  obtain ⟨T, cs, h1, h2, h3, h4, h5⟩ := r
  refine ⟨T, cs, h1, by rw [← e2]; exact h2, by rw [← e1]; exact h3, by rw [← e1]; exact h4, fun i e he => ?_⟩
  rw [← e2] at he
  obtain ⟨k1, k2⟩ := h5 i e he
  refine ⟨by rw [← e1]; exact k1, fun j p hp => ?_⟩
  obtain ⟨v, m1, m2⟩ := k2 j p hp
  exact ⟨v, by rw [← e1]; exact m1, m2.alike a hA⟩

theorem lock1_shape (o : AObj) : (lock1 o).ep = o.ep ∧ (lock1 o).esz = o.esz ∧ (lock1 o).es = o.es ∧ ((lock1 o).mu = .x ↔ o.mu = .x) ∧ (lock1 o).mu ≠ .m ∧ ((lock1 o).mu = .f ↔ o.mu = .f) := by
  cases o with
  | mk mu ep esz es => cases mu <;> simp [lock1]

theorem alike_lock (h : AHeap) : Alike h (h.map lock1) := by
  refine ⟨by simp, fun id o o' e1 e2 => ?_⟩
  rw [List.getElem?_map, e1] at e2
  obtain rfl := Option.some.inj e2
  obtain ⟨p1, p2, p3, p4, _⟩ := lock1_shape o
  exact ⟨p1.symm, p2.symm, p3.symm, p4.symm⟩

theorem lock_Mb (h : AHeap) (β : List (Nat × Nat)) (b : Nat) : ¬ Mb (h.map lock1) β b := by
  rintro ⟨id, o, bc, e1, e2, e3, e4⟩
  rw [List.getElem?_map] at e1
  cases hh : h[id]? with
  | none => rw [hh] at e1; cases e1
  | some o2 =>
    rw [hh] at e1
    obtain rfl := Option.some.inj e1
    exact (lock1_shape o2).2.2.2.2.1 e3

theorem lock_at {h : AHeap} {id : Nat} {o : AObj} (e : (h.map lock1)[id]? = some o) : ∃ o2, h[id]? = some o2 ∧ o = lock1 o2 := by
  rw [List.getElem?_map] at e
  cases hh : h[id]? with
  | none => rw [hh] at e; cases e
  | some o2 => rw [hh] at e; exact ⟨o2, rfl, (Option.some.inj e).symm⟩

theorem HRel.lock (H : HRel w F β h) : HRel w (Av F h β) β (h.map lock1) := by
  have hA : ∀ b, Av (Av F h β) (h.map lock1) β b → Av F h β b := fun b hb => hb.elim id (fun hm => absurd hm (lock_Mb h β b))
  refine ⟨by simp [H.len], fun b hb => Av.lt H hb, ?_, ?_, ?_⟩
  · intro id o bc e1 e2 e3
    obtain ⟨o2, f1, rfl⟩ := lock_at e1
    obtain ⟨p1, p2, p3, p4, _⟩ := lock1_shape o2
    exact (H.obj id o2 bc f1 e2 (fun hh => e3 (p4.2 hh))).alike (alike_lock h) hA p2.symm p3.symm
  · intro id id' o o' bc bc' hne e1 e2 e3 e4 m1 m2
    obtain ⟨o2, f1, rfl⟩ := lock_at e1
    exact absurd m1 (lock1_shape o2).2.2.2.2.1
  · intro id o bc e1 e2 e3
    obtain ⟨o2, f1, rfl⟩ := lock_at e1
    obtain ⟨p1, p2, p3, p4, p5, p6⟩ := lock1_shape o2
    rcases e3 with e3 | e3
    · exact absurd e3 p5
    · exact frozen_out H f1 e2 (p6.1 e3)

theorem lockCall_sim {f : FuncId} {g : List PV → AHeap → Option (PV × AHeap)} (S : SimRun P f g) {lv : Nat} {args : List PV} {r : PV} {h' : AHeap} (e : lockCall g lv args h = some (r, h')) (H : HRel w F β h) {vs : List Value}
    (ha : L2 (VRel w (Av F h β) β h) vs args) : CSim P lv w F β h f vs r h' := by
  unfold lockCall at e
  split at e
  · rename_i hlv
    refine (S args h r h' e w F β vs H ha).mono ?_
    rintro en w' ⟨v, β1, q0, q1, q2, q3, q4⟩
    exact ⟨v, β1, q0, q1, q2, q3, fun hh => by omega⟩
  · split at e
    · split at e
      · rename_i r0 h1 he
        split at e
        · rename_i hnl
          obtain ⟨rfl, rfl⟩ := Prod.mk.inj (Option.some.inj e)
          have hAl : ∀ b, Av (Av F h β) (h.map lock1) β b → Av F h β b := fun b hb => hb.elim id (fun hm => absurd hm (lock_Mb h β b))
          refine (S args (h.map lock1) r0 h1 he w (Av F h β) β vs H.lock ⟨ha.1, fun j hj => (ha.2 j hj).alike (alike_lock h) hAl⟩).mono ?_
          rintro en w' ⟨v, β1, rfl, q1, q2, q3, q4⟩
          have hn : h.length ≤ h1.length := by have := q3.len; simpa using this
          have hb1 : β1.length = h1.length := q2.len
          have old : ∀ (id : Nat) (o : AObj), h[id]? = some o → h1[id]? = some (lock1 o) ∧ β1[id]? = β[id]? := fun id o ho => by
            have e1 : (h.map lock1)[id]? = some (lock1 o) := by rw [List.getElem?_map, ho]; rfl
            exact q3.lck id (lock1 o) e1 (lock1_shape o).2.2.2.2.1
          have hhlt : ∀ (id : Nat), id < h.length → (h ++ h1.drop h.length)[id]? = h[id]? := fun id hid => List.getElem?_append_left hid
          have hhge : ∀ (id : Nat), h.length ≤ id → (h ++ h1.drop h.length)[id]? = h1[id]? := fun id hid => by
            rw [List.getElem?_append_right hid, List.getElem?_drop]; congr 1; omega
          have al : Alike h1 (h ++ h1.drop h.length) := by
            refine ⟨by simp; omega, fun id o o' e1 e2 => ?_⟩
            by_cases hid : id < h.length
            · rw [hhlt id hid] at e2
              rw [(old id o' e2).1] at e1
              obtain rfl := Option.some.inj e1
              obtain ⟨p1, p2, p3, p4, _⟩ := lock1_shape o'
              exact ⟨p1, p2, p3, p4⟩
            · rw [hhge id (by omega)] at e2
              rw [e1] at e2
              obtain rfl := Option.some.inj e2
              exact ⟨rfl, rfl, rfl, Iff.rfl⟩
          have hA1 : ∀ b, Av F (h ++ h1.drop h.length) β1 b → Av (Av F h β) h1 β1 b := by
            rintro b (hb | ⟨id, o, bc, e1, e2, e3, e4⟩)
            · exact .inl (.inl hb)
            · by_cases hid : id < h.length
              · rw [hhlt id hid] at e1
                rw [(old id o e1).2] at e2
                exact .inl (.inr ⟨id, o, bc, e1, e2, e3, e4⟩)
              · rw [hhge id (by omega)] at e1
                exact .inr ⟨id, o, bc, e1, e2, e3, e4⟩
          have newmu : ∀ (id : Nat) (o : AObj), h.length ≤ id → h1[id]? = some o → o.mu ≠ .l := fun id o hid ho => by
            have : o ∈ h1.drop h.length := by
              apply List.mem_of_getElem? (i := id - h.length)
              rw [List.getElem?_drop]
              rw [show h.length + (id - h.length) = id by omega]; exact ho
            have := List.all_eq_true.1 hnl o this
            simpa using this
          refine ⟨v, β1, rfl, q1.alike al hA1, ⟨by rw [hb1, ← al.1], fun b hb => Nat.lt_of_lt_of_le (H.fin b hb) q3.size, ?_, ?_, ?_⟩, ?_, fun _ => ⟨q3.size, fun b hb => q3.keep b hb (lock_Mb h β b), q3.os, q3.tape, q3.output, q3.drawn⟩⟩
          · intro id o bc e1 e2 e3
            by_cases hid : id < h.length
            · rw [hhlt id hid] at e1
              obtain ⟨p1, p2, p3, p4, _⟩ := lock1_shape o
              exact (q2.obj id (lock1 o) bc (old id o e1).1 e2 (fun hh => e3 (p4.1 hh))).alike al hA1 p2 p3
            · rw [hhge id (by omega)] at e1
              exact (q2.obj id o bc e1 e2 e3).alike al hA1 rfl rfl
          · intro id id' o o' bc bc' hne e1 e2 e3 e4 m1 m2
            by_cases hid : id < h.length <;> by_cases hid' : id' < h.length
            · rw [hhlt id hid] at e1; rw [hhlt id' hid'] at e2
              rw [(old id o e1).2] at e3; rw [(old id' o' e2).2] at e4
              exact H.dist id id' o o' bc bc' hne e1 e2 e3 e4 m1 m2
            · rw [hhlt id hid] at e1; rw [hhge id' (by omega)] at e2
              have nl := newmu id' o' (by omega) e2
              cases hm : o'.mu with
              | m =>
                have := q2.dist id' id o' (lock1 o) bc' bc (Ne.symm hne) e2 (old id o e1).1 e4 e3 hm (fun hh => by rw [(lock1_shape o).2.2.2.1] at hh; rw [m1] at hh; cases hh)
                exact Ne.symm this
              | l => exact absurd hm nl
              | f =>
                have h1' := q2.out id' o' bc' e2 e4 (.inr hm)
                rw [(old id o e1).2] at e3
                intro heq
                exact h1' (.inr ⟨id, o, bc, e1, e3, m1, heq⟩)
              | x => exact absurd hm m2
            · rw [hhge id (by omega)] at e1; rw [hhlt id' hid'] at e2
              exact q2.dist id id' o (lock1 o') bc bc' hne e1 (old id' o' e2).1 e3 e4 m1 (fun hh => m2 ((lock1_shape o').2.2.2.1.1 hh))
            · rw [hhge id (by omega)] at e1; rw [hhge id' (by omega)] at e2
              exact q2.dist id id' o o' bc bc' hne e1 e2 e3 e4 m1 m2
          · intro id o bc e1 e2 e3
            by_cases hid : id < h.length
            · rw [hhlt id hid] at e1
              rw [(old id o e1).2] at e2
              exact H.out id o bc e1 e2 e3
            · rw [hhge id (by omega)] at e1
              exact fun hf => q2.out id o bc e1 e2 e3 (.inl hf)
          · refine ⟨q3.size, by simp, fun b hb _ => q3.keep b hb (lock_Mb h β b), ?_, ?_, ?_, q3.os, q3.tape, q3.output, q3.drawn⟩
            · rintro b hb ⟨id, o, bc, e1, e2, e3, e4⟩
              by_cases hid : id < h.length
              · rw [hhlt id hid] at e1
                rw [(old id o e1).2] at e2
                exact ⟨id, o, bc, e1, e2, e3, e4⟩
              · rw [hhge id (by omega)] at e1
                exact absurd (q3.shr b hb ⟨id, o, bc, e1, e2, e3, e4⟩) (lock_Mb h β b)
            · intro id o bc e1 e2 e3
              have hid := lt_of_some e1
              exact ⟨o, bc, by rw [hhlt id hid]; exact e1, by rw [(old id o e1).2]; exact e2, e3, Nat.le_refl _, fun _ => ⟨rfl, rfl, rfl⟩⟩
            · intro id o e1 _
              exact ⟨by rw [hhlt id (lt_of_some e1)]; exact e1, (old id o e1).2⟩
        · cases e
      · cases e
    · cases e

theorem take_at {α : Type} {l : List α} {n i : Nat} {x : α} (e : (l.take n)[i]? = some x) : i < n ∧ l[i]? = some x := by
  rw [List.getElem?_take] at e
  split at e
  · exact ⟨by assumption, e⟩
  · cases e

theorem VRel.trunc1 {A A' : Nat → Prop} (hA : ∀ b, A' b → A b) {n : Nat} (hn : n ≤ h.length) {v : Value} {p : PV} (r : VRel w A β h v p) (hb : below1 n p = true) : VRel w A' (β.take n) (h.take n) v p := by
  cases p with
  | mref id ep off len =>
    have hid : id < n := by simpa [below1] using hb
    cases r with
    | val hs => cases hs
    | mref _ _ _ _ _ o bc h0 h1 h2 h3 h4 h5 =>
      exact .mref v id ep off len o bc h0 (by rw [List.getElem?_take, if_pos hid]; exact h1) (by rw [List.getElem?_take, if_pos hid]; exact h2) h3 h4 h5
  | ptr id ep i off =>
    have hid : id < n := by simpa [below1] using hb
    cases r with
    | val hs => cases hs
    | ptr _ _ _ _ _ o bc h0 h1 h2 h3 h4 h5 =>
      exact .ptr v id ep i off o bc h0 (by rw [List.getElem?_take, if_pos hid]; exact h1) (by rw [List.getElem?_take, if_pos hid]; exact h2) h3 h4 h5
  | _ => exact .val ((r.toS (by simpa [below1] using hb)).weak hA)

theorem VRel.truncA {A A' : Nat → Prop} (hA : ∀ b, A' b → A b) {n : Nat} (hn : n ≤ h.length) {v : Value} {p : PV} (r : VRel w A β h v p) (hb : belowA n p = true) : VRel w A' (β.take n) (h.take n) v p := by
  unfold belowA at hb
  split at hb
  · obtain ⟨vs, rfl, hl, hh⟩ := r.agg_inv
    exact .agg vs _ hl (fun j hj => (hh j hj).trunc1 hA hn (all_getD hb hj))
  · exact r.trunc1 hA hn hb

theorem VRel.truncR {A A' : Nat → Prop} (hA : ∀ b, A' b → A b) {n : Nat} (hn : n ≤ h.length) {v : Value} {p : PV} (r : VRel w A β h v p) (hb : belowR n p = true) : VRel w A' (β.take n) (h.take n) v p := by
  unfold belowR at hb
  split at hb
  · obtain ⟨vs, rfl, hl, hh⟩ := r.tup_inv
    exact .tup vs _ hl (fun j hj => (hh j hj).truncA hA hn (all_getD hb hj))
  · exact r.truncA hA hn hb

theorem below_cells {n : Nat} {e q : PV} (hb : belowA n e = true) (hq : q ∈ Pm.cells e) : below1 n q = true := by
  cases e <;> first
    | (simp only [Pm.cells, List.mem_singleton] at hq; subst hq; exact hb)
    | (simp only [belowA] at hb; exact List.all_eq_true.1 hb q hq)

theorem callOpen_sim {run : Run} {f : FuncId} (S : SimRun P f (run f)) {lv : Nat} {args : List PV} {r : PV} {h' : AHeap} (e : callOpen run lv f args h = some (r, h')) (H : HRel w F β h) {vs : List Value}
    (ha : L2 (VRel w (Av F h β) β h) vs args) : CSim P lv w F β h f vs r h' := by
  unfold callOpen at e
  split at e
  · rename_i r0 h1 he
    have C := lockCall_sim S he H ha
    split at e
    · rename_i hc
      obtain ⟨rfl, rfl⟩ := Prod.mk.inj (Option.some.inj e)
      simp only [Bool.and_eq_true] at hc
      refine C.mono ?_
      rintro en w' ⟨v, β1, rfl, q1, q2, q3, q4⟩
      have hn := q3.len
      have hA : ∀ b, Av F (h1.take h.length) (β1.take h.length) b → Av F h1 β1 b := by
        rintro b (hb | ⟨id, o, bc, e1, e2, e3, e4⟩)
        · exact .inl hb
        · exact .inr ⟨id, o, bc, (take_at e1).2, (take_at e2).2, e3, e4⟩
      refine ⟨v, β1.take h.length, rfl, q1.truncR hA hn hc.1, ⟨by simp [q2.len], q2.fin, ?_, ?_, ?_⟩, ?_, q4⟩
      · intro id o bc e1 e2 e3
        have hmem : o ∈ h1.take h.length := List.mem_of_getElem? e1
        have hall := List.all_eq_true.1 (List.all_eq_true.1 hc.2 o hmem)
        obtain ⟨T, cs, k1, k2, k3, k4, k5⟩ := q2.obj id o bc (take_at e1).2 (take_at e2).2 e3
        refine ⟨T, cs, k1, k2, k3, k4, fun i el hel => ⟨(k5 i el hel).1, fun j p hp => ?_⟩⟩
        obtain ⟨u, m1, m2⟩ := (k5 i el hel).2 j p hp
        exact ⟨u, m1, m2.trunc1 hA hn (below_cells (hall el (List.mem_of_getElem? hel)) (List.mem_of_getElem? hp))⟩
      · intro id id' o o' bc bc' hne e1 e2 e3 e4 m1 m2
        exact q2.dist id id' o o' bc bc' hne (take_at e1).2 (take_at e2).2 (take_at e3).2 (take_at e4).2 m1 m2
      · intro id o bc e1 e2 e3
        exact q2.out id o bc (take_at e1).2 (take_at e2).2 e3
      · refine ⟨q3.size, by simp; omega, q3.keep, ?_, ?_, ?_, q3.os, q3.tape, q3.output, q3.drawn⟩
        · rintro b hb ⟨id, o, bc, e1, e2, e3, e4⟩
          exact q3.shr b hb ⟨id, o, bc, (take_at e1).2, (take_at e2).2, e3, e4⟩
        · intro id o bc e1 e2 e3
          obtain ⟨o', bc', f1, f2, f3, f4, f5⟩ := q3.refs id o bc e1 e2 e3
          have hid := lt_of_some e1
          exact ⟨o', bc', by rw [List.getElem?_take, if_pos hid]; exact f1, by rw [List.getElem?_take, if_pos hid]; exact f2, f3, f4, f5⟩
        · intro id o e1 e2
          obtain ⟨f1, f2⟩ := q3.lck id o e1 e2
          have hid := lt_of_some e1
          exact ⟨by rw [List.getElem?_take, if_pos hid]; exact f1, by rw [List.getElem?_take, if_pos hid]; exact f2⟩
    · obtain ⟨rfl, rfl⟩ := Prod.mk.inj (Option.some.inj e)
      exact C
  · cases e

/-- what a primitive pure function must be -/
def PrimQ (P : Program) (f : FuncId) (g : List PV → Option PV) : Prop :=
  ∀ args r, g args = some r → ∀ (w : World) (A : Nat → Prop) (vs : List Value), (∀ b, A b → b < w.heap.size) → L2 (SRel w A) vs args →
    Calls P f vs.toArray w fun e w' => ∃ v, e = .returned v ∧ SRel w' A v r ∧ Grew w w'

structure CfgOk (C : Cfg) : Prop where
  enters : ∀ f, (∀ h : C.mode f = .no, False) → (∀ g, C.mode f ≠ .ext g) → ∃ fn, C.P.funcs[f]? = some fn ∧ fn.body.isSome = true ∧ (fn.name == "runtime.NumGoroutine") = false
  primQ : ∀ f g, C.mode f = .primQ g → PrimQ C.P f g
  primL : ∀ f g, C.mode f = .primL g → SimRun C.P f g
  ext : ∀ f g, C.mode f = .ext g → ∀ args r, g args = some r → ∀ (w : World) (A : Nat → Prop) (vs : List Value), L2 (SRel w A) vs args → ∃ v, (callFunc f vs.toArray).run C.P w = .ok (.value v) w ∧ SRel w A v r

theorem callF_sim {C : Cfg} (K : CfgOk C) {run : Run} {f : FuncId} (S : C.mode f = .pure ∨ C.mode f = .opened → SimRun C.P f (run f)) {lv : Nat} {args : List PV} {r : PV} {h' : AHeap} (e : callF C run lv f args h = some (r, h')) (H : HRel w F β h) {vs : List Value}
    (ha : L2 (VRel w (Av F h β) β h) vs args) (hne : ∀ g, C.mode f ≠ .ext g) : CSim C.P lv w F β h f vs r h' ∧ C.mode f ≠ .no := by
  unfold callF at e
  split at e
  · cases e
  · rename_i hm
    exact ⟨callPure_sim (S (.inl hm)) e H ha, by rw [hm]; simp⟩
  · rename_i hm
    exact ⟨callOpen_sim (S (.inr hm)) e H ha, by rw [hm]; simp⟩
  · rename_i g hm
    refine ⟨?_, by rw [hm]; simp⟩
    split at e
    · rename_i hv
      obtain ⟨e1, rfl⟩ := map_pair e
      rw [isVals_eq] at hv
      refine (K.primQ f g hm (nrms args) r e1 w (Av F h' β) vs (fun b hb => Av.lt H hb) ⟨by simp [nrms_eq, ha.1], fun j hj => ?_⟩).mono ?_
      · rw [nrm_getD]
        have hj' : j < args.length := by simpa [nrms_eq] using hj
        exact ((ha.2 j hj').toS (all_getD hv hj')).nrm
      · rintro en w' ⟨v, rfl, q1, q2⟩
        exact ⟨v, β, rfl, .val q1, H.grew q2, q2.stp h' β, fun _ => q2⟩
    · cases e
  · rename_i g hm
    exact ⟨lockCall_sim (K.primL f g hm) e H ha, by rw [hm]; simp⟩
  · rename_i g hm
    exact absurd hm (hne g)

end Go.Pm
end

/-
  PM, PART 11: AN OPERATION IN ITS FRAME; regions in the order of the text. Conditions: none.
-/
section
set_option linter.unusedVariables false
set_option linter.unusedSimpArgs false
set_option linter.unusedVariables false
namespace Go.Pm
variable {w : World} {F : Nat → Prop} {β : List (Nat × Nat)} {h : AHeap}

theorem callFunc_run {C : Cfg} (K : CfgOk C) {f : FuncId} (hm : C.mode f ≠ .no) (hne : ∀ g, C.mode f ≠ .ext g) (args : Array Value) (w : World) : (callFunc f args).run C.P w = .ok (.enter f args) w := by
  obtain ⟨fn, h1, h2, h3⟩ := K.enters f hm hne
  have hb : fn.body.isNone = false := by cases hh : fn.body <;> simp_all
  simp only [callFunc, Sem.run_bind, run_program, Result.andThen_ok, h1, h3, hb, Bool.false_eq_true, if_false, Sem.run_pure]

/-- the functions that are run on simulate -/
def RunsOk (C : Cfg) (run : Run) : Prop := ∀ f, (C.mode f = .pure ∨ C.mode f = .opened) → SimRun C.P f (run f)

theorem L2.append {R : Value → PV → Prop} {vs us : List Value} {cs ds : List PV} (a : L2 R vs cs) (b : L2 R us ds) : L2 R (vs ++ us) (cs ++ ds) := by
  obtain ⟨a1, a2⟩ := a
  obtain ⟨b1, b2⟩ := b
  refine ⟨by simp [a1, b1], fun j hj => ?_⟩
  by_cases hjc : j < cs.length
  · have := a2 j hjc
    simp only [List.getD] at this ⊢
    rwa [List.getElem?_append_left (by omega), List.getElem?_append_left hjc]
  · have := b2 (j - cs.length) (by simp at hj; omega)
    simp only [List.getD] at this ⊢
    rwa [List.getElem?_append_right (by omega), List.getElem?_append_right (by omega), a1]

theorem opVal_wp {C : Cfg} (K : CfgOk C) {run : Run} (S : RunsOk C run) (H : HRel w F β h) {a : Act} {ρ : Nat → PV} (R : ERel w (Av F h β) β h a ρ) {lv : Nat} {o : Oper} {p : PV} {h' : AHeap} (e : opVal C run lv o.op ρ h = some (p, h'))
    {next : Act → World → Prop} {Q : Exit → Act → World → Prop} (hK : ∀ v w' β', VRel w' (Av F h' β') β' h' v p → HRel w' F β' h' → Stp w h β w' h' β' → (lv ≤ 1 → Grew w w') → next (a.put o.dst v) w') : o.wp C.P a w next Q := by
  have simple : OSim C.P lv w F β h (execOp a.eval o) p h' → o.wp C.P a w next Q := by
    rintro ⟨v, w', β', h1, h2, h3, h4, h5⟩
    unfold Oper.wp
    rcases h1 with h1 | ⟨h1, rfl⟩
    · rw [h1]; exact hK v w' β' h2 h3 h4 h5
    · rw [h1]; exact hK undef w' β' h2 h3 h4 h5
  unfold opVal at e
  split at e
  · rename_i c hop
    have hex : execOp a.eval o = (do let d ← resolve a.eval c o.type; invoke d.target d.args) := by
      cases o; simp only at hop; subst hop; rfl
    split at e
    · rename_i f hcf
      unfold calleeP at e
      split at e
      · rename_i g caps hf
        have hv := R.ev f
        rw [hf] at hv
        obtain ⟨cv, c1, c2, c3⟩ := hv.fn_inv
        have hargs := (R.evs c.args.toList).append (show L2 (VRel w (Av F h β) β h) cv caps from ⟨c2, c3⟩)
        by_cases hx : ∃ q, C.mode g = .ext q
        · obtain ⟨q, hq⟩ := hx
          unfold callF at e
          rw [hq] at e
          simp only at e
          split at e
          · rename_i hvv
            obtain ⟨e1, rfl⟩ := map_pair e
            rw [isVals_eq] at hvv
            obtain ⟨v, x1, x2⟩ := K.ext g q hq _ p e1 w (Av F h' β) (c.args.toList.map a.eval ++ cv) ⟨by simp only [nrms_eq, List.length_map]; exact hargs.1, fun j hj => by
              rw [nrm_getD]
              have hj' : j < (c.args.toList.map (Pm.ev ρ) ++ caps).length := by simpa [nrms_eq] using hj
              exact ((hargs.2 j hj').toS (all_getD hvv hj')).nrm⟩
            refine simple ⟨v, w, β, .inl ?_, .val x2, H, Stp.refl w h' β, fun _ => Grew.refl w⟩
            rw [hex]
            simp only [resolve, hcf, c1, Deferred.ofValue, Sem.run_bind, Sem.run_pure, Result.andThen_ok, invoke]
            rw [← x1]
            congr 2
            apply Array.ext'
            simp
          · cases e
        have hne : ∀ q, C.mode g ≠ .ext q := fun q hq => hx ⟨q, hq⟩
        obtain ⟨cs, hm⟩ := callF_sim K (S g) e H hargs hne
        have hrun : (execOp a.eval o).run C.P w = .ok (.enter g ((c.args.toList.map a.eval) ++ cv).toArray) w := by
          rw [hex]
          simp only [resolve, hcf, c1, Deferred.ofValue, Sem.run_bind, Sem.run_pure, Result.andThen_ok, invoke]
          rw [callFunc_run K hm hne]
          congr 2
          apply Array.ext'
          simp
        unfold Oper.wp
        rw [hrun]
        refine cs.mono ?_
        rintro en w' ⟨v, β', rfl, q1, q2, q3, q4⟩
        exact hK v w' β' q1 q2 q3 q4
      · cases e
    · rename_i b hcb
      refine simple ?_
      have hb : ∀ cb cb', builtin b c.argTypes o.type cb (c.args.map a.eval) = builtin b c.argTypes o.type cb' (c.args.map a.eval) := by
        intro cb cb'
        cases b <;> first | rfl | simp [builtinP] at e
      have hrun : (execOp a.eval o).run C.P w = (builtin b c.argTypes o.type #[] (c.args.map a.eval)).run C.P w := by
        rw [hex]
        simp only [resolve, hcb, Sem.run_bind, Sem.run_pure, Result.andThen_ok, invoke]
        rw [hb _ #[]]
      obtain ⟨v, w', β', h1, h2⟩ := builtin_sim (ty := o.type) (cb := #[]) H R e
      refine ⟨v, w', β', ?_, h2⟩
      rw [hrun]
      exact h1
    · cases e
  · rename_i hnc
    exact simple (stepOp_sim H R hnc e)

/-! ### the state -/
structure SR (N : Nat) (w : World) (F : Nat → Prop) (β : List (Nat × Nat)) (s : St) (a : Act) : Prop where
  hr : HRel w F β s.h
  er : ERel w (Av F s.h β) β s.h a s.ρ
  df : a.defers = []
  sz : N ≤ a.tmps.size

theorem put_tmps (a : Act) (d : Option Nat) (v : Value) (t : Nat) (N : Nat) (hd : ∀ k, d = some k → k < a.tmps.size) : (a.put d v).tmps.getD t undef = if d = some t then v else a.tmps.getD t undef := by
  cases d with
  | none => simp [Act.put]
  | some k =>
    have := hd k rfl
    by_cases hk : k = t
    · subst hk; simp [Act.put, this]
    · have : ¬ (some k = some t) := fun h => hk (Option.some.inj h)
      simp [Act.put, this, hk]

theorem updO_at (ρ : Nat → PV) (d : Option Nat) (p : PV) (t : Nat) : updO ρ d p t = if d = some t then p else ρ t := by
  cases d with
  | none => simp [updO]
  | some k =>
    by_cases hk : t = k
    · subst hk; simp [updO, upd]
    · have : ¬ (some k = some t) := fun h => hk (Option.some.inj h).symm
      simp [updO, upd, hk, this]

theorem put_size (a : Act) (d : Option Nat) (v : Value) : (a.put d v).tmps.size = a.tmps.size := by cases d <;> simp [Act.put]
theorem put_defers' (a : Act) (d : Option Nat) (v : Value) : (a.put d v).defers = a.defers := by cases d <;> simp [Act.put]

theorem ERel.put {A : Nat → Prop} {a : Act} {ρ : Nat → PV} (r : ERel w A β h a ρ) {d : Option Nat} (hd : ∀ k, d = some k → k < a.tmps.size) {v : Value} {p : PV} (hv : VRel w A β h v p) : ERel w A β h (a.put d v) (updO ρ d p) := by
  intro t
  rw [put_tmps a d v t 0 hd, updO_at]
  split
  · exact hv
  · exact r t

theorem ERel.mono {w' : World} {h' : AHeap} {β' : List (Nat × Nat)} (s : Stp w h β w' h' β') {a : Act} {ρ : Nat → PV} (r : ERel w (Av F h β) β h a ρ) : ERel w' (Av F h' β') β' h' a ρ := fun t => (r t).mono s

theorem wanted_sim {A : Nat → Prop} {a : Act} {ρ : Nat → PV} (r : ERel w A β h a ρ) {ops : Array Oper} {o : Oper} {b : Bool} (e : wantedA ops o ρ = some b) : Region.wanted o (yielded ops a.tmps) = b := by
  unfold wantedA at e
  unfold Region.wanted
  split at e
  · rename_i hg
    rw [hg]
    exact Option.some.inj e
  · rename_i j want hg
    rw [hg]
    simp only
    split at e
    · rename_i hd
      obtain rfl := Option.some.inj e
      have : ((ops[j]?).bind (·.dst)) = none := by simpa using hd
      simp [yielded, this]
    · rename_i d hd
      have hd' : ((ops[j]?).bind (·.dst)) = some d := by simpa using hd
      have hr := r d
      split at e
      · rename_i bb hb
        obtain rfl := Option.some.inj e
        rw [hb] at hr
        have hv := hr.bool_inv
        have : a.tmps[d]? = some (.bool bb) := by
          rcases Nat.lt_or_ge d a.tmps.size with hlt | hge
          · simp [hlt] at hv; simp [hlt, hv]
          · simp [Array.getElem?_eq_none hge, undef] at hv
        simp [yielded, hd', this]
      · rename_i hb
        obtain rfl := Option.some.inj e
        rw [hb] at hr
        have hv := hr.undef_inv
        rcases Nat.lt_or_ge d a.tmps.size with hlt | hge
        · simp [hlt] at hv; simp [yielded, hd', hlt, hv]
        · simp [yielded, hd', Array.getElem?_eq_none hge]
      · cases e

/-- where the destinations lie -/
def dstOk (N : Nat) (o : Oper) : Bool := match o.dst with | some d => decide (d < N) | none => true

theorem dstOk_lt {N : Nat} {o : Oper} (hd : dstOk N o = true) {a : Act} (hs : N ≤ a.tmps.size) : ∀ k, o.dst = some k → k < a.tmps.size := by
  intro k hk
  have : k < N := by simpa [dstOk, hk] using hd
  exact Nat.lt_of_lt_of_le this hs

theorem opStep_wp {C : Cfg} (K : CfgOk C) {run : Run} (S : RunsOk C run) {N : Nat} {s s' : St} {a : Act} (R : SR N w F β s a) {ops : Array Oper} {o : Oper} (hd : dstOk N o = true) (e : opStep C run ops o s = some s')
    {next : Act → World → Prop} {Q : Exit → Act → World → Prop} (hK : ∀ a' w' β', SR N w' F β' s' a' → Stp w s.h β w' s'.h β' → next a' w') :
    if Region.wanted o (yielded ops a.tmps) then o.wp C.P a w next Q else next (a.put o.dst undef) w := by
  unfold opStep at e
  have hdl := dstOk_lt hd R.sz
  split at e
  · rename_i hw
    rw [wanted_sim R.er hw, if_pos rfl]
    split at e
    · rename_i v h' hv
      obtain rfl := Option.some.inj e
      refine opVal_wp K S R.hr R.er hv (fun u w' β' q1 q2 q3 _ => hK _ w' β' ⟨q2, (R.er.mono q3).put hdl q1, by rw [put_defers']; exact R.df, by rw [put_size]; exact R.sz⟩ q3)
    · cases e
  · rename_i hw
    rw [wanted_sim R.er hw, if_neg (by simp)]
    obtain rfl := Option.some.inj e
    exact hK _ w β ⟨R.hr, R.er.put hdl .undef, by rw [put_defers']; exact R.df, by rw [put_size]; exact R.sz⟩ (Stp.refl w s.h β)
  · cases e

theorem evalOps_wp {C : Cfg} (K : CfgOk C) {run : Run} (S : RunsOk C run) {N : Nat} {ops : Array Oper} {Q : Exit → Act → World → Prop} (hd : ops.toList.all (dstOk N) = true) :
    ∀ (l : List Oper) (k : Nat) {w : World} {β : List (Nat × Nat)} {s s' : St} {a : Act}, ops.toList.drop k = l → SR N w F β s a → evalOps C run ops l s = some s' →
      (∀ a' w' β', SR N w' F β' s' a' → Stp w s.h β w' s'.h β' → Q .normal a' w') → wpOps C.P ops Q (List.map (· + k) (List.range l.length)) a w := by
  intro l
  induction l with
  | nil =>
    intro k w β s s' a hl R e hQ
    simp [evalOps] at e
    subst e
    simpa [wpOps] using hQ a w β R (Stp.refl w s.h β)
  | cons o r ih =>
    intro k w β s s' a hl R e hQ
    simp only [evalOps] at e
    have hk : ops[k]? = some o := by
      rw [← Array.getElem?_toList]
      have : (ops.toList.drop k)[0]? = some o := by rw [hl]; rfl
      rwa [List.getElem?_drop] at this
    have hr : ops.toList.drop (k + 1) = r := by
      have := congrArg (List.drop 1) hl
      rwa [List.drop_drop] at this
    have hrange : List.map (· + k) (List.range (o :: r).length) = k :: List.map (· + (k + 1)) (List.range r.length) := by
      rw [List.length_cons, List.range_succ_eq_map]
      simp only [List.map_cons, Nat.zero_add, List.map_map]
      congr 1
      apply List.map_congr_left
      intro x _
      simp; omega
    rw [hrange]
    simp only [wpOps, hk]
    split at e
    · rename_i s1 he
      have hdo : dstOk N o = true := List.all_eq_true.1 hd o (by
        have : o ∈ ops.toList.drop k := by rw [hl]; simp
        exact List.mem_of_mem_drop this)
      have := opStep_wp K S R hdo he (Q := Q) (next := wpOps C.P ops Q (List.map (· + (k + 1)) (List.range r.length))) (fun a' w' β' R' S' => ih (k + 1) hr R' e (fun a2 w2 β2 R2 S2 => hQ a2 w2 β2 R2 (S'.trans S2)))
      split
      · rename_i hw; rw [if_pos hw] at this; exact .inl this
      · rename_i hw; rw [if_neg hw] at this; exact this
    · cases e

theorem region_wp {C : Cfg} (K : CfgOk C) {run : Run} (S : RunsOk C run) {N : Nat} {ops : Array Oper} {id : Nat} {Q : Exit → Act → World → Prop} (hd : ops.toList.all (dstOk N) = true) {s s' : St} {a : Act} (R : SR N w F β s a)
    (e : evalOps C run ops ops.toList s = some s') (hQ : ∀ a' w' β', SR N w' F β' s' a' → Stp w s.h β w' s'.h β' → Q .normal a' w') : (Code.region id ops false).wp C.P Q a w := by
  refine wp_region ?_
  have := evalOps_wp K S hd ops.toList 0 (by simp) R e hQ
  simpa using this

end Go.Pm
end

/-
  PM, PART 13: HEAPS OF WHICH A PART IS HIDDEN: a part taken out, and put back after one operation at level 1. Conditions: none.
-/
section
set_option linter.unusedVariables false
set_option linter.unusedSimpArgs false
set_option linter.unusedVariables false
namespace Go.Pm
variable {w : World} {F : Nat → Prop} {β : List (Nat × Nat)} {h : AHeap}

theorem visible_iff {h : AHeap} {id : Nat} : visible h id = true ↔ ∃ o, h[id]? = some o ∧ o.mu ≠ .x := by
  unfold visible
  cases h[id]? with
  | none => simp
  | some o => simp

theorem visRs_eq (f : Nat → Bool) (cs : List PV) : visRs f cs = cs.all (visR f) := by
  induction cs with
  | nil => rfl
  | cons c r ih => simp [visRs, ih]

/-- what holds of a value in a heap holds in a part of it, if the part has all that it leads to -/
theorem VRel.restrict {A A' : Nat → Prop} {M : AHeap} {β' : List (Nat × Nat)} (hM : ∀ (id : Nat) (o : AObj), M[id]? = some o → o.mu ≠ .x → h[id]? = some o ∧ β'[id]? = β[id]?) (hA : ∀ b, A' b → A b)
    {v : Value} {p : PV} (r : VRel w A β h v p) (hv : visR (visible M) p = true) : VRel w A' β' M v p := by
  induction r with
  | val hs => exact .val (hs.weak hA)
  | undef => exact .undef
  | any v => exact .any v
  | mref v id ep off len o bc h0 h1 h2 h3 h4 h5 =>
    obtain ⟨o', e1, e2⟩ := visible_iff.1 (by simpa [visR] using hv)
    obtain ⟨f1, f2⟩ := hM id o' e1 e2
    rw [h1] at f1
    obtain rfl := Option.some.inj f1
    exact .mref v id ep off len o bc h0 e1 (by rw [f2]; exact h2) h3 h4 h5
  | ptr v id ep i off o bc h0 h1 h2 h3 h4 h5 =>
    obtain ⟨o', e1, e2⟩ := visible_iff.1 (by simpa [visR] using hv)
    obtain ⟨f1, f2⟩ := hM id o' e1 e2
    rw [h1] at f1
    obtain rfl := Option.some.inj f1
    exact .ptr v id ep i off o bc h0 e1 (by rw [f2]; exact h2) h3 h4 h5
  | agg vs cs hl _ ih => exact .agg vs cs hl (fun j hj => ih j hj (by simp only [visR, visRs_eq] at hv; exact all_getD hv hj))
  | tup vs cs hl _ ih => exact .tup vs cs hl (fun j hj => ih j hj (by simp only [visR, visRs_eq] at hv; exact all_getD hv hj))
  | fn f vs cs hl _ ih => exact .fn f vs cs hl (fun j hj => ih j hj (by simp only [visR, visRs_eq] at hv; exact all_getD hv hj))

theorem visR_cells {f : Nat → Bool} {e q : PV} (hv : visR f e = true) (hq : q ∈ Pm.cells e) : visR f q = true := by
  cases e <;> first
    | (simp only [Pm.cells, List.mem_singleton] at hq; subst hq; exact hv)
    | (simp only [visR, visRs_eq] at hv; exact List.all_eq_true.1 hv q hq)

theorem ORel.to {w' : World} {h' : AHeap} {β' : List (Nat × Nat)} {A A' : Nat → Prop} {o : AObj} {bc : Nat × Nat} (hb : w'.heap[bc.1]? = w.heap[bc.1]?)
    (r : ORel w A β h o bc) (hv : ∀ (v : Value) (e p : PV), e ∈ o.es → p ∈ Pm.cells e → VRel w A β h v p → VRel w' A' β' h' v p) : ORel w' A' β' h' o bc := by
  obtain ⟨T, cs, h1, h2, h3, h4, h5⟩ := r
  refine ⟨T, cs, hb.trans h1, h2, h3, h4, fun i e he => ⟨(h5 i e he).1, fun j p hp => ?_⟩⟩
  obtain ⟨v, k1, k2⟩ := (h5 i e he).2 j p hp
  exact ⟨v, k1, hv v e p (List.mem_of_getElem? he) (List.mem_of_getElem? hp) k2⟩

/-- hidden objects behind a heap -/
theorem HRel.pad (H : HRel w F β h) (ext : AHeap) (γ : List (Nat × Nat)) (hl : γ.length = ext.length) (hx : ∀ o ∈ ext, o.mu = .x) :
    HRel w F (β ++ γ) (h ++ ext) ∧ Stp w h β w (h ++ ext) (β ++ γ) := by
  have hlen := H.len
  have back : ∀ (id : Nat) (o : AObj) (bc : Nat × Nat), (h ++ ext)[id]? = some o → (β ++ γ)[id]? = some bc → o.mu ≠ .x → h[id]? = some o ∧ β[id]? = some bc := by
    intro id o bc e1 e2 e3
    by_cases hid : id < h.length
    · rw [List.getElem?_append_left hid] at e1
      rw [List.getElem?_append_left (by omega)] at e2
      exact ⟨e1, e2⟩
    · rw [List.getElem?_append_right (by omega)] at e1
      exact absurd (hx o (List.mem_of_getElem? e1)) e3
  have forth : ∀ (id : Nat), id < h.length → (h ++ ext)[id]? = h[id]? ∧ (β ++ γ)[id]? = β[id]? := fun id hid =>
    ⟨List.getElem?_append_left hid, List.getElem?_append_left (by omega)⟩
  have hm : ∀ b, Mb (h ++ ext) (β ++ γ) b → Mb h β b := by
    rintro b ⟨id, o, bc, e1, e2, e3, e4⟩
    obtain ⟨f1, f2⟩ := back id o bc e1 e2 (by rw [e3]; simp)
    exact ⟨id, o, bc, f1, f2, e3, e4⟩
  have hs : Stp w h β w (h ++ ext) (β ++ γ) := by
    refine ⟨Nat.le_refl _, by simp, fun _ _ _ => rfl, fun b _ m => hm b m, ?_, ?_, rfl, rfl, rfl, Nat.le_refl _⟩
    · intro id o bc e1 e2 e3
      obtain ⟨f1, f2⟩ := forth id (lt_of_some e1)
      exact ⟨o, bc, by rw [f1]; exact e1, by rw [f2]; exact e2, e3, Nat.le_refl _, fun _ => ⟨rfl, rfl, rfl⟩⟩
    · intro id o e1 _
      obtain ⟨f1, f2⟩ := forth id (lt_of_some e1)
      exact ⟨by rw [f1]; exact e1, f2⟩
  refine ⟨⟨by simp [hlen, hl], H.fin, ?_, ?_, ?_⟩, hs⟩
  · intro id o bc e1 e2 e3
    obtain ⟨f1, f2⟩ := back id o bc e1 e2 e3
    exact ORel.mono hs rfl (H.obj id o bc f1 f2 e3)
  · intro id id' o o' bc bc' hne e1 e2 e3 e4 m1 m2
    obtain ⟨f1, f2⟩ := back id o bc e1 e3 (by rw [m1]; simp)
    obtain ⟨g1, g2⟩ := back id' o' bc' e2 e4 m2
    exact H.dist id id' o o' bc bc' hne f1 g1 f2 g2 m1 m2
  · intro id o bc e1 e2 e3
    obtain ⟨f1, f2⟩ := back id o bc e1 e2 (by rcases e3 with e3 | e3 <;> rw [e3] <;> simp)
    exact H.out id o bc f1 f2 e3

/-- the blocks that are others' for a part of the heap -/
def Fp (F : Nat → Prop) (β : List (Nat × Nat)) (h M : AHeap) (b : Nat) : Prop := F b ∨ ∃ (id : Nat) (o : AObj) (bc : Nat × Nat), h[id]? = some o ∧ β[id]? = some bc ∧ o.mu = .m ∧ bc.1 = b ∧ M[id]? ≠ some o

theorem Fp.av {M : AHeap} {b : Nat} (hf : Fp F β h M b) : Av F h β b := by
  rcases hf with hf | ⟨id, o, bc, e1, e2, e3, e4, _⟩
  · exact .inl hf
  · exact .inr ⟨id, o, bc, e1, e2, e3, e4⟩

/-- a part of a heap, which leads to itself alone -/
theorem HRel.part (H : HRel w F β h) {M : AHeap} (hl : M.length ≤ h.length) (hM : ∀ (id : Nat) (o : AObj), M[id]? = some o → o.mu ≠ .x → h[id]? = some o) (hc : closedH M = true) :
    HRel w (Fp F β h M) (β.take M.length) M ∧ (∀ (v : Value) (p : PV), VRel w (Av F h β) β h v p → visR (visible M) p = true → VRel w (Av (Fp F β h M) M (β.take M.length)) (β.take M.length) M v p) := by
  have hlen := H.len
  have hb : ∀ id, id < M.length → (β.take M.length)[id]? = β[id]? := fun id hid => by rw [List.getElem?_take, if_pos hid]
  have hM' : ∀ (id : Nat) (o : AObj), M[id]? = some o → o.mu ≠ .x → h[id]? = some o ∧ (β.take M.length)[id]? = β[id]? := fun id o e1 e2 => ⟨hM id o e1 e2, hb id (lt_of_some e1)⟩
  have hA : ∀ b, Av (Fp F β h M) M (β.take M.length) b → Av F h β b := by
    rintro b (hf | ⟨id, o, bc, e1, e2, e3, e4⟩)
    · exact hf.av
    · obtain ⟨f1, f2⟩ := hM' id o e1 (by rw [e3]; simp)
      exact .inr ⟨id, o, bc, f1, by rw [← f2]; exact e2, e3, e4⟩
  have hv : ∀ (v : Value) (p : PV), VRel w (Av F h β) β h v p → visR (visible M) p = true → VRel w (Av (Fp F β h M) M (β.take M.length)) (β.take M.length) M v p := fun v p r hv => r.restrict hM' hA hv
  refine ⟨⟨by simp; omega, fun b hb => Av.lt H (Fp.av hb), ?_, ?_, ?_⟩, hv⟩
  · intro id o bc e1 e2 e3
    obtain ⟨f1, f2⟩ := hM' id o e1 e3
    rw [f2] at e2
    refine (H.obj id o bc f1 e2 e3).to rfl (fun v e p he hp r => hv v p r ?_)
    have := List.all_eq_true.1 hc o (List.mem_of_getElem? e1)
    simp only [Bool.or_eq_true, decide_eq_true_eq, visRs_eq] at this
    exact visR_cells (List.all_eq_true.1 (this.resolve_left e3) e he) hp
  · intro id id' o o' bc bc' hne e1 e2 e3 e4 m1 m2
    obtain ⟨f1, f2⟩ := hM' id o e1 (by rw [m1]; simp)
    obtain ⟨g1, g2⟩ := hM' id' o' e2 m2
    exact H.dist id id' o o' bc bc' hne f1 g1 (by rw [← f2]; exact e3) (by rw [← g2]; exact e4) m1 m2
  · intro id o bc e1 e2 e3
    have e3' : o.mu ≠ .x := by rcases e3 with e3 | e3 <;> rw [e3] <;> simp
    obtain ⟨f1, f2⟩ := hM' id o e1 e3'
    rw [f2] at e2
    rintro (hf | ⟨id2, o2, bc2, g1, g2, g3, g4, g5⟩)
    · exact H.out id o bc f1 e2 e3 hf
    · have hne : id2 ≠ id := by
        rintro rfl
        rw [f1] at g1
        obtain rfl := Option.some.inj g1
        exact g5 e1
      exact H.dist id2 id o2 o bc2 bc hne g1 f1 g2 e2 g3 e3' g4

/-- after an operation at level 1 on a part, what it made is put into the whole -/
theorem HRel.merge (H : HRel w F β h) {M ext h' : AHeap} {β1 : List (Nat × Nat)} {w' : World} (hl : M.length + ext.length ≤ h.length) (hM : ∀ (id : Nat) (o : AObj), M[id]? = some o → o.mu ≠ .x → h[id]? = some o)
    (H1 : HRel w' (Fp F β h M) β1 (M ++ ext)) (S1 : Stp w M (β.take M.length) w' (M ++ ext) β1) (G : Grew w w') (hnl : ∀ o ∈ ext, o.mu ≠ .l)
    (hlen' : h'.length = h.length) (hin : ∀ id : Nat, M.length ≤ id → id < M.length + ext.length → h'[id]? = ext[id - M.length]?) (hout : ∀ id : Nat, (id < M.length ∨ M.length + ext.length ≤ id) → h'[id]? = h[id]?)
    (hhid : ∀ (id : Nat) (o : AObj), M.length ≤ id → id < M.length + ext.length → h[id]? = some o → o.mu = .x) :
    ∃ β', HRel w' F β' h' ∧ Fwd h β h' β' ∧ (∀ b, b < w.heap.size → ¬ Av F h β b → ¬ Av F h' β' b) ∧ (∀ b, b < w.heap.size → Mb h' β' b → Mb h β b) ∧ (∀ id : Nat, id < M.length → β'[id]? = β[id]?) ∧
      (∀ (v : Value) (p : PV), VRel w' (Av (Fp F β h M) (M ++ ext) β1) β1 (M ++ ext) v p → VRel w' (Av F h' β') β' h' v p) := by
  have hlen := H.len
  have hl1 := H1.len
  simp only [List.length_append] at hl1
  have hml : (β1.drop M.length).length = ext.length := by simp; omega
  have hβ : ∀ k, (β.take M.length ++ β1.drop M.length ++ β.drop (M.length + (β1.drop M.length).length))[k]? = if k < M.length then β[k]? else if k < M.length + ext.length then β1[k]? else β[k]? := by
    intro k
    rw [splice_get _ _ _ _ (by omega), hml]
    split
    · rfl
    · split
      · rw [List.getElem?_drop]; congr 1; omega
      · rfl
  refine ⟨β.take M.length ++ β1.drop M.length ++ β.drop (M.length + (β1.drop M.length).length), ?_⟩
  generalize hβ' : β.take M.length ++ β1.drop M.length ++ β.drop (M.length + (β1.drop M.length).length) = β' at hβ ⊢
  have hlb : β'.length = h'.length := by
    rw [← hβ', hlen']
    simp; omega
  have bin : ∀ id, M.length ≤ id → id < M.length + ext.length → β'[id]? = β1[id]? := fun id h1 h2 => by rw [hβ, if_neg (by omega), if_pos h2]
  have bout : ∀ id, (id < M.length ∨ M.length + ext.length ≤ id) → β'[id]? = β[id]? := fun id h1 => by
    rw [hβ]
    by_cases h2 : id < M.length
    · rw [if_pos h2]
    · rw [if_neg h2, if_neg (by omega)]
  have pin : ∀ id, M.length ≤ id → id < M.length + ext.length → (M ++ ext)[id]? = ext[id - M.length]? := fun id h1 _ => List.getElem?_append_right h1
  have pold : ∀ id, id < M.length → (M ++ ext)[id]? = M[id]? := fun id h1 => List.getElem?_append_left h1
  -- what the part shows has its place in both
  have both : ∀ (id : Nat) (o : AObj) (bc : Nat × Nat), M[id]? = some o → o.mu ≠ .x → β[id]? = some bc → β1[id]? = some bc := by
    intro id o bc e1 e2 e3
    have hid := lt_of_some e1
    obtain ⟨o', bc', f1, f2, f3, f4, f5⟩ := S1.refs id o bc e1 (by rw [List.getElem?_take, if_pos hid]; exact e3) e2
    rw [pold id hid, e1] at f1
    obtain rfl := Option.some.inj f1
    rw [(f5 rfl).2.2] at f2
    exact f2
  have cases' : ∀ id : Nat, (M.length ≤ id ∧ id < M.length + ext.length) ∨ (id < M.length ∨ M.length + ext.length ≤ id) := fun id => by omega
  -- the new ones that may be written lie in new blocks
  have newb : ∀ (id : Nat) (o : AObj) (bc : Nat × Nat), M.length ≤ id → id < M.length + ext.length → h'[id]? = some o → β'[id]? = some bc → o.mu = .m → w.heap.size ≤ bc.1 := by
    intro id o bc a1 a2 e1 e2 e3
    rw [hin id a1 a2, ← pin id a1 a2] at e1
    rw [bin id a1 a2] at e2
    rcases Nat.lt_or_ge bc.1 w.heap.size with hlt | hge
    · obtain ⟨id2, o2, bc2, f1, f2, f3, f4⟩ := S1.shr bc.1 hlt ⟨id, o, bc, e1, e2, e3, rfl⟩
      have hid2 := lt_of_some f1
      rw [List.getElem?_take, if_pos hid2] at f2
      exact absurd f4.symm (H1.dist id id2 o o2 bc bc2 (by omega) e1 (by rw [pold id2 hid2]; exact f1) e2 (both id2 o2 bc2 f1 (by rw [f3]; simp) f2) e3 (by rw [f3]; simp))
    · exact hge
  have fwd0 : Fwd h β h' β' := by
    intro id o bc e1 e2 e3
    rcases cases' id with ⟨a1, a2⟩ | a
    · exact absurd (hhid id o a1 a2 e1) e3
    · exact ⟨o, bc, by rw [hout id a]; exact e1, by rw [bout id a]; exact e2, e3, Nat.le_refl _, fun _ => ⟨rfl, rfl, rfl⟩⟩
  have shr : ∀ b, b < w.heap.size → Mb h' β' b → Mb h β b := by
    rintro b hb ⟨id, o, bc, e1, e2, e3, rfl⟩
    rcases cases' id with ⟨a1, a2⟩ | a
    · have := newb id o bc a1 a2 e1 e2 e3; omega
    · exact ⟨id, o, bc, by rw [← hout id a]; exact e1, by rw [← bout id a]; exact e2, e3, rfl⟩
  have hA0 : ∀ b, b < w.heap.size → ¬ Av F h β b → ¬ Av F h' β' b := by
    rintro b hb hn (hf | hm)
    · exact hn (.inl hf)
    · exact hn (.inr (shr b hb hm))
  have fwd1 : Fwd (M ++ ext) β1 h' β' := by
    intro id o bc e1 e2 e3
    have hid := lt_of_some e1
    simp at hid
    by_cases hid2 : id < M.length
    · rw [pold id hid2] at e1
      have e4 := hM id o e1 e3
      obtain ⟨bc0, e5⟩ := beta_at H.len e4
      have := both id o bc0 e1 e3 e5
      rw [this] at e2
      obtain rfl := Option.some.inj e2
      exact ⟨o, bc0, by rw [hout id (.inl hid2)]; exact e4, by rw [bout id (.inl hid2)]; exact e5, e3, Nat.le_refl _, fun _ => ⟨rfl, rfl, rfl⟩⟩
    · exact ⟨o, bc, by rw [hin id (by omega) hid, ← pin id (by omega) hid]; exact e1, by rw [bin id (by omega) hid]; exact e2, e3, Nat.le_refl _, fun _ => ⟨rfl, rfl, rfl⟩⟩
  have hA1 : ∀ b, Av F h' β' b → Av (Fp F β h M) (M ++ ext) β1 b := by
    rintro b (hf | ⟨id, o, bc, e1, e2, e3, e4⟩)
    · exact .inl (.inl hf)
    · rcases cases' id with ⟨a1, a2⟩ | a
      · rw [hin id a1 a2, ← pin id a1 a2] at e1
        rw [bin id a1 a2] at e2
        exact .inr ⟨id, o, bc, e1, e2, e3, e4⟩
      · rw [hout id a] at e1
        rw [bout id a] at e2
        by_cases hm : M[id]? = some o
        · have hid := lt_of_some hm
          exact .inr ⟨id, o, bc, by rw [pold id hid]; exact hm, both id o bc hm (by rw [e3]; simp) e2, e3, e4⟩
        · exact .inl (.inr ⟨id, o, bc, e1, e2, e3, e4, hm⟩)
  have v0 : ∀ (v : Value) (p : PV), VRel w (Av F h β) β h v p → VRel w' (Av F h' β') β' h' v p := fun v p r => r.fwd fwd0 (fun b hb _ => G.keep b hb) hA0
  have v1 : ∀ (v : Value) (p : PV), VRel w' (Av (Fp F β h M) (M ++ ext) β1) β1 (M ++ ext) v p → VRel w' (Av F h' β') β' h' v p := fun v p r => r.fwd fwd1 (fun _ _ _ => rfl) (fun b _ hn ha => hn (hA1 b ha))
  refine ⟨⟨hlb, fun b hb => Nat.lt_of_lt_of_le (H.fin b hb) G.size, ?_, ?_, ?_⟩, fwd0, hA0, shr, fun id hid => bout id (.inl hid), v1⟩
  · intro id o bc e1 e2 e3
    rcases cases' id with ⟨a1, a2⟩ | a
    · rw [hin id a1 a2, ← pin id a1 a2] at e1
      rw [bin id a1 a2] at e2
      exact (H1.obj id o bc e1 e2 e3).to rfl (fun v e p _ _ r => v1 v p r)
    · rw [hout id a] at e1
      rw [bout id a] at e2
      have r := H.obj id o bc e1 e2 e3
      obtain ⟨T, cs, k1, _⟩ := _root_.id r
      exact r.to (G.keep _ (Array.getElem?_eq_some_iff.1 k1).1) (fun v e p _ _ r => v0 v p r)
  · intro id id' o o' bc bc' hne e1 e2 e3 e4 m1 m2
    rcases cases' id with ⟨a1, a2⟩ | a <;> rcases cases' id' with ⟨b1, b2⟩ | b
    · rw [hin id a1 a2, ← pin id a1 a2] at e1; rw [bin id a1 a2] at e3
      rw [hin id' b1 b2, ← pin id' b1 b2] at e2; rw [bin id' b1 b2] at e4
      exact H1.dist id id' o o' bc bc' hne e1 e2 e3 e4 m1 m2
    · have h1 := newb id o bc a1 a2 e1 e3 m1
      rw [hout id' b] at e2; rw [bout id' b] at e4
      obtain ⟨T, cs, k1, _⟩ := H.obj id' o' bc' e2 e4 m2
      have := (Array.getElem?_eq_some_iff.1 k1).1
      omega
    · rw [hout id a] at e1; rw [bout id a] at e3
      rw [hin id' b1 b2, ← pin id' b1 b2] at e2; rw [bin id' b1 b2] at e4
      by_cases hm : M[id]? = some o
      · have hid := lt_of_some hm
        exact H1.dist id id' o o' bc bc' hne (by rw [pold id hid]; exact hm) e2 (both id o bc hm (by rw [m1]; simp) e3) e4 m1 m2
      · have nl : o'.mu ≠ .l := by
          rw [pin id' b1 b2] at e2
          exact hnl o' (List.mem_of_getElem? e2)
        have hmf : o'.mu = .m ∨ o'.mu = .f := by
          cases hh : o'.mu with
          | m => exact .inl rfl
          | l => exact absurd hh nl
          | f => exact .inr rfl
          | x => exact absurd hh m2
        intro heq
        exact H1.out id' o' bc' e2 e4 hmf (.inr ⟨id, o, bc, e1, e3, m1, heq, hm⟩)
    · rw [hout id a] at e1; rw [bout id a] at e3
      rw [hout id' b] at e2; rw [bout id' b] at e4
      exact H.dist id id' o o' bc bc' hne e1 e2 e3 e4 m1 m2
  · intro id o bc e1 e2 e3
    rcases cases' id with ⟨a1, a2⟩ | a
    · rw [hin id a1 a2, ← pin id a1 a2] at e1
      rw [bin id a1 a2] at e2
      exact fun hf => H1.out id o bc e1 e2 e3 (.inl hf)
    · rw [hout id a] at e1; rw [bout id a] at e2
      exact H.out id o bc e1 e2 e3

end Go.Pm
end

/-
  PM, PART 12: three plain facts of the evaluator: an operation looks at its operands alone; one that does not touch the heap says the same in each; at level 1 the heap is only added to. Conditions: none.
-/
section
set_option linter.unusedVariables false
set_option linter.unusedSimpArgs false
set_option linter.unusedVariables false
namespace Go.Pm

theorem map_ev_congr {ρ ρ' : Nat → PV} {xs : List Operand} (h : ∀ x ∈ xs, ev ρ x = ev ρ' x) : xs.map (ev ρ) = xs.map (ev ρ') := List.map_congr_left h

theorem pairs_ev_congr {ρ ρ' : Nat → PV} {xs : List (Nat × Operand)} (h : ∀ x ∈ xs.map (·.2), ev ρ x = ev ρ' x) : (xs.map fun (i, x) => (i, ev ρ x)) = xs.map fun (i, x) => (i, ev ρ' x) :=
  List.map_congr_left fun p hp => by
    obtain ⟨i, x⟩ := p
    simp only [h x (List.mem_map.2 ⟨(i, x), hp, rfl⟩)]

theorem opVal_congr {C : Cfg} {run : Run} {lv : Nat} {op : Op} {ρ ρ' : Nat → PV} {hp : AHeap} (h : ∀ x ∈ op.operands.toList, ev ρ x = ev ρ' x) : opVal C run lv op ρ hp = opVal C run lv op ρ' hp := by
  cases op
  case call c =>
    have ha : c.args.toList.map (ev ρ) = c.args.toList.map (ev ρ') := map_ev_congr fun x hx => h x (by simp [Op.operands, Call.operands]; exact .inr (by simpa using hx))
    simp only [opVal, ha]
    cases hc : c.callee with
    | value f => simp only [h f (by simp [Op.operands, Call.operands, hc])]
    | invoke r m => rfl
    | builtin b => rfl
  case build t ps => simp only [opVal, stepOp, pairs_ev_congr (ρ := ρ) (ρ' := ρ') (xs := ps.toList) fun x hx => h x (by simpa [Op.operands] using hx)]
  case buildSlice t n ps => simp only [opVal, stepOp, pairs_ev_congr (ρ := ρ) (ρ' := ρ') (xs := ps.toList) fun x hx => h x (by simpa [Op.operands] using hx)]
  case makeFunc fn first caps =>
    have ha : caps.toList.map (ev ρ) = caps.toList.map (ev ρ') := map_ev_congr fun x hx => h x (by simp [Op.operands]; exact .inr (by simpa using hx))
    simp only [opVal, stepOp]
    cases fn <;> simp only [ha]
  case slice t x lo hi mx =>
    simp only [Op.operands] at h
    have h1 := h x (by simp)
    have h2 : lo.map (ev ρ) = lo.map (ev ρ') := by cases lo with | none => rfl | some y => simp [h y (by simp)]
    have h3 : hi.map (ev ρ) = hi.map (ev ρ') := by cases hi with | none => rfl | some y => simp [h y (by simp)]
    have h4 : mx.map (ev ρ) = mx.map (ev ρ') := by cases mx with | none => rfl | some y => simp [h y (by simp)]
    simp only [opVal, stepOp, h1, h2, h3, h4]
  all_goals (simp only [Op.operands] at h; simp only [opVal, stepOp]; try simp_all)

theorem map_pair' {α : Type} {x : Option α} {h : AHeap} {p : α} {h' : AHeap} (e : x.map (·, h) = some (p, h')) : x = some p ∧ h' = h := by
  cases x with
  | none => cases e
  | some y => simp at e; exact ⟨by rw [e.1], e.2.symm⟩

theorem opVal_plain {C : Cfg} {run : Run} {lv lv2 : Nat} {op : Op} {ρ : Nat → PV} {h1 h1' h2 : AHeap} {r : PV} (hn : heapy op = false) (e : opVal C run lv op ρ h1 = some (r, h1')) : opVal C run lv2 op ρ h2 = some (r, h2) := by
  cases op <;> simp [heapy] at hn <;> simp only [opVal, stepOp] at e ⊢
  case move x => simp at e; simp [e.1]
  case assign x => simp at e; simp [e.1]
  case pick c x y => split at e <;> simp_all
  case build t ps => obtain ⟨e1, _⟩ := map_pair' e; rw [e1]; rfl
  case nilCheck x => split at e <;> simp_all
  case binOp => obtain ⟨e1, _⟩ := map_pair' e; rw [e1]; rfl
  case unOp => obtain ⟨e1, _⟩ := map_pair' e; rw [e1]; rfl
  case convert => obtain ⟨e1, _⟩ := map_pair' e; rw [e1]; rfl
  case makeFunc fn first caps =>
    cases fn <;> simp only at e ⊢ <;> try (cases e; done)
    split at e
    · rename_i hf; simp at e; simp [hf, e.1]
    · cases e
  case fieldAddr => obtain ⟨e1, _⟩ := map_pair' e; rw [e1]; rfl
  case field => obtain ⟨e1, _⟩ := map_pair' e; rw [e1]; rfl
  case index => obtain ⟨e1, _⟩ := map_pair' e; rw [e1]; rfl
  case extract x i =>
    split at e
    · split at e <;> simp_all
    · cases e

/-- only added to -/
def Ext (h h' : AHeap) : Prop := ∃ ext, h' = h ++ ext
theorem Ext.refl (h : AHeap) : Ext h h := ⟨[], by simp⟩

theorem lockCall_ext {g : List PV → AHeap → Option (PV × AHeap)} {lv : Nat} (hl : lv ≤ 1) {args : List PV} {h h' : AHeap} {r : PV} (e : lockCall g lv args h = some (r, h')) : Ext h h' := by
  unfold lockCall at e
  rw [if_neg (by omega)] at e
  split at e
  · split at e
    · split at e
      · obtain ⟨rfl, rfl⟩ := Prod.mk.inj (Option.some.inj e); exact ⟨_, rfl⟩
      · cases e
    · cases e
  · cases e

theorem callF_ext {C : Cfg} {run : Run} {lv : Nat} (hl : lv ≤ 1) {f : FuncId} {args : List PV} {h h' : AHeap} {r : PV} (e : callF C run lv f args h = some (r, h')) : Ext h h' := by
  unfold callF at e
  split at e
  · cases e
  · unfold callPure at e
    split at e
    · split at e
      · split at e
        · obtain ⟨rfl, rfl⟩ := Prod.mk.inj (Option.some.inj e); exact Ext.refl _
        · cases e
      · cases e
    · split at e
      · split at e
        · split at e
          · split at e
            · obtain ⟨rfl, rfl⟩ := Prod.mk.inj (Option.some.inj e); exact Ext.refl _
            · rw [if_neg (by omega)] at e; cases e
          · cases e
        · cases e
      · cases e
  · unfold callOpen at e
    split at e
    · rename_i r0 h1 he
      obtain ⟨ext, rfl⟩ := lockCall_ext hl he
      split at e
      · obtain ⟨rfl, rfl⟩ := Prod.mk.inj (Option.some.inj e); simp; exact Ext.refl _
      · obtain ⟨rfl, rfl⟩ := Prod.mk.inj (Option.some.inj e); exact ⟨_, rfl⟩
    · cases e
  · split at e
    · obtain ⟨_, rfl⟩ := map_pair' e; exact Ext.refl _
    · cases e
  · exact lockCall_ext hl e
  · split at e
    · obtain ⟨_, rfl⟩ := map_pair' e; exact Ext.refl _
    · cases e

theorem builtin_ext {P : Program} {lv : Nat} (hl : lv ≤ 1) {b : Builtin} {ts : List TypeId} {args : List PV} {h h' : AHeap} {r : PV} (e : builtinP P lv h b ts args = some (r, h')) : Ext h h' := by
  unfold builtinP at e
  split at e
  · obtain ⟨_, rfl⟩ := map_pair' e; exact Ext.refl _
  · unfold appendP at e
    repeat' split at e
    all_goals first
      | (cases e; done)
      | (obtain ⟨rfl, rfl⟩ := Prod.mk.inj (Option.some.inj e); first | exact Ext.refl _ | exact ⟨_, rfl⟩)
      | (exfalso; omega)
      | (rename_i hh; exfalso; obtain ⟨a1, a2, a3⟩ := hh; omega)
  · unfold copyP at e
    repeat' split at e
    all_goals first
      | (cases e; done)
      | (rename_i hh; exfalso; omega)
  · unfold clearP at e
    repeat' split at e
    all_goals first
      | (cases e; done)
      | (obtain ⟨rfl, rfl⟩ := Prod.mk.inj (Option.some.inj e); exact Ext.refl _)
      | (rename_i hh; exfalso; omega)
  · obtain ⟨_, rfl⟩ := map_pair' e; exact Ext.refl _
  · obtain ⟨_, rfl⟩ := map_pair' e; exact Ext.refl _
  · obtain ⟨_, rfl⟩ := map_pair' e; exact Ext.refl _
  · cases e

theorem stepOp_ext {P : Program} {lv : Nat} (hl : lv ≤ 1) {op : Op} {ρ : Nat → PV} {h h' : AHeap} {r : PV} (e : stepOp P lv op ρ h = some (r, h')) : Ext h h' := by
  cases op <;> simp only [stepOp] at e
  case alloc t =>
    split at e
    · split at e
      · obtain ⟨rfl, rfl⟩ := Prod.mk.inj (Option.some.inj e); exact ⟨_, rfl⟩
      · cases e
    · cases e
  case box t x =>
    split at e
    · obtain ⟨rfl, rfl⟩ := Prod.mk.inj (Option.some.inj e); exact ⟨_, rfl⟩
    · cases e
  case buildSlice t n ps =>
    unfold buildSliceP at e
    repeat' split at e
    all_goals first
      | (cases e; done)
      | (obtain ⟨rfl, rfl⟩ := Prod.mk.inj (Option.some.inj e); first | exact Ext.refl _ | exact ⟨_, rfl⟩)
  case store t x y => rw [if_neg (by omega)] at e; cases e
  case makeSlice t l c =>
    unfold makeSliceP at e
    repeat' split at e
    all_goals first
      | (cases e; done)
      | (obtain ⟨rfl, rfl⟩ := Prod.mk.inj (Option.some.inj e); exact ⟨_, rfl⟩)
  case makeFunc fn first caps =>
    cases fn <;> simp only at e <;> try (cases e; done)
    split at e
    · obtain ⟨rfl, rfl⟩ := Prod.mk.inj (Option.some.inj e); exact Ext.refl _
    · cases e
  all_goals first
    | (cases e; done)
    | (obtain ⟨rfl, rfl⟩ := Prod.mk.inj (Option.some.inj e); exact Ext.refl _)
    | (obtain ⟨_, rfl⟩ := map_pair' e; exact Ext.refl _)
    | (repeat' split at e
       all_goals first
         | (cases e; done)
         | (obtain ⟨rfl, rfl⟩ := Prod.mk.inj (Option.some.inj e); exact Ext.refl _))

theorem opVal_ext {C : Cfg} {run : Run} {lv : Nat} (hl : lv ≤ 1) {op : Op} {ρ : Nat → PV} {h h' : AHeap} {r : PV} (e : opVal C run lv op ρ h = some (r, h')) : Ext h h' := by
  unfold opVal at e
  split at e
  · split at e
    · unfold calleeP at e
      split at e
      · exact callF_ext hl e
      · cases e
    · exact builtin_ext hl e
    · cases e
  · exact stepOp_ext hl e

end Go.Pm
end

/-
  PM, PART 14: REGIONS THAT DRAW THEIR ORDER: whatever the order, the end is that of the text. Conditions: none.
-/
section
set_option linter.unusedVariables false
set_option linter.unusedSimpArgs false
set_option linter.unusedVariables false
namespace Go.Pm

/-! ### who waits on whom -/
def Anc (ops : Array Oper) (i j : Nat) : Prop := ((before ops).getD i 0).testBit j = true

theorem fold_bits (f : Edge → Nat) (j : Nat) : ∀ (l : List Edge) (s0 : Nat), (l.foldl (fun s e => s ||| 2 ^ e.on ||| f e) s0).testBit j = true → s0.testBit j = true ∨ ∃ e ∈ l, j = e.on ∨ (f e).testBit j = true
  | [], s0, h => .inl h
  | e :: l, s0, h => by
    rcases fold_bits f j l _ h with h | ⟨e', h1, h2⟩
    · simp only [Nat.testBit_or, Bool.or_eq_true, Nat.testBit_two_pow, decide_eq_true_eq] at h
      rcases h with (h | h) | h
      · exact .inl h
      · exact .inr ⟨e, by simp, .inl h.symm⟩
      · exact .inr ⟨e, by simp, .inr h⟩
    · exact .inr ⟨e', by simp [h1], h2⟩

theorem before_go (all : List Oper) : ∀ (l pre : List Oper) (acc : List Nat), all = pre ++ l → acc.length = pre.length →
    (∀ i j, (acc.getD i 0).testBit j = true → ∃ o, all[i]? = some o ∧ ∃ e ∈ aft o, j = e.on ∨ (acc.getD e.on 0).testBit j = true) →
    ∀ i j, ((l.foldl (fun acc o => acc ++ [(aft o).foldl (fun s e => s ||| 2 ^ e.on ||| acc.getD e.on 0) 0]) acc).getD i 0).testBit j = true →
      ∃ o, all[i]? = some o ∧ ∃ e ∈ aft o, j = e.on ∨ ((l.foldl (fun acc o => acc ++ [(aft o).foldl (fun s e => s ||| 2 ^ e.on ||| acc.getD e.on 0) 0]) acc).getD e.on 0).testBit j = true
  | [], pre, acc, h1, h2, h3 => h3
  | o :: l, pre, acc, h1, h2, h3 => by
    have keep : ∀ k x (v : Nat), (acc.getD k 0).testBit x = true → ((acc ++ [v]).getD k 0).testBit x = true := fun k x v h => by
      rcases Nat.lt_or_ge k acc.length with hk | hk
      · simpa [List.getD, List.getElem?_append_left hk] using h
      · simp [List.getD, List.getElem?_eq_none hk] at h
    refine before_go all l (pre ++ [o]) _ (by simp [h1]) (by simp [h2]) ?_
    intro i j hij
    by_cases hi : i < acc.length
    · have hij' : (acc.getD i 0).testBit j = true := by simpa [List.getD, List.getElem?_append_left hi] using hij
      obtain ⟨o', e1, e, e2, e3⟩ := h3 i j hij'
      exact ⟨o', e1, e, e2, e3.imp id (keep _ _ _)⟩
    · by_cases hi2 : i = acc.length
      · subst hi2
        have hij' : (((aft o).foldl (fun s e => s ||| 2 ^ e.on ||| acc.getD e.on 0) 0)).testBit j = true := by simpa [List.getD] using hij
        rcases fold_bits (fun e => acc.getD e.on 0) j _ _ hij' with h | ⟨e, h4, h5⟩
        · simp at h
        · exact ⟨o, by rw [h1, h2, List.getElem?_append_right (Nat.le_refl _)]; simp, e, h4, h5.imp id (keep _ _ _)⟩
      · rw [List.getD_eq_getElem?_getD, List.getElem?_eq_none (by simp; omega)] at hij
        simp at hij

theorem anc_spec {ops : Array Oper} {i j : Nat} (h : Anc ops i j) : ∃ o, ops[i]? = some o ∧ ∃ e ∈ aft o, j = e.on ∨ Anc ops e.on j := by
  obtain ⟨o, h1, e, h2, h3⟩ := before_go ops.toList ops.toList [] [] rfl rfl (fun i j h => by simp at h) i j h
  exact ⟨o, by simpa using h1, e, h2, h3⟩

def hits (ops : Array Oper) (o o' : Oper) : Bool :=
  match o'.dst with
  | some d => (o.looksAt ops).contains d || o.dst == some d
  | none => false

/-- what a region that draws its order must be -/
def drawOk (ops : Array Oper) : Bool :=
  ops.toList.zipIdx.all fun (o, i) => (aft o).all (fun e => decide (e.on < i)) &&
    ops.toList.zipIdx.all fun (o', j) => decide (i ≤ j) || !(hits ops o o' || hits ops o' o) || ((before ops).getD i 0).testBit j

theorem drawOk_spec {ops : Array Oper} (h : drawOk ops = true) :
    (∀ (i : Nat) (o : Oper), ops[i]? = some o → ∀ e ∈ aft o, e.on < i) ∧
    (∀ (i j : Nat) (o o' : Oper), ops[i]? = some o → ops[j]? = some o' → j < i → (hits ops o o' = true ∨ hits ops o' o = true) → Anc ops i j) := by
  have mem : ∀ (i : Nat) (o : Oper), ops[i]? = some o → (o, i) ∈ ops.toList.zipIdx := fun i o e => by
    rw [List.mem_iff_getElem?]
    exact ⟨i, by simp [e]⟩
  unfold drawOk at h
  rw [List.all_eq_true] at h
  constructor
  · intro i o e ed he
    have := h _ (mem i o e)
    simp only [Bool.and_eq_true] at this
    have := List.all_eq_true.1 this.1 ed he
    simpa using this
  · intro i j o o' e e' hji hh
    have := h _ (mem i o e)
    simp only [Bool.and_eq_true] at this
    have := List.all_eq_true.1 this.2 _ (mem j o' e')
    simp only [Bool.or_eq_true, decide_eq_true_eq, Bool.not_eq_true', Bool.or_eq_false_iff] at this
    rcases this with (h1 | h1) | h1
    · omega
    · rw [h1.1, h1.2] at hh; simp at hh
    · exact h1

theorem level_spec {ops : Array Oper} {i : Nat} (h : level ops (before ops) i = 2) {j : Nat} {o : Oper} (e : ops[j]? = some o) (hh : heapy o.op = true) : j = i ∨ Anc ops i j ∨ Anc ops j i := by
  unfold level at h
  split at h
  · rename_i hall
    have := List.all_eq_true.1 hall (o, j) (by rw [List.mem_iff_getElem?]; exact ⟨j, by simp [e]⟩)
    simp only [hh, Bool.not_true, Bool.false_or, cmpB, Bool.or_eq_true, beq_iff_eq] at this
    rcases this with (h1 | h1) | h1
    · exact .inl h1.symm
    · exact .inr (.inl h1)
    · exact .inr (.inr h1)
  · cases h

theorem anc_lt {ops : Array Oper} (hd : drawOk ops = true) : ∀ (i j : Nat), Anc ops i j → j < i := by
  intro i
  induction i using Nat.strongRecOn with
  | ind i ih =>
    intro j h
    obtain ⟨o, h1, e, h2, h3⟩ := anc_spec h
    have := (drawOk_spec hd).1 i o h1 e h2
    rcases h3 with rfl | h3
    · exact this
    · have := ih e.on this j h3; omega

theorem anc_closed {ops : Array Oper} (hd : drawOk ops = true) {E : Nat → Bool} (hE : ∀ (i : Nat) (o : Oper), ops[i]? = some o → E i = true → ∀ e ∈ aft o, E e.on = true) : ∀ (i j : Nat), E i = true → Anc ops i j → E j = true := by
  intro i
  induction i using Nat.strongRecOn with
  | ind i ih =>
    intro j hi h
    obtain ⟨o, h1, e, h2, h3⟩ := anc_spec h
    have hl := (drawOk_spec hd).1 i o h1 e h2
    have he := hE i o h1 hi e h2
    rcases h3 with rfl | h3
    · exact he
    · exact ih e.on hl j he h3

/-! ### heaps with hidden parts, by place -/
theorem maskE_len {e : Nat → Bool} {L0 : Nat} {own : List Nat} {h : AHeap} (h1 : L0 ≤ h.length) (h2 : own.length = h.length - L0) : (maskE e L0 own h).length = h.length := by
  unfold maskE; simp; omega

theorem maskE_app {e : Nat → Bool} {L0 : Nat} {own own2 : List Nat} {h ext : AHeap} (h1 : L0 ≤ h.length) (h2 : own.length = h.length - L0) :
    maskE e L0 (own ++ own2) (h ++ ext) = maskE e L0 own h ++ List.zipWith (fun o j => if e j then o else hide1 o) ext own2 := by
  unfold maskE
  rw [List.take_append_of_le_length h1, List.drop_append_of_le_length h1, List.zipWith_append (by simp; omega), List.append_assoc]

theorem zip_congr {e e' : Nat → Bool} : ∀ (h : AHeap) (own : List Nat), (∀ j ∈ own, e j = e' j) → List.zipWith (fun o j => if e j then o else hide1 o) h own = List.zipWith (fun o j => if e' j then o else hide1 o) h own
  | [], own, _ => by simp
  | _ :: _, [], _ => by simp
  | o :: h, j :: own, hh => by
    simp only [List.zipWith_cons_cons, hh j (by simp)]
    rw [zip_congr h own (fun k hk => hh k (by simp [hk]))]

theorem maskE_congr {e e' : Nat → Bool} {L0 : Nat} {own : List Nat} {h : AHeap} (hh : ∀ j ∈ own, e j = e' j) : maskE e L0 own h = maskE e' L0 own h := by
  unfold maskE
  rw [zip_congr _ _ hh]

theorem zip_all {e : Nat → Bool} : ∀ (h : AHeap) (own : List Nat), own.length = h.length → (∀ j ∈ own, e j = true) → List.zipWith (fun o j => if e j then o else hide1 o) h own = h
  | [], own, _, _ => by simp
  | o :: h, [], hl, _ => by simp at hl
  | o :: h, j :: own, hl, hh => by
    simp only [List.zipWith_cons_cons, hh j (by simp), if_true]
    rw [zip_all h own (by simpa using hl) (fun k hk => hh k (by simp [hk]))]

theorem maskE_all {e : Nat → Bool} {L0 : Nat} {own : List Nat} {h : AHeap} (h2 : own.length = h.length - L0) (hh : ∀ j ∈ own, e j = true) : maskE e L0 own h = h := by
  unfold maskE
  rw [zip_all _ _ (by simp [h2]) hh, List.take_append_drop]

theorem maskE_get {e : Nat → Bool} {L0 : Nat} {own : List Nat} {h : AHeap} (h1 : L0 ≤ h.length) (h2 : own.length = h.length - L0) (id : Nat) :
    (maskE e L0 own h)[id]? = if id < L0 then h[id]? else (h[id]?).map fun o => if e (own.getD (id - L0) 0) then o else hide1 o := by
  unfold maskE
  by_cases hid : id < L0
  · rw [if_pos hid, List.getElem?_append_left (by simp; omega), List.getElem?_take, if_pos hid]
  · rw [if_neg hid, List.getElem?_append_right (by simp; omega)]
    have hl : (List.take L0 h).length = L0 := by simp; omega
    rw [hl, List.getElem?_zipWith, List.getElem?_drop, show L0 + (id - L0) = id by omega]
    cases ho : h[id]? with
    | none => simp
    | some o =>
      have := lt_of_some ho
      have hw : own[id - L0]? = some (own[id - L0]'(by omega)) := List.getElem?_eq_getElem (by omega)
      simp [hw]

/-! ### the run in the order of the text -/
section
variable {C : Cfg} {run : Run} {ops : Array Oper}

theorem evalOpsD_trace : ∀ (l : List Oper) (k : Nat) (x y : DSt), evalOpsD C run ops (before ops) k l x = some y →
    ∃ tr : Nat → DSt, tr k = x ∧ (∀ (i : Nat) (o : Oper), l[i]? = some o → opStepD C run ops (before ops) (k + i) o (tr (k + i)) = some (tr (k + i + 1))) ∧ tr (k + l.length) = y
  | [], k, x, y, e => by
    simp [evalOpsD] at e
    exact ⟨fun _ => x, rfl, fun i o h => by simp at h, by simpa using e⟩
  | o :: l, k, x, y, e => by
    simp only [evalOpsD] at e
    split at e
    · rename_i x' hx
      obtain ⟨tr, t1, t2, t3⟩ := evalOpsD_trace l (k + 1) x' y e
      refine ⟨fun j => if j ≤ k then x else tr j, by simp, ?_, ?_⟩
      · intro i o' ho
        cases i with
        | zero =>
          simp at ho; subst ho
          simp [t1, hx]
          intro hh; omega
        | succ i =>
          have := t2 i o' (by simpa using ho)
          have e1 : ¬ (k + (i + 1) ≤ k) := by omega
          have e2 : ¬ (k + (i + 1) + 1 ≤ k) := by omega
          simp only [e1, e2, if_false]
          rw [show k + (i + 1) = k + 1 + i by omega]
          exact this
      · have e1 : ¬ (k + (o :: l).length ≤ k) := by simp
        simp only [e1, if_false]
        rw [← t3]; congr 1; simp; omega
    · cases e

/-- what one step of it does -/
inductive StepV (C : Cfg) (run : Run) (ops : Array Oper) (i : Nat) (o : Oper) (x y : DSt) : Prop
  | off : wantedA ops o x.s.ρ = some false → y = ⟨⟨updO x.s.ρ o.dst .undef, x.s.h⟩, x.L0, x.own⟩ → StepV C run ops i o x y
  | plain (r : PV) (h1 : AHeap) : wantedA ops o x.s.ρ = some true → heapy o.op = false → opVal C run 1 o.op x.s.ρ x.s.h = some (r, h1) → y = ⟨⟨updO x.s.ρ o.dst r, x.s.h⟩, x.L0, x.own⟩ → StepV C run ops i o x y
  | two (r : PV) (h' : AHeap) : wantedA ops o x.s.ρ = some true → heapy o.op = true → level ops (before ops) i = 2 → opVal C run 2 o.op x.s.ρ x.s.h = some (r, h') → y = ⟨⟨updO x.s.ρ o.dst r, h'⟩, h'.length, []⟩ → StepV C run ops i o x y
  | one (r : PV) (ext : AHeap) : wantedA ops o x.s.ρ = some true → heapy o.op = true → level ops (before ops) i ≠ 2 → closedH (maskE ((before ops).getD i 0).testBit x.L0 x.own x.s.h) = true →
      (∀ z ∈ o.op.operands.toList, visR (visible (maskE ((before ops).getD i 0).testBit x.L0 x.own x.s.h)) (ev x.s.ρ z) = true) →
      opVal C run 1 o.op x.s.ρ (maskE ((before ops).getD i 0).testBit x.L0 x.own x.s.h) = some (r, maskE ((before ops).getD i 0).testBit x.L0 x.own x.s.h ++ ext) →
      (∀ o ∈ ext, o.mu ≠ .l) → y = ⟨⟨updO x.s.ρ o.dst r, x.s.h ++ ext⟩, x.L0, x.own ++ List.replicate ext.length i⟩ → StepV C run ops i o x y

theorem stepV {i : Nat} {o : Oper} {x y : DSt} (h1 : x.L0 ≤ x.s.h.length) (h2 : x.own.length = x.s.h.length - x.L0) (e : opStepD C run ops (before ops) i o x = some y) : StepV C run ops i o x y := by
  unfold opStepD at e
  split at e
  · rename_i hw
    split at e
    · rename_i hh
      split at e
      · rename_i r hx hv; exact .plain r hx hw hh hv (Option.some.inj e).symm
      · cases e
    · rename_i hh
      have hh' : heapy o.op = true := by simpa using hh
      split at e
      · rename_i hl
        split at e
        · rename_i r h' hv; exact .two r h' hw hh' hl hv (Option.some.inj e).symm
        · cases e
      · rename_i hl
        simp only at e
        split at e
        · rename_i hc
          split at e
          · rename_i r h' hv
            obtain ⟨ext, rfl⟩ := opVal_ext (Nat.le_refl 1) hv
            have hd : (maskE ((before ops).getD i 0).testBit x.L0 x.own x.s.h ++ ext).drop x.s.h.length = ext := by
              rw [← maskE_len (e := ((before ops).getD i 0).testBit) h1 h2, List.drop_left]
            rw [hd] at e
            split at e
            · rename_i hnl
              exact .one r ext hw hh' hl hc.1 (fun z hz => List.all_eq_true.1 hc.2 z hz) hv (fun o ho => by simpa using List.all_eq_true.1 hnl o ho) (Option.some.inj e).symm
            · cases e
          · cases e
        · cases e
  · rename_i hw; exact .off hw (Option.some.inj e).symm
  · cases e

end

end Go.Pm
end
