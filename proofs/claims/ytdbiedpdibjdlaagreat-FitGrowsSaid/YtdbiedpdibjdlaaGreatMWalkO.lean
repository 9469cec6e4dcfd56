/-
  The walk of rational's plus.
-/
import Derived.Test.YtdbiedpdibjdlaaGreatMWalkN
import Derived.Test.YtdbiedpdibjdlaaGreatMWalkD
namespace Go.Proofs.YtdbiedpdibjdlaaGreat
open Go.RowKit AC
set_option linter.unusedVariables false
set_option linter.unusedSimpArgs false

/-- What plus gives. -/
def PlusR (w : World) (n1 d1 n2 d2 : Nat) (s1 s2 : Bool) (v2 : Value) (w' : World) : Prop :=
  ∃ neg n, FracR w' w.heap.size v2 neg n (d1 * d2) ∧ sg neg n = sg s1 n1 * d2 + sg s2 n2 * d1 ∧ Below w.heap.size w w'

theorem sg_same (s : Bool) (n1 n2 d1 d2 : Nat) : sg s (n1 * d2 + n2 * d1) = sg s n1 * d2 + sg s n2 * d1 := by
  cases s <;> simp [sg, Int.neg_mul, Int.neg_add]
theorem sg_diff_lt {s1 s2 : Bool} (h : ¬ s1 = s2) {n1 n2 d1 d2 : Nat} (hlt : n1 * d2 < n2 * d1) : sg s2 (n2 * d1 - n1 * d2) = sg s1 n1 * d2 + sg s2 n2 * d1 := by
  have e : ((n2 * d1 - n1 * d2 : Nat) : Int) = (n2 : Int) * d1 - (n1 : Int) * d2 := by
    rw [Int.ofNat_sub (by omega)]; simp
  cases s1 <;> cases s2 <;> simp_all [sg, Int.neg_mul] <;> omega
theorem sg_diff_ge {s1 s2 : Bool} (h : ¬ s1 = s2) {n1 n2 d1 d2 : Nat} (hge : n2 * d1 ≤ n1 * d2) : sg s1 (n1 * d2 - n2 * d1) = sg s1 n1 * d2 + sg s2 n2 * d1 := by
  have e : ((n1 * d2 - n2 * d1 : Nat) : Int) = (n1 : Int) * d2 - (n2 : Int) * d1 := by
    rw [Int.ofNat_sub (by omega)]; simp
  cases s1 <;> cases s2 <;> simp_all [sg, Int.neg_mul] <;> omega

theorem cell_set3 (w : World) {g b : Nat} (h : b ≠ g) (o : Nat) (x y z : Value) :
    (((w.setCell ⟨g, 0, none⟩ x).setCell ⟨g, 1, none⟩ y).setCell ⟨g, 2, none⟩ z).cell? ⟨b, o, none⟩ = w.cell? ⟨b, o, none⟩ := by
  rw [World.cell?_setCell_other _ _ _ _ (by intro e; injection e with e; omega), World.cell?_setCell_other _ _ _ _ (by intro e; injection e with e; omega), World.cell?_setCell_other _ _ _ _ (by intro e; injection e with e; omega)]

set_option maxHeartbeats 4000000 in
theorem plus_any (w : World) (lo lo' : Nat) (v v' : Value) (s1 s2 : Bool) (n1 d1 n2 d2 : Nat) (hv : FracR w lo v s1 n1 d1) (hv' : FracR w lo' v' s2 n2 d2)
    (k1 : dl n1 + dl d2 ≤ 4294967290) (k2 : dl n2 + dl d1 ≤ 4294967290) (k3 : dl d1 + dl d2 ≤ 4294967290) :
    Calls Tryz.prog 77 #[v, v'] w (Ret (PlusR w n1 d1 n2 d2 s1 s2)) := by
  obtain ⟨A1, c1, B1, e1, rfl, hn1, hd1⟩ := hv.form
  obtain ⟨A2, c2, B2, e2, rfl, hn2, hd2⟩ := hv'.form
  have HN1 := Lib.hid hn1
  have HD1 := Lib.hid hd1
  have HN2 := Lib.hid hn2
  have HD2 := Lib.hid hd2
  clear hv hv' hn1 hd1 hn2 hd2
  go_enter Tryz.func77, Tryz.ntmps77
  go_wp2
  go_outline
  go_region_held3 (fun w' => w'.cell? ⟨w.heap.size, 1, none⟩ = some (.slice A1 (dl n1) c1) ∧ w'.cell? ⟨w.heap.size, 2, none⟩ = some (.slice B1 (dl d1) e1) ∧ w'.cell? ⟨w.heap.size + 1, 1, none⟩ = some (.slice A2 (dl n2) c2) ∧ w'.cell? ⟨w.heap.size + 1, 2, none⟩ = some (.slice B2 (dl d2) e2)) (go_keep)
    (first
      | (go_at_call_of 59 (Value.slice A1 (dl n1) c1); refine (multiply_any _ lo lo' _ _ n1 d2 (by exact ((HN1.out.alloc _).alloc _).alloc _) (by exact ((HD2.out.alloc _).alloc _).alloc _) (by omega) (by omega)).mono ?_; rintro e w1 ⟨va, rfl, hna, hb1⟩; have hbw1 := (bel3 w _ _ _).drew.trans (hb1.mono (by simp; omega)); have hF1 := ((((Bk.new w 106 _).alloc _).alloc _).drew.below hb1 (by simp; omega)); have hG1 := (((Bk.new _ 106 _).alloc _).drew.below hb1 (by simp)); have hR1 := ((Bk.new _ 106 _).drew.below hb1 (by simp)); obtain ⟨hcF1, hfF1, hzF1⟩ := hF1.facts; obtain ⟨hcG1, hfG1, hzG1⟩ := hG1.facts; simp only [World.size_alloc] at hcG1 hfG1 hzG1 hG1 hR1; have hzR1 := hR1.lt)
      | (go_at_call_of 59 (Value.slice A2 (dl n2) c2); refine (multiply_any _ lo' lo _ _ n2 d1 (by exact HN2.out.below hbw1) (by exact HD1.out.below hbw1) (by omega) (by omega)).mono ?_; rintro e w2 ⟨vb, rfl, hnb, hb2⟩; have hbw2 := hbw1.trans (hb2.mono hbw1.size); have hF2 := hF1.below hb2 hzF1; have hG2 := hG1.below hb2 hzG1; have hR2 := hR1.below hb2 hzR1; obtain ⟨hcF2, hfF2, hzF2⟩ := hF2.facts; obtain ⟨hcG2, hfG2, hzG2⟩ := hG2.facts))
  have HA2 := Lib.hid (hna.below hb2)
  have HB2 := Lib.hid hnb
  obtain ⟨Aa, ca, rfl⟩ := Limbs.len hna
  obtain ⟨Ab, cb, rfl⟩ := Limbs.len hnb
  have HF2 := Lib.hid hF2
  have HG2 := Lib.hid hG2
  have HR2 := Lib.hid hR2
  have hzz1 : w.heap.size + 1 + 1 < w1.heap.size := hzR1
  have hzz2 := hb2.size
  clear hna hnb hF1 hG1 hR1 hF2 hG2 hR2 hb1 hcF1 hcG1 hfF1 hfG1 hzF1 hzG1 hzR1 hb2
  go_wp2_with fail
  refine (multiply_any _ lo lo' _ _ d1 d2 (HD1.out.below hbw2) (HD2.out.below hbw2) (by omega) (by omega)).mono ?_
  rintro e w3 ⟨vd, rfl, hnd, hb3⟩
  have hbw3 := hbw2.trans (hb3.mono hbw2.size)
  have hzz4 := hb3.size
  have HF3 := Lib.hid (HF2.out.below hb3 HF2.out.lt)
  have HG3 := Lib.hid (HG2.out.below hb3 HG2.out.lt)
  have HR3 := Lib.hid (HR2.out.below hb3 HR2.out.lt)
  have HA3 := Lib.hid (HA2.out.below hb3)
  have HB3 := Lib.hid (HB2.out.below hb3)
  have HD3 := Lib.hid hnd
  obtain ⟨Ad, cd, rfl⟩ := Limbs.len hnd
  obtain ⟨hcF3, hfF3, hzF3⟩ := HF3.out.facts
  obtain ⟨hcG3, hfG3, hzG3⟩ := HG3.out.facts
  clear hnd hb3 hcF2 hcG2 hfF2 hfG2 HA2 HB2 HF2 HG2 HR2 hzF2 hzG2
  have hzz3 : w.heap.size + 1 + 1 < w3.heap.size := HR3.out.lt
  by_cases hs : s1 = s2
  · subst hs
    go_wp2
    go_region_held3 (fun w' => w'.cell? ⟨w.heap.size, 0, none⟩ = some (.bool s1)) (first | go_keep | (refine (cell_set3 _ (by omega) _ _ _ _).trans ?_; simp [*]))
      (first
        | (go_at_call 103; refine (add_any _ _ _ _ _ (n1 * d2) (n2 * d1) (by exact HA3.out) (by exact HB3.out) (by have := dl_mul_le n1 d2; omega) (by have := dl_mul_le n2 d1; omega)).mono ?_; rintro e w4 ⟨vs', rfl, hns, hb4⟩; obtain ⟨As, cs, rfl⟩ := Limbs.len hns; obtain ⟨hcF4, hfF4, hzF4⟩ := (HF3.out.drew.below hb4 hzF3).facts; obtain ⟨hcR4, hfR4, hzR4⟩ := (HR3.out.drew.below hb4 HR3.out.lt).facts))
    have hbw4 := hbw3.drew.trans (hb4.mono hbw3.size)
    have HS4 := Lib.hid hns
    have HD4 := Lib.hid (HD3.out.drew.below hb4)
    clear hns hb4
    go_wp2
    exact bodyPost_ret (v := .agg #[.bool s1, .slice As (dl (n1 * d2 + n2 * d1)) cs, .slice Ad (dl (d1 * d2)) cd]) (by simp [results, Tryz.results77, go_sem, hcR4]) rfl
      ⟨_, rfl, s1, _, frac_set3 ⟨_, _, rfl, HS4.out.lower (by simp; omega), HD4.out.lower (by omega)⟩ (show w.heap.size + 1 + 1 < w1.heap.size by omega) _ _ _ |>.lower (by omega), sg_same s1 n1 n2 d1 d2, below_set3 hbw4 (by omega) _ _ _⟩
  · have hsb : (s1 == s2) = false := by simpa using hs
    obtain ⟨ci, hci⟩ : ∃ ci, Hid (cmpI (n1 * d2) (n2 * d1) = ci) := ⟨_, rfl⟩
    go_wp2_with fail
    refine (ucompare_any _ _ _ _ _ _ _ HA3.out HB3.out).mono ?_
    rintro e w3' ⟨rfl, qc, rfl⟩
    rw [hci.out]
    rcases Nat.lt_or_ge (n1 * d2) (n2 * d1) with hlt | hge
    · have hc0 : ci = -1 := by rw [← hci.out]; exact cmpI_lt hlt
      subst hc0
      go_wp2
      go_region_held3 (fun w' => w'.cell? ⟨w.heap.size + 1, 0, none⟩ = some (.bool s2)) (first | go_keep | (refine (cell_set3 _ (by omega) _ _ _ _).trans ?_; simp [*]))
        (first
          | (go_at_call 104; refine (subtract_any _ _ _ _ _ (n2 * d1) (n1 * d2) (n2 * d1 - n1 * d2) (by exact HB3.out.drewN _) (by exact HA3.out.drewN _) (by have := dl_mul_le n1 d2; have := dl_mul_le n2 d1; omega) (by omega)).mono ?_; rintro e w4 ⟨vs', rfl, hns, hb4⟩; obtain ⟨As, cs, rfl⟩ := Limbs.len hns; obtain ⟨hcF4, hfF4, hzF4⟩ := (HG3.out.drewN _ |>.below hb4 hzG3).facts; obtain ⟨hcR4, hfR4, hzR4⟩ := (HR3.out.drewN _ |>.below hb4 HR3.out.lt).facts))
      have hbw4 := (hbw3.drewN qc).drew.trans (hb4.mono hbw3.size)
      have HS4 := Lib.hid hns
      have HD4 := Lib.hid ((HD3.out.drewN qc).drew.below hb4)
      clear hns hb4
      go_wp2
      exact bodyPost_ret (v := .agg #[.bool s2, .slice As (dl (n2 * d1 - n1 * d2)) cs, .slice Ad (dl (d1 * d2)) cd]) (by simp [results, Tryz.results77, go_sem, hcR4]) rfl
        ⟨_, rfl, s2, _, frac_set3 ⟨_, _, rfl, HS4.out.lower (by simp; omega), HD4.out.lower (by omega)⟩ (show w.heap.size + 1 + 1 < w1.heap.size by omega) _ _ _ |>.lower (by omega), sg_diff_lt hs hlt, below_set3 hbw4 (by omega) _ _ _⟩
    · have hc0 : 0 ≤ ci := by
        rw [← hci.out]
        rcases Nat.lt_or_ge (n2 * d1) (n1 * d2) with h5 | h5
        · rw [cmpI_gt h5]; decide
        · rw [cmpI_eq (by omega)]; decide
      go_wp2
      go_region_held3 (fun w' => w'.cell? ⟨w.heap.size, 0, none⟩ = some (.bool s1)) (first | go_keep | (refine (cell_set3 _ (by omega) _ _ _ _).trans ?_; simp [*]))
        (first
          | (go_at_call 104; refine (subtract_any _ _ _ _ _ (n1 * d2) (n2 * d1) (n1 * d2 - n2 * d1) (by exact HA3.out.drewN _) (by exact HB3.out.drewN _) (by have := dl_mul_le n1 d2; have := dl_mul_le n2 d1; omega) (by omega)).mono ?_; rintro e w4 ⟨vs', rfl, hns, hb4⟩; obtain ⟨As, cs, rfl⟩ := Limbs.len hns; obtain ⟨hcF4, hfF4, hzF4⟩ := (HF3.out.drewN _ |>.below hb4 hzF3).facts; obtain ⟨hcR4, hfR4, hzR4⟩ := (HR3.out.drewN _ |>.below hb4 HR3.out.lt).facts))
      have hbw4 := (hbw3.drewN qc).drew.trans (hb4.mono hbw3.size)
      have HS4 := Lib.hid hns
      have HD4 := Lib.hid ((HD3.out.drewN qc).drew.below hb4)
      clear hns hb4
      go_wp2
      exact bodyPost_ret (v := .agg #[.bool s1, .slice As (dl (n1 * d2 - n2 * d1)) cs, .slice Ad (dl (d1 * d2)) cd]) (by simp [results, Tryz.results77, go_sem, hcR4]) rfl
        ⟨_, rfl, s1, _, frac_set3 ⟨_, _, rfl, HS4.out.lower (by simp; omega), HD4.out.lower (by omega)⟩ (show w.heap.size + 1 + 1 < w1.heap.size by omega) _ _ _ |>.lower (by omega), sg_diff_ge hs hge, below_set3 hbw4 (by omega) _ _ _⟩

end Go.Proofs.YtdbiedpdibjdlaaGreat

/-
  The walks of rational's Canonical, Sign, Small, Add, Sub.
-/
namespace Go.Proofs.YtdbiedpdibjdlaaGreat
open Go.RowKit AC
set_option linter.unusedVariables false
set_option linter.unusedSimpArgs false

/-- The form of a number that comes in. -/
theorem RatV.form {w : World} {lo : Nat} {v : Value} {K : Nat} {q : Rat} (h : RatV w lo v K q) :
    ∃ s A k c A' k' c', v = .agg #[.bool s, .slice A k c, .slice A' k' c'] := by
  obtain ⟨neg, kn, kd, fn, fd, vn, vd, rfl, h1, h2, _⟩ := h
  obtain ⟨A, c, rfl⟩ := h1.len
  obtain ⟨A', c', rfl⟩ := h2.len
  exact ⟨neg, A, kn, c, A', kd, c', rfl⟩

/-- The call returns the canonical form of q, in new memory. -/
def RetQ (w : World) (q : Rat) : Ending → World → Prop := Ret fun v2 w' => RatR w' w.heap.size v2 q ∧ Below w.heap.size w w'

set_option maxHeartbeats 1000000 in
theorem canonical_any (w : World) (lo : Nat) (v : Value) (K : Nat) (q : Rat) (hv : RatV w lo v K q) (hK : K ≤ 4294967290) :
    Calls Tryz.prog 80 #[v] w (RetQ w q) := by
  have HV := Lib.hid hv
  obtain ⟨s, A, k, c, A', k', c', rfl⟩ := hv.form
  clear hv
  go_enter Tryz.func80, Tryz.ntmps80
  go_wp2_with fail
  refine (load_any _ lo _ K q (HV.out.below (bel2 w _ _)) hK).mono ?_
  rintro e w1 ⟨v1, rfl, neg, n, d, hf1, hd1, hk1, hk2, hq1, hb1⟩
  have hbw1 := (bel2 w _ _).trans (hb1.mono (by simp; omega))
  have hR1 := Lib.hid ((Bk.new _ 46 _).below hb1 (by simp))
  have hz1 := hR1.out.lt
  have HQ := Lib.hid hq1
  have HF := Lib.hid hf1
  simp only [World.size_alloc] at hR1 hz1 HF
  clear hf1 hq1 hb1
  go_wp2_with fail
  refine (store_any _ (w.heap.size + 1 + 1) _ neg n d (by omega) HF.out hd1 (by omega) (by omega)).mono ?_
  rintro e w2 ⟨v2, rfl, hr2, hb2⟩
  rw [← HQ.out] at hr2
  have HR2 := Lib.hid hr2
  obtain ⟨A2, c2, A3, c3, rfl, _, _⟩ := FracR.form hr2
  have hbw2 := hbw1.trans (hb2.mono (by omega))
  obtain ⟨hcR, hfR, hz2⟩ := (hR1.out.below hb2 (by omega)).facts
  clear hr2 hb2
  go_wp2
  exact bodyPost_ret (v := .agg #[.bool (decide (q.num < 0)), .slice A2 (dl q.num.natAbs) c2, .slice A3 (dl q.den) c3]) (by simp [results, Tryz.results80, go_sem, hcR]) rfl
    ⟨_, rfl, RatR.lower (rat_set3 HR2.out (by omega) _ _ _) (by omega), below_set3 hbw2 (by omega) _ _ _⟩

/-- The sign of a number. -/
def sgnQ (q : Rat) : Int := q.num.sign

theorem signI_mk (neg : Bool) (n d : Nat) (hd : d ≠ 0) : signI neg n = sgnQ (mkRat (sg neg n) d) := by
  unfold sgnQ
  rw [mk_num neg n d hd]
  unfold signI
  by_cases h : n = 0
  · subst h; simp [sg_zero]
  · rw [if_neg h]
    have := low_pos (d := d) h
    generalize n / Nat.gcd n d = m at *
    cases neg
    · simp [sg]; exact (Int.sign_eq_one_of_pos (by omega)).symm
    · simp [sg]; exact (Int.sign_eq_one_of_pos (by omega)).symm

set_option maxHeartbeats 1000000 in
theorem Sign_any (w : World) (lo : Nat) (v : Value) (K : Nat) (q : Rat) (hv : RatV w lo v K q) (hK : K ≤ 4294967290) :
    Calls Tryz.prog 79 #[v] w (fun e w' => e = .returned (.int .i64 (sgnQ q)) ∧ Below w.heap.size w w') := by
  have HV := Lib.hid hv
  obtain ⟨s, A, k, c, A', k', c', rfl⟩ := hv.form
  clear hv
  go_enter Tryz.func79, Tryz.ntmps79
  go_wp2_with fail
  refine (load_any _ lo _ K q (HV.out.below (bel1 w _)) hK).mono ?_
  rintro e w1 ⟨v1, rfl, neg, n, d, hf1, hd1, hk1, hk2, hq1, hb1⟩
  have hbw1 := (bel1 w _).trans (hb1.mono (by simp))
  have HQ := Lib.hid hq1
  have HF := Lib.hid hf1
  clear hf1 hq1 hb1
  go_wp2_with fail
  refine (usign_any _ _ _ neg n d HF.out).mono ?_
  rintro e w2 ⟨rfl, hb2⟩
  go_wp2
  go_ret
  exact ⟨by rw [HQ.out, ← signI_mk neg n d hd1]; rfl, hbw1.trans (hb2.mono hbw1.size)⟩

theorem plus_size {s1 s2 s3 : Bool} {n1 n2 n3 d1 d2 : Nat} (h : sg s3 n3 = sg s1 n1 * d2 + sg s2 n2 * d1) (k1 : dl n1 + dl d2 ≤ 4294967290) (k2 : dl n2 + dl d1 ≤ 4294967290) : dl n3 ≤ 4294967296 := by
  have h1 : n3 ≤ n1 * d2 + n2 * d1 := by
    have h2 := congrArg Int.natAbs h
    rw [sg_natAbs] at h2
    have h3 := Int.natAbs_add_le (sg s1 n1 * d2) (sg s2 n2 * d1)
    rw [Int.natAbs_mul, Int.natAbs_mul, sg_natAbs, sg_natAbs, Int.natAbs_natCast, Int.natAbs_natCast] at h3
    omega
  have h4 := dl_mono h1
  have h5 := dl_add_le (n1 * d2) (n2 * d1)
  have h6 := dl_mul_le n1 d2
  have h7 := dl_mul_le n2 d1
  omega

set_option maxHeartbeats 4000000 in
theorem add_any' (w : World) (lo lo' : Nat) (v v' : Value) (K K' : Nat) (q q' : Rat) (hv : RatV w lo v K q) (hv' : RatV w lo' v' K' q') (hK : K + K' ≤ 4000000000) :
    Calls Tryz.prog 53 #[v, v'] w (RetQ w (q + q')) := by
  have HV := Lib.hid hv
  have HV' := Lib.hid hv'
  obtain ⟨s, A, k, c, A', k', c', rfl⟩ := hv.form
  obtain ⟨s2, A2, k2, c2, A3, k3, c3, rfl⟩ := hv'.form
  clear hv hv'
  go_enter Tryz.func53, Tryz.ntmps53
  go_wp2
  go_region_held3 (fun w' => w'.cell? ⟨w.heap.size, 0, none⟩ = some (.bool s) ∧ w'.cell? ⟨w.heap.size, 1, none⟩ = some (.slice A k c) ∧ w'.cell? ⟨w.heap.size, 2, none⟩ = some (.slice A' k' c') ∧ w'.cell? ⟨w.heap.size + 1, 0, none⟩ = some (.bool s2) ∧ w'.cell? ⟨w.heap.size + 1, 1, none⟩ = some (.slice A2 k2 c2) ∧ w'.cell? ⟨w.heap.size + 1, 2, none⟩ = some (.slice A3 k3 c3)) (and_intros <;> (first | go_keep | (refine (cell_set3 _ (by omega) _ _ _ _).trans ?_; simp [*])))
    (first
      | (go_at_call_of 56 (Value.agg #[Value.bool s, Value.slice A k c, Value.slice A' k' c']); refine (load_any _ lo _ K q (by exact HV.out.below (bel3 w _ _ _).drew) (by omega)).mono ?_; rintro e w1 ⟨v1, rfl, n1s, n1, d1, hf1, hd1, hk1, hk1', hq1, hb1⟩; have hbw1 := (bel3 w _ _ _).drew.trans (hb1.mono (by simp; omega)); have hF1 := ((((Bk.new w 46 _).alloc _).alloc _).drew.below hb1 (by simp; omega)); have hG1 := (((Bk.new _ 46 _).alloc _).drew.below hb1 (by simp)); have hR1 := ((Bk.new _ 46 _).drew.below hb1 (by simp)); obtain ⟨hcF1, hfF1, hzF1⟩ := hF1.facts; simp only [World.size_alloc] at hG1 hR1; obtain ⟨hcG1, hfG1, hzG1⟩ := hG1.facts; have hzR1 := hR1.lt; have HQ1 := Lib.hid hq1; have HF1 := Lib.hid hf1; clear hq1 hf1)
      | (go_at_call_of 56 (Value.agg #[Value.bool s2, Value.slice A2 k2 c2, Value.slice A3 k3 c3]); refine (load_any _ lo' _ K' q' (by exact HV'.out.below hbw1) (by omega)).mono ?_; rintro e w2 ⟨v2, rfl, n2s, n2, d2, hf2, hd2, hk2, hk2', hq2, hb2⟩; have hbw2 := hbw1.trans (hb2.mono hbw1.size); have hF2 := hF1.below hb2 hzF1; have hG2 := hG1.below hb2 hzG1; have hR2 := hR1.below hb2 hzR1; obtain ⟨hcF2, hfF2, hzF2⟩ := hF2.facts; obtain ⟨hcG2, hfG2, hzG2⟩ := hG2.facts; have hzR2 := hR2.lt; have HF12 := Lib.hid (HF1.out.below hb2); have HQ2 := Lib.hid hq2; have HF2 := Lib.hid hf2; clear hq2 hf2)
      | (go_at_call 77; refine (plus_any _ _ _ _ _ n1s n2s n1 d1 n2 d2 (by exact HF12.out) (by exact HF2.out) (by omega) (by omega) (by omega)).mono ?_; rintro e w3 ⟨v3, rfl, n3s, n3, hf3, hsg3, hb3⟩; have hbw3 := hbw2.trans (hb3.mono hbw2.size); have hF3 := hF2.below hb3 hzF2; have hG3 := hG2.below hb3 hzG2; have hR3 := hR2.below hb3 hzR2; obtain ⟨hcF3, hfF3, hzF3⟩ := hF3.facts; obtain ⟨hcG3, hfG3, hzG3⟩ := hG3.facts; have hzR3 := hR3.lt; have HF3 := Lib.hid hf3; have HSG := Lib.hid hsg3; clear hf3 hsg3)
      | (go_at_call 78; refine (store_any _ w2.heap.size _ n3s n3 (d1 * d2) (by exact hb3.size) (by exact HF3.out) (by exact Nat.mul_ne_zero hd1 hd2) (by exact plus_size HSG.out (by omega) (by omega)) (by have := dl_mul_le d1 d2; omega)).mono ?_; rintro e w4 ⟨v4, rfl, hr4, hb4⟩; have hbw4 := hbw3.trans (hb4.mono hbw3.size); obtain ⟨hcF4, hfF4, hzF4⟩ := (hF3.below hb4 hzF3).facts; obtain ⟨hcG4, hfG4, hzG4⟩ := (hG3.below hb4 hzG3).facts; obtain ⟨hcR4, hfR4, hzR4⟩ := (hR3.below hb4 hzR3).facts; have hqq : Hid (mkRat (sg n3s n3) (d1 * d2) = q + q') := (by show _ = _; rw [HSG.out, HQ1.out, HQ2.out, Rat.mkRat_add_mkRat _ _ hd1 hd2]); rw [hqq.out] at hr4; obtain ⟨q3, hq3⟩ : ∃ q3, Hid (q3 = q + q') := ⟨_, rfl⟩; rw [← hq3.out] at hr4; have HR4 := Lib.hid hr4; obtain ⟨A4, c4, A5, c5, rfl, _, _⟩ := FracR.form hr4; clear hr4))
  go_wp2
  exact bodyPost_ret (v := .agg #[.bool (decide (q3.num < 0)), .slice A4 (dl q3.num.natAbs) c4, .slice A5 (dl q3.den) c5]) (by simp [results, Tryz.results53, go_sem, hcR4]) rfl
    ⟨_, rfl, by rw [← hq3.out]; exact RatR.lower (rat_set3 HR4.out (by omega) _ _ _) hbw2.size, below_set3 hbw4 (by omega) _ _ _⟩

set_option maxHeartbeats 4000000 in
theorem sub_any' (w : World) (lo lo' : Nat) (v v' : Value) (K K' : Nat) (q q' : Rat) (hv : RatV w lo v K q) (hv' : RatV w lo' v' K' q') (hK : K + K' ≤ 4000000000) :
    Calls Tryz.prog 50 #[v, v'] w (RetQ w (q - q')) := by
  have HV := Lib.hid hv
  have HV' := Lib.hid hv'
  obtain ⟨s, A, k, c, A', k', c', rfl⟩ := hv.form
  obtain ⟨s2, A2, k2, c2, A3, k3, c3, rfl⟩ := hv'.form
  clear hv hv'
  go_enter Tryz.func50, Tryz.ntmps50
  go_wp2_with fail
  refine (load_any _ lo' _ K' q' (HV'.out.below (bel3 w _ _ _)) (by omega)).mono ?_
  rintro e w1 ⟨v1, rfl, n2s, n2, d2, hf2, hd2, hk2, hk2', hq2, hb1⟩
  have hbw1 := (bel3 w _ _ _).trans (hb1.mono (by simp; omega))
  have hF1 := Lib.hid (((Bk.new w 46 _).alloc _).alloc _ |>.below hb1 (by simp; omega))
  have hR1 := Lib.hid ((Bk.new _ 46 _).below hb1 (by simp))
  simp only [World.size_alloc] at hR1 hf2
  have hzR1 := hR1.out.lt
  obtain ⟨Ag, cg, Bg, eg, rfl, hgn, hgd⟩ := hf2.form
  have HGN := Lib.hid hgn
  have HGD := Lib.hid hgd
  have HQ2 := Lib.hid hq2
  obtain ⟨hcF1, hfF1, hzF1⟩ := hF1.out.facts
  clear hf2 hgn hgd hq2 hb1
  go_wp2
  have hnx : Hid (FracR (w1.alloc (.cells #[.bool (!n2s), .slice Ag (dl n2) cg, .slice Bg (dl d2) eg] 106)) (w.heap.size + 1 + 1 + 1) (.agg #[.bool (!n2s), .slice Ag (dl n2) cg, .slice Bg (dl d2) eg]) (!n2s) n2 d2) := ⟨_, _, rfl, HGN.out.alloc _, HGD.out.alloc _⟩
  have hbwa := hbw1.alloc hbw1.size (.cells #[.bool (!n2s), .slice Ag (dl n2) cg, .slice Bg (dl d2) eg] 106)
  go_region_held3 (fun w' => w'.cell? ⟨w.heap.size, 0, none⟩ = some (.bool s) ∧ w'.cell? ⟨w.heap.size, 1, none⟩ = some (.slice A k c) ∧ w'.cell? ⟨w.heap.size, 2, none⟩ = some (.slice A' k' c') ∧ w'.cell? ⟨w1.heap.size, 0, none⟩ = some (.bool (!n2s)) ∧ w'.cell? ⟨w1.heap.size, 1, none⟩ = some (.slice Ag (dl n2) cg) ∧ w'.cell? ⟨w1.heap.size, 2, none⟩ = some (.slice Bg (dl d2) eg)) (and_intros <;> (first | go_keep | (refine (cell_set3 _ (by omega) _ _ _ _).trans ?_; simp [*])))
    (first
      | (go_at_call 56; refine (load_any _ lo _ K q (by exact HV.out.below hbwa.drew) (by omega)).mono ?_; rintro e w2 ⟨v2, rfl, n1s, n1, d1, hf1, hd1, hk1, hk1', hq1, hb2⟩; have hbw2 := hbwa.drew.trans (hb2.mono (by simp; omega)); have hF2 := ((hF1.out.alloc _).drew.below hb2 (by simp; omega)); have hG2 := ((Bk.new w1 106 _).drew.below hb2 (by simp)); have hR2 := ((hR1.out.alloc _).drew.below hb2 (by simp; omega)); obtain ⟨hcF2, hfF2, hzF2⟩ := hF2.facts; obtain ⟨hcG2, hfG2, hzG2⟩ := hG2.facts; have hzR2 := hR2.lt; have HQ1 := Lib.hid hq1; have HF1 := Lib.hid hf1; have HG2 := Lib.hid (FracR.below (FracR.below hnx.out (Below.drew (Below.refl _ _))) hb2); have hlw : w1.heap.size + 1 ≤ w2.heap.size := (by have := hb2.size; simp at this; omega); clear hq1 hf1)
      | (go_at_call 77; refine (plus_any _ _ _ _ _ n1s (!n2s) n1 d1 n2 d2 (by exact HF1.out) (by exact HG2.out) (by omega) (by omega) (by omega)).mono ?_; rintro e w3 ⟨v3, rfl, n3s, n3, hf3, hsg3, hb3⟩; have hbw3 := hbw2.trans (hb3.mono hbw2.size); have hF3 := hF2.below hb3 hzF2; have hG3 := hG2.below hb3 hzG2; have hR3 := hR2.below hb3 hzR2; obtain ⟨hcF3, hfF3, hzF3⟩ := hF3.facts; obtain ⟨hcG3, hfG3, hzG3⟩ := hG3.facts; have hzR3 := hR3.lt; have HF3 := Lib.hid hf3; have HSG := Lib.hid hsg3; clear hf3 hsg3)
      | (go_at_call 78; refine (store_any _ w2.heap.size _ n3s n3 (d1 * d2) (by exact hb3.size) (by exact HF3.out) (by exact Nat.mul_ne_zero hd1 hd2) (by exact plus_size HSG.out (by omega) (by omega)) (by have := dl_mul_le d1 d2; omega)).mono ?_; rintro e w4 ⟨v4, rfl, hr4, hb4⟩; have hbw4 := hbw3.trans (hb4.mono hbw3.size); obtain ⟨hcF4, hfF4, hzF4⟩ := (hF3.below hb4 hzF3).facts; obtain ⟨hcG4, hfG4, hzG4⟩ := (hG3.below hb4 hzG3).facts; obtain ⟨hcR4, hfR4, hzR4⟩ := (hR3.below hb4 hzR3).facts; have hqq : Hid (mkRat (sg n3s n3) (d1 * d2) = q - q') := (by show _ = _; rw [HSG.out, HQ1.out, HQ2.out, Rat.sub_eq_add_neg, Rat.neg_mkRat, Rat.mkRat_add_mkRat _ _ hd1 hd2, sg_not]); rw [hqq.out] at hr4; obtain ⟨q3, hq3⟩ : ∃ q3, Hid (q3 = q - q') := ⟨_, rfl⟩; rw [← hq3.out] at hr4; have HR4 := Lib.hid hr4; obtain ⟨A4, c4, A5, c5, rfl, _, _⟩ := FracR.form hr4; clear hr4))
  go_wp2
  exact bodyPost_ret (v := .agg #[.bool (decide (q3.num < 0)), .slice A4 (dl q3.num.natAbs) c4, .slice A5 (dl q3.den) c5]) (by simp [results, Tryz.results50, go_sem, hcR4]) rfl
    ⟨_, rfl, by rw [← hq3.out]; exact RatR.lower (rat_set3 HR4.out (by omega) _ _ _) hbw2.size, below_set3 hbw4 (by omega) _ _ _⟩

end Go.Proofs.YtdbiedpdibjdlaaGreat

