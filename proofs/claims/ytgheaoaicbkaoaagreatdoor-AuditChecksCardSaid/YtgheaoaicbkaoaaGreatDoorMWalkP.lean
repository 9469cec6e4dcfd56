/-
  The walks of rational's Canonical, Sign, Small, Add, Sub.
-/
import Derived.Test.YtgheaoaicbkaoaaGreatDoorMMemB
import Derived.Orders
namespace Go.Proofs.YtgheaoaicbkaoaaGreatDoor
open Go.RowKit AC
set_option linter.unusedVariables false
set_option linter.unusedSimpArgs false

/-- The form of a number that comes in. -/
theorem RatV.form {w : World} {lo : Nat} {v : Value} {K : Nat} {q : Rat} (h : RatV w lo v K q) :
    ∃ s A k c A' k' c', v = .agg #[.bool s, .slice A k c, .slice A' k' c'] := by
  obtain ⟨neg, kn, kd, fn, fd, vn, vd, rfl, h1, h2, _⟩ := h
  obtain ⟨A, c, rfl⟩ := h1.len
  obtain ⟨A', c', rfl⟩ := h2.len
  exact ⟨neg, A, kn, c, A', kd, c', rfl⟩

/-- The call returns the canonical form of q, in new memory. -/
def RetQ (w : World) (q : Rat) : Ending → World → Prop := Ret fun v2 w' => RatR w' w.heap.size v2 q ∧ Below w.heap.size w w'

set_option maxHeartbeats 1000000 in
theorem canonical_any (w : World) (lo : Nat) (v : Value) (K : Nat) (q : Rat) (hv : RatV w lo v K q) (hK : K ≤ 4294967290) :
    Calls Tryz.prog 269 #[v] w (RetQ w q) := by
  have HV := Lib.hid hv
  obtain ⟨s, A, k, c, A', k', c', rfl⟩ := hv.form
  clear hv
  go_enter Tryz.func269, Tryz.ntmps269
  go_wp2_with fail
  refine (load_any _ lo _ K q (HV.out.below (bel2 w _ _)) hK).mono ?_
  rintro e w1 ⟨v1, rfl, neg, n, d, hf1, hd1, hk1, hk2, hq1, hb1⟩
  have hbw1 := (bel2 w _ _).trans (hb1.mono (by simp; omega))
  have hR1 := Lib.hid ((Bk.new _ 27 _).below hb1 (by simp))
  have hz1 := hR1.out.lt
  have HQ := Lib.hid hq1
  have HF := Lib.hid hf1
  simp only [World.size_alloc] at hR1 hz1 HF
  clear hf1 hq1 hb1
  go_wp2_with fail
  refine (store_any _ (w.heap.size + 1 + 1) _ neg n d (by omega) HF.out hd1 (by omega) (by omega)).mono ?_
  rintro e w2 ⟨v2, rfl, hr2, hb2⟩
  rw [← HQ.out] at hr2
  have HR2 := Lib.hid hr2
  obtain ⟨A2, c2, A3, c3, rfl, _, _⟩ := FracR.form hr2
  have hbw2 := hbw1.trans (hb2.mono (by omega))
  obtain ⟨hcR, hfR, hz2⟩ := (hR1.out.below hb2 (by omega)).facts
  clear hr2 hb2
  go_wp2
  exact bodyPost_ret (v := .agg #[.bool (decide (q.num < 0)), .slice A2 (dl q.num.natAbs) c2, .slice A3 (dl q.den) c3]) (by simp [results, Tryz.results269, go_sem, hcR]) rfl
    ⟨_, rfl, RatR.lower (rat_set3 HR2.out (by omega) _ _ _) (by omega), below_set3 hbw2 (by omega) _ _ _⟩

/-- The sign of a number. -/
def sgnQ (q : Rat) : Int := q.num.sign

theorem signI_mk (neg : Bool) (n d : Nat) (hd : d ≠ 0) : signI neg n = sgnQ (mkRat (sg neg n) d) := by
  unfold sgnQ
  rw [mk_num neg n d hd]
  unfold signI
  by_cases h : n = 0
  · subst h; simp [sg_zero]
  · rw [if_neg h]
    have := low_pos (d := d) h
    generalize n / Nat.gcd n d = m at *
    cases neg
    · simp [sg]; exact (Int.sign_eq_one_of_pos (by omega)).symm
    · simp [sg]; exact (Int.sign_eq_one_of_pos (by omega)).symm

set_option maxHeartbeats 1000000 in
theorem Sign_any (w : World) (lo : Nat) (v : Value) (K : Nat) (q : Rat) (hv : RatV w lo v K q) (hK : K ≤ 4294967290) :
    Calls Tryz.prog 145 #[v] w (fun e w' => e = .returned (.int .i64 (sgnQ q)) ∧ Below w.heap.size w w') := by
  have HV := Lib.hid hv
  obtain ⟨s, A, k, c, A', k', c', rfl⟩ := hv.form
  clear hv
  go_enter Tryz.func145, Tryz.ntmps145
  go_wp2_with fail
  refine (load_any _ lo _ K q (HV.out.below (bel1 w _)) hK).mono ?_
  rintro e w1 ⟨v1, rfl, neg, n, d, hf1, hd1, hk1, hk2, hq1, hb1⟩
  have hbw1 := (bel1 w _).trans (hb1.mono (by simp))
  have HQ := Lib.hid hq1
  have HF := Lib.hid hf1
  clear hf1 hq1 hb1
  go_wp2_with fail
  refine (usign_any _ _ _ neg n d HF.out).mono ?_
  rintro e w2 ⟨rfl, hb2⟩
  go_wp2
  go_ret
  exact ⟨by rw [HQ.out, ← signI_mk neg n d hd1]; rfl, hbw1.trans (hb2.mono hbw1.size)⟩

theorem plus_size {s1 s2 s3 : Bool} {n1 n2 n3 d1 d2 : Nat} (h : sg s3 n3 = sg s1 n1 * d2 + sg s2 n2 * d1) (k1 : dl n1 + dl d2 ≤ 4294967290) (k2 : dl n2 + dl d1 ≤ 4294967290) : dl n3 ≤ 4294967296 := by
  have h1 : n3 ≤ n1 * d2 + n2 * d1 := by
    have h2 := congrArg Int.natAbs h
    rw [sg_natAbs] at h2
    have h3 := Int.natAbs_add_le (sg s1 n1 * d2) (sg s2 n2 * d1)
    rw [Int.natAbs_mul, Int.natAbs_mul, sg_natAbs, sg_natAbs, Int.natAbs_natCast, Int.natAbs_natCast] at h3
    omega
  have h4 := dl_mono h1
  have h5 := dl_add_le (n1 * d2) (n2 * d1)
  have h6 := dl_mul_le n1 d2
  have h7 := dl_mul_le n2 d1
  omega

set_option maxHeartbeats 4000000 in
theorem add_any' (w : World) (lo lo' : Nat) (v v' : Value) (K K' : Nat) (q q' : Rat) (hv : RatV w lo v K q) (hv' : RatV w lo' v' K' q') (hK : K + K' ≤ 4000000000) :
    Calls Tryz.prog 31 #[v, v'] w (RetQ w (q + q')) := by
  have HV := Lib.hid hv
  have HV' := Lib.hid hv'
  obtain ⟨s, A, k, c, A', k', c', rfl⟩ := hv.form
  obtain ⟨s2, A2, k2, c2, A3, k3, c3, rfl⟩ := hv'.form
  clear hv hv'
  go_enter Tryz.func31, Tryz.ntmps31
  go_wp2
  go_region_held3 (fun w' => w'.cell? ⟨w.heap.size, 0, none⟩ = some (.bool s) ∧ w'.cell? ⟨w.heap.size, 1, none⟩ = some (.slice A k c) ∧ w'.cell? ⟨w.heap.size, 2, none⟩ = some (.slice A' k' c') ∧ w'.cell? ⟨w.heap.size + 1, 0, none⟩ = some (.bool s2) ∧ w'.cell? ⟨w.heap.size + 1, 1, none⟩ = some (.slice A2 k2 c2) ∧ w'.cell? ⟨w.heap.size + 1, 2, none⟩ = some (.slice A3 k3 c3)) (and_intros <;> (first | go_keep | (refine (cell_set3 _ (by omega) _ _ _ _).trans ?_; simp [*])))
    (first
      | (go_at_call_of 25 (Value.agg #[Value.bool s, Value.slice A k c, Value.slice A' k' c']); refine (load_any _ lo _ K q (by exact HV.out.below (bel3 w _ _ _).drew) (by omega)).mono ?_; rintro e w1 ⟨v1, rfl, n1s, n1, d1, hf1, hd1, hk1, hk1', hq1, hb1⟩; have hbw1 := (bel3 w _ _ _).drew.trans (hb1.mono (by simp; omega)); have hF1 := ((((Bk.new w 27 _).alloc _).alloc _).drew.below hb1 (by simp; omega)); have hG1 := (((Bk.new _ 27 _).alloc _).drew.below hb1 (by simp)); have hR1 := ((Bk.new _ 27 _).drew.below hb1 (by simp)); obtain ⟨hcF1, hfF1, hzF1⟩ := hF1.facts; simp only [World.size_alloc] at hG1 hR1; obtain ⟨hcG1, hfG1, hzG1⟩ := hG1.facts; have hzR1 := hR1.lt; have HQ1 := Lib.hid hq1; have HF1 := Lib.hid hf1; clear hq1 hf1)
      | (go_at_call_of 25 (Value.agg #[Value.bool s2, Value.slice A2 k2 c2, Value.slice A3 k3 c3]); refine (load_any _ lo' _ K' q' (by exact HV'.out.below hbw1) (by omega)).mono ?_; rintro e w2 ⟨v2, rfl, n2s, n2, d2, hf2, hd2, hk2, hk2', hq2, hb2⟩; have hbw2 := hbw1.trans (hb2.mono hbw1.size); have hF2 := hF1.below hb2 hzF1; have hG2 := hG1.below hb2 hzG1; have hR2 := hR1.below hb2 hzR1; obtain ⟨hcF2, hfF2, hzF2⟩ := hF2.facts; obtain ⟨hcG2, hfG2, hzG2⟩ := hG2.facts; have hzR2 := hR2.lt; have HF12 := Lib.hid (HF1.out.below hb2); have HQ2 := Lib.hid hq2; have HF2 := Lib.hid hf2; clear hq2 hf2)
      | (go_at_call 65; refine (plus_any _ _ _ _ _ n1s n2s n1 d1 n2 d2 (by exact HF12.out) (by exact HF2.out) (by omega) (by omega) (by omega)).mono ?_; rintro e w3 ⟨v3, rfl, n3s, n3, hf3, hsg3, hb3⟩; have hbw3 := hbw2.trans (hb3.mono hbw2.size); have hF3 := hF2.below hb3 hzF2; have hG3 := hG2.below hb3 hzG2; have hR3 := hR2.below hb3 hzR2; obtain ⟨hcF3, hfF3, hzF3⟩ := hF3.facts; obtain ⟨hcG3, hfG3, hzG3⟩ := hG3.facts; have hzR3 := hR3.lt; have HF3 := Lib.hid hf3; have HSG := Lib.hid hsg3; clear hf3 hsg3)
      | (go_at_call 30; refine (store_any _ w2.heap.size _ n3s n3 (d1 * d2) (by exact hb3.size) (by exact HF3.out) (by exact Nat.mul_ne_zero hd1 hd2) (by exact plus_size HSG.out (by omega) (by omega)) (by have := dl_mul_le d1 d2; omega)).mono ?_; rintro e w4 ⟨v4, rfl, hr4, hb4⟩; have hbw4 := hbw3.trans (hb4.mono hbw3.size); obtain ⟨hcF4, hfF4, hzF4⟩ := (hF3.below hb4 hzF3).facts; obtain ⟨hcG4, hfG4, hzG4⟩ := (hG3.below hb4 hzG3).facts; obtain ⟨hcR4, hfR4, hzR4⟩ := (hR3.below hb4 hzR3).facts; have hqq : Hid (mkRat (sg n3s n3) (d1 * d2) = q + q') := (by show _ = _; rw [HSG.out, HQ1.out, HQ2.out, Rat.mkRat_add_mkRat _ _ hd1 hd2]); rw [hqq.out] at hr4; obtain ⟨q3, hq3⟩ : ∃ q3, Hid (q3 = q + q') := ⟨_, rfl⟩; rw [← hq3.out] at hr4; have HR4 := Lib.hid hr4; obtain ⟨A4, c4, A5, c5, rfl, _, _⟩ := FracR.form hr4; clear hr4))
  go_wp2
  exact bodyPost_ret (v := .agg #[.bool (decide (q3.num < 0)), .slice A4 (dl q3.num.natAbs) c4, .slice A5 (dl q3.den) c5]) (by simp [results, Tryz.results31, go_sem, hcR4]) rfl
    ⟨_, rfl, by rw [← hq3.out]; exact RatR.lower (rat_set3 HR4.out (by omega) _ _ _) hbw2.size, below_set3 hbw4 (by omega) _ _ _⟩

set_option maxHeartbeats 4000000 in
theorem sub_any' (w : World) (lo lo' : Nat) (v v' : Value) (K K' : Nat) (q q' : Rat) (hv : RatV w lo v K q) (hv' : RatV w lo' v' K' q') (hK : K + K' ≤ 4000000000) :
    Calls Tryz.prog 256 #[v, v'] w (RetQ w (q - q')) := by
  have HV := Lib.hid hv
  have HV' := Lib.hid hv'
  obtain ⟨s, A, k, c, A', k', c', rfl⟩ := hv.form
  obtain ⟨s2, A2, k2, c2, A3, k3, c3, rfl⟩ := hv'.form
  clear hv hv'
  go_enter Tryz.func256, Tryz.ntmps256
  go_wp2_with fail
  refine (load_any _ lo' _ K' q' (HV'.out.below (bel3 w _ _ _)) (by omega)).mono ?_
  rintro e w1 ⟨v1, rfl, n2s, n2, d2, hf2, hd2, hk2, hk2', hq2, hb1⟩
  have hbw1 := (bel3 w _ _ _).trans (hb1.mono (by simp; omega))
  have hF1 := Lib.hid (((Bk.new w 27 _).alloc _).alloc _ |>.below hb1 (by simp; omega))
  have hR1 := Lib.hid ((Bk.new _ 27 _).below hb1 (by simp))
  simp only [World.size_alloc] at hR1 hf2
  have hzR1 := hR1.out.lt
  obtain ⟨Ag, cg, Bg, eg, rfl, hgn, hgd⟩ := hf2.form
  have HGN := Lib.hid hgn
  have HGD := Lib.hid hgd
  have HQ2 := Lib.hid hq2
  obtain ⟨hcF1, hfF1, hzF1⟩ := hF1.out.facts
  clear hf2 hgn hgd hq2 hb1
  go_wp2
  have hnx : Hid (FracR (w1.alloc (.cells #[.bool (!n2s), .slice Ag (dl n2) cg, .slice Bg (dl d2) eg] 114)) (w.heap.size + 1 + 1 + 1) (.agg #[.bool (!n2s), .slice Ag (dl n2) cg, .slice Bg (dl d2) eg]) (!n2s) n2 d2) := ⟨_, _, rfl, HGN.out.alloc _, HGD.out.alloc _⟩
  have hbwa := hbw1.alloc hbw1.size (.cells #[.bool (!n2s), .slice Ag (dl n2) cg, .slice Bg (dl d2) eg] 114)
  go_region_held3 (fun w' => w'.cell? ⟨w.heap.size, 0, none⟩ = some (.bool s) ∧ w'.cell? ⟨w.heap.size, 1, none⟩ = some (.slice A k c) ∧ w'.cell? ⟨w.heap.size, 2, none⟩ = some (.slice A' k' c') ∧ w'.cell? ⟨w1.heap.size, 0, none⟩ = some (.bool (!n2s)) ∧ w'.cell? ⟨w1.heap.size, 1, none⟩ = some (.slice Ag (dl n2) cg) ∧ w'.cell? ⟨w1.heap.size, 2, none⟩ = some (.slice Bg (dl d2) eg)) (and_intros <;> (first | go_keep | (refine (cell_set3 _ (by omega) _ _ _ _).trans ?_; simp [*])))
    (first
      | (go_at_call 25; refine (load_any _ lo _ K q (by exact HV.out.below hbwa.drew) (by omega)).mono ?_; rintro e w2 ⟨v2, rfl, n1s, n1, d1, hf1, hd1, hk1, hk1', hq1, hb2⟩; have hbw2 := hbwa.drew.trans (hb2.mono (by simp; omega)); have hF2 := ((hF1.out.alloc _).drew.below hb2 (by simp; omega)); have hG2 := ((Bk.new w1 114 _).drew.below hb2 (by simp)); have hR2 := ((hR1.out.alloc _).drew.below hb2 (by simp; omega)); obtain ⟨hcF2, hfF2, hzF2⟩ := hF2.facts; obtain ⟨hcG2, hfG2, hzG2⟩ := hG2.facts; have hzR2 := hR2.lt; have HQ1 := Lib.hid hq1; have HF1 := Lib.hid hf1; have HG2 := Lib.hid (FracR.below (FracR.below hnx.out (Below.drew (Below.refl _ _))) hb2); have hlw : w1.heap.size + 1 ≤ w2.heap.size := (by have := hb2.size; simp at this; omega); clear hq1 hf1)
      | (go_at_call 65; refine (plus_any _ _ _ _ _ n1s (!n2s) n1 d1 n2 d2 (by exact HF1.out) (by exact HG2.out) (by omega) (by omega) (by omega)).mono ?_; rintro e w3 ⟨v3, rfl, n3s, n3, hf3, hsg3, hb3⟩; have hbw3 := hbw2.trans (hb3.mono hbw2.size); have hF3 := hF2.below hb3 hzF2; have hG3 := hG2.below hb3 hzG2; have hR3 := hR2.below hb3 hzR2; obtain ⟨hcF3, hfF3, hzF3⟩ := hF3.facts; obtain ⟨hcG3, hfG3, hzG3⟩ := hG3.facts; have hzR3 := hR3.lt; have HF3 := Lib.hid hf3; have HSG := Lib.hid hsg3; clear hf3 hsg3)
      | (go_at_call 30; refine (store_any _ w2.heap.size _ n3s n3 (d1 * d2) (by exact hb3.size) (by exact HF3.out) (by exact Nat.mul_ne_zero hd1 hd2) (by exact plus_size HSG.out (by omega) (by omega)) (by have := dl_mul_le d1 d2; omega)).mono ?_; rintro e w4 ⟨v4, rfl, hr4, hb4⟩; have hbw4 := hbw3.trans (hb4.mono hbw3.size); obtain ⟨hcF4, hfF4, hzF4⟩ := (hF3.below hb4 hzF3).facts; obtain ⟨hcG4, hfG4, hzG4⟩ := (hG3.below hb4 hzG3).facts; obtain ⟨hcR4, hfR4, hzR4⟩ := (hR3.below hb4 hzR3).facts; have hqq : Hid (mkRat (sg n3s n3) (d1 * d2) = q - q') := (by show _ = _; rw [HSG.out, HQ1.out, HQ2.out, Rat.sub_eq_add_neg, Rat.neg_mkRat, Rat.mkRat_add_mkRat _ _ hd1 hd2, sg_not]); rw [hqq.out] at hr4; obtain ⟨q3, hq3⟩ : ∃ q3, Hid (q3 = q - q') := ⟨_, rfl⟩; rw [← hq3.out] at hr4; have HR4 := Lib.hid hr4; obtain ⟨A4, c4, A5, c5, rfl, _, _⟩ := FracR.form hr4; clear hr4))
  go_wp2
  exact bodyPost_ret (v := .agg #[.bool (decide (q3.num < 0)), .slice A4 (dl q3.num.natAbs) c4, .slice A5 (dl q3.den) c5]) (by simp [results, Tryz.results256, go_sem, hcR4]) rfl
    ⟨_, rfl, by rw [← hq3.out]; exact RatR.lower (rat_set3 HR4.out (by omega) _ _ _) hbw2.size, below_set3 hbw4 (by omega) _ _ _⟩

end Go.Proofs.YtgheaoaicbkaoaaGreatDoor

/-
  A region that draws its order, by one condition for each set of operations that are done.
-/
namespace AC
open Go Go.RowKit
set_option linter.unusedVariables false
set_option linter.unusedSimpArgs false

theorem dj {b : Bool} (e : (b || false) = true) : b = true := by simpa using e

theorem least_false (d : Nat → Bool) (n : Nat) (h : ¬ ∀ i, i < n → d i = true) : ∃ i, i < n ∧ d i = false ∧ ∀ j, j < i → d j = true := by
  induction n with
  | zero => exact absurd (fun i hi => absurd hi (by omega)) h
  | succ n ih =>
    by_cases h1 : ∀ i, i < n → d i = true
    · refine ⟨n, by omega, ?_, h1⟩
      cases hd : d n with
      | false => rfl
      | true =>
        refine absurd (fun i hi => ?_) h
        rcases Nat.lt_or_ge i n with h2 | h2
        · exact h1 i h2
        · obtain rfl : i = n := by omega
          exact hd
    · obtain ⟨i, hi, h2, h3⟩ := ih h1
      exact ⟨i, by omega, h2, h3⟩

/-- Every edge goes back. -/
def lowOk (ops : Array Oper) : Bool := (List.range ops.size).all fun i => match ops[i]? with
  | some o => o.after.all fun e => decide (e.on < i)
  | none => true
theorem lowOk_spec {ops : Array Oper} (h : lowOk ops = true) : ∀ (i : Nat) (o : Oper), ops[i]? = some o → ∀ e ∈ o.after, e.on < i := by
  intro i o ho e he
  unfold lowOk at h
  rw [List.all_eq_true] at h
  have hi : i < ops.size := (Array.getElem?_eq_some_iff.1 ho).1
  have h1 := h i (List.mem_range.2 hi)
  rw [ho] at h1
  have h2 := (Array.all_eq_true_iff_forall_mem.1 h1) e he
  simpa using h2

section
variable {P : Program} {ops : Array Oper} {Q : Exit → Act → World → Prop}

theorem ready_least {listed : Array Bool} {d : Nat → Bool} (hsz : listed.size = ops.size) (hd : ∀ i, i < ops.size → listed[i]? = some (d i))
    (hlow : ∀ (i : Nat) (o : Oper), ops[i]? = some o → ∀ e ∈ o.after, e.on < i) {i : Nat} (hi : i < ops.size) (h1 : d i = false) (h2 : ∀ j, j < i → d j = true) : i ∈ Region.ready .any ops listed := by
  unfold Region.ready
  rw [List.mem_filter]
  refine ⟨List.mem_range.2 hi, ?_⟩
  have e1 : listed.getD i true = false := by rw [Array.getD_eq_getD_getElem?, hd i hi, h1]; rfl
  obtain ⟨o, ho⟩ : ∃ o, ops[i]? = some o := ⟨ops[i], Array.getElem?_eq_getElem hi⟩
  rw [e1, ho]
  simp only [Bool.not_false, Bool.true_and, Option.map_some, Option.getD_some]
  rw [Array.all_eq_true_iff_forall_mem]
  intro e he
  have hlt := hlow i o ho e he
  have e2 : listed.getD e.on false = true := by rw [Array.getD_eq_getD_getElem?, hd e.on (by omega), h2 e.on hlt]; rfl
  rw [e2]
  simp

theorem ready_spec {listed : Array Bool} {d : Nat → Bool} (hd : ∀ i, i < ops.size → listed[i]? = some (d i)) {i : Nat} (h : i ∈ Region.ready .any ops listed) (hall : ∀ (i : Nat) (o : Oper), ops[i]? = some o → ∀ e ∈ o.after, e.on < i) :
    ∃ o, ops[i]? = some o ∧ d i = false ∧ ∀ e ∈ o.after, Region.binds .any e = true → d e.on = true := by
  unfold Region.ready at h
  rw [List.mem_filter] at h
  obtain ⟨h1, h2⟩ := h
  have hi : i < ops.size := List.mem_range.1 h1
  obtain ⟨o, ho⟩ : ∃ o, ops[i]? = some o := ⟨ops[i], Array.getElem?_eq_getElem hi⟩
  rw [ho, Array.getD_eq_getD_getElem?, hd i hi] at h2
  simp only [Option.getD_some, Option.map_some, Bool.and_eq_true, Bool.not_eq_true'] at h2
  refine ⟨o, ho, h2.1, fun e he hb => ?_⟩
  have h3 := (Array.all_eq_true_iff_forall_mem.1 h2.2) e he
  have hlt := hall i o ho e he
  rw [Array.getD_eq_getD_getElem?, hd e.on (by omega)] at h3
  simpa [hb] using h3

/-- The operations in any order: I says what holds when the operations d are done. -/
theorem wp_region_inv {id : Nat} {a : Act} {w : World} (hm : P.follows .mixedOrders = true)
    (hlow : ∀ (i : Nat) (o : Oper), ops[i]? = some o → ∀ e ∈ o.after, e.on < i) (I : (Nat → Bool) → Act → World → Prop) (h0 : I (fun _ => false) a w.drew)
    (hstep : ∀ (d : Nat → Bool) (i : Nat) (o : Oper) (a : Act) (w : World), ops[i]? = some o → d i = false → (∀ e ∈ o.after, Region.binds .any e = true → d e.on = true) → I d a w → wpOp P ops Q i (I (fun j => d j || j == i)) a w)
    (hfin : ∀ (d : Nat → Bool) (a : Act) (w : World), (∀ i, i < ops.size → d i = true) → I d a w → Q .normal a w) : (Code.region id ops true).wp P Q a w := by
  have key : ∀ (fuel : Nat) (listed : Array Bool) (d : Nat → Bool) (a : Act) (w : World), listed.size = ops.size → (∀ i, i < ops.size → listed[i]? = some (d i)) → I d a w →
      (∃ n, n + fuel = ops.size ∧ ∃ l : List Nat, l.length = n ∧ l.Nodup ∧ ∀ i ∈ l, i < ops.size ∧ d i = true) → wpAny P .any ops Q fuel listed a w := by
    intro fuel
    induction fuel with
    | zero =>
      intro listed d a w hsz hd hI hn
      obtain ⟨n, hn, l, hl, hnd, hin⟩ := hn
      have hall : ∀ i, i < ops.size → d i = true := by
        intro i hi
        cases hdi : d i with
        | true => rfl
        | false =>
          exfalso
          have hni : i ∉ l := fun h => by have := (hin i h).2; rw [hdi] at this; cases this
          have hnd2 : (i :: l).Nodup := List.nodup_cons.2 ⟨hni, hnd⟩
          have hsub : (i :: l) ⊆ List.range ops.size := by
            intro j hj
            rcases List.mem_cons.1 hj with rfl | hj
            · exact List.mem_range.2 hi
            · exact List.mem_range.2 (hin j hj).1
          have := List.Nodup.length_le_of_subset hnd2 hsub
          simp at this
          omega
      refine ⟨?_, hfin d a w hall hI⟩
      rcases hr : Region.ready .any ops listed with _ | ⟨i, rs⟩
      · rfl
      · exfalso
        obtain ⟨o, ho, hdi, _⟩ := ready_spec hd (i := i) (by rw [hr]; exact List.mem_cons_self) hlow
        have hi : i < ops.size := (Array.getElem?_eq_some_iff.1 ho).1
        rw [hall i hi] at hdi
        cases hdi
    | succ fuel ih =>
      intro listed d a w hsz hd hI hn
      refine ⟨fun hr => ?_, fun i hi => ?_⟩
      · by_cases hall : ∀ i, i < ops.size → d i = true
        · exact hfin d a w hall hI
        · exfalso
          obtain ⟨i, hi, h1, h2⟩ := least_false d ops.size hall
          have := ready_least hsz hd hlow hi h1 h2
          rw [hr] at this
          cases this
      · obtain ⟨o, ho, hdi, hed⟩ := ready_spec hd hi hlow
        have hilt : i < ops.size := (Array.getElem?_eq_some_iff.1 ho).1
        refine wpOp_mono (fun a' w' hI' => ih (listed.setIfInBounds i true) (fun j => d j || j == i) a' w' (by simpa using hsz) ?_ hI' ?_) (hstep d i o a w ho hdi hed hI)
        · intro j hj
          by_cases hij : j = i
          · subst hij
            rw [Array.getElem?_setIfInBounds_self_of_lt (by omega)]
            simp
          · rw [Array.getElem?_setIfInBounds_ne (fun e => hij e.symm), hd j hj]
            simp [hij]
        · obtain ⟨n, hn, l, hl, hnd, hin⟩ := hn
          refine ⟨n + 1, by omega, i :: l, by simp [hl], List.nodup_cons.2 ⟨fun h => ?_, hnd⟩, fun j hj => ?_⟩
          · have := (hin i h).2; rw [hdi] at this; cases this
          · rcases List.mem_cons.1 hj with rfl | hj
            · exact ⟨hilt, by simp⟩
            · exact ⟨(hin j hj).1, by simp [(hin j hj).2]⟩
  refine wp_region_any hm (key ops.size (Array.replicate ops.size false) (fun _ => false) a _ (by simp) (fun i hi => by simp [hi]) h0 ⟨0, by omega, [], rfl, List.nodup_nil, fun i hi => by cases hi⟩)

/-- One operation without a guard, the rest behind a letter. -/
theorem wpOp_plain {i : Nat} {o : Oper} {I : Act → World → Prop} {a : Act} {w : World} (ho : ops[i]? = some o) (hg : o.guard = none)
    (h : ∀ K : Act → World → Prop, (∀ a w, I a w → K a w) → o.wp P a w K Q) : wpOp P ops Q i I a w := by
  unfold wpOp
  rw [ho]
  simp only [Region.wanted, hg, if_true]
  exact .inl (h I fun _ _ h => h)
end

end AC

