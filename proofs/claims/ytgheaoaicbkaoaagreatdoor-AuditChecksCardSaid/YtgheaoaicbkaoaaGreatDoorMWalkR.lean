/-
  The walk of rational's Cmp.
-/
import Derived.Test.YtgheaoaicbkaoaaGreatDoorMLoads
namespace Go.Proofs.YtgheaoaicbkaoaaGreatDoor
open Go.RowKit AC
set_option linter.unusedVariables false
set_option linter.unusedSimpArgs false

theorem sign_mkRat (x : Int) (d : Nat) (hd : d ≠ 0) : (mkRat x d).num.sign = x.sign := by
  rw [Rat.num_mkRat, if_neg hd]
  have hg : 0 < Nat.gcd d x.natAbs := Nat.gcd_pos_of_pos_left _ (Nat.pos_of_ne_zero hd)
  have hdv : ((Nat.gcd d x.natAbs : Nat) : Int) ∣ x := Int.ofNat_dvd_left.2 (Nat.gcd_dvd_right _ _)
  obtain ⟨y, hy⟩ := hdv
  generalize hG : Nat.gcd d x.natAbs = G at *
  rw [hy, Int.mul_ediv_cancel_left _ (by omega), Int.sign_mul, Int.sign_eq_one_of_pos (show (0 : Int) < G by omega), Int.one_mul]

/-- What Cmp returns. -/
def cmpQ (q q' : Rat) : Int := sgnQ (q - q')

theorem cmpQ_mk (s1 s2 : Bool) (n1 d1 n2 d2 : Nat) (h1 : d1 ≠ 0) (h2 : d2 ≠ 0) : cmpQ (mkRat (sg s1 n1) d1) (mkRat (sg s2 n2) d2) = (sg s1 n1 * d2 - sg s2 n2 * d1).sign := by
  unfold cmpQ sgnQ
  rw [Rat.sub_eq_add_neg, Rat.neg_mkRat, Rat.mkRat_add_mkRat _ _ h1 h2, sign_mkRat _ _ (Nat.mul_ne_zero h1 h2), Int.neg_mul, ← Int.sub_eq_add_neg]

theorem signI_sg (s : Bool) (n : Nat) : signI s n = (sg s n).sign := by
  unfold signI sg
  by_cases h : n = 0
  · subst h; cases s <;> simp
  · rw [if_neg h]
    cases s
    · simp; exact (Int.sign_eq_one_of_pos (by omega)).symm
    · simp; exact (Int.sign_eq_one_of_pos (by omega)).symm

theorem cmp_lt {s1 s2 : Bool} {n1 d1 n2 d2 : Nat} (h1 : d1 ≠ 0) (h2 : d2 ≠ 0) (h : signI s1 n1 < signI s2 n2) : (sg s1 n1 * d2 - sg s2 n2 * d1).sign = -1 := by
  have p1 : (0 : Int) < d1 := by omega
  have p2 : (0 : Int) < d2 := by omega
  apply Int.sign_eq_neg_one_of_neg
  rw [signI_sg, signI_sg] at h
  rcases Int.lt_trichotomy (sg s1 n1) 0 with a | a | a
  · have e1 : sg s1 n1 * d2 < 0 := Int.mul_neg_of_neg_of_pos a p2
    rcases Int.lt_trichotomy (sg s2 n2) 0 with b | b | b
    · rw [Int.sign_eq_neg_one_of_neg a, Int.sign_eq_neg_one_of_neg b] at h; omega
    · rw [b, Int.zero_mul]; omega
    · have := Int.mul_pos b p1; omega
  · rw [a, Int.zero_mul]
    rcases Int.lt_trichotomy (sg s2 n2) 0 with b | b | b
    · rw [a, Int.sign_eq_neg_one_of_neg b] at h; simp at h
    · rw [a, b] at h; simp at h
    · have := Int.mul_pos b p1; omega
  · rcases Int.lt_trichotomy (sg s2 n2) 0 with b | b | b
    · rw [Int.sign_eq_one_of_pos a, Int.sign_eq_neg_one_of_neg b] at h; simp at h
    · rw [Int.sign_eq_one_of_pos a, b] at h; simp at h
    · rw [Int.sign_eq_one_of_pos a, Int.sign_eq_one_of_pos b] at h; omega

theorem sign_neg_sub (a b : Int) : (a - b).sign = -(b - a).sign := by rw [← Int.sign_neg]; congr 1; omega

theorem cmp_gt {s1 s2 : Bool} {n1 d1 n2 d2 : Nat} (h1 : d1 ≠ 0) (h2 : d2 ≠ 0) (h : signI s2 n2 < signI s1 n1) : (sg s1 n1 * d2 - sg s2 n2 * d1).sign = 1 := by
  rw [sign_neg_sub, cmp_lt h2 h1 h]; rfl

theorem sign_cmpI (a b : Nat) : ((a : Int) - b).sign = cmpI a b := by
  unfold cmpI
  rcases Nat.lt_trichotomy a b with h | h | h
  · rw [if_pos h]; exact Int.sign_eq_neg_one_of_neg (by omega)
  · rw [if_neg (by omega), if_pos h, h]; simp
  · rw [if_neg (by omega), if_neg (by omega)]; exact Int.sign_eq_one_of_pos (by omega)

theorem cmp_same {s1 s2 : Bool} {n1 d1 n2 d2 : Nat} (h : signI s1 n1 = signI s2 n2) : (sg s1 n1 * d2 - sg s2 n2 * d1).sign = signI s1 n1 * cmpI (n1 * d2) (n2 * d1) := by
  unfold signI at *
  by_cases a : n1 = 0
  · subst a
    have b : n2 = 0 := by
      rcases Nat.eq_zero_or_pos n2 with b | b
      · exact b
      · rw [if_neg (show ¬ n2 = 0 by omega)] at h; cases s2 <;> simp at h
    subst b
    simp [sg_zero]
  · rw [if_neg a] at h ⊢
    have b : n2 ≠ 0 := by rintro rfl; cases s1 <;> simp at h
    rw [if_neg b] at h
    rw [← sign_cmpI]
    have e1 : ((n1 * d2 : Nat) : Int) = (n1 : Int) * d2 := by simp
    have e2 : ((n2 * d1 : Nat) : Int) = (n2 : Int) * d1 := by simp
    rw [e1, e2]
    cases s1 <;> cases s2 <;> simp [sg] at h ⊢
    rw [← Int.sign_neg]; congr 1; rw [Int.neg_mul, Int.neg_mul]; omega

theorem signI_range (s : Bool) (n : Nat) : -1 ≤ signI s n ∧ signI s n ≤ 1 := by
  unfold signI
  by_cases h : n = 0
  · simp [h]
  · cases s <;> simp [h]
theorem cmpI_range (a b : Nat) : -1 ≤ cmpI a b ∧ cmpI a b ≤ 1 := by
  unfold cmpI
  by_cases h : a < b
  · simp [h]
  · by_cases h2 : a = b <;> simp [h, h2]

set_option maxHeartbeats 8000000 in
theorem Cmp_any (w : World) (lo lo' : Nat) (v v' : Value) (K K' : Nat) (q q' : Rat) (hv : RatV w lo v K q) (hv' : RatV w lo' v' K' q') (hK : K + K' ≤ 4000000000) :
    Calls Tryz.prog 10 #[v, v'] w (fun e w' => e = .returned (.int .i64 (cmpQ q q')) ∧ Below w.heap.size w w') := by
  have HV := Lib.hid hv
  have HV' := Lib.hid hv'
  obtain ⟨s, A, k, c, A', k', c', rfl⟩ := hv.form
  obtain ⟨s2, A2, k2, c2, A3, k3, c3, rfl⟩ := hv'.form
  clear hv hv'
  go_enter Tryz.func10, Tryz.ntmps10
  go_upto_region 1 with (fail)
  obtain ⟨W, hW⟩ : ∃ W, W = ((w.alloc (.cells #[.bool s, .slice A k c, .slice A' k' c'] 27)).alloc (.cells #[.bool s2, .slice A2 k2 c2, .slice A3 k3 c3] 27)) := ⟨_, rfl⟩
  have hbW : Below w.heap.size w W := by rw [hW]; exact bel2 _ _ _
  have hFW : Bk W w.heap.size 27 #[.bool s, .slice A k c, .slice A' k' c'] := by rw [hW]; exact (Bk.new _ _ _).alloc _
  have hGW : Bk W (w.heap.size + 1) 27 #[.bool s2, .slice A2 k2 c2, .slice A3 k3 c3] := by rw [hW]; have := (Bk.new (w.alloc (.cells #[.bool s, .slice A k c, .slice A' k' c'] 27)) 27 #[.bool s2, .slice A2 k2 c2, .slice A3 k3 c3]); simpa using this
  rw [← hW]
  clear hW
  go_cut [5, 6] (fun x y wx => MCut W K K' q q' x y wx)
  case first =>
    refine wp_region_inv (by kernel_rfl) (lowOk_spec (by kernel_rfl)) (fun d a x => ∃ f g lo1 hi1 lo2 hi2 s5 s6 s7 s8 s9 s10, a = ⟨#[.agg #[.bool s, .slice A k c, .slice A' k' c'], .agg #[.bool s2, .slice A2 k2 c2, .slice A3 k3 c3], .pointer (some ⟨w.heap.size, 0, none⟩), .pointer (some ⟨w.heap.size + 1, 0, none⟩), .int .i64 0, s5, s6, undef, undef, s7, s8, s9, s10, undef, undef, undef, undef, undef, undef, undef, undef, undef, undef, undef, undef, undef, undef, undef, undef, undef, undef, undef, undef, undef, undef, undef, undef, undef], []⟩ ∧ MI W (.agg #[.bool s, .slice A k c, .slice A' k' c']) (.agg #[.bool s2, .slice A2 k2 c2, .slice A3 k3 c3]) K K' q q' d f g lo1 hi1 lo2 hi2 s5 s6 s7 s8 s9 s10 x) ?_ ?_ ?_
    · refine ⟨0, 0, 0, 0, 0, 0, _, _, _, _, _, _, rfl, ?_⟩
      exact { below := (Below.refl _ _).drew, c0 := by simp, c2 := by simp, c1 := by simp, c3 := by simp, c4 := by simp, c5 := by simp, n41 := by simp, n43 := by simp, n51 := by simp, n53 := by simp, n45 := by simp, o6 := by simp, o7 := by simp }
    · intro d i o a1 x ho hdi hed hI
      obtain ⟨f, g, lo1, hi1, lo2, hi2, s5, s6, s7, s8, s9, s10, rfl, hM⟩ := hI
      have hi : i < 8 := (Array.getElem?_eq_some_iff.1 ho).1
      have hcases : i = 0 ∨ i = 1 ∨ i = 2 ∨ i = 3 ∨ i = 4 ∨ i = 5 ∨ i = 6 ∨ i = 7 := by omega
      have hbx : Below w.heap.size w x := hbW.trans (hM.below.mono hbW.size)
      rcases hcases with rfl | rfl | rfl | rfl | rfl | rfl | rfl | rfl
      · cases ho
        obtain ⟨hcF, hfF, hzF⟩ := (hFW.below hM.below hFW.lt).facts
        have HM := Lib.hid hM
        clear hM hed hi hdi
        refine wpOp_plain rfl rfl fun KK hKK => ?_
        have HK := Lib.hid hKK
        clear hKK
        go_wp2
        exact HK.out _ _ ⟨f, g, lo1, hi1, lo2, hi2, s5, s6, _, s8, s9, s10, rfl, HM.out.op0⟩
      · cases ho
        have e0 := hM.c0 (hed ⟨0, .data⟩ (by simp) rfl)
        have HM := Lib.hid (hM.op1 hdi (x' := x) (v1 := undef))
        have HMM := Lib.hid hM
        subst e0
        have hdd := Lib.hid hdi
        clear hM hed hi hdi HM
        refine wpOp_plain rfl rfl fun KK hKK => ?_
        have HK := Lib.hid hKK
        clear hKK
        go_wp2_with fail
        refine (load_any _ lo _ K q (HV.out.below hbx) (by omega)).mono ?_
        rintro e x' ⟨v1, rfl, hl⟩
        exact HK.out _ _ ⟨f, g, _, _, lo2, hi2, s5, s6, _, v1, s9, s10, rfl, HMM.out.op1 hdd.out hl⟩
      · cases ho
        obtain ⟨hcG, hfG, hzG⟩ := (hGW.below hM.below hGW.lt).facts
        have HM := Lib.hid hM
        clear hM hed hi hdi
        refine wpOp_plain rfl rfl fun KK hKK => ?_
        have HK := Lib.hid hKK
        clear hKK
        go_wp2
        exact HK.out _ _ ⟨f, g, lo1, hi1, lo2, hi2, s5, s6, s7, s8, _, s10, rfl, HM.out.op2⟩
      · cases ho
        have e0 := hM.c2 (hed ⟨2, .data⟩ (by simp) rfl)
        have HMM := Lib.hid hM
        subst e0
        have hdd := Lib.hid hdi
        clear hM hed hi hdi
        refine wpOp_plain rfl rfl fun KK hKK => ?_
        have HK := Lib.hid hKK
        clear hKK
        go_wp2_with fail
        refine (load_any _ lo' _ K' q' (HV'.out.below hbx) (by omega)).mono ?_
        rintro e x' ⟨v1, rfl, hl⟩
        exact HK.out _ _ ⟨f, g, lo1, hi1, _, _, s5, s6, s7, s8, _, v1, rfl, HMM.out.op3 hdd.out hl⟩
      · cases ho
        have HM := Lib.hid (hM.op4 hdi)
        clear hM hed hi hdi
        refine wpOp_plain rfl rfl fun KK hKK => ?_
        have HK := Lib.hid hKK
        clear hKK
        go_wp2
        exact HK.out _ _ ⟨_, g, lo1, hi1, lo2, hi2, _, s6, s7, s8, s9, s10, rfl, HM.out⟩
      · cases ho
        have HM := Lib.hid (hM.op5 hdi)
        clear hM hed hi hdi
        refine wpOp_plain rfl rfl fun KK hKK => ?_
        have HK := Lib.hid hKK
        clear hKK
        go_wp2
        exact HK.out _ _ ⟨f, _, lo1, hi1, lo2, hi2, s5, _, s7, s8, s9, s10, rfl, HM.out⟩
      · cases ho
        have h4 := hed ⟨4, .data⟩ (by simp) rfl
        have h1 := hed ⟨1, .data⟩ (by simp) rfl
        have h3 := hed ⟨3, .chain⟩ (by simp) rfl
        have h5 := hed ⟨5, .phase⟩ (by simp) rfl
        obtain ⟨_, _, n1s, n1, d1, A1, cc1, B1, ee1, rfl, _⟩ := hM.c1 h1
        have HM := Lib.hid (hM.op6 h4 h5 h1 h3 hdi rfl)
        obtain ⟨rfl, hz4, hB4⟩ := hM.c4 h4
        rw [hdi] at hB4
        obtain ⟨hcf, hff, hzf⟩ := hB4.facts
        simp only [zero3] at hcf
        clear hM hed hi hdi h4 h1 h3 h5 hB4
        refine wpOp_plain rfl rfl fun KK hKK => ?_
        have HK := Lib.hid hKK
        clear hKK
        go_wp2
        exact HK.out _ _ ⟨f, g, lo1, hi1, lo2, hi2, _, s6, s7, _, s9, s10, rfl, HM.out⟩
      · cases ho
        have h6 := hed ⟨6, .chain⟩ (by simp) rfl
        obtain ⟨h1, h3, h4, h5⟩ := hM.o6 h6
        obtain ⟨_, _, n1s, n1, d1, A1, cc1, B1, ee1, rfl, _⟩ := hM.c3 h3
        have HM := Lib.hid (hM.op7 h4 h5 h1 h3 h6 hdi rfl)
        obtain ⟨rfl, hz4, hB4⟩ := hM.c5 h5
        rw [hdi] at hB4
        obtain ⟨hcf, hff, hzf⟩ := hB4.facts
        simp only [zero3] at hcf
        clear hM hed hi hdi h4 h1 h3 h5 h6 hB4
        refine wpOp_plain rfl rfl fun KK hKK => ?_
        have HK := Lib.hid hKK
        clear hKK
        go_wp2
        exact HK.out _ _ ⟨f, g, lo1, hi1, lo2, hi2, s5, _, s7, s8, s9, _, rfl, HM.out⟩
    · rintro d a1 x hd ⟨f, g, lo1, hi1, lo2, hi2, s5, s6, s7, s8, s9, s10, rfl, hM⟩
      have HM := Lib.hid (hM.done hd)
      clear hM hd
      go_wp2_with fail
      go_meet
      exact HM.out
  case rest =>
    obtain ⟨f, g, n1s, n1, d1, n2s, n2, d2, Aa, ca, Ba, ea, Ab, cb, Bb, eb, rfl, rfl, hWf, hWg, hBf, hBg, hn1, hd1, hn2, hd2, hz1, hz2, hk1, hk1', hk2, hk2', hq1, hq2, hbx⟩ := hcut
    have hFX := Lib.hid hBf
    have hGX := Lib.hid hBg
    obtain ⟨hcf, hff, hzf⟩ := hBf.facts
    obtain ⟨hcg, hfg, hzg⟩ := hBg.facts
    have HN1 := Lib.hid hn1
    have HD1 := Lib.hid hd1
    have HN2 := Lib.hid hn2
    have HD2 := Lib.hid hd2
    have HQ : Hid (cmpQ q q' = (sg n1s n1 * d2 - sg n2s n2 * d1).sign) := by show _ = _; rw [hq1, hq2]; exact cmpQ_mk _ _ _ _ _ _ hz1 hz2
    have hbw := hbW.trans (hbx.mono hbW.size)
    have hws := hbW.size
    have hwx := hbx.size
    clear hBf hBg hn1 hd1 hn2 hd2 hq1 hq2 hFW hGW
    go_wp2_with fail
    go_region_held3 (fun w' => w'.cell? ⟨f, 0, none⟩ = some (.bool n1s) ∧ w'.cell? ⟨f, 1, none⟩ = some (.slice Aa (dl n1) ca) ∧ w'.cell? ⟨f, 2, none⟩ = some (.slice Ba (dl d1) ea) ∧ w'.cell? ⟨g, 0, none⟩ = some (.bool n2s) ∧ w'.cell? ⟨g, 1, none⟩ = some (.slice Ab (dl n2) cb) ∧ w'.cell? ⟨g, 2, none⟩ = some (.slice Bb (dl d2) eb)) (go_keep)
      (first
        | (go_at_call_of 26 (Value.agg #[Value.bool n1s, Value.slice Aa (dl n1) ca, Value.slice Ba (dl d1) ea]); refine (usign_any _ W.heap.size _ n1s n1 d1 (by exact ⟨_, _, rfl, HN1.out.drew, HD1.out.drew⟩)).mono ?_; rintro e w1 ⟨rfl, hb1⟩; have hF1 := (hFX.out.drew.below hb1 hzf); have hG1 := (hGX.out.drew.below hb1 hzg); obtain ⟨hcf1, hff1, hzf1⟩ := hF1.facts; obtain ⟨hcg1, hfg1, hzg1⟩ := hG1.facts; have hbw1 := hbw.drew.trans (hb1.mono (by simp; omega)))
        | (go_at_call_of 26 (Value.agg #[Value.bool n2s, Value.slice Ab (dl n2) cb, Value.slice Bb (dl d2) eb]); refine (usign_any _ W.heap.size _ n2s n2 d2 (by exact ⟨_, _, rfl, HN2.out.drew.below hb1, HD2.out.drew.below hb1⟩)).mono ?_; rintro e w2 ⟨rfl, hb2⟩; have hF2 := (hF1.below hb2 hzf1); have hG2 := (hG1.below hb2 hzg1); obtain ⟨hcf2, hff2, hzf2⟩ := hF2.facts; obtain ⟨hcg2, hfg2, hzg2⟩ := hG2.facts; have hbw2 := hbw1.trans (hb2.mono hbw1.size)))
    have HN1' := Lib.hid ((HN1.out.drew.below hb1).below hb2)
    have HD1' := Lib.hid ((HD1.out.drew.below hb1).below hb2)
    have HN2' := Lib.hid ((HN2.out.drew.below hb1).below hb2)
    have HD2' := Lib.hid ((HD2.out.drew.below hb1).below hb2)
    obtain ⟨si, hsi⟩ : ∃ si, Hid (si = signI n1s n1) := ⟨_, rfl⟩
    obtain ⟨ti, hti⟩ : ∃ ti, Hid (ti = signI n2s n2) := ⟨_, rfl⟩
    have hsr : -1 ≤ si ∧ si ≤ 1 := by rw [hsi.out]; exact signI_range _ _
    rw [← hsi.out, ← hti.out]
    have hF2' := Lib.hid hF2
    have hG2' := Lib.hid hG2
    have hwx2 : W.heap.size ≤ w2.heap.size := by have := hb1.size; have := hb2.size; simp at *; omega
    clear hF1 hG1 hF2 hG2 hb1 hb2 hcf1 hff1 hzf1 hcg1 hfg1 hzg1 hcf hff hzf hcg hfg hzg HN1 HD1 HN2 HD2 hFX hGX
    rcases Int.lt_trichotomy si ti with hlt | heq | hgt
    · have hfin : Hid (cmpQ q q' = -1) := by show _ = _; rw [HQ.out]; exact cmp_lt hz1 hz2 (by rw [← hsi.out, ← hti.out]; exact hlt)
      go_wp2
      go_ret
      exact ⟨by rw [hfin.out]; rfl, hbw2⟩
    · subst heq
      have hfin : Hid (cmpQ q q' = si * cmpI (n1 * d2) (n2 * d1)) := by show _ = _; rw [HQ.out, hsi.out]; exact cmp_same (by rw [← hsi.out, ← hti.out])
      go_wp2
      go_region_held3 (fun w' => w'.cell? ⟨f, 0, none⟩ = some (.bool n1s) ∧ w'.cell? ⟨f, 1, none⟩ = some (.slice Aa (dl n1) ca) ∧ w'.cell? ⟨f, 2, none⟩ = some (.slice Ba (dl d1) ea) ∧ w'.cell? ⟨g, 0, none⟩ = some (.bool n2s) ∧ w'.cell? ⟨g, 1, none⟩ = some (.slice Ab (dl n2) cb) ∧ w'.cell? ⟨g, 2, none⟩ = some (.slice Bb (dl d2) eb)) (go_keep)
        (first
          | (go_at_call_of 28 (Value.slice Aa (dl n1) ca); refine (multiply_any _ W.heap.size W.heap.size _ _ n1 d2 (by exact HN1'.out.drew) (by exact HD2'.out.drew) (by omega) (by omega)).mono ?_; rintro e w3 ⟨va, rfl, hna, hb3⟩; have hF3 := (hF2'.out.drew.below hb3 hF2'.out.lt); have hG3 := (hG2'.out.drew.below hb3 hG2'.out.lt); obtain ⟨hcf3, hff3, hzf3⟩ := hF3.facts; obtain ⟨hcg3, hfg3, hzg3⟩ := hG3.facts; have hbw3 := hbw2.drew.trans (hb3.mono (by simp; omega)); have HA3 := Lib.hid hna; clear hna)
          | (go_at_call_of 28 (Value.slice Ab (dl n2) cb); refine (multiply_any _ W.heap.size W.heap.size _ _ n2 d1 (by exact HN2'.out.drew.below hb3) (by exact HD1'.out.drew.below hb3) (by omega) (by omega)).mono ?_; rintro e w4 ⟨vb, rfl, hnb, hb4⟩; have hF4 := (hF3.below hb4 hzf3); have hG4 := (hG3.below hb4 hzg3); obtain ⟨hcf4, hff4, hzf4⟩ := hF4.facts; obtain ⟨hcg4, hfg4, hzg4⟩ := hG4.facts; have hbw4 := hbw3.trans (hb4.mono hbw3.size); have HA4 := Lib.hid (HA3.out.below hb4); have HB4 := Lib.hid hnb; clear hnb)
          | (go_at_call 27; refine (ucompare_any _ _ _ _ _ _ _ (by exact HA4.out) (by exact HB4.out)).mono ?_; rintro e w5 ⟨rfl, qc, rfl⟩))
      have hcr := cmpI_range (n1 * d2) (n2 * d1)
      have hwr : IntKind.i64.wrap (si * cmpI (n1 * d2) (n2 * d1)) = si * cmpI (n1 * d2) (n2 * d1) := by
        apply IntWalk.i64_in
        generalize cmpI (n1 * d2) (n2 * d1) = ci at *
        have h3 : si = -1 ∨ si = 0 ∨ si = 1 := by omega
        rcases h3 with h3 | h3 | h3 <;> rw [h3] <;> omega
      rw [hwr]
      clear hwr hcr
      go_wp2
      go_ret
      exact ⟨by rw [hfin.out]; rfl, hbw4.drewN _⟩
    · have hfin : Hid (cmpQ q q' = 1) := by show _ = _; rw [HQ.out]; exact cmp_gt hz1 hz2 (by rw [← hsi.out, ← hti.out]; exact hgt)
      go_wp2
      go_ret
      exact ⟨by rw [hfin.out]; rfl, hbw2⟩

end Go.Proofs.YtgheaoaicbkaoaaGreatDoor

