/-
  The walk of the reference's build, the numbers that are not zero.
-/
import Derived.Test.YtafhbipafbchcaaRefH
namespace Go.Proofs.Ytafhbipafbchcaa
open Go.RowKit AC
set_option linter.unusedVariables false
set_option linter.unusedSimpArgs false

theorem lowest_form {N D : Nat} (hN : N ≠ 0) (hD : D ≠ 0) : 0 < Nat.gcd N D ∧ N / Nat.gcd N D ≠ 0 := by
  have hg : 0 < Nat.gcd N D := Nat.gcd_pos_of_pos_left D (Nat.pos_of_ne_zero hN)
  exact ⟨hg, low_pos hN⟩

set_option maxHeartbeats 2000000 in
theorem build_pos (w : World) (lo lo' : Nat) (neg : Bool) (v v' : Value) (kn kd : Nat) (fn fd : Nat → Nat) (hn : Limbs w lo v kn fn) (hd : Limbs w lo' v' kd fd) (hkn : kn ≤ 4000000000) (hkd : kd ≤ 4000000000) (N D : Nat) (hN : Hid (N = vs fn kn)) (hD : Hid (D = vs fd kd)) (h0 : N ≠ 0) (h0' : D ≠ 0) :
    Calls Try.prog 25 #[.bool neg, v, v'] w (Ret fun v2 w' => FracR w' w.heap.size v2 neg (N / Nat.gcd N D) (D / Nat.gcd N D) ∧ Below w.heap.size w w') := by
  have hkN : dl N ≤ 4000000001 := by
    rw [hN.out]
    exact Nat.le_trans (dl_limbs (fun i hi => hn.1 i hi)) (by omega)
  have hkD : dl D ≤ 4000000001 := by
    rw [hD.out]
    exact Nat.le_trans (dl_limbs (fun i hi => hd.1 i hi)) (by omega)
  have HN := Lib.hid hn
  have HD := Lib.hid hd
  obtain ⟨A, c, rfl⟩ := Limbs.len hn
  obtain ⟨A', c', rfl⟩ := Limbs.len hd
  clear hn hd
  go_enter Try.func25, Try.ntmps25
  go_wp2_with fail
  refine (nat_any _ lo _ kn fn (HN.out.below (bel1 w _)) (by omega)).mono ?_
  rintro e w1 ⟨v1, rfl, hn1, hb1⟩
  rw [← hN.out] at hn1
  have HN1 := Lib.hid hn1
  have HR1 := Lib.hid ((Bk.new w 29 #[.bool false, .slice none 0 0, .slice none 0 0]).below hb1 (by simp))
  have hbw1 := (bel1 w _).trans (hb1.mono (by simp))
  obtain ⟨A1, c1, rfl⟩ := Limbs.len hn1
  have hz1 : w.heap.size < w1.heap.size := HR1.out.lt
  clear hn1 hb1
  go_wp2_with fail
  refine (nat_any _ lo' _ kd fd (HD.out.below hbw1) (by omega)).mono ?_
  rintro e w2 ⟨v2, rfl, hn2, hb2⟩
  rw [← hD.out] at hn2
  have HN2 := Lib.hid (hn2.lower (lo' := w.heap.size + 1) hz1)
  have HN1' := Lib.hid ((HN1.out.below hb2).lower (lo' := w.heap.size + 1) (by simp))
  have HR2 := Lib.hid (HR1.out.below hb2 hz1)
  have hbw2 := hbw1.trans (hb2.mono hbw1.size)
  obtain ⟨A2, c2, rfl⟩ := Limbs.len hn2
  have hz2 : w.heap.size < w2.heap.size := HR2.out.lt
  clear hn2 hb2 HN1 HR1
  have hne : (((dl N : Nat) : Int) == 0) = false := by
    rw [beq_eq_false_iff_ne]
    have := mt dl_eq_zero.1 h0
    omega
  have hne' : (((dl D : Nat) : Int) == 0) = false := by
    rw [beq_eq_false_iff_ne]
    have := mt dl_eq_zero.1 h0'
    omega
  go_wp2_with fail
  refine (natGcd_any _ (w.heap.size + 1) _ _ N D hz2 HN1'.out HN2.out (by omega) (by omega)).mono ?_
  rintro e w3 ⟨vg, rfl, hg3, hb3⟩
  have HG3 := Lib.hid hg3
  have hgp := (lowest_form h0 h0').1
  have hlg : dl (Nat.gcd N D) ≤ dl N := dl_mono (Nat.gcd_le_left D (Nat.pos_of_ne_zero h0))
  obtain ⟨g, hg⟩ : ∃ g, g = Nat.gcd N D := ⟨_, rfl⟩
  rw [← hg] at HG3 hgp hg3 hlg
  have HGE := Lib.hid hg
  clear hg
  have HR3 := Lib.hid (HR2.out.below hb3 hz2)
  have hbw3 := hbw2.trans (hb3.mono hbw2.size)
  have HA3 := Lib.hid (HN1'.out.below hb3)
  have HB3 := Lib.hid (HN2.out.below hb3)
  have hz3 : w.heap.size < w3.heap.size := HR3.out.lt
  obtain ⟨_, Ag, cg, rfl, hgc, hgm, hgcell⟩ := hg3
  have hdg1 : 0 < dl g := Nat.pos_of_ne_zero (mt dl_eq_zero.1 (by omega))
  obtain ⟨bg, og, rfl, hlg2, hbg, hgcell⟩ := hgcell hdg1
  have hcg := hgcell 0 hdg1
  rw [Nat.add_zero] at hcg
  have hgd : dg g 0 < 1000000000 := dg_lt _ _
  clear hgcell hb3 HN1' HN2 HR2
  by_cases hone : g = 1
  · subst hone
    rw [dl_one, dg_zero_of (by decide)] at *
    obtain ⟨hcR, hfR, hzR⟩ := HR3.out.facts
    go_wp2
    have hF := ((HR3.out.set 0 (.bool neg)).set 1 (.slice A1 (dl N) c1)).set 2 (.slice A2 (dl D) c2)
    obtain ⟨hcF, _, _⟩ := hF.facts
    refine bodyPost_ret (v := .agg #[.bool neg, .slice A1 (dl N) c1, .slice A2 (dl D) c2]) (by simp [results, Try.results25, go_sem, hcF]) rfl ⟨_, rfl, ⟨_, _, rfl, ?_, ?_⟩, below_set3 hbw3 (Nat.le_refl _) _ _ _⟩
    · rw [← HGE.out, Nat.div_one]; exact (limbs_set3 HA3.out (Nat.lt_succ_self _) _ _ _).lower (by omega)
    · rw [← HGE.out, Nat.div_one]; exact (limbs_set3 HB3.out (Nat.lt_succ_self _) _ _ _).lower (by omega)
  · by_cases h1 : dl g = 1
    · have hgne : ((((dg g 0 : Nat) : Int)) != 1) = true := by
        have hgB : g < B := by have := lt_dl g; rw [h1, Nat.pow_one] at this; exact this
        rw [dg_zero_of hgB]
        rw [bne_iff_ne]
        omega
      have hl1 : (((dl g : Nat) : Int) != 1) = false := by rw [h1]; rfl
      clear h1
      go_wp2_with fail
      refine (natDiv_any w3 (w.heap.size + 1) (w.heap.size + 1) (.slice A1 (dl N) c1) (.slice (some ⟨bg, og, none⟩) (dl g) cg) N g HA3.out HG3.out (by omega) (by omega)).mono ?_
      rintro e w4 ⟨v4, v4', rfl, hq4, _, hb4⟩
      have HR4 := Lib.hid (HR3.out.below hb4 hz3)
      have hbw4 := hbw3.trans (hb4.mono hbw3.size)
      have HQ4 := Lib.hid (hq4.lower (lo' := w.heap.size + 1) hz3)
      have HB4 := Lib.hid (HB3.out.below hb4)
      have HG4 := Lib.hid (NatR.below HG3.out hb4)
      have hz4 : w.heap.size < w4.heap.size := HR4.out.lt
      obtain ⟨A4, c4, rfl⟩ := Limbs.len hq4
      clear hq4 hb4
      go_wp2_with fail
      refine (natDiv_any w4 (w.heap.size + 1) (w.heap.size + 1) (.slice A2 (dl D) c2) (.slice (some ⟨bg, og, none⟩) (dl g) cg) D g HB4.out HG4.out (by omega) (by omega)).mono ?_
      rintro e w5 ⟨v5, v5', rfl, hq5, _, hb5⟩
      have HR5 := Lib.hid (HR4.out.below hb5 hz4)
      have hbw5 := hbw4.trans (hb5.mono hbw4.size)
      have HQ5 := Lib.hid (hq5.lower (lo' := w.heap.size + 1) hz4)
      have HP5 := Lib.hid (HQ4.out.below hb5)
      obtain ⟨A5, c5, rfl⟩ := Limbs.len hq5
      clear hq5 hb5
      obtain ⟨hcR, hfR, hzR⟩ := HR5.out.facts
      go_wp2
      have hF := ((HR5.out.set 0 (.bool neg)).set 1 (.slice A4 (dl (N / g)) c4)).set 2 (.slice A5 (dl (D / g)) c5)
      obtain ⟨hcF, _, _⟩ := hF.facts
      refine bodyPost_ret (v := .agg #[.bool neg, .slice A4 (dl (N / g)) c4, .slice A5 (dl (D / g)) c5]) (by simp [results, Try.results25, go_sem, hcF]) rfl ⟨_, rfl, ⟨_, _, rfl, ?_, ?_⟩, below_set3 hbw5 (Nat.le_refl _) _ _ _⟩
      · rw [← HGE.out]; exact (limbs_set3 HP5.out (Nat.lt_succ_self _) _ _ _).lower (by omega)
      · rw [← HGE.out]; exact (limbs_set3 HQ5.out (Nat.lt_succ_self _) _ _ _).lower (by omega)
    · have hl1 : (((dl g : Nat) : Int) != 1) = true := by rw [bne_iff_ne]; omega
      clear h1
      go_wp2_with fail
      refine (natDiv_any w3 (w.heap.size + 1) (w.heap.size + 1) (.slice A1 (dl N) c1) (.slice (some ⟨bg, og, none⟩) (dl g) cg) N g HA3.out HG3.out (by omega) (by omega)).mono ?_
      rintro e w4 ⟨v4, v4', rfl, hq4, _, hb4⟩
      have HR4 := Lib.hid (HR3.out.below hb4 hz3)
      have hbw4 := hbw3.trans (hb4.mono hbw3.size)
      have HQ4 := Lib.hid (hq4.lower (lo' := w.heap.size + 1) hz3)
      have HB4 := Lib.hid (HB3.out.below hb4)
      have HG4 := Lib.hid (NatR.below HG3.out hb4)
      have hz4 : w.heap.size < w4.heap.size := HR4.out.lt
      obtain ⟨A4, c4, rfl⟩ := Limbs.len hq4
      clear hq4 hb4
      go_wp2_with fail
      refine (natDiv_any w4 (w.heap.size + 1) (w.heap.size + 1) (.slice A2 (dl D) c2) (.slice (some ⟨bg, og, none⟩) (dl g) cg) D g HB4.out HG4.out (by omega) (by omega)).mono ?_
      rintro e w5 ⟨v5, v5', rfl, hq5, _, hb5⟩
      have HR5 := Lib.hid (HR4.out.below hb5 hz4)
      have hbw5 := hbw4.trans (hb5.mono hbw4.size)
      have HQ5 := Lib.hid (hq5.lower (lo' := w.heap.size + 1) hz4)
      have HP5 := Lib.hid (HQ4.out.below hb5)
      obtain ⟨A5, c5, rfl⟩ := Limbs.len hq5
      clear hq5 hb5
      obtain ⟨hcR, hfR, hzR⟩ := HR5.out.facts
      go_wp2
      have hF := ((HR5.out.set 0 (.bool neg)).set 1 (.slice A4 (dl (N / g)) c4)).set 2 (.slice A5 (dl (D / g)) c5)
      obtain ⟨hcF, _, _⟩ := hF.facts
      refine bodyPost_ret (v := .agg #[.bool neg, .slice A4 (dl (N / g)) c4, .slice A5 (dl (D / g)) c5]) (by simp [results, Try.results25, go_sem, hcF]) rfl ⟨_, rfl, ⟨_, _, rfl, ?_, ?_⟩, below_set3 hbw5 (Nat.le_refl _) _ _ _⟩
      · rw [← HGE.out]; exact (limbs_set3 HP5.out (Nat.lt_succ_self _) _ _ _).lower (by omega)
      · rw [← HGE.out]; exact (limbs_set3 HQ5.out (Nat.lt_succ_self _) _ _ _).lower (by omega)
end Go.Proofs.Ytafhbipafbchcaa
