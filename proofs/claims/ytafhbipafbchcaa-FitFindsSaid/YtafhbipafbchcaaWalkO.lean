/-
  The walk of rational's plus.
-/
import Derived.Test.YtafhbipafbchcaaWalkN
import Derived.Test.YtafhbipafbchcaaWalkD
import Derived.Test.YtafhbipafbchcaaWalkF
namespace Go.Proofs.Ytafhbipafbchcaa
open Go.RowKit AC
set_option linter.unusedVariables false
set_option linter.unusedSimpArgs false

/-- What plus gives. -/
def PlusR (w : World) (n1 d1 n2 d2 : Nat) (s1 s2 : Bool) (v2 : Value) (w' : World) : Prop :=
  ∃ neg n, FracR w' w.heap.size v2 neg n (d1 * d2) ∧ sg neg n = sg s1 n1 * d2 + sg s2 n2 * d1 ∧ Below w.heap.size w w'

theorem sg_same (s : Bool) (n1 n2 d1 d2 : Nat) : sg s (n1 * d2 + n2 * d1) = sg s n1 * d2 + sg s n2 * d1 := by
  cases s <;> simp [sg, Int.neg_mul, Int.neg_add]
theorem sg_diff_lt {s1 s2 : Bool} (h : ¬ s1 = s2) {n1 n2 d1 d2 : Nat} (hlt : n1 * d2 < n2 * d1) : sg s2 (n2 * d1 - n1 * d2) = sg s1 n1 * d2 + sg s2 n2 * d1 := by
  have e : ((n2 * d1 - n1 * d2 : Nat) : Int) = (n2 : Int) * d1 - (n1 : Int) * d2 := by
    rw [Int.ofNat_sub (by omega)]; simp
  cases s1 <;> cases s2 <;> simp_all [sg, Int.neg_mul] <;> omega
theorem sg_diff_ge {s1 s2 : Bool} (h : ¬ s1 = s2) {n1 n2 d1 d2 : Nat} (hge : n2 * d1 ≤ n1 * d2) : sg s1 (n1 * d2 - n2 * d1) = sg s1 n1 * d2 + sg s2 n2 * d1 := by
  have e : ((n1 * d2 - n2 * d1 : Nat) : Int) = (n1 : Int) * d2 - (n2 : Int) * d1 := by
    rw [Int.ofNat_sub (by omega)]; simp
  cases s1 <;> cases s2 <;> simp_all [sg, Int.neg_mul] <;> omega

theorem cell_set3 (w : World) {g b : Nat} (h : b ≠ g) (o : Nat) (x y z : Value) :
    (((w.setCell ⟨g, 0, none⟩ x).setCell ⟨g, 1, none⟩ y).setCell ⟨g, 2, none⟩ z).cell? ⟨b, o, none⟩ = w.cell? ⟨b, o, none⟩ := by
  rw [World.cell?_setCell_other _ _ _ _ (by intro e; injection e with e; omega), World.cell?_setCell_other _ _ _ _ (by intro e; injection e with e; omega), World.cell?_setCell_other _ _ _ _ (by intro e; injection e with e; omega)]

set_option maxHeartbeats 4000000 in
theorem plus_any (w : World) (lo lo' : Nat) (v v' : Value) (s1 s2 : Bool) (n1 d1 n2 d2 : Nat) (hv : FracR w lo v s1 n1 d1) (hv' : FracR w lo' v' s2 n2 d2)
    (k1 : dl n1 + dl d2 ≤ 4294967290) (k2 : dl n2 + dl d1 ≤ 4294967290) (k3 : dl d1 + dl d2 ≤ 4294967290) :
    Calls Try.prog 32 #[v, v'] w (Ret (PlusR w n1 d1 n2 d2 s1 s2)) := by
  obtain ⟨A1, c1, B1, e1, rfl, hn1, hd1⟩ := hv.form
  obtain ⟨A2, c2, B2, e2, rfl, hn2, hd2⟩ := hv'.form
  have HN1 := Lib.hid hn1
  have HD1 := Lib.hid hd1
  have HN2 := Lib.hid hn2
  have HD2 := Lib.hid hd2
  clear hv hv' hn1 hd1 hn2 hd2
  go_enter Try.func32, Try.ntmps32
  go_wp2
  go_outline
  go_region_held3 (fun w' => w'.cell? ⟨w.heap.size, 1, none⟩ = some (.slice A1 (dl n1) c1) ∧ w'.cell? ⟨w.heap.size, 2, none⟩ = some (.slice B1 (dl d1) e1) ∧ w'.cell? ⟨w.heap.size + 1, 1, none⟩ = some (.slice A2 (dl n2) c2) ∧ w'.cell? ⟨w.heap.size + 1, 2, none⟩ = some (.slice B2 (dl d2) e2)) (go_keep)
    (first
      | (go_at_call_of 33 (Value.slice A1 (dl n1) c1); refine (multiply_any _ lo lo' _ _ n1 d2 (by exact ((HN1.out.alloc _).alloc _).alloc _) (by exact ((HD2.out.alloc _).alloc _).alloc _) (by omega) (by omega)).mono ?_; rintro e w1 ⟨va, rfl, hna, hb1⟩; have hbw1 := (bel3 w _ _ _).drew.trans (hb1.mono (by simp; omega)); have hF1 := ((((Bk.new w 54 _).alloc _).alloc _).drew.below hb1 (by simp; omega)); have hG1 := (((Bk.new _ 54 _).alloc _).drew.below hb1 (by simp)); have hR1 := ((Bk.new _ 54 _).drew.below hb1 (by simp)); obtain ⟨hcF1, hfF1, hzF1⟩ := hF1.facts; obtain ⟨hcG1, hfG1, hzG1⟩ := hG1.facts; simp only [World.size_alloc] at hcG1 hfG1 hzG1 hG1 hR1; have hzR1 := hR1.lt)
      | (go_at_call_of 33 (Value.slice A2 (dl n2) c2); refine (multiply_any _ lo' lo _ _ n2 d1 (by exact HN2.out.below hbw1) (by exact HD1.out.below hbw1) (by omega) (by omega)).mono ?_; rintro e w2 ⟨vb, rfl, hnb, hb2⟩; have hbw2 := hbw1.trans (hb2.mono hbw1.size); have hF2 := hF1.below hb2 hzF1; have hG2 := hG1.below hb2 hzG1; have hR2 := hR1.below hb2 hzR1; obtain ⟨hcF2, hfF2, hzF2⟩ := hF2.facts; obtain ⟨hcG2, hfG2, hzG2⟩ := hG2.facts))
  have HA2 := Lib.hid (hna.below hb2)
  have HB2 := Lib.hid hnb
  obtain ⟨Aa, ca, rfl⟩ := Limbs.len hna
  obtain ⟨Ab, cb, rfl⟩ := Limbs.len hnb
  have HF2 := Lib.hid hF2
  have HG2 := Lib.hid hG2
  have HR2 := Lib.hid hR2
  have hzz1 : w.heap.size + 1 + 1 < w1.heap.size := hzR1
  have hzz2 := hb2.size
  clear hna hnb hF1 hG1 hR1 hF2 hG2 hR2 hb1 hcF1 hcG1 hfF1 hfG1 hzF1 hzG1 hzR1 hb2
  go_wp2_with fail
  refine (multiply_any _ lo lo' _ _ d1 d2 (HD1.out.below hbw2) (HD2.out.below hbw2) (by omega) (by omega)).mono ?_
  rintro e w3 ⟨vd, rfl, hnd, hb3⟩
  have hbw3 := hbw2.trans (hb3.mono hbw2.size)
  have hzz4 := hb3.size
  have HF3 := Lib.hid (HF2.out.below hb3 HF2.out.lt)
  have HG3 := Lib.hid (HG2.out.below hb3 HG2.out.lt)
  have HR3 := Lib.hid (HR2.out.below hb3 HR2.out.lt)
  have HA3 := Lib.hid (HA2.out.below hb3)
  have HB3 := Lib.hid (HB2.out.below hb3)
  have HD3 := Lib.hid hnd
  obtain ⟨Ad, cd, rfl⟩ := Limbs.len hnd
  obtain ⟨hcF3, hfF3, hzF3⟩ := HF3.out.facts
  obtain ⟨hcG3, hfG3, hzG3⟩ := HG3.out.facts
  clear hnd hb3 hcF2 hcG2 hfF2 hfG2 HA2 HB2 HF2 HG2 HR2 hzF2 hzG2
  have hzz3 : w.heap.size + 1 + 1 < w3.heap.size := HR3.out.lt
  by_cases hs : s1 = s2
  · subst hs
    go_wp2
    go_region_held3 (fun w' => w'.cell? ⟨w.heap.size, 0, none⟩ = some (.bool s1)) (first | go_keep | (refine (cell_set3 _ (by omega) _ _ _ _).trans ?_; simp [*]))
      (first
        | (go_at_call 46; refine (add_any _ _ _ _ _ (n1 * d2) (n2 * d1) (by exact HA3.out) (by exact HB3.out) (by have := dl_mul_le n1 d2; omega) (by have := dl_mul_le n2 d1; omega)).mono ?_; rintro e w4 ⟨vs', rfl, hns, hb4⟩; obtain ⟨As, cs, rfl⟩ := Limbs.len hns; obtain ⟨hcF4, hfF4, hzF4⟩ := (HF3.out.drew.below hb4 hzF3).facts; obtain ⟨hcR4, hfR4, hzR4⟩ := (HR3.out.drew.below hb4 HR3.out.lt).facts))
    have hbw4 := hbw3.drew.trans (hb4.mono hbw3.size)
    have HS4 := Lib.hid hns
    have HD4 := Lib.hid (HD3.out.drew.below hb4)
    clear hns hb4
    go_wp2
    exact bodyPost_ret (v := .agg #[.bool s1, .slice As (dl (n1 * d2 + n2 * d1)) cs, .slice Ad (dl (d1 * d2)) cd]) (by simp [results, Try.results32, go_sem, hcR4]) rfl
      ⟨_, rfl, s1, _, frac_set3 ⟨_, _, rfl, HS4.out.lower (by simp; omega), HD4.out.lower (by omega)⟩ (show w.heap.size + 1 + 1 < w1.heap.size by omega) _ _ _ |>.lower (by omega), sg_same s1 n1 n2 d1 d2, below_set3 hbw4 (by omega) _ _ _⟩
  · have hsb : (s1 == s2) = false := by simpa using hs
    obtain ⟨ci, hci⟩ : ∃ ci, Hid (cmpI (n1 * d2) (n2 * d1) = ci) := ⟨_, rfl⟩
    go_wp2_with fail
    refine (compare_any _ _ _ _ _ _ _ HA3.out HB3.out).mono ?_
    rintro e w3' ⟨rfl, qc, rfl⟩
    rw [hci.out]
    rcases Nat.lt_or_ge (n1 * d2) (n2 * d1) with hlt | hge
    · have hc0 : ci = -1 := by rw [← hci.out]; exact cmpI_lt hlt
      subst hc0
      go_wp2
      go_region_held3 (fun w' => w'.cell? ⟨w.heap.size + 1, 0, none⟩ = some (.bool s2)) (first | go_keep | (refine (cell_set3 _ (by omega) _ _ _ _).trans ?_; simp [*]))
        (first
          | (go_at_call 47; refine (subtract_any _ _ _ _ _ (n2 * d1) (n1 * d2) (n2 * d1 - n1 * d2) (by exact HB3.out.drewN _) (by exact HA3.out.drewN _) (by have := dl_mul_le n1 d2; have := dl_mul_le n2 d1; omega) (by omega)).mono ?_; rintro e w4 ⟨vs', rfl, hns, hb4⟩; obtain ⟨As, cs, rfl⟩ := Limbs.len hns; obtain ⟨hcF4, hfF4, hzF4⟩ := (HG3.out.drewN _ |>.below hb4 hzG3).facts; obtain ⟨hcR4, hfR4, hzR4⟩ := (HR3.out.drewN _ |>.below hb4 HR3.out.lt).facts))
      have hbw4 := (hbw3.drewN qc).drew.trans (hb4.mono hbw3.size)
      have HS4 := Lib.hid hns
      have HD4 := Lib.hid ((HD3.out.drewN qc).drew.below hb4)
      clear hns hb4
      go_wp2
      exact bodyPost_ret (v := .agg #[.bool s2, .slice As (dl (n2 * d1 - n1 * d2)) cs, .slice Ad (dl (d1 * d2)) cd]) (by simp [results, Try.results32, go_sem, hcR4]) rfl
        ⟨_, rfl, s2, _, frac_set3 ⟨_, _, rfl, HS4.out.lower (by simp; omega), HD4.out.lower (by omega)⟩ (show w.heap.size + 1 + 1 < w1.heap.size by omega) _ _ _ |>.lower (by omega), sg_diff_lt hs hlt, below_set3 hbw4 (by omega) _ _ _⟩
    · have hc0 : 0 ≤ ci := by
        rw [← hci.out]
        rcases Nat.lt_or_ge (n2 * d1) (n1 * d2) with h5 | h5
        · rw [cmpI_gt h5]; decide
        · rw [cmpI_eq (by omega)]; decide
      go_wp2
      go_region_held3 (fun w' => w'.cell? ⟨w.heap.size, 0, none⟩ = some (.bool s1)) (first | go_keep | (refine (cell_set3 _ (by omega) _ _ _ _).trans ?_; simp [*]))
        (first
          | (go_at_call 47; refine (subtract_any _ _ _ _ _ (n1 * d2) (n2 * d1) (n1 * d2 - n2 * d1) (by exact HA3.out.drewN _) (by exact HB3.out.drewN _) (by have := dl_mul_le n1 d2; have := dl_mul_le n2 d1; omega) (by omega)).mono ?_; rintro e w4 ⟨vs', rfl, hns, hb4⟩; obtain ⟨As, cs, rfl⟩ := Limbs.len hns; obtain ⟨hcF4, hfF4, hzF4⟩ := (HF3.out.drewN _ |>.below hb4 hzF3).facts; obtain ⟨hcR4, hfR4, hzR4⟩ := (HR3.out.drewN _ |>.below hb4 HR3.out.lt).facts))
      have hbw4 := (hbw3.drewN qc).drew.trans (hb4.mono hbw3.size)
      have HS4 := Lib.hid hns
      have HD4 := Lib.hid ((HD3.out.drewN qc).drew.below hb4)
      clear hns hb4
      go_wp2
      exact bodyPost_ret (v := .agg #[.bool s1, .slice As (dl (n1 * d2 - n2 * d1)) cs, .slice Ad (dl (d1 * d2)) cd]) (by simp [results, Try.results32, go_sem, hcR4]) rfl
        ⟨_, rfl, s1, _, frac_set3 ⟨_, _, rfl, HS4.out.lower (by simp; omega), HD4.out.lower (by omega)⟩ (show w.heap.size + 1 + 1 < w1.heap.size by omega) _ _ _ |>.lower (by omega), sg_diff_ge hs hge, below_set3 hbw4 (by omega) _ _ _⟩

end Go.Proofs.Ytafhbipafbchcaa
