/-
  The walk of the reference's build.
-/
import Derived.Test.YtafhbipafbchcaaRefG
namespace Go.Proofs.Ytafhbipafbchcaa
open Go.RowKit AC
set_option linter.unusedVariables false
set_option linter.unusedSimpArgs false

set_option maxHeartbeats 2000000 in
theorem build_zero (w : World) (lo lo' : Nat) (neg : Bool) (v v' : Value) (kn kd : Nat) (fn fd : Nat → Nat) (hn : Limbs w lo v kn fn) (hd : Limbs w lo' v' kd fd) (hkn : kn ≤ 4000000000) (hkd : kd ≤ 4000000000) (N D : Nat) (hN : Hid (N = vs fn kn)) (hD : Hid (D = vs fd kd)) (h0 : N = 0 ∨ D = 0) :
    Calls Try.prog 25 #[.bool neg, v, v'] w (Ret fun v2 w' => FracR w' w.heap.size v2 false 0 1 ∧ Below w.heap.size w w') := by
  have HN := Lib.hid hn
  have HD := Lib.hid hd
  obtain ⟨A, c, rfl⟩ := Limbs.len hn
  obtain ⟨A', c', rfl⟩ := Limbs.len hd
  clear hn hd
  go_enter Try.func25, Try.ntmps25
  go_wp2_with fail
  refine (nat_any _ lo _ kn fn (HN.out.below (bel1 w _)) (by omega)).mono ?_
  rintro e w1 ⟨v1, rfl, hn1, hb1⟩
  rw [← hN.out] at hn1
  have HN1 := Lib.hid hn1
  have HR1 := Lib.hid ((Bk.new w 29 #[.bool false, .slice none 0 0, .slice none 0 0]).below hb1 (by simp))
  have hbw1 := (bel1 w _).trans (hb1.mono (by simp))
  obtain ⟨A1, c1, rfl⟩ := Limbs.len hn1
  have hz1 : w.heap.size < w1.heap.size := HR1.out.lt
  clear hn1 hb1
  go_wp2_with fail
  refine (nat_any _ lo' _ kd fd (HD.out.below hbw1) (by omega)).mono ?_
  rintro e w2 ⟨v2, rfl, hn2, hb2⟩
  rw [← hD.out] at hn2
  have HN2 := Lib.hid (hn2.lower (lo' := w.heap.size + 1) hz1)
  have HN1' := Lib.hid ((HN1.out.below hb2).lower (lo' := w.heap.size + 1) (by simp))
  have HR2 := Lib.hid (HR1.out.below hb2 hz1)
  have hbw2 := hbw1.trans (hb2.mono hbw1.size)
  obtain ⟨A2, c2, rfl⟩ := Limbs.len hn2
  have hz2 : w.heap.size < w2.heap.size := HR2.out.lt
  clear hn2 hb2 HN1 HR1
  have H0 := Lib.hid h0
  clear h0
  obtain ⟨hcR, hfR, hzR⟩ := HR2.out.facts
  by_cases h1 : N = 0
  · subst h1
    rw [dl_zero] at *
    go_wp2
    have hF := ((((HR2.out.set 0 (.bool false)).set 1 (.slice none 0 0)).set 2 (.slice (some ⟨w2.heap.size, 0, none⟩) 1 1)).alloc (.cells #[.int .u32 1] 49))
    obtain ⟨hcF, _, _⟩ := hF.facts
    refine bodyPost_ret (v := .agg #[.bool false, .slice none 0 0, .slice (some ⟨w2.heap.size, 0, none⟩) 1 1]) (by simp [results, Try.results25, go_sem, hcF]) rfl ⟨_, rfl, ⟨_, _, rfl, NatR.zero _ _, ?_⟩, (below_set3 hbw2 (Nat.le_refl _) _ _ _).alloc (by rw [size_set3]; omega) _⟩
    have h1 := NatR.oneNew (((w2.setCell ⟨w.heap.size, 0, none⟩ (.bool false)).setCell ⟨w.heap.size, 1, none⟩ (.slice none 0 0)).setCell ⟨w.heap.size, 2, none⟩ (.slice (some ⟨w2.heap.size, 0, none⟩) 1 1)) w.heap.size 49 (by rw [size_set3]; omega)
    rw [size_set3] at h1
    exact h1
  · have h2 : D = 0 := by have := H0.out; omega
    subst h2
    rw [dl_zero] at *
    have hne : (((dl N : Nat) : Int) == 0) = false := by
      rw [beq_eq_false_iff_ne]
      have := mt dl_eq_zero.1 h1
      omega
    go_wp2
    have hF := ((((HR2.out.set 0 (.bool false)).set 1 (.slice none 0 0)).set 2 (.slice (some ⟨w2.heap.size, 0, none⟩) 1 1)).alloc (.cells #[.int .u32 1] 49))
    obtain ⟨hcF, _, _⟩ := hF.facts
    refine bodyPost_ret (v := .agg #[.bool false, .slice none 0 0, .slice (some ⟨w2.heap.size, 0, none⟩) 1 1]) (by simp [results, Try.results25, go_sem, hcF]) rfl ⟨_, rfl, ⟨_, _, rfl, NatR.zero _ _, ?_⟩, (below_set3 hbw2 (Nat.le_refl _) _ _ _).alloc (by rw [size_set3]; omega) _⟩
    have h1 := NatR.oneNew (((w2.setCell ⟨w.heap.size, 0, none⟩ (.bool false)).setCell ⟨w.heap.size, 1, none⟩ (.slice none 0 0)).setCell ⟨w.heap.size, 2, none⟩ (.slice (some ⟨w2.heap.size, 0, none⟩) 1 1)) w.heap.size 49 (by rw [size_set3]; omega)
    rw [size_set3] at h1
    exact h1

end Go.Proofs.Ytafhbipafbchcaa
