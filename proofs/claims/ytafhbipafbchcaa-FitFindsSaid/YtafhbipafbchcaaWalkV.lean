/-
  The walk of binomial's combine with rational.Sub.
-/
import Derived.Test.YtafhbipafbchcaaWalkU
namespace Go.Proofs.Ytafhbipafbchcaa
open Go.RowKit AC
set_option linter.unusedVariables false
set_option linter.unusedSimpArgs false

set_option maxHeartbeats 2000000 in
theorem combine_any (w : World) (lo lo' : Nat) (v v' : Value) (k K K' : Nat) (r r' : Nat → Rat) (hv : RatsV w lo v k K r) (hv' : RatsV w lo' v' k K' r') (hk : k ≤ 4294967296) (hK : K + K' ≤ 4000000000) :
    Calls Try.prog 27 #[v, v', .func (.func 28) #[] #[]] w (Ret fun v2 w' => RatsV w' w.heap.size v2 k (K + K' + 3) (fun i => r i - r' i) ∧ Below w.heap.size w w') := by
  have HV := Lib.hid hv
  have HV' := Lib.hid hv'
  obtain ⟨A, c, rfl, hkc, hcm⟩ := hv.form
  obtain ⟨A', c', rfl, hkc', hcm'⟩ := hv'.form
  clear hv hv'
  go_enter Try.func27, Try.ntmps27
  go_wp2_with (at_make; refine wpList_mkQ _ rfl _ _ rfl _ _ _ _ k (by rfl) (by rfl) (by first | rfl | simp) (by first | rfl | simp) (by omega) w.heap.size w (Below.refl _ _) (Nat.le_refl _) ?_; intro b w1 hlb1 hlb2 hrow1 hbw1 hbw2)
  go_loopw [19] (fun iv wr => ∃ i : Nat, i ≤ k ∧ iv = .int .i64 i ∧ RowQ wr b k i (fun i => r i - r' i) ∧ Below w.heap.size w wr) (fun iv _ => k - (intOf iv).toNat)
  case atStart => exact ⟨0, by omega, rfl, hrow1 _, hbw1⟩
  case round =>
    obtain ⟨i, hi, rfl, hrow, hbw⟩ := hrel
    by_cases hlt : i < k
    · obtain ⟨ba, off, s, An, kn, cn, Ad, kd, cd, rfl, hbb, g1, g2, g3, g4⟩ := HV.out.at_ hbw (i := i) (by omega)
      obtain ⟨ba', off', s', An', kn', cn', Ad', kd', cd', rfl, hbb', g1', g2', g3', g4'⟩ := HV'.out.at_ hbw (i := i) (by omega)
      have HE := Lib.hid g4
      have HE' := Lib.hid g4'
      clear g4 g4'
      have hws := hbw.size
      have hz1 : ba < wr.heap.size := by omega
      have hz2 : ba' < wr.heap.size := by omega
      go_wp2_with fail
      refine (sub_any' _ lo lo' _ _ K K' (r i) (r' i) (HE.out.below (bel2 _ _ _)) (HE'.out.below (bel2 _ _ _)) (by omega)).mono ?_
      rintro e w2 ⟨v2, rfl, hr2, hb2⟩
      have hrow2 := (hrow.below (bel2 _ _ _)).below hb2
      obtain ⟨u0, hu0⟩ := hrow2.there (i := i * 3) (by omega)
      obtain ⟨u1, hu1⟩ := hrow2.there (i := i * 3 + 1) (by omega)
      obtain ⟨u2, hu2⟩ := hrow2.there (i := i * 3 + 2) (by omega)
      have f0 := hrow2.frozen (i * 3)
      have f1 := hrow2.frozen (i * 3 + 1)
      have f2 := hrow2.frozen (i * 3 + 2)
      have hlr := hrow.lt
      obtain ⟨q3, hq3⟩ : ∃ q3, Hid (q3 = r i - r' i) := ⟨_, rfl⟩
      rw [← hq3.out] at hr2
      have hst := Lib.hid (hr2.lower (lo' := b + 1) (by simp; omega))
      obtain ⟨A2, c2, A3, c3, rfl, _, _⟩ := FracR.form hr2
      have hbq := (hbw.trans ((bel2 wr _ _).mono hws)).trans (hb2.mono (by simp; omega))
      have HROW := Lib.hid hrow2
      clear hrow hrow2 hr2 hb2
      go_wp2
      go_roundw
      case rel => exact ⟨i + 1, by omega, by go_num, RowQ.store HROW.out (by rw [hq3.out] at hst ⊢; exact hst.out), ((hbq.setCell (p := ⟨b, _, none⟩) hlb1 _).setCell (p := ⟨b, _, none⟩) hlb1 _).setCell (p := ⟨b, _, none⟩) hlb1 _⟩
      case measure => simp [intOf]; omega
    · obtain rfl : i = k := by omega
      go_wp2
      go_ret
      refine ⟨.slice (some ⟨b, 0, none⟩) i i, rfl, ?_, hbw⟩
      refine hrow.toV (Nat.le_refl _) hlb1 (by omega) (fun j hj => ?_)
      have h1 := HV.out.size hj
      have h2 := HV'.out.size hj
      have h3 := sz_sub (r j) (r' j)
      omega

end Go.Proofs.Ytafhbipafbchcaa
