/-
  The walk of the law's rats.
-/
import Derived.Test.YtafhbipafbchcaaRefL
import Derived.Test.YtafhbipafbchcaaMemO
namespace Go.Proofs.Ytafhbipafbchcaa
open Go.RowKit AC
set_option linter.unusedVariables false
set_option linter.unusedSimpArgs false

set_option maxHeartbeats 1000000 in
theorem lrats_any (w : World) (A : Option Addr) (k c : Nat) (f : Nat → Int) (hf : ∀ i, i < k → 0 ≤ f i ∧ f i ≤ 1000000) (hkc : k ≤ c) (hk : k ≤ 1000)
    (hc : ∀ i, i < k → ∃ b off, A = some ⟨b, off, none⟩ ∧ b < w.heap.size ∧ w.cell? ⟨b, off + i, none⟩ = some (.int .i64 (f i))) :
    Calls Try.prog 12 #[.slice A k c] w (Ret fun v w' => RatsV w' w.heap.size v k 4 (fun i => mkRat (f i) 1) ∧ Below w.heap.size w w') := by
  have HC := Lib.hid hc
  have HF := Lib.hid hf
  clear hc hf
  go_enter Try.func12, Try.ntmps12
  go_wp2_with (at_make; refine wpList_mkO _ rfl _ _ rfl _ _ _ k (by rfl) (by rfl) rfl (by omega) w.heap.size w (Below.refl _ _) (Nat.le_refl _) ?_; intro v0 w1 hown0 hbw1 hbw2 hlt0; obtain ⟨A0, c0, rfl, _, _⟩ := (hown0 0 (fun _ => 0)).form; have HO := Lib.hid hown0; have HL := Lib.hid hlt0; clear hown0 hlt0)
  go_loopw [3, 11] (fun ov iv wr => ∃ i : Nat, i ≤ k ∧ iv = .int .i64 i ∧ Hid (OwnQ wr w.heap.size ov i 4 (fun i => mkRat (f i) 1)) ∧ Hid (∀ g, ov.ownBlock = some g → g < wr.heap.size) ∧ Below w.heap.size w wr) (fun _ iv _ => k - (intOf iv).toNat)
  case atStart => exact ⟨0, by omega, rfl, HO.out _ _, HL.out, hbw1⟩
  case round =>
    obtain ⟨i, hi, rfl, hown, hlt', hbw⟩ := hrel
    obtain ⟨A1, c1, rfl, _, _⟩ := hown.out.form
    by_cases hlt : i < k
    · obtain ⟨b, off, rfl, hbb, hcl⟩ := HC.out i hlt
      have hcl' := (hbw.cell (p := ⟨b, off + i, none⟩) hbb).trans hcl
      have hfi := HF.out i hlt
      obtain ⟨z, hz⟩ : ∃ z, z = f i := ⟨_, rfl⟩
      rw [← hz] at hcl' hfi
      have HZ := Lib.hid hz
      clear hcl hz
      go_wp2_with fail
      refine (rFromInt_any _ z (by omega) (by omega)).mono ?_
      rintro e w2 ⟨v2, rfl, hr2, hb2⟩
      have hsz := sz_small z 1 (by omega) (by omega) (by omega)
      obtain ⟨q, hq⟩ : ∃ q, Hid (q = mkRat z 1) := ⟨_, rfl⟩
      rw [← hq.out] at hr2 hsz
      have HR := Lib.hid (hr2.toV (K := 4) (by omega))
      obtain ⟨A2, c2, A3, c3, rfl, _, _⟩ := FracR.form hr2
      have HO2 := Lib.hid (hown.out.below hb2)
      have hbw3 := hbw.trans (hb2.mono hbw.size)
      have hqe : Hid (q = (fun i => mkRat (f i) 1) i) := by show _ = _; rw [hq.out, HZ.out]
      clear hr2 hb2 hsz
      go_wp2_with (at_builtin; refine wpList_pushQ w2 rfl _ _ rfl w.heap.size _ i 4 (fun i => mkRat (f i) 1) (by rfl) HO2.out _ _ _ _ _ _ _ wr.heap.size (by rw [← hqe.out]; exact HR.out) hbw.size hlt'.out (by rfl) w hbw3 hbw3.size (by omega) ?_; intro v3 w3 hown3 hb3 hlt3 _ _; obtain ⟨A4, c4, rfl, _, _⟩ := hown3.form; have HO3 := Lib.hid hown3; have HL3 := Lib.hid hlt3; clear hown3 hlt3)
      go_roundw
      case rel => exact ⟨i + 1, by omega, by go_num, HO3.out, HL3.out, hb3⟩
      case measure => simp [intOf]; omega
    · obtain rfl : i = k := by omega
      go_wp2
      go_ret
      exact ⟨_, rfl, hown.out.toV, hbw⟩

end Go.Proofs.Ytafhbipafbchcaa
