/-
  The walk of rational's word, where the number fits.
-/
import Derived.Test.YtafhbipafbchcaaWalkA
namespace Go.Proofs.Ytafhbipafbchcaa
open Go.RowKit AC
set_option linter.unusedVariables false
set_option linter.unusedSimpArgs false

theorem div_split' (n j : Nat) : n / B ^ j = n / B ^ (j + 1) * B + dg n j := by
  have h := div_pow_succ n j
  unfold dg
  rw [h, Nat.mul_comm]
  exact (Nat.div_add_mod _ _).symm

set_option maxHeartbeats 1000000 in
theorem word_yes (w : World) (lo : Nat) (v : Value) (n : Nat) (hv : NatR w lo v n) (hn : n < 18446744073709551616) :
    Calls Try.prog 59 #[v] w (fun e w' => e = .returned (.tuple #[.int .u64 n, .bool true]) ∧ w = w') := by
  obtain ⟨_, A, c, rfl, hkc, hcm, hb⟩ := hv
  unfold maxLen at hcm
  have HB := Lib.hid hb
  have HN := Lib.hid hn
  clear hb hn
  obtain ⟨k, hk⟩ : ∃ k, k = dl n := ⟨_, rfl⟩
  rw [← hk] at HB hkc ⊢
  have HK := Lib.hid hk
  clear hk
  go_enter Try.func59, Try.ntmps59
  go_wp2
  go_loop [4, 9] (fun x i => ∃ j y : Nat, j ≤ k ∧ y < 18446744073709551616 ∧ i = .int .i64 j ∧ x = .int .u64 y ∧ Hid (y = n / B ^ (k - j))) (fun _ i => k - (intOf i).toNat)
  case atStart => exact ⟨0, 0, by omega, by omega, rfl, rfl, by show 0 = n / B ^ (k - 0); rw [Nat.sub_zero, HK.out, Nat.div_eq_of_lt (lt_dl n)]⟩
  case round =>
    obtain ⟨j, y, hj, hy, rfl, rfl, hyv⟩ := hrel
    by_cases hlt : j < k
    · obtain ⟨b, off, rfl, hlb, hbb, hcell⟩ := HB.out (by omega)
      have hcl := hcell (k - 1 - j) (by omega)
      clear hcell
      have hd := dg_lt n (k - 1 - j)
      rw [B_eq] at hd
      have hnx : y * 1000000000 + dg n (k - 1 - j) = n / B ^ (k - (j + 1)) := by
        have h1 := div_split' n (k - 1 - j)
        rw [show k - 1 - j + 1 = k - j by omega, ← hyv.out, B_eq] at h1
        rw [← h1, show k - (j + 1) = k - 1 - j by omega]; rfl
      have hle : n / B ^ (k - (j + 1)) ≤ n := Nat.div_le_self _ _
      have HNX := Lib.hid hnx
      have hs : y * 1000000000 + dg n (k - 1 - j) ≤ 18446744073709551615 := by have := HN.out; omega
      clear hle hnx
      generalize dg n (k - 1 - j) = d at *
      have hq : ¬ ((18446744073709551615 - (d : Int)) / 1000000000 < (y : Int)) := by omega
      go_wp2
      go_round
      case rel => exact ⟨j + 1, y * 1000000000 + d, by omega, by omega, by go_num, by go_num, HNX⟩
      case measure => simp [intOf]; omega
    · obtain rfl : j = k := by omega
      have hfin : Hid (y = n) := by have := hyv.out; rw [Nat.sub_self, Nat.pow_zero, Nat.div_one] at this; exact this
      go_wp2
      go_ret2
      exact ⟨by rw [← hfin.out]; rfl, rfl⟩

end Go.Proofs.Ytafhbipafbchcaa
