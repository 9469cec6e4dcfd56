/-
  The walks of rational's natural numbers: compare.
-/
import Derived.Test.YtafhbipafbchcaaWalkA
namespace Go.Proofs.Ytafhbipafbchcaa
open Go.RowKit AC
set_option linter.unusedVariables false
set_option linter.unusedSimpArgs false

/-- What compare returns. -/
def cmpI (n m : Nat) : Int := if n < m then -1 else if n = m then 0 else 1
theorem cmpI_lt {n m : Nat} (h : n < m) : cmpI n m = -1 := by unfold cmpI; rw [if_pos h]
theorem cmpI_eq {n m : Nat} (h : n = m) : cmpI n m = 0 := by unfold cmpI; rw [if_neg (by omega), if_pos h]
theorem cmpI_gt {n m : Nat} (h : m < n) : cmpI n m = 1 := by unfold cmpI; rw [if_neg (by omega), if_neg (by omega)]

theorem div_split (n j : Nat) : n / B ^ j = n / B ^ (j + 1) * B + dg n j := by
  have h := div_pow_succ n j
  unfold dg
  rw [h, Nat.mul_comm]
  exact (Nat.div_add_mod _ _).symm

theorem lt_of_div_lt {n m k : Nat} (h : n / k < m / k) : n < m := by
  rcases Nat.lt_or_ge n m with h1 | h1
  · exact h1
  · have := Nat.div_le_div_right (c := k) h1; omega

set_option maxHeartbeats 800000 in
theorem compare_any (w : World) (lo lo' : Nat) (v v' : Value) (n m : Nat) (hv : NatR w lo v n) (hv' : NatR w lo' v' m) :
    Calls Try.prog 39 #[v, v'] w (fun e w' => e = .returned (.int .i64 (cmpI n m)) ∧ Qt w w') := by
  obtain ⟨_, A, c, rfl, hkc, hcm, hb⟩ := hv
  obtain ⟨_, A', c', rfl, hkc', hcm', hb'⟩ := hv'
  unfold maxLen at hcm hcm'
  have HB := Lib.hid hb
  have HB' := Lib.hid hb'
  clear hb hb'
  rcases Nat.lt_trichotomy (dl n) (dl m) with h | h | h
  · have hne : (((dl n : Nat) : Int) != ((dl m : Nat) : Int)) = true := by rw [bne_iff_ne]; omega
    go_enter Try.func39, Try.ntmps39
    go_wp2
    go_ret
    exact ⟨by rw [cmpI_lt (lt_of_dl_lt h)]; rfl, Qt.refl _⟩
  · obtain ⟨k, hk⟩ : ∃ k, k = dl n := ⟨_, rfl⟩
    have hm := hk.trans h
    rw [← hk] at HB hkc ⊢
    rw [← hm] at HB' hkc' ⊢
    have HK := Lib.hid hk
    have HM := Lib.hid hm
    clear hk hm h
    go_enter Try.func39, Try.ntmps39
    go_wp2
    go_loopw [5] (fun i wr => ∃ j q : Nat, j ≤ k ∧ i = .int .i64 (↑j - 1) ∧ Hid (n / B ^ j = m / B ^ j) ∧ wr = w.drewN q) (fun i _ => (intOf i + 1).toNat)
    case atStart =>
      refine ⟨k, 0, Nat.le_refl _, rfl, ?_, rfl⟩
      have h1 := lt_dl n
      have h2 := lt_dl m
      rw [← HK.out] at h1
      rw [← HM.out] at h2
      show n / B ^ k = m / B ^ k
      rw [Nat.div_eq_of_lt h1, Nat.div_eq_of_lt h2]
    case round =>
      obtain ⟨j, q, hj, rfl, hd, rfl⟩ := hrel
      rcases j with _ | j
      · go_wp2
        go_ret
        refine ⟨?_, Qt.of _ _⟩
        have h1 : n = m := by simpa using hd.out
        rw [cmpI_eq h1]; rfl
      · obtain ⟨b, off, rfl, hlb, hbb, hcell⟩ := HB.out (by omega)
        obtain ⟨b', off', rfl, hlb', hbb', hcell'⟩ := HB'.out (by omega)
        have hc1 := hcell j (by omega)
        have hc2 := hcell' j (by omega)
        clear hcell hcell'
        have hs1 := Lib.hid (div_split n j)
        have hs2 := Lib.hid (div_split m j)
        rcases Nat.lt_trichotomy (dg n j) (dg m j) with h | h | h
        · have hfin : Hid (n < m) := lt_of_div_lt (k := B ^ j) (by rw [hs1.out, hs2.out, hd.out]; omega)
          go_wp2
          go_quiet (fail)
          go_wp2
          go_ret
          exact ⟨by rw [cmpI_lt hfin.out]; rfl, (Qt.of _ _).drewN _⟩
        · have hfin : Hid (n / B ^ j = m / B ^ j) := by show n / B ^ j = m / B ^ j; rw [hs1.out, hs2.out, hd.out, h]
          have hne1 : decide (dg n j < dg m j) = false := by simp; omega
          have hne2 : decide (dg m j < dg n j) = false := by simp; omega
          clear h
          go_wp2
          go_quiet (fail)
          go_wp2
          go_quiet (fail)
          go_wp2
          go_roundw
          case rel => exact ⟨j, _, by omega, by go_num, hfin, rfl⟩
          case measure => simp [intOf]
        · have hfin : Hid (m < n) := lt_of_div_lt (k := B ^ j) (by rw [hs1.out, hs2.out, hd.out]; omega)
          have hne1 : decide (dg n j < dg m j) = false := by simp; omega
          go_wp2
          go_quiet (fail)
          go_wp2
          go_quiet (fail)
          go_wp2
          go_ret
          exact ⟨by rw [cmpI_gt hfin.out]; rfl, ((Qt.of _ _).drewN _).drewN _⟩
  · have hne : (((dl n : Nat) : Int) != ((dl m : Nat) : Int)) = true := by rw [bne_iff_ne]; omega
    go_enter Try.func39, Try.ntmps39
    go_wp2
    go_ret
    exact ⟨by rw [cmpI_gt (lt_of_dl_lt h)]; rfl, Qt.refl _⟩

end Go.Proofs.Ytafhbipafbchcaa
