/-
  The walks of rational's natural numbers: add, subtract.
-/
import Derived.Test.YtafhbipafbchcaaWalkB
namespace Go.Proofs.Ytafhbipafbchcaa
open Go.RowKit AC
set_option linter.unusedVariables false
set_option linter.unusedSimpArgs false

theorem vs_sum (n m k : Nat) : vs (fun i => dg n i + dg m i) k = n % B ^ k + m % B ^ k := by
  induction k with
  | zero => simp [vs, Nat.mod_one]
  | succ k ih => rw [vs, ih, mod_pow_succ, mod_pow_succ m, Nat.add_mul]; omega

theorem sum_carry (n m j : Nat) : vs (fun i => dg n i + dg m i) j / B ^ j ≤ 1 := by
  rw [vs_sum]
  have h1 := Nat.mod_lt n (Bp_pos j)
  have h2 := Nat.mod_lt m (Bp_pos j)
  have : (n % B ^ j + m % B ^ j) / B ^ j < 2 := by
    rw [Nat.div_lt_iff_lt_mul (Bp_pos j)]; omega
  omega

theorem sum_digit (n m j : Nat) : dg (n + m) j = (dg n j + dg m j + vs (fun i => dg n i + dg m i) j / B ^ j) % B := by
  have h := dg_vs_any (fun i => dg n i + dg m i) (Nat.lt_succ_self j)
  rw [← h, vs_sum]
  unfold dg
  generalize hk : B ^ j = K
  have e : B ^ (j + 1) = K * B := by rw [Nat.pow_succ, hk]
  rw [e]
  have hK : 0 < K := hk ▸ Bp_pos j
  rw [← Nat.mod_mul_right_div_self, ← Nat.mod_mul_right_div_self, ← Nat.add_mod]

theorem sum_next (n m j : Nat) : vs (fun i => dg n i + dg m i) (j + 1) / B ^ (j + 1) = (dg n j + dg m j + vs (fun i => dg n i + dg m i) j / B ^ j) / B :=
  vs_div_succ (fun i => dg n i + dg m i) j


set_option maxHeartbeats 1000000 in
theorem add_ge (w : World) (lo lo' : Nat) (v v' : Value) (n m : Nat) (hv : NatR w lo v n) (hv' : NatR w lo' v' m) (hk : dl n ≤ 4294967296) (hk' : dl m ≤ 4294967296) (h : dl m ≤ dl n) :
    Calls Try.prog 46 #[v, v'] w (Ret fun v2 w' => NatR w' w.heap.size v2 (n + m) ∧ Below w.heap.size w w') := by
  obtain ⟨_, A, c, rfl, hkc, hcm, hb⟩ := hv
  obtain ⟨_, A', c', rfl, hkc', hcm', hb'⟩ := hv'
  unfold maxLen at hcm hcm'
  have HB := Lib.hid hb
  have HB' := Lib.hid hb'
  clear hb hb'
  go_enter Try.func46, Try.ntmps46
  go_wp2_with (at_make; refine wpList_mk0 _ rfl _ _ 51 rfl w.heap.size 49 Try.underlying51 info_u32 _ _ _ (dl n + 1) rfl rfl (by omega) (by omega) (Nat.le_refl _) ?_; intro v0 w0 hown0 hg0)
  have hb0 : Below w.heap.size w w0 := (Below.refl _ _).grown hg0 (Nat.le_refl _) (by simp)
  go_loopw [5, 6, 22] (fun o cv i wr => ∃ j c : Nat, j ≤ dl n ∧ c ≤ 1 ∧ i = .int .i64 j ∧ cv = .int .u32 c ∧ Hid (c = vs (fun i => dg n i + dg m i) j / B ^ j) ∧ Own wr w.heap.size 49 o j (dg (n + m)) ∧ Below w.heap.size w wr) (fun _ _ i _ => dl n - (intOf i).toNat)
  case atStart => exact ⟨0, 0, by omega, by omega, rfl, rfl, by simp [vs, Hid], hown0 _, hb0⟩
  case round =>
    obtain ⟨j, c, hj, hc, rfl, rfl, hcv, hown, hbw⟩ := hrel
    have hd1 : dg n j < 1000000000 := dg_lt n j
    have hd2 : dg m j < 1000000000 := dg_lt m j
    by_cases hlt : j < dl n
    · obtain ⟨b, off, rfl, hlb, hbb, hcell⟩ := HB.out (by omega)
      have hcl := (hbw.cell (p := ⟨b, off + j, none⟩) hbb).trans (hcell j hlt)
      have hdg : Hid ((dg n j + dg m j + c) % 1000000000 = dg (n + m) j) := by
        have h1 := sum_digit n m j
        rw [← hcv.out] at h1
        exact h1.symm
      have hcn : Hid ((dg n j + dg m j + c) / 1000000000 = vs (fun i => dg n i + dg m i) (j + 1) / B ^ (j + 1)) := by
        have h1 := sum_next n m j
        rw [← hcv.out] at h1
        exact h1.symm
      have hc4 : (dg n j + dg m j + c) / 1000000000 ≤ 1 := by omega
      clear hcell
      by_cases hjm : j < dl m
      · obtain ⟨b', off', rfl, hlb', hbb', hcell'⟩ := HB'.out (by omega)
        have hcl' := (hbw.cell (p := ⟨b', off' + j, none⟩) hbb').trans (hcell' j hjm)
        clear hcell'
        go_wp2_with (at_builtin; refine wpList_push wr rfl _ _ 51 rfl w.heap.size 49 Try.underlying51 info_u32 _ j (dg (n + m)) (by rfl) hown (by rfl) w hbw hbw.size (by omega) ?c1 ?_)
        case c1 => rw [← hdg.out]; omega
        intro v1 w1 hown1 hb1
        go_wp2
        go_roundw
        case rel => exact ⟨j + 1, (dg n j + dg m j + c) / 1000000000, by omega, hc4, by go_num, by go_num, hcn, hown1, hb1⟩
        case measure => simp [intOf]; omega
      · have hz := dg_beyond (n := m) (i := j) (by omega)
        rw [hz] at hdg hcn hc4
        clear hd1 hd2
        have hd1 : dg n j < 1000000000 := dg_lt n j
        clear hz
        simp only [Nat.add_zero] at hdg hcn hc4
        go_wp2_with (at_builtin; refine wpList_push wr rfl _ _ 51 rfl w.heap.size 49 Try.underlying51 info_u32 _ j (dg (n + m)) (by rfl) hown (by rfl) w hbw hbw.size (by omega) ?c1 ?_)
        case c1 => rw [← hdg.out]; omega
        intro v1 w1 hown1 hb1
        go_wp2
        go_roundw
        case rel => exact ⟨j + 1, (dg n j + c) / 1000000000, by omega, hc4, by go_num, by go_num, hcn, hown1, hb1⟩
        case measure => simp [intOf]; omega
    · obtain rfl : j = dl n := by omega
      have hsum : Hid ((n + m) / B ^ dl n = c) := by
        have h1 := lt_dl n
        have h2 : m < B ^ dl n := Nat.lt_of_lt_of_le (lt_dl m) (Nat.pow_le_pow_right B_pos (by omega))
        have h3 := hcv.out
        rw [vs_sum, Nat.mod_eq_of_lt (a := n) h1, Nat.mod_eq_of_lt (a := m) h2] at h3
        exact h3.symm
      by_cases hc0 : 0 < c
      · obtain rfl : c = 1 := by omega
        have hdc : Hid (dg (n + m) (dl n) = 1) := by
          show (n + m) / B ^ dl n % B = 1
          rw [hsum.out]; rfl
        have hlen : Hid (dl (n + m) = dl n + 1) := by
          refine dl_of_digits ?_ (.inr ?_)
          · rw [Nat.pow_succ, Nat.mul_comm, ← Nat.div_lt_iff_lt_mul (Bp_pos _), hsum.out]; decide
          · rw [Nat.add_sub_cancel, hdc.out]; decide
        go_wp2_with (at_builtin; refine wpList_push wr rfl _ _ 51 rfl w.heap.size 49 Try.underlying51 info_u32 _ (dl n) (dg (n + m)) (by rfl) hown (by rfl) w hbw hbw.size (by omega) ?c1 ?_)
        case c1 => rw [hdc.out]; rfl
        intro v1 w1 hown1 hb1
        go_wp2
        go_ret
        exact ⟨v1, rfl, NatR.of (hown1.limbs fun i _ => Nat.lt_trans (dg_lt _ i) (by decide)) hlen.out, hb1⟩
      · obtain rfl : c = 0 := by omega
        have hlen : Hid (dl (n + m) = dl n) := by
          refine Nat.le_antisymm (dl_le ?_) (dl_mono (by omega))
          exact (Nat.div_eq_zero_iff_lt (Bp_pos _)).1 hsum.out
        go_wp2
        go_ret
        exact ⟨_, rfl, NatR.of (hown.limbs fun i _ => Nat.lt_trans (dg_lt _ i) (by decide)) hlen.out, hbw⟩

set_option maxHeartbeats 1000000 in
theorem add_lt (w : World) (lo lo' : Nat) (v v' : Value) (n m : Nat) (hv : NatR w lo v n) (hv' : NatR w lo' v' m) (hk : dl n ≤ 4294967296) (hk' : dl m ≤ 4294967296) (h : dl n < dl m) :
    Calls Try.prog 46 #[v, v'] w (Ret fun v2 w' => NatR w' w.heap.size v2 (n + m) ∧ Below w.heap.size w w') := by
  obtain ⟨_, A', c', rfl, hkc, hcm, hb⟩ := hv'
  obtain ⟨_, A, c, rfl, hkc', hcm', hb'⟩ := hv
  unfold maxLen at hcm hcm'
  have HB := Lib.hid hb
  have HB' := Lib.hid hb'
  clear hb hb'
  go_enter Try.func46, Try.ntmps46
  go_wp2_with (at_make; refine wpList_mk0 _ rfl _ _ 51 rfl w.heap.size 49 Try.underlying51 info_u32 _ _ _ (dl m + 1) rfl rfl (by omega) (by omega) (Nat.le_refl _) ?_; intro v0 w0 hown0 hg0)
  have hb0 : Below w.heap.size w w0 := (Below.refl _ _).grown hg0 (Nat.le_refl _) (by simp)
  go_loopw [5, 6, 22] (fun o cv i wr => ∃ j c : Nat, j ≤ dl m ∧ c ≤ 1 ∧ i = .int .i64 j ∧ cv = .int .u32 c ∧ Hid (c = vs (fun i => dg n i + dg m i) j / B ^ j) ∧ Own wr w.heap.size 49 o j (dg (n + m)) ∧ Below w.heap.size w wr) (fun _ _ i _ => dl m - (intOf i).toNat)
  case atStart => exact ⟨0, 0, by omega, by omega, rfl, rfl, by simp [vs, Hid], hown0 _, hb0⟩
  case round =>
    obtain ⟨j, c, hj, hc, rfl, rfl, hcv, hown, hbw⟩ := hrel
    have hd1 : dg n j < 1000000000 := dg_lt n j
    have hd2 : dg m j < 1000000000 := dg_lt m j
    by_cases hlt : j < dl m
    · obtain ⟨b, off, rfl, hlb, hbb, hcell⟩ := HB.out (by omega)
      have hcl := (hbw.cell (p := ⟨b, off + j, none⟩) hbb).trans (hcell j hlt)
      have hdg : Hid ((dg n j + dg m j + c) % 1000000000 = dg (n + m) j) := by
        have h1 := sum_digit n m j
        rw [← hcv.out] at h1
        exact h1.symm
      have hcn : Hid ((dg n j + dg m j + c) / 1000000000 = vs (fun i => dg n i + dg m i) (j + 1) / B ^ (j + 1)) := by
        have h1 := sum_next n m j
        rw [← hcv.out] at h1
        exact h1.symm
      have hc4 : (dg n j + dg m j + c) / 1000000000 ≤ 1 := by omega
      clear hcell
      by_cases hjm : j < dl n
      · obtain ⟨b', off', rfl, hlb', hbb', hcell'⟩ := HB'.out (by omega)
        have hcl' := (hbw.cell (p := ⟨b', off' + j, none⟩) hbb').trans (hcell' j hjm)
        clear hcell'
        go_wp2_with (at_builtin; refine wpList_push wr rfl _ _ 51 rfl w.heap.size 49 Try.underlying51 info_u32 _ j (dg (n + m)) (by rfl) hown (by rfl) w hbw hbw.size (by omega) ?c1 ?_)
        case c1 => rw [← hdg.out]; omega
        intro v1 w1 hown1 hb1
        go_wp2
        go_roundw
        case rel => exact ⟨j + 1, (dg n j + dg m j + c) / 1000000000, by omega, hc4, by go_num, by go_num, hcn, hown1, hb1⟩
        case measure => simp [intOf]; omega
      · have hz := dg_beyond (n := n) (i := j) (by omega)
        rw [hz] at hdg hcn hc4
        clear hd1 hd2
        have hd1 : dg m j < 1000000000 := dg_lt m j
        clear hz
        simp only [Nat.zero_add] at hdg hcn hc4
        go_wp2_with (at_builtin; refine wpList_push wr rfl _ _ 51 rfl w.heap.size 49 Try.underlying51 info_u32 _ j (dg (n + m)) (by rfl) hown (by rfl) w hbw hbw.size (by omega) ?c1 ?_)
        case c1 => rw [← hdg.out]; omega
        intro v1 w1 hown1 hb1
        go_wp2
        go_roundw
        case rel => exact ⟨j + 1, (dg m j + c) / 1000000000, by omega, hc4, by go_num, by go_num, hcn, hown1, hb1⟩
        case measure => simp [intOf]; omega
    · obtain rfl : j = dl m := by omega
      have hsum : Hid ((n + m) / B ^ dl m = c) := by
        have h1 := lt_dl m
        have h2 : n < B ^ dl m := Nat.lt_of_lt_of_le (lt_dl n) (Nat.pow_le_pow_right B_pos (by omega))
        have h3 := hcv.out
        rw [vs_sum, Nat.mod_eq_of_lt (a := m) h1, Nat.mod_eq_of_lt (a := n) h2] at h3
        exact h3.symm
      by_cases hc0 : 0 < c
      · obtain rfl : c = 1 := by omega
        have hdc : Hid (dg (n + m) (dl m) = 1) := by
          show (n + m) / B ^ dl m % B = 1
          rw [hsum.out]; rfl
        have hlen : Hid (dl (n + m) = dl m + 1) := by
          refine dl_of_digits ?_ (.inr ?_)
          · rw [Nat.pow_succ, Nat.mul_comm, ← Nat.div_lt_iff_lt_mul (Bp_pos _), hsum.out]; decide
          · rw [Nat.add_sub_cancel, hdc.out]; decide
        go_wp2_with (at_builtin; refine wpList_push wr rfl _ _ 51 rfl w.heap.size 49 Try.underlying51 info_u32 _ (dl m) (dg (n + m)) (by rfl) hown (by rfl) w hbw hbw.size (by omega) ?c1 ?_)
        case c1 => rw [hdc.out]; rfl
        intro v1 w1 hown1 hb1
        go_wp2
        go_ret
        exact ⟨v1, rfl, NatR.of (hown1.limbs fun i _ => Nat.lt_trans (dg_lt _ i) (by decide)) hlen.out, hb1⟩
      · obtain rfl : c = 0 := by omega
        have hlen : Hid (dl (n + m) = dl m) := by
          refine Nat.le_antisymm (dl_le ?_) (dl_mono (by omega))
          exact (Nat.div_eq_zero_iff_lt (Bp_pos _)).1 hsum.out
        go_wp2
        go_ret
        exact ⟨_, rfl, NatR.of (hown.limbs fun i _ => Nat.lt_trans (dg_lt _ i) (by decide)) hlen.out, hbw⟩

theorem add_any (w : World) (lo lo' : Nat) (v v' : Value) (n m : Nat) (hv : NatR w lo v n) (hv' : NatR w lo' v' m) (hk : dl n ≤ 4294967296) (hk' : dl m ≤ 4294967296) :
    Calls Try.prog 46 #[v, v'] w (Ret fun v2 w' => NatR w' w.heap.size v2 (n + m) ∧ Below w.heap.size w w') := by
  rcases Nat.lt_or_ge (dl n) (dl m) with h | h
  · exact add_lt w lo lo' v v' n m hv hv' hk hk' h
  · exact add_ge w lo lo' v v' n m hv hv' hk hk' h

end Go.Proofs.Ytafhbipafbchcaa
