/-
  The walks of rational's natural numbers: add, subtract.
-/
import Derived.Test.YtgheaoaicbkaoaaGreatDoorMWalkA
namespace Go.Proofs.YtgheaoaicbkaoaaGreatDoor
open Go.RowKit AC
set_option linter.unusedVariables false
set_option linter.unusedSimpArgs false

theorem vs_sum (n m k : Nat) : vs (fun i => dg n i + dg m i) k = n % B ^ k + m % B ^ k := by
  induction k with
  | zero => simp [vs, Nat.mod_one]
  | succ k ih => rw [vs, ih, mod_pow_succ, mod_pow_succ m, Nat.add_mul]; omega

theorem sum_carry (n m j : Nat) : vs (fun i => dg n i + dg m i) j / B ^ j ≤ 1 := by
  rw [vs_sum]
  have h1 := Nat.mod_lt n (Bp_pos j)
  have h2 := Nat.mod_lt m (Bp_pos j)
  have : (n % B ^ j + m % B ^ j) / B ^ j < 2 := by
    rw [Nat.div_lt_iff_lt_mul (Bp_pos j)]; omega
  omega

theorem sum_digit (n m j : Nat) : dg (n + m) j = (dg n j + dg m j + vs (fun i => dg n i + dg m i) j / B ^ j) % B := by
  have h := dg_vs_any (fun i => dg n i + dg m i) (Nat.lt_succ_self j)
  rw [← h, vs_sum]
  unfold dg
  generalize hk : B ^ j = K
  have e : B ^ (j + 1) = K * B := by rw [Nat.pow_succ, hk]
  rw [e]
  have hK : 0 < K := hk ▸ Bp_pos j
  rw [← Nat.mod_mul_right_div_self, ← Nat.mod_mul_right_div_self, ← Nat.add_mod]

theorem sum_next (n m j : Nat) : vs (fun i => dg n i + dg m i) (j + 1) / B ^ (j + 1) = (dg n j + dg m j + vs (fun i => dg n i + dg m i) j / B ^ j) / B :=
  vs_div_succ (fun i => dg n i + dg m i) j


set_option maxHeartbeats 1000000 in
theorem add_ge (w : World) (lo lo' : Nat) (v v' : Value) (n m : Nat) (hv : NatR w lo v n) (hv' : NatR w lo' v' m) (hk : dl n ≤ 4294967296) (hk' : dl m ≤ 4294967296) (h : dl m ≤ dl n) :
    Calls Tryz.prog 119 #[v, v'] w (Ret fun v2 w' => NatR w' w.heap.size v2 (n + m) ∧ Below w.heap.size w w') := by
  obtain ⟨_, A, c, rfl, hkc, hcm, hb⟩ := hv
  obtain ⟨_, A', c', rfl, hkc', hcm', hb'⟩ := hv'
  unfold maxLen at hcm hcm'
  have HB := Lib.hid hb
  have HB' := Lib.hid hb'
  clear hb hb'
  go_enter Tryz.func119, Tryz.ntmps119
  go_wp2_with (at_make; refine wpList_mk0 _ rfl _ _ 112 rfl w.heap.size 120 Tryz.underlying112 info_u32 _ _ _ (dl n + 1) rfl rfl (by omega) (by omega) (Nat.le_refl _) ?_; intro v0 w0 hown0 hg0)
  have hb0 : Below w.heap.size w w0 := (Below.refl _ _).grown hg0 (Nat.le_refl _) (by simp)
  go_loopw [5, 6, 22] (fun o cv i wr => ∃ j c : Nat, j ≤ dl n ∧ c ≤ 1 ∧ i = .int .i64 j ∧ cv = .int .u32 c ∧ Hid (c = vs (fun i => dg n i + dg m i) j / B ^ j) ∧ Own wr w.heap.size 120 o j (dg (n + m)) ∧ Below w.heap.size w wr) (fun _ _ i _ => dl n - (intOf i).toNat)
  case atStart => exact ⟨0, 0, by omega, by omega, rfl, rfl, by simp [vs, Hid], hown0 _, hb0⟩
  case round =>
    obtain ⟨j, c, hj, hc, rfl, rfl, hcv, hown, hbw⟩ := hrel
    have hd1 : dg n j < 1000000000 := dg_lt n j
    have hd2 : dg m j < 1000000000 := dg_lt m j
    by_cases hlt : j < dl n
    · obtain ⟨b, off, rfl, hlb, hbb, hcell⟩ := HB.out (by omega)
      have hcl := (hbw.cell (p := ⟨b, off + j, none⟩) hbb).trans (hcell j hlt)
      have hdg : Hid ((dg n j + dg m j + c) % 1000000000 = dg (n + m) j) := by
        have h1 := sum_digit n m j
        rw [← hcv.out] at h1
        exact h1.symm
      have hcn : Hid ((dg n j + dg m j + c) / 1000000000 = vs (fun i => dg n i + dg m i) (j + 1) / B ^ (j + 1)) := by
        have h1 := sum_next n m j
        rw [← hcv.out] at h1
        exact h1.symm
      have hc4 : (dg n j + dg m j + c) / 1000000000 ≤ 1 := by omega
      clear hcell
      by_cases hjm : j < dl m
      · obtain ⟨b', off', rfl, hlb', hbb', hcell'⟩ := HB'.out (by omega)
        have hcl' := (hbw.cell (p := ⟨b', off' + j, none⟩) hbb').trans (hcell' j hjm)
        clear hcell'
        go_wp2_with (at_builtin; refine wpList_push wr rfl _ _ 112 rfl w.heap.size 120 Tryz.underlying112 info_u32 _ j (dg (n + m)) (by rfl) hown (by rfl) w hbw hbw.size (by omega) ?c1 ?_)
        case c1 => rw [← hdg.out]; omega
        intro v1 w1 hown1 hb1
        go_wp2
        go_roundw
        case rel => exact ⟨j + 1, (dg n j + dg m j + c) / 1000000000, by omega, hc4, by go_num, by go_num, hcn, hown1, hb1⟩
        case measure => simp [intOf]; omega
      · have hz := dg_beyond (n := m) (i := j) (by omega)
        rw [hz] at hdg hcn hc4
        clear hd1 hd2
        have hd1 : dg n j < 1000000000 := dg_lt n j
        clear hz
        simp only [Nat.add_zero] at hdg hcn hc4
        go_wp2_with (at_builtin; refine wpList_push wr rfl _ _ 112 rfl w.heap.size 120 Tryz.underlying112 info_u32 _ j (dg (n + m)) (by rfl) hown (by rfl) w hbw hbw.size (by omega) ?c1 ?_)
        case c1 => rw [← hdg.out]; omega
        intro v1 w1 hown1 hb1
        go_wp2
        go_roundw
        case rel => exact ⟨j + 1, (dg n j + c) / 1000000000, by omega, hc4, by go_num, by go_num, hcn, hown1, hb1⟩
        case measure => simp [intOf]; omega
    · obtain rfl : j = dl n := by omega
      have hsum : Hid ((n + m) / B ^ dl n = c) := by
        have h1 := lt_dl n
        have h2 : m < B ^ dl n := Nat.lt_of_lt_of_le (lt_dl m) (Nat.pow_le_pow_right B_pos (by omega))
        have h3 := hcv.out
        rw [vs_sum, Nat.mod_eq_of_lt (a := n) h1, Nat.mod_eq_of_lt (a := m) h2] at h3
        exact h3.symm
      by_cases hc0 : 0 < c
      · obtain rfl : c = 1 := by omega
        have hdc : Hid (dg (n + m) (dl n) = 1) := by
          show (n + m) / B ^ dl n % B = 1
          rw [hsum.out]; rfl
        have hlen : Hid (dl (n + m) = dl n + 1) := by
          refine dl_of_digits ?_ (.inr ?_)
          · rw [Nat.pow_succ, Nat.mul_comm, ← Nat.div_lt_iff_lt_mul (Bp_pos _), hsum.out]; decide
          · rw [Nat.add_sub_cancel, hdc.out]; decide
        go_wp2_with (at_builtin; refine wpList_push wr rfl _ _ 112 rfl w.heap.size 120 Tryz.underlying112 info_u32 _ (dl n) (dg (n + m)) (by rfl) hown (by rfl) w hbw hbw.size (by omega) ?c1 ?_)
        case c1 => rw [hdc.out]; rfl
        intro v1 w1 hown1 hb1
        go_wp2
        go_ret
        exact ⟨v1, rfl, NatR.of (hown1.limbs fun i _ => Nat.lt_trans (dg_lt _ i) (by decide)) hlen.out, hb1⟩
      · obtain rfl : c = 0 := by omega
        have hlen : Hid (dl (n + m) = dl n) := by
          refine Nat.le_antisymm (dl_le ?_) (dl_mono (by omega))
          exact (Nat.div_eq_zero_iff_lt (Bp_pos _)).1 hsum.out
        go_wp2
        go_ret
        exact ⟨_, rfl, NatR.of (hown.limbs fun i _ => Nat.lt_trans (dg_lt _ i) (by decide)) hlen.out, hbw⟩

set_option maxHeartbeats 1000000 in
theorem add_lt (w : World) (lo lo' : Nat) (v v' : Value) (n m : Nat) (hv : NatR w lo v n) (hv' : NatR w lo' v' m) (hk : dl n ≤ 4294967296) (hk' : dl m ≤ 4294967296) (h : dl n < dl m) :
    Calls Tryz.prog 119 #[v, v'] w (Ret fun v2 w' => NatR w' w.heap.size v2 (n + m) ∧ Below w.heap.size w w') := by
  obtain ⟨_, A', c', rfl, hkc, hcm, hb⟩ := hv'
  obtain ⟨_, A, c, rfl, hkc', hcm', hb'⟩ := hv
  unfold maxLen at hcm hcm'
  have HB := Lib.hid hb
  have HB' := Lib.hid hb'
  clear hb hb'
  go_enter Tryz.func119, Tryz.ntmps119
  go_wp2_with (at_make; refine wpList_mk0 _ rfl _ _ 112 rfl w.heap.size 120 Tryz.underlying112 info_u32 _ _ _ (dl m + 1) rfl rfl (by omega) (by omega) (Nat.le_refl _) ?_; intro v0 w0 hown0 hg0)
  have hb0 : Below w.heap.size w w0 := (Below.refl _ _).grown hg0 (Nat.le_refl _) (by simp)
  go_loopw [5, 6, 22] (fun o cv i wr => ∃ j c : Nat, j ≤ dl m ∧ c ≤ 1 ∧ i = .int .i64 j ∧ cv = .int .u32 c ∧ Hid (c = vs (fun i => dg n i + dg m i) j / B ^ j) ∧ Own wr w.heap.size 120 o j (dg (n + m)) ∧ Below w.heap.size w wr) (fun _ _ i _ => dl m - (intOf i).toNat)
  case atStart => exact ⟨0, 0, by omega, by omega, rfl, rfl, by simp [vs, Hid], hown0 _, hb0⟩
  case round =>
    obtain ⟨j, c, hj, hc, rfl, rfl, hcv, hown, hbw⟩ := hrel
    have hd1 : dg n j < 1000000000 := dg_lt n j
    have hd2 : dg m j < 1000000000 := dg_lt m j
    by_cases hlt : j < dl m
    · obtain ⟨b, off, rfl, hlb, hbb, hcell⟩ := HB.out (by omega)
      have hcl := (hbw.cell (p := ⟨b, off + j, none⟩) hbb).trans (hcell j hlt)
      have hdg : Hid ((dg n j + dg m j + c) % 1000000000 = dg (n + m) j) := by
        have h1 := sum_digit n m j
        rw [← hcv.out] at h1
        exact h1.symm
      have hcn : Hid ((dg n j + dg m j + c) / 1000000000 = vs (fun i => dg n i + dg m i) (j + 1) / B ^ (j + 1)) := by
        have h1 := sum_next n m j
        rw [← hcv.out] at h1
        exact h1.symm
      have hc4 : (dg n j + dg m j + c) / 1000000000 ≤ 1 := by omega
      clear hcell
      by_cases hjm : j < dl n
      · obtain ⟨b', off', rfl, hlb', hbb', hcell'⟩ := HB'.out (by omega)
        have hcl' := (hbw.cell (p := ⟨b', off' + j, none⟩) hbb').trans (hcell' j hjm)
        clear hcell'
        go_wp2_with (at_builtin; refine wpList_push wr rfl _ _ 112 rfl w.heap.size 120 Tryz.underlying112 info_u32 _ j (dg (n + m)) (by rfl) hown (by rfl) w hbw hbw.size (by omega) ?c1 ?_)
        case c1 => rw [← hdg.out]; omega
        intro v1 w1 hown1 hb1
        go_wp2
        go_roundw
        case rel => exact ⟨j + 1, (dg n j + dg m j + c) / 1000000000, by omega, hc4, by go_num, by go_num, hcn, hown1, hb1⟩
        case measure => simp [intOf]; omega
      · have hz := dg_beyond (n := n) (i := j) (by omega)
        rw [hz] at hdg hcn hc4
        clear hd1 hd2
        have hd1 : dg m j < 1000000000 := dg_lt m j
        clear hz
        simp only [Nat.zero_add] at hdg hcn hc4
        go_wp2_with (at_builtin; refine wpList_push wr rfl _ _ 112 rfl w.heap.size 120 Tryz.underlying112 info_u32 _ j (dg (n + m)) (by rfl) hown (by rfl) w hbw hbw.size (by omega) ?c1 ?_)
        case c1 => rw [← hdg.out]; omega
        intro v1 w1 hown1 hb1
        go_wp2
        go_roundw
        case rel => exact ⟨j + 1, (dg m j + c) / 1000000000, by omega, hc4, by go_num, by go_num, hcn, hown1, hb1⟩
        case measure => simp [intOf]; omega
    · obtain rfl : j = dl m := by omega
      have hsum : Hid ((n + m) / B ^ dl m = c) := by
        have h1 := lt_dl m
        have h2 : n < B ^ dl m := Nat.lt_of_lt_of_le (lt_dl n) (Nat.pow_le_pow_right B_pos (by omega))
        have h3 := hcv.out
        rw [vs_sum, Nat.mod_eq_of_lt (a := m) h1, Nat.mod_eq_of_lt (a := n) h2] at h3
        exact h3.symm
      by_cases hc0 : 0 < c
      · obtain rfl : c = 1 := by omega
        have hdc : Hid (dg (n + m) (dl m) = 1) := by
          show (n + m) / B ^ dl m % B = 1
          rw [hsum.out]; rfl
        have hlen : Hid (dl (n + m) = dl m + 1) := by
          refine dl_of_digits ?_ (.inr ?_)
          · rw [Nat.pow_succ, Nat.mul_comm, ← Nat.div_lt_iff_lt_mul (Bp_pos _), hsum.out]; decide
          · rw [Nat.add_sub_cancel, hdc.out]; decide
        go_wp2_with (at_builtin; refine wpList_push wr rfl _ _ 112 rfl w.heap.size 120 Tryz.underlying112 info_u32 _ (dl m) (dg (n + m)) (by rfl) hown (by rfl) w hbw hbw.size (by omega) ?c1 ?_)
        case c1 => rw [hdc.out]; rfl
        intro v1 w1 hown1 hb1
        go_wp2
        go_ret
        exact ⟨v1, rfl, NatR.of (hown1.limbs fun i _ => Nat.lt_trans (dg_lt _ i) (by decide)) hlen.out, hb1⟩
      · obtain rfl : c = 0 := by omega
        have hlen : Hid (dl (n + m) = dl m) := by
          refine Nat.le_antisymm (dl_le ?_) (dl_mono (by omega))
          exact (Nat.div_eq_zero_iff_lt (Bp_pos _)).1 hsum.out
        go_wp2
        go_ret
        exact ⟨_, rfl, NatR.of (hown.limbs fun i _ => Nat.lt_trans (dg_lt _ i) (by decide)) hlen.out, hbw⟩

theorem add_any (w : World) (lo lo' : Nat) (v v' : Value) (n m : Nat) (hv : NatR w lo v n) (hv' : NatR w lo' v' m) (hk : dl n ≤ 4294967296) (hk' : dl m ≤ 4294967296) :
    Calls Tryz.prog 119 #[v, v'] w (Ret fun v2 w' => NatR w' w.heap.size v2 (n + m) ∧ Below w.heap.size w w') := by
  rcases Nat.lt_or_ge (dl n) (dl m) with h | h
  · exact add_lt w lo lo' v v' n m hv hv' hk hk' h
  · exact add_ge w lo lo' v v' n m hv hv' hk hk' h

end Go.Proofs.YtgheaoaicbkaoaaGreatDoor

/-
  The walks of rational's natural numbers: subtract, isOne, fromWord, word.
-/
namespace Go.Proofs.YtgheaoaicbkaoaaGreatDoor
open Go.RowKit AC
set_option linter.unusedVariables false
set_option linter.unusedSimpArgs false

theorem sub_step {n m N j c : Nat} (hn : n = m + N) (hc : c = vs (fun i => dg m i + dg N i) j / B ^ j) :
    ∃ c', c' ≤ 1 ∧ c' = vs (fun i => dg m i + dg N i) (j + 1) / B ^ (j + 1) ∧ dg m j + dg N j + c = c' * 1000000000 + dg n j := by
  have h1 := sum_digit m N j
  have h2 := sum_next m N j
  rw [← hn, ← hc, B_eq] at h1
  rw [← hc, B_eq] at h2
  refine ⟨_, sum_carry m N (j + 1), rfl, ?_⟩
  rw [h1]
  rw [B_eq]
  rw [h2]
  omega

set_option maxHeartbeats 1000000 in
theorem subtract_any (w : World) (lo lo' : Nat) (v v' : Value) (n m N : Nat) (hv : NatR w lo v n) (hv' : NatR w lo' v' m) (hk : dl n ≤ 4294967296) (hn : n = m + N) :
    Calls Tryz.prog 120 #[v, v'] w (Ret fun v2 w' => NatR w' w.heap.size v2 N ∧ Below w.heap.size w w') := by
  obtain ⟨_, A, c, rfl, hkc, hcm, hb⟩ := hv
  obtain ⟨_, A', c', rfl, hkc', hcm', hb'⟩ := hv'
  unfold maxLen at hcm hcm'
  have HB := Lib.hid hb
  have HB' := Lib.hid hb'
  have hmn : dl m ≤ dl n := dl_mono (by omega)
  have HN := Lib.hid hn
  clear hb hb' hn
  go_enter Tryz.func120, Tryz.ntmps120
  go_wp2_with (at_make; refine wpList_mk0 _ rfl _ _ 112 rfl w.heap.size 120 Tryz.underlying112 info_u32 _ _ _ (dl n) rfl rfl (by omega) (by omega) (Nat.le_refl _) ?_; intro v0 w0 hown0 hg0)
  have hb0 : Below w.heap.size w w0 := (Below.refl _ _).grown hg0 (Nat.le_refl _) (by simp)
  go_loopw [5, 6, 14] (fun o cv i wr => ∃ j c : Nat, j ≤ dl n ∧ c ≤ 1 ∧ i = .int .i64 j ∧ cv = .int .i64 c ∧ Hid (c = vs (fun i => dg m i + dg N i) j / B ^ j) ∧ Own wr w.heap.size 120 o j (dg N) ∧ Below w.heap.size w wr) (fun _ _ i _ => dl n - (intOf i).toNat)
  case atStart => exact ⟨0, 0, by omega, by omega, rfl, rfl, by simp [vs, Hid], hown0 _, hb0⟩
  case round =>
    obtain ⟨j, c, hj, hc, rfl, rfl, hcv, hown, hbw⟩ := hrel
    have hd1 : dg n j < 1000000000 := dg_lt n j
    have hd2 : dg m j < 1000000000 := dg_lt m j
    have hd3 : dg N j < 1000000000 := dg_lt N j
    by_cases hlt : j < dl n
    · obtain ⟨b, off, rfl, hlb, hbb, hcell⟩ := HB.out (by omega)
      have hcl := (hbw.cell (p := ⟨b, off + j, none⟩) hbb).trans (hcell j hlt)
      clear hcell
      obtain ⟨c2, hc2, hc2v, hstep⟩ := sub_step HN.out hcv.out
      have HS := Lib.hid hstep
      have HV := Lib.hid hc2v
      clear hstep hc2v
      by_cases hjm : j < dl m
      · obtain ⟨b', off', rfl, hlb', hbb', hcell'⟩ := HB'.out (by omega)
        have hcl' := (hbw.cell (p := ⟨b', off' + j, none⟩) hbb').trans (hcell' j hjm)
        clear hcell'
        by_cases hneg : ((dg n j : Nat) : Int) - c - dg m j < 0
        · obtain rfl : c2 = 1 := by have := HS.out; omega
          go_wp2_with (at_builtin; refine wpList_push wr rfl _ _ 112 rfl w.heap.size 120 Tryz.underlying112 info_u32 _ j (dg N) (by rfl) hown (by rfl) w hbw hbw.size (by omega) ?c1 ?_)
          case c1 => have := HS.out; omega
          intro v1 w1 hown1 hb1
          go_wp2
          go_roundw
          case rel => exact ⟨j + 1, 1, by omega, by omega, by go_num, by go_num, HV, hown1, hb1⟩
          case measure => simp [intOf]; omega
        · obtain rfl : c2 = 0 := by have := HS.out; omega
          go_wp2_with (at_builtin; refine wpList_push wr rfl _ _ 112 rfl w.heap.size 120 Tryz.underlying112 info_u32 _ j (dg N) (by rfl) hown (by rfl) w hbw hbw.size (by omega) ?c1 ?_)
          case c1 => have := HS.out; omega
          intro v1 w1 hown1 hb1
          go_wp2
          go_roundw
          case rel => exact ⟨j + 1, 0, by omega, by omega, by go_num, by go_num, HV, hown1, hb1⟩
          case measure => simp [intOf]; omega
      · have hz : Hid (dg m j = 0) := dg_beyond (n := m) (i := j) (by omega)
        by_cases hneg : ((dg n j : Nat) : Int) - c < 0
        · obtain rfl : c2 = 1 := by have := HS.out; have := hz.out; omega
          go_wp2_with (at_builtin; refine wpList_push wr rfl _ _ 112 rfl w.heap.size 120 Tryz.underlying112 info_u32 _ j (dg N) (by rfl) hown (by rfl) w hbw hbw.size (by omega) ?c1 ?_)
          case c1 => have := HS.out; have := hz.out; omega
          intro v1 w1 hown1 hb1
          go_wp2
          go_roundw
          case rel => exact ⟨j + 1, 1, by omega, by omega, by go_num, by go_num, HV, hown1, hb1⟩
          case measure => simp [intOf]; omega
        · obtain rfl : c2 = 0 := by have := HS.out; have := hz.out; omega
          go_wp2_with (at_builtin; refine wpList_push wr rfl _ _ 112 rfl w.heap.size 120 Tryz.underlying112 info_u32 _ j (dg N) (by rfl) hown (by rfl) w hbw hbw.size (by omega) ?c1 ?_)
          case c1 => have := HS.out; have := hz.out; omega
          intro v1 w1 hown1 hb1
          go_wp2
          go_roundw
          case rel => exact ⟨j + 1, 0, by omega, by omega, by go_num, by go_num, HV, hown1, hb1⟩
          case measure => simp [intOf]; omega
    · obtain rfl : j = dl n := by omega
      have hNj : Hid (N < B ^ dl n) := Nat.lt_of_le_of_lt (by have := HN.out; omega) (lt_dl n)
      go_wp2_with fail
      refine (trim_any _ _ _ _ _ (hown.limbs fun i _ => Nat.lt_trans (dg_lt N i) (by decide)) hNj.out).mono ?_
      rintro e w' ⟨v', rfl, hnat, rfl⟩
      go_wp2
      go_ret
      exact ⟨v', rfl, hnat, hbw⟩

theorem dl_one : dl 1 = 1 := dl_unique (k := 0) (by decide) (by decide)
theorem dg_zero_of {n : Nat} (h : n < B) : dg n 0 = n := by unfold dg; rw [Nat.pow_zero, Nat.div_one, Nat.mod_eq_of_lt h]

theorem isOne_yes (w : World) (lo : Nat) (v : Value) (hv : NatR w lo v 1) :
    Calls Tryz.prog 116 #[v] w (fun e w' => e = .returned (.bool true) ∧ w = w') := by
  obtain ⟨_, A, c, rfl, hkc, hcm, hb⟩ := hv
  rw [dl_one] at hkc hb ⊢
  obtain ⟨b, off, rfl, hlb, hbb, hcell⟩ := hb (by omega)
  have hcl := hcell 0 (by omega)
  rw [dg_zero_of (by decide), Nat.add_zero] at hcl
  clear hcell hb
  go_enter Tryz.func116, Tryz.ntmps116
  go_wp2
  go_ret
  exact ⟨rfl, rfl⟩

theorem isOne_no (w : World) (lo : Nat) (v : Value) (n : Nat) (hv : NatR w lo v n) (hn : n ≠ 1) :
    Calls Tryz.prog 116 #[v] w (fun e w' => e = .returned (.bool false) ∧ w = w') := by
  obtain ⟨_, A, c, rfl, hkc, hcm, hb⟩ := hv
  unfold maxLen at hcm
  by_cases h1 : dl n = 1
  · rw [h1] at hkc hb ⊢
    obtain ⟨b, off, rfl, hlb, hbb, hcell⟩ := hb (by omega)
    have hcl := hcell 0 (by omega)
    have hB : n < B := by have := lt_dl n; rw [h1] at this; simpa using this
    rw [dg_zero_of hB, Nat.add_zero] at hcl
    have hne : (((n : Nat) : Int) == 1) = false := by rw [beq_eq_false_iff_ne]; omega
    clear hcell hb h1 hB
    go_enter Tryz.func116, Tryz.ntmps116
    go_wp2
    go_ret
    exact ⟨rfl, rfl⟩
  · have hne : (((dl n : Nat) : Int) == 1) = false := by rw [beq_eq_false_iff_ne]; omega
    clear hb
    go_enter Tryz.func116, Tryz.ntmps116
    go_wp2
    go_ret
    exact ⟨rfl, rfl⟩

set_option maxHeartbeats 1000000 in
theorem fromWord_any (w : World) (n : Nat) (hn : n < 18446744073709551616) :
    Calls Tryz.prog 63 #[.int .u64 n] w (Ret fun v2 w' => NatR w' w.heap.size v2 n ∧ Below w.heap.size w w') := by
  go_enter Tryz.func63, Tryz.ntmps63
  go_wp2
  go_loopw [0, 3] (fun x o wr => ∃ j r : Nat, j ≤ 3 ∧ r < 18446744073709551616 ∧ x = .int .u64 r ∧ Hid (r = n / B ^ j) ∧ Hid (j = 0 ∨ B ^ (j - 1) ≤ n) ∧ Own wr w.heap.size 120 o j (dg n) ∧ Below w.heap.size w wr) (fun x _ _ => (intOf x).toNat)
  case atStart => exact ⟨0, n, by omega, hn, rfl, by simp [Hid], .inl rfl, World.ownsRow_nil _ _ _ _, Below.refl _ _⟩
  case round =>
    obtain ⟨j, r, hj, hr, rfl, hrv, hjn, hown, hbw⟩ := hrel
    by_cases h0 : 0 < r
    · have hge : Hid (B ^ j ≤ n) := by
        rcases Nat.lt_or_ge n (B ^ j) with h | h
        · have := hrv.out; rw [Nat.div_eq_of_lt h] at this; omega
        · exact h
      have hj2 : j ≤ 2 := by
        rcases Nat.lt_or_ge 2 j with h | h
        · exfalso
          have h1 : B ^ 3 ≤ B ^ j := Nat.pow_le_pow_right B_pos (by omega)
          have h2 := hge.out
          have h3 : B ^ 3 = 1000000000000000000000000000 := by decide
          omega
        · exact h
      have hdg : Hid (r % 1000000000 = dg n j) := by show _ = n / B ^ j % B; rw [← hrv.out]; rfl
      have hnx : Hid (r / 1000000000 = n / B ^ (j + 1)) := by show _ = _; rw [div_pow_succ, ← hrv.out]; rfl
      go_wp2_with (at_builtin; refine wpList_push wr rfl _ _ 112 rfl w.heap.size 120 Tryz.underlying112 info_u32 _ j (dg n) (by rfl) hown (by rfl) w hbw hbw.size (by omega) ?c1 ?_)
      case c1 => rw [← hdg.out]; omega
      intro v1 w1 hown1 hb1
      go_wp2
      go_roundw
      case rel => exact ⟨j + 1, r / 1000000000, by omega, by omega, by go_num, hnx, .inr (by simpa using hge.out), hown1, hb1⟩
      case measure => simp [intOf]; omega
    · obtain rfl : r = 0 := by omega
      have hlen : Hid (dl n = j) := by
        have h1 : n < B ^ j := (Nat.div_eq_zero_iff_lt (Bp_pos j)).1 hrv.out.symm
        refine Nat.le_antisymm (dl_le h1) ?_
        rcases hjn.out with h | h
        · omega
        · have := dl_gt h; omega
      go_wp2
      go_ret
      exact ⟨_, rfl, NatR.of (hown.limbs fun i _ => Nat.lt_trans (dg_lt _ i) (by decide)) hlen.out, hbw⟩

end Go.Proofs.YtgheaoaicbkaoaaGreatDoor

