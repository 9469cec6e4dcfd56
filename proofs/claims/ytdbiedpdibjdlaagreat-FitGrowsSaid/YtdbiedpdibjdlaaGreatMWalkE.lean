/-
  The walk of rational's word, where the number fits.
-/
import Derived.Test.YtdbiedpdibjdlaaGreatMWalkA
namespace Go.Proofs.YtdbiedpdibjdlaaGreat
open Go.RowKit AC
set_option linter.unusedVariables false
set_option linter.unusedSimpArgs false

theorem div_split' (n j : Nat) : n / B ^ j = n / B ^ (j + 1) * B + dg n j := by
  have h := div_pow_succ n j
  unfold dg
  rw [h, Nat.mul_comm]
  exact (Nat.div_add_mod _ _).symm

set_option maxHeartbeats 1000000 in
theorem word_yes (w : World) (lo : Nat) (v : Value) (n : Nat) (hv : NatR w lo v n) (hn : n < 18446744073709551616) :
    Calls Tryz.prog 129 #[v] w (fun e w' => e = .returned (.tuple #[.int .u64 n, .bool true]) ∧ w = w') := by
  obtain ⟨_, A, c, rfl, hkc, hcm, hb⟩ := hv
  unfold maxLen at hcm
  have HB := Lib.hid hb
  have HN := Lib.hid hn
  clear hb hn
  obtain ⟨k, hk⟩ : ∃ k, k = dl n := ⟨_, rfl⟩
  rw [← hk] at HB hkc ⊢
  have HK := Lib.hid hk
  clear hk
  go_enter Tryz.func129, Tryz.ntmps129
  go_wp2
  go_loop [4, 9] (fun x i => ∃ j y : Nat, j ≤ k ∧ y < 18446744073709551616 ∧ i = .int .i64 j ∧ x = .int .u64 y ∧ Hid (y = n / B ^ (k - j))) (fun _ i => k - (intOf i).toNat)
  case atStart => exact ⟨0, 0, by omega, by omega, rfl, rfl, by show 0 = n / B ^ (k - 0); rw [Nat.sub_zero, HK.out, Nat.div_eq_of_lt (lt_dl n)]⟩
  case round =>
    obtain ⟨j, y, hj, hy, rfl, rfl, hyv⟩ := hrel
    by_cases hlt : j < k
    · obtain ⟨b, off, rfl, hlb, hbb, hcell⟩ := HB.out (by omega)
      have hcl := hcell (k - 1 - j) (by omega)
      clear hcell
      have hd := dg_lt n (k - 1 - j)
      rw [B_eq] at hd
      have hnx : y * 1000000000 + dg n (k - 1 - j) = n / B ^ (k - (j + 1)) := by
        have h1 := div_split' n (k - 1 - j)
        rw [show k - 1 - j + 1 = k - j by omega, ← hyv.out, B_eq] at h1
        rw [← h1, show k - (j + 1) = k - 1 - j by omega]; rfl
      have hle : n / B ^ (k - (j + 1)) ≤ n := Nat.div_le_self _ _
      have HNX := Lib.hid hnx
      have hs : y * 1000000000 + dg n (k - 1 - j) ≤ 18446744073709551615 := by have := HN.out; omega
      clear hle hnx
      generalize dg n (k - 1 - j) = d at *
      have hq : ¬ ((18446744073709551615 - (d : Int)) / 1000000000 < (y : Int)) := by omega
      go_wp2
      go_round
      case rel => exact ⟨j + 1, y * 1000000000 + d, by omega, by omega, by go_num, by go_num, HNX⟩
      case measure => simp [intOf]; omega
    · obtain rfl : j = k := by omega
      have hfin : Hid (y = n) := by have := hyv.out; rw [Nat.sub_self, Nat.pow_zero, Nat.div_one] at this; exact this
      go_wp2
      go_ret2
      exact ⟨by rw [← hfin.out]; rfl, rfl⟩

end Go.Proofs.YtdbiedpdibjdlaaGreat

/-
  The walks of rational's natural numbers: compare.
-/
namespace Go.Proofs.YtdbiedpdibjdlaaGreat
open Go.RowKit AC
set_option linter.unusedVariables false
set_option linter.unusedSimpArgs false

/-- What compare returns. -/
def cmpI (n m : Nat) : Int := if n < m then -1 else if n = m then 0 else 1
theorem cmpI_lt {n m : Nat} (h : n < m) : cmpI n m = -1 := by unfold cmpI; rw [if_pos h]
theorem cmpI_eq {n m : Nat} (h : n = m) : cmpI n m = 0 := by unfold cmpI; rw [if_neg (by omega), if_pos h]
theorem cmpI_gt {n m : Nat} (h : m < n) : cmpI n m = 1 := by unfold cmpI; rw [if_neg (by omega), if_neg (by omega)]

theorem div_split (n j : Nat) : n / B ^ j = n / B ^ (j + 1) * B + dg n j := by
  have h := div_pow_succ n j
  unfold dg
  rw [h, Nat.mul_comm]
  exact (Nat.div_add_mod _ _).symm

theorem lt_of_div_lt {n m k : Nat} (h : n / k < m / k) : n < m := by
  rcases Nat.lt_or_ge n m with h1 | h1
  · exact h1
  · have := Nat.div_le_div_right (c := k) h1; omega

set_option maxHeartbeats 800000 in
theorem ucompare_any (w : World) (lo lo' : Nat) (v v' : Value) (n m : Nat) (hv : NatR w lo v n) (hv' : NatR w lo' v' m) :
    Calls Tryz.prog 58 #[v, v'] w (fun e w' => e = .returned (.int .i64 (cmpI n m)) ∧ Qt w w') := by
  obtain ⟨_, A, c, rfl, hkc, hcm, hb⟩ := hv
  obtain ⟨_, A', c', rfl, hkc', hcm', hb'⟩ := hv'
  unfold maxLen at hcm hcm'
  have HB := Lib.hid hb
  have HB' := Lib.hid hb'
  clear hb hb'
  rcases Nat.lt_trichotomy (dl n) (dl m) with h | h | h
  · have hne : (((dl n : Nat) : Int) != ((dl m : Nat) : Int)) = true := by rw [bne_iff_ne]; omega
    go_enter Tryz.func58, Tryz.ntmps58
    go_wp2
    go_ret
    exact ⟨by rw [cmpI_lt (lt_of_dl_lt h)]; rfl, Qt.refl _⟩
  · obtain ⟨k, hk⟩ : ∃ k, k = dl n := ⟨_, rfl⟩
    have hm := hk.trans h
    rw [← hk] at HB hkc ⊢
    rw [← hm] at HB' hkc' ⊢
    have HK := Lib.hid hk
    have HM := Lib.hid hm
    clear hk hm h
    go_enter Tryz.func58, Tryz.ntmps58
    go_wp2
    go_loopw [5] (fun i wr => ∃ j q : Nat, j ≤ k ∧ i = .int .i64 (↑j - 1) ∧ Hid (n / B ^ j = m / B ^ j) ∧ wr = w.drewN q) (fun i _ => (intOf i + 1).toNat)
    case atStart =>
      refine ⟨k, 0, Nat.le_refl _, rfl, ?_, rfl⟩
      have h1 := lt_dl n
      have h2 := lt_dl m
      rw [← HK.out] at h1
      rw [← HM.out] at h2
      show n / B ^ k = m / B ^ k
      rw [Nat.div_eq_of_lt h1, Nat.div_eq_of_lt h2]
    case round =>
      obtain ⟨j, q, hj, rfl, hd, rfl⟩ := hrel
      rcases j with _ | j
      · go_wp2
        go_ret
        refine ⟨?_, Qt.of _ _⟩
        have h1 : n = m := by simpa using hd.out
        rw [cmpI_eq h1]; rfl
      · obtain ⟨b, off, rfl, hlb, hbb, hcell⟩ := HB.out (by omega)
        obtain ⟨b', off', rfl, hlb', hbb', hcell'⟩ := HB'.out (by omega)
        have hc1 := hcell j (by omega)
        have hc2 := hcell' j (by omega)
        clear hcell hcell'
        have hs1 := Lib.hid (div_split n j)
        have hs2 := Lib.hid (div_split m j)
        rcases Nat.lt_trichotomy (dg n j) (dg m j) with h | h | h
        · have hfin : Hid (n < m) := lt_of_div_lt (k := B ^ j) (by rw [hs1.out, hs2.out, hd.out]; omega)
          go_wp2
          go_quiet (fail)
          go_wp2
          go_ret
          exact ⟨by rw [cmpI_lt hfin.out]; rfl, (Qt.of _ _).drewN _⟩
        · have hfin : Hid (n / B ^ j = m / B ^ j) := by show n / B ^ j = m / B ^ j; rw [hs1.out, hs2.out, hd.out, h]
          have hne1 : decide (dg n j < dg m j) = false := by simp; omega
          have hne2 : decide (dg m j < dg n j) = false := by simp; omega
          clear h
          go_wp2
          go_quiet (fail)
          go_wp2
          go_quiet (fail)
          go_wp2
          go_roundw
          case rel => exact ⟨j, _, by omega, by go_num, hfin, rfl⟩
          case measure => simp [intOf]
        · have hfin : Hid (m < n) := lt_of_div_lt (k := B ^ j) (by rw [hs1.out, hs2.out, hd.out]; omega)
          have hne1 : decide (dg n j < dg m j) = false := by simp; omega
          go_wp2
          go_quiet (fail)
          go_wp2
          go_quiet (fail)
          go_wp2
          go_ret
          exact ⟨by rw [cmpI_gt hfin.out]; rfl, ((Qt.of _ _).drewN _).drewN _⟩
  · have hne : (((dl n : Nat) : Int) != ((dl m : Nat) : Int)) = true := by rw [bne_iff_ne]; omega
    go_enter Tryz.func58, Tryz.ntmps58
    go_wp2
    go_ret
    exact ⟨by rw [cmpI_gt (lt_of_dl_lt h)]; rfl, Qt.refl _⟩

end Go.Proofs.YtdbiedpdibjdlaaGreat

/-
  The walks of rational's natural numbers: add, subtract.
-/
namespace Go.Proofs.YtdbiedpdibjdlaaGreat
open Go.RowKit AC
set_option linter.unusedVariables false
set_option linter.unusedSimpArgs false

theorem vs_sum (n m k : Nat) : vs (fun i => dg n i + dg m i) k = n % B ^ k + m % B ^ k := by
  induction k with
  | zero => simp [vs, Nat.mod_one]
  | succ k ih => rw [vs, ih, mod_pow_succ, mod_pow_succ m, Nat.add_mul]; omega

theorem sum_carry (n m j : Nat) : vs (fun i => dg n i + dg m i) j / B ^ j ≤ 1 := by
  rw [vs_sum]
  have h1 := Nat.mod_lt n (Bp_pos j)
  have h2 := Nat.mod_lt m (Bp_pos j)
  have : (n % B ^ j + m % B ^ j) / B ^ j < 2 := by
    rw [Nat.div_lt_iff_lt_mul (Bp_pos j)]; omega
  omega

theorem sum_digit (n m j : Nat) : dg (n + m) j = (dg n j + dg m j + vs (fun i => dg n i + dg m i) j / B ^ j) % B := by
  have h := dg_vs_any (fun i => dg n i + dg m i) (Nat.lt_succ_self j)
  rw [← h, vs_sum]
  unfold dg
  generalize hk : B ^ j = K
  have e : B ^ (j + 1) = K * B := by rw [Nat.pow_succ, hk]
  rw [e]
  have hK : 0 < K := hk ▸ Bp_pos j
  rw [← Nat.mod_mul_right_div_self, ← Nat.mod_mul_right_div_self, ← Nat.add_mod]

theorem sum_next (n m j : Nat) : vs (fun i => dg n i + dg m i) (j + 1) / B ^ (j + 1) = (dg n j + dg m j + vs (fun i => dg n i + dg m i) j / B ^ j) / B :=
  vs_div_succ (fun i => dg n i + dg m i) j


set_option maxHeartbeats 1000000 in
theorem add_ge (w : World) (lo lo' : Nat) (v v' : Value) (n m : Nat) (hv : NatR w lo v n) (hv' : NatR w lo' v' m) (hk : dl n ≤ 4294967296) (hk' : dl m ≤ 4294967296) (h : dl m ≤ dl n) :
    Calls Tryz.prog 103 #[v, v'] w (Ret fun v2 w' => NatR w' w.heap.size v2 (n + m) ∧ Below w.heap.size w w') := by
  obtain ⟨_, A, c, rfl, hkc, hcm, hb⟩ := hv
  obtain ⟨_, A', c', rfl, hkc', hcm', hb'⟩ := hv'
  unfold maxLen at hcm hcm'
  have HB := Lib.hid hb
  have HB' := Lib.hid hb'
  clear hb hb'
  go_enter Tryz.func103, Tryz.ntmps103
  go_wp2_with (at_make; refine wpList_mk0 _ rfl _ _ 104 rfl w.heap.size 80 Tryz.underlying104 info_u32 _ _ _ (dl n + 1) rfl rfl (by omega) (by omega) (Nat.le_refl _) ?_; intro v0 w0 hown0 hg0)
  have hb0 : Below w.heap.size w w0 := (Below.refl _ _).grown hg0 (Nat.le_refl _) (by simp)
  go_loopw [5, 6, 22] (fun o cv i wr => ∃ j c : Nat, j ≤ dl n ∧ c ≤ 1 ∧ i = .int .i64 j ∧ cv = .int .u32 c ∧ Hid (c = vs (fun i => dg n i + dg m i) j / B ^ j) ∧ Own wr w.heap.size 80 o j (dg (n + m)) ∧ Below w.heap.size w wr) (fun _ _ i _ => dl n - (intOf i).toNat)
  case atStart => exact ⟨0, 0, by omega, by omega, rfl, rfl, by simp [vs, Hid], hown0 _, hb0⟩
  case round =>
    obtain ⟨j, c, hj, hc, rfl, rfl, hcv, hown, hbw⟩ := hrel
    have hd1 : dg n j < 1000000000 := dg_lt n j
    have hd2 : dg m j < 1000000000 := dg_lt m j
    by_cases hlt : j < dl n
    · obtain ⟨b, off, rfl, hlb, hbb, hcell⟩ := HB.out (by omega)
      have hcl := (hbw.cell (p := ⟨b, off + j, none⟩) hbb).trans (hcell j hlt)
      have hdg : Hid ((dg n j + dg m j + c) % 1000000000 = dg (n + m) j) := by
        have h1 := sum_digit n m j
        rw [← hcv.out] at h1
        exact h1.symm
      have hcn : Hid ((dg n j + dg m j + c) / 1000000000 = vs (fun i => dg n i + dg m i) (j + 1) / B ^ (j + 1)) := by
        have h1 := sum_next n m j
        rw [← hcv.out] at h1
        exact h1.symm
      have hc4 : (dg n j + dg m j + c) / 1000000000 ≤ 1 := by omega
      clear hcell
      by_cases hjm : j < dl m
      · obtain ⟨b', off', rfl, hlb', hbb', hcell'⟩ := HB'.out (by omega)
        have hcl' := (hbw.cell (p := ⟨b', off' + j, none⟩) hbb').trans (hcell' j hjm)
        clear hcell'
        go_wp2_with (at_builtin; refine wpList_push wr rfl _ _ 104 rfl w.heap.size 80 Tryz.underlying104 info_u32 _ j (dg (n + m)) (by rfl) hown (by rfl) w hbw hbw.size (by omega) ?c1 ?_)
        case c1 => rw [← hdg.out]; omega
        intro v1 w1 hown1 hb1
        go_wp2
        go_roundw
        case rel => exact ⟨j + 1, (dg n j + dg m j + c) / 1000000000, by omega, hc4, by go_num, by go_num, hcn, hown1, hb1⟩
        case measure => simp [intOf]; omega
      · have hz := dg_beyond (n := m) (i := j) (by omega)
        rw [hz] at hdg hcn hc4
        clear hd1 hd2
        have hd1 : dg n j < 1000000000 := dg_lt n j
        clear hz
        simp only [Nat.add_zero] at hdg hcn hc4
        go_wp2_with (at_builtin; refine wpList_push wr rfl _ _ 104 rfl w.heap.size 80 Tryz.underlying104 info_u32 _ j (dg (n + m)) (by rfl) hown (by rfl) w hbw hbw.size (by omega) ?c1 ?_)
        case c1 => rw [← hdg.out]; omega
        intro v1 w1 hown1 hb1
        go_wp2
        go_roundw
        case rel => exact ⟨j + 1, (dg n j + c) / 1000000000, by omega, hc4, by go_num, by go_num, hcn, hown1, hb1⟩
        case measure => simp [intOf]; omega
    · obtain rfl : j = dl n := by omega
      have hsum : Hid ((n + m) / B ^ dl n = c) := by
        have h1 := lt_dl n
        have h2 : m < B ^ dl n := Nat.lt_of_lt_of_le (lt_dl m) (Nat.pow_le_pow_right B_pos (by omega))
        have h3 := hcv.out
        rw [vs_sum, Nat.mod_eq_of_lt (a := n) h1, Nat.mod_eq_of_lt (a := m) h2] at h3
        exact h3.symm
      by_cases hc0 : 0 < c
      · obtain rfl : c = 1 := by omega
        have hdc : Hid (dg (n + m) (dl n) = 1) := by
          show (n + m) / B ^ dl n % B = 1
          rw [hsum.out]; rfl
        have hlen : Hid (dl (n + m) = dl n + 1) := by
          refine dl_of_digits ?_ (.inr ?_)
          · rw [Nat.pow_succ, Nat.mul_comm, ← Nat.div_lt_iff_lt_mul (Bp_pos _), hsum.out]; decide
          · rw [Nat.add_sub_cancel, hdc.out]; decide
        go_wp2_with (at_builtin; refine wpList_push wr rfl _ _ 104 rfl w.heap.size 80 Tryz.underlying104 info_u32 _ (dl n) (dg (n + m)) (by rfl) hown (by rfl) w hbw hbw.size (by omega) ?c1 ?_)
        case c1 => rw [hdc.out]; rfl
        intro v1 w1 hown1 hb1
        go_wp2
        go_ret
        exact ⟨v1, rfl, NatR.of (hown1.limbs fun i _ => Nat.lt_trans (dg_lt _ i) (by decide)) hlen.out, hb1⟩
      · obtain rfl : c = 0 := by omega
        have hlen : Hid (dl (n + m) = dl n) := by
          refine Nat.le_antisymm (dl_le ?_) (dl_mono (by omega))
          exact (Nat.div_eq_zero_iff_lt (Bp_pos _)).1 hsum.out
        go_wp2
        go_ret
        exact ⟨_, rfl, NatR.of (hown.limbs fun i _ => Nat.lt_trans (dg_lt _ i) (by decide)) hlen.out, hbw⟩

set_option maxHeartbeats 1000000 in
theorem add_lt (w : World) (lo lo' : Nat) (v v' : Value) (n m : Nat) (hv : NatR w lo v n) (hv' : NatR w lo' v' m) (hk : dl n ≤ 4294967296) (hk' : dl m ≤ 4294967296) (h : dl n < dl m) :
    Calls Tryz.prog 103 #[v, v'] w (Ret fun v2 w' => NatR w' w.heap.size v2 (n + m) ∧ Below w.heap.size w w') := by
  obtain ⟨_, A', c', rfl, hkc, hcm, hb⟩ := hv'
  obtain ⟨_, A, c, rfl, hkc', hcm', hb'⟩ := hv
  unfold maxLen at hcm hcm'
  have HB := Lib.hid hb
  have HB' := Lib.hid hb'
  clear hb hb'
  go_enter Tryz.func103, Tryz.ntmps103
  go_wp2_with (at_make; refine wpList_mk0 _ rfl _ _ 104 rfl w.heap.size 80 Tryz.underlying104 info_u32 _ _ _ (dl m + 1) rfl rfl (by omega) (by omega) (Nat.le_refl _) ?_; intro v0 w0 hown0 hg0)
  have hb0 : Below w.heap.size w w0 := (Below.refl _ _).grown hg0 (Nat.le_refl _) (by simp)
  go_loopw [5, 6, 22] (fun o cv i wr => ∃ j c : Nat, j ≤ dl m ∧ c ≤ 1 ∧ i = .int .i64 j ∧ cv = .int .u32 c ∧ Hid (c = vs (fun i => dg n i + dg m i) j / B ^ j) ∧ Own wr w.heap.size 80 o j (dg (n + m)) ∧ Below w.heap.size w wr) (fun _ _ i _ => dl m - (intOf i).toNat)
  case atStart => exact ⟨0, 0, by omega, by omega, rfl, rfl, by simp [vs, Hid], hown0 _, hb0⟩
  case round =>
    obtain ⟨j, c, hj, hc, rfl, rfl, hcv, hown, hbw⟩ := hrel
    have hd1 : dg n j < 1000000000 := dg_lt n j
    have hd2 : dg m j < 1000000000 := dg_lt m j
    by_cases hlt : j < dl m
    · obtain ⟨b, off, rfl, hlb, hbb, hcell⟩ := HB.out (by omega)
      have hcl := (hbw.cell (p := ⟨b, off + j, none⟩) hbb).trans (hcell j hlt)
      have hdg : Hid ((dg n j + dg m j + c) % 1000000000 = dg (n + m) j) := by
        have h1 := sum_digit n m j
        rw [← hcv.out] at h1
        exact h1.symm
      have hcn : Hid ((dg n j + dg m j + c) / 1000000000 = vs (fun i => dg n i + dg m i) (j + 1) / B ^ (j + 1)) := by
        have h1 := sum_next n m j
        rw [← hcv.out] at h1
        exact h1.symm
      have hc4 : (dg n j + dg m j + c) / 1000000000 ≤ 1 := by omega
      clear hcell
      by_cases hjm : j < dl n
      · obtain ⟨b', off', rfl, hlb', hbb', hcell'⟩ := HB'.out (by omega)
        have hcl' := (hbw.cell (p := ⟨b', off' + j, none⟩) hbb').trans (hcell' j hjm)
        clear hcell'
        go_wp2_with (at_builtin; refine wpList_push wr rfl _ _ 104 rfl w.heap.size 80 Tryz.underlying104 info_u32 _ j (dg (n + m)) (by rfl) hown (by rfl) w hbw hbw.size (by omega) ?c1 ?_)
        case c1 => rw [← hdg.out]; omega
        intro v1 w1 hown1 hb1
        go_wp2
        go_roundw
        case rel => exact ⟨j + 1, (dg n j + dg m j + c) / 1000000000, by omega, hc4, by go_num, by go_num, hcn, hown1, hb1⟩
        case measure => simp [intOf]; omega
      · have hz := dg_beyond (n := n) (i := j) (by omega)
        rw [hz] at hdg hcn hc4
        clear hd1 hd2
        have hd1 : dg m j < 1000000000 := dg_lt m j
        clear hz
        simp only [Nat.zero_add] at hdg hcn hc4
        go_wp2_with (at_builtin; refine wpList_push wr rfl _ _ 104 rfl w.heap.size 80 Tryz.underlying104 info_u32 _ j (dg (n + m)) (by rfl) hown (by rfl) w hbw hbw.size (by omega) ?c1 ?_)
        case c1 => rw [← hdg.out]; omega
        intro v1 w1 hown1 hb1
        go_wp2
        go_roundw
        case rel => exact ⟨j + 1, (dg m j + c) / 1000000000, by omega, hc4, by go_num, by go_num, hcn, hown1, hb1⟩
        case measure => simp [intOf]; omega
    · obtain rfl : j = dl m := by omega
      have hsum : Hid ((n + m) / B ^ dl m = c) := by
        have h1 := lt_dl m
        have h2 : n < B ^ dl m := Nat.lt_of_lt_of_le (lt_dl n) (Nat.pow_le_pow_right B_pos (by omega))
        have h3 := hcv.out
        rw [vs_sum, Nat.mod_eq_of_lt (a := m) h1, Nat.mod_eq_of_lt (a := n) h2] at h3
        exact h3.symm
      by_cases hc0 : 0 < c
      · obtain rfl : c = 1 := by omega
        have hdc : Hid (dg (n + m) (dl m) = 1) := by
          show (n + m) / B ^ dl m % B = 1
          rw [hsum.out]; rfl
        have hlen : Hid (dl (n + m) = dl m + 1) := by
          refine dl_of_digits ?_ (.inr ?_)
          · rw [Nat.pow_succ, Nat.mul_comm, ← Nat.div_lt_iff_lt_mul (Bp_pos _), hsum.out]; decide
          · rw [Nat.add_sub_cancel, hdc.out]; decide
        go_wp2_with (at_builtin; refine wpList_push wr rfl _ _ 104 rfl w.heap.size 80 Tryz.underlying104 info_u32 _ (dl m) (dg (n + m)) (by rfl) hown (by rfl) w hbw hbw.size (by omega) ?c1 ?_)
        case c1 => rw [hdc.out]; rfl
        intro v1 w1 hown1 hb1
        go_wp2
        go_ret
        exact ⟨v1, rfl, NatR.of (hown1.limbs fun i _ => Nat.lt_trans (dg_lt _ i) (by decide)) hlen.out, hb1⟩
      · obtain rfl : c = 0 := by omega
        have hlen : Hid (dl (n + m) = dl m) := by
          refine Nat.le_antisymm (dl_le ?_) (dl_mono (by omega))
          exact (Nat.div_eq_zero_iff_lt (Bp_pos _)).1 hsum.out
        go_wp2
        go_ret
        exact ⟨_, rfl, NatR.of (hown.limbs fun i _ => Nat.lt_trans (dg_lt _ i) (by decide)) hlen.out, hbw⟩

theorem add_any (w : World) (lo lo' : Nat) (v v' : Value) (n m : Nat) (hv : NatR w lo v n) (hv' : NatR w lo' v' m) (hk : dl n ≤ 4294967296) (hk' : dl m ≤ 4294967296) :
    Calls Tryz.prog 103 #[v, v'] w (Ret fun v2 w' => NatR w' w.heap.size v2 (n + m) ∧ Below w.heap.size w w') := by
  rcases Nat.lt_or_ge (dl n) (dl m) with h | h
  · exact add_lt w lo lo' v v' n m hv hv' hk hk' h
  · exact add_ge w lo lo' v v' n m hv hv' hk hk' h

end Go.Proofs.YtdbiedpdibjdlaaGreat

