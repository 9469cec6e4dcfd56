/-
  The walks of the reference's natural numbers: natCmp, natAdd, natSub, natMul, natSmall.
-/
import Derived.Test.YtgheaoaicbkaoaaGreatDoorMAd
namespace Go.Proofs.YtgheaoaicbkaoaaGreatDoor
open Go.RowKit AC
set_option linter.unusedVariables false
set_option linter.unusedSimpArgs false

set_option maxHeartbeats 800000 in
theorem natCmp_any (w : World) (lo lo' : Nat) (v v' : Value) (n m : Nat) (hv : NatR w lo v n) (hv' : NatR w lo' v' m) :
    Calls Tryz.prog 74 #[v, v'] w (fun e w' => e = .returned (.int .i64 (cmpI n m)) ∧ Qt w w') := by
  obtain ⟨_, A, c, rfl, hkc, hcm, hb⟩ := hv
  obtain ⟨_, A', c', rfl, hkc', hcm', hb'⟩ := hv'
  unfold maxLen at hcm hcm'
  have HB := Lib.hid hb
  have HB' := Lib.hid hb'
  clear hb hb'
  rcases Nat.lt_trichotomy (dl n) (dl m) with h | h | h
  · have hne : (((dl n : Nat) : Int) != ((dl m : Nat) : Int)) = true := by rw [bne_iff_ne]; omega
    go_enter Tryz.func74, Tryz.ntmps74
    go_wp2
    go_ret
    exact ⟨by rw [cmpI_lt (lt_of_dl_lt h)]; rfl, Qt.refl _⟩
  · obtain ⟨k, hk⟩ : ∃ k, k = dl n := ⟨_, rfl⟩
    have hm := hk.trans h
    rw [← hk] at HB hkc ⊢
    rw [← hm] at HB' hkc' ⊢
    have HK := Lib.hid hk
    have HM := Lib.hid hm
    clear hk hm h
    go_enter Tryz.func74, Tryz.ntmps74
    go_wp2
    go_loopw [5] (fun i wr => ∃ j q : Nat, j ≤ k ∧ i = .int .i64 (↑j - 1) ∧ Hid (n / B ^ j = m / B ^ j) ∧ wr = w.drewN q) (fun i _ => (intOf i + 1).toNat)
    case atStart =>
      refine ⟨k, 0, Nat.le_refl _, rfl, ?_, rfl⟩
      have h1 := lt_dl n
      have h2 := lt_dl m
      rw [← HK.out] at h1
      rw [← HM.out] at h2
      show n / B ^ k = m / B ^ k
      rw [Nat.div_eq_of_lt h1, Nat.div_eq_of_lt h2]
    case round =>
      obtain ⟨j, q, hj, rfl, hd, rfl⟩ := hrel
      rcases j with _ | j
      · go_wp2
        go_ret
        refine ⟨?_, Qt.of _ _⟩
        have h1 : n = m := by simpa using hd.out
        rw [cmpI_eq h1]; rfl
      · obtain ⟨b, off, rfl, hlb, hbb, hcell⟩ := HB.out (by omega)
        obtain ⟨b', off', rfl, hlb', hbb', hcell'⟩ := HB'.out (by omega)
        have hc1 := hcell j (by omega)
        have hc2 := hcell' j (by omega)
        clear hcell hcell'
        have hs1 := Lib.hid (div_split n j)
        have hs2 := Lib.hid (div_split m j)
        rcases Nat.lt_trichotomy (dg n j) (dg m j) with h | h | h
        · have hfin : Hid (n < m) := lt_of_div_lt (k := B ^ j) (by rw [hs1.out, hs2.out, hd.out]; omega)
          go_wp2
          go_quiet (fail)
          go_wp2
          go_ret
          exact ⟨by rw [cmpI_lt hfin.out]; rfl, (Qt.of _ _).drewN _⟩
        · have hfin : Hid (n / B ^ j = m / B ^ j) := by show n / B ^ j = m / B ^ j; rw [hs1.out, hs2.out, hd.out, h]
          have hne1 : decide (dg n j < dg m j) = false := by simp; omega
          have hne2 : decide (dg m j < dg n j) = false := by simp; omega
          clear h
          go_wp2
          go_quiet (fail)
          go_wp2
          go_quiet (fail)
          go_wp2
          go_roundw
          case rel => exact ⟨j, _, by omega, by go_num, hfin, rfl⟩
          case measure => simp [intOf]
        · have hfin : Hid (m < n) := lt_of_div_lt (k := B ^ j) (by rw [hs1.out, hs2.out, hd.out]; omega)
          have hne1 : decide (dg n j < dg m j) = false := by simp; omega
          go_wp2
          go_quiet (fail)
          go_wp2
          go_quiet (fail)
          go_wp2
          go_ret
          exact ⟨by rw [cmpI_gt hfin.out]; rfl, ((Qt.of _ _).drewN _).drewN _⟩
  · have hne : (((dl n : Nat) : Int) != ((dl m : Nat) : Int)) = true := by rw [bne_iff_ne]; omega
    go_enter Tryz.func74, Tryz.ntmps74
    go_wp2
    go_ret
    exact ⟨by rw [cmpI_gt (lt_of_dl_lt h)]; rfl, Qt.refl _⟩

theorem sum_all {n m j : Nat} (h1 : dl n ≤ j) (h2 : dl m ≤ j) : vs (fun i => dg n i + dg m i) j / B ^ j = (n + m) / B ^ j := by
  rw [vs_sum, Nat.mod_eq_of_lt (Nat.lt_of_lt_of_le (lt_dl n) (Nat.pow_le_pow_right B_pos h1)), Nat.mod_eq_of_lt (Nat.lt_of_lt_of_le (lt_dl m) (Nat.pow_le_pow_right B_pos h2))]

set_option maxHeartbeats 1000000 in
theorem natAdd_any (w : World) (lo lo' : Nat) (v v' : Value) (n m : Nat) (hv : NatR w lo v n) (hv' : NatR w lo' v' m) (hk : dl n ≤ 4294967296) (hk' : dl m ≤ 4294967296) :
    Calls Tryz.prog 73 #[v, v'] w (Ret fun v2 w' => NatR w' w.heap.size v2 (n + m) ∧ Below w.heap.size w w') := by
  obtain ⟨_, A, c, rfl, hkc, hcm, hb⟩ := hv
  obtain ⟨_, A', c', rfl, hkc', hcm', hb'⟩ := hv'
  unfold maxLen at hcm hcm'
  have HB := Lib.hid hb
  have HB' := Lib.hid hb'
  have hlen : dl (n + m) ≤ 4294967297 := by
    have := dl_add_le n m
    omega
  have hln : dl n ≤ dl (n + m) := dl_mono (by omega)
  have hlm : dl m ≤ dl (n + m) := dl_mono (by omega)
  clear hb hb'
  go_enter Tryz.func73, Tryz.ntmps73
  go_wp2
  go_loopw [5, 6, 7] (fun o cv i wr => ∃ j c : Nat, j ≤ dl (n + m) ∧ c ≤ 1 ∧ i = .int .i64 j ∧ cv = .int .u32 c ∧ Hid (c = vs (fun i => dg n i + dg m i) j / B ^ j) ∧ Own wr w.heap.size 120 o j (dg (n + m)) ∧ Below w.heap.size w wr) (fun _ _ i _ => dl (n + m) - (intOf i).toNat)
  case atStart => exact ⟨0, 0, by omega, by omega, rfl, rfl, by simp [vs, Hid], World.ownsRow_nil _ _ _ _, Below.refl _ _⟩
  case round =>
    obtain ⟨j, c, hj, hc, rfl, rfl, hcv, hown, hbw⟩ := hrel
    have hdg : Hid ((c + dg n j + dg m j) % 1000000000 = dg (n + m) j) := by
      have h1 := sum_digit n m j
      rw [← hcv.out, Nat.add_comm _ c, ← Nat.add_assoc] at h1
      exact h1.symm
    have hcn : Hid ((c + dg n j + dg m j) / 1000000000 = vs (fun i => dg n i + dg m i) (j + 1) / B ^ (j + 1)) := by
      have h1 := sum_next n m j
      rw [← hcv.out, Nat.add_comm _ c, ← Nat.add_assoc] at h1
      exact h1.symm
    by_cases hjn : j < dl n
    · obtain ⟨b, off, rfl, hlb, hbb, hcell⟩ := HB.out (by omega)
      have hcl := (hbw.cell (p := ⟨b, off + j, none⟩) hbb).trans (hcell j hjn)
      clear hcell
      by_cases hjm : j < dl m
      · obtain ⟨b', off', rfl, hlb', hbb', hcell'⟩ := HB'.out (by omega)
        have hcl' := (hbw.cell (p := ⟨b', off' + j, none⟩) hbb').trans (hcell' j hjm)
        clear hcell'
        have hd1 : dg n j < 1000000000 := dg_lt n j
        have hd2 : dg m j < 1000000000 := dg_lt m j
        have hc4 : (c + dg n j + dg m j) / 1000000000 ≤ 1 := by omega
        go_wp2_with (at_builtin; refine wpList_push wr rfl _ _ 25 rfl w.heap.size 120 Tryz.underlying25 info_u32 _ j (dg (n + m)) (by rfl) hown (by rfl) w hbw hbw.size (by omega) ?c1 ?_)
        case c1 => rw [← hdg.out]; omega
        intro v1 w1 hown1 hb1
        go_wp2
        go_roundw
        case rel => exact ⟨j + 1, (c + dg n j + dg m j) / 1000000000, by omega, hc4, by go_num, by go_num, hcn, hown1, hb1⟩
        case measure => simp [intOf]; omega
      · have hz := dg_beyond (n := m) (i := j) (by omega)
        rw [hz] at hdg hcn
        simp only [Nat.add_zero] at hdg hcn
        clear hz
        have hd1 : dg n j < 1000000000 := dg_lt n j
        have hd2 : dg m j < 1000000000 := dg_lt m j
        have hc4 : (c + dg n j) / 1000000000 ≤ 1 := by omega
        go_wp2_with (at_builtin; refine wpList_push wr rfl _ _ 25 rfl w.heap.size 120 Tryz.underlying25 info_u32 _ j (dg (n + m)) (by rfl) hown (by rfl) w hbw hbw.size (by omega) ?c1 ?_)
        case c1 => rw [← hdg.out]; omega
        intro v1 w1 hown1 hb1
        go_wp2
        go_roundw
        case rel => exact ⟨j + 1, (c + dg n j) / 1000000000, by omega, hc4, by go_num, by go_num, hcn, hown1, hb1⟩
        case measure => simp [intOf]; omega
    · have hz := dg_beyond (n := n) (i := j) (by omega)
      rw [hz] at hdg hcn
      simp only [Nat.add_zero] at hdg hcn
      clear hz
      by_cases hjm : j < dl m
      · obtain ⟨b', off', rfl, hlb', hbb', hcell'⟩ := HB'.out (by omega)
        have hcl' := (hbw.cell (p := ⟨b', off' + j, none⟩) hbb').trans (hcell' j hjm)
        clear hcell'
        have hd1 : dg n j < 1000000000 := dg_lt n j
        have hd2 : dg m j < 1000000000 := dg_lt m j
        have hc4 : (c + dg m j) / 1000000000 ≤ 1 := by omega
        go_wp2_with (at_builtin; refine wpList_push wr rfl _ _ 25 rfl w.heap.size 120 Tryz.underlying25 info_u32 _ j (dg (n + m)) (by rfl) hown (by rfl) w hbw hbw.size (by omega) ?c1 ?_)
        case c1 => rw [← hdg.out]; omega
        intro v1 w1 hown1 hb1
        go_wp2
        go_roundw
        case rel => exact ⟨j + 1, (c + dg m j) / 1000000000, by omega, hc4, by go_num, by go_num, hcn, hown1, hb1⟩
        case measure => simp [intOf]; omega
      · have hz := dg_beyond (n := m) (i := j) (by omega)
        rw [hz] at hdg hcn
        simp only [Nat.add_zero] at hdg hcn
        clear hz
        have hall := Lib.hid (hcv.out.trans (sum_all (n := n) (m := m) (j := j) (by omega) (by omega)))
        by_cases hc0 : 0 < c
        · have hjl : j < dl (n + m) := by
            refine dl_gt ?_
            rcases Nat.lt_or_ge (n + m) (B ^ j) with h | h
            · have h1 := hall.out
              rw [Nat.div_eq_of_lt h] at h1
              omega
            · exact h
          have hd1 : dg n j < 1000000000 := dg_lt n j
          have hd2 : dg m j < 1000000000 := dg_lt m j
          have hc4 : (c) / 1000000000 ≤ 1 := by omega
          go_wp2_with (at_builtin; refine wpList_push wr rfl _ _ 25 rfl w.heap.size 120 Tryz.underlying25 info_u32 _ j (dg (n + m)) (by rfl) hown (by rfl) w hbw hbw.size (by omega) ?c1 ?_)
          case c1 => rw [← hdg.out]; omega
          intro v1 w1 hown1 hb1
          go_wp2
          go_roundw
          case rel => exact ⟨j + 1, (c) / 1000000000, by omega, hc4, by go_num, by go_num, hcn, hown1, hb1⟩
          case measure => simp [intOf]; omega
        · obtain rfl : c = 0 := by omega
          go_wp2
          go_ret
          have hlt : n + m < B ^ j := (Nat.div_eq_zero_iff_lt (Bp_pos j)).1 hall.out.symm
          exact ⟨_, rfl, NatR.of (hown.limbs fun i _ => Nat.lt_trans (dg_lt _ i) (by decide)) (Nat.le_antisymm (dl_le hlt) hj), hbw⟩

set_option maxHeartbeats 1000000 in
theorem natSub_any (w : World) (lo lo' : Nat) (v v' : Value) (n m N : Nat) (hv : NatR w lo v n) (hv' : NatR w lo' v' m) (hk : dl n ≤ 4294967296) (hn : n = m + N) :
    Calls Tryz.prog 75 #[v, v'] w (Ret fun v2 w' => NatR w' w.heap.size v2 N ∧ Below w.heap.size w w') := by
  obtain ⟨_, A, c, rfl, hkc, hcm, hb⟩ := hv
  obtain ⟨_, A', c', rfl, hkc', hcm', hb'⟩ := hv'
  unfold maxLen at hcm hcm'
  have HB := Lib.hid hb
  have HB' := Lib.hid hb'
  have hmn : dl m ≤ dl n := dl_mono (by omega)
  have HN := Lib.hid hn
  clear hb hb' hn
  go_enter Tryz.func75, Tryz.ntmps75
  go_wp2_with (at_make; refine wpList_mkn _ rfl _ _ 25 rfl w.heap.size 120 Tryz.underlying25 info_u32 _ _ _ _ (dl n) (by rfl) (by rfl) (by omega) (by omega) (by omega) w (Below.refl _ _) (Nat.le_refl _) ?_; intro b w1 hlb1 _ hrow1 hbw1 _)
  go_loopw [6, 7] (fun cv i wr => ∃ j c : Nat, j ≤ dl n ∧ c ≤ 1 ∧ i = .int .i64 j ∧ cv = .int .u32 c ∧ Hid (c = vs (fun i => dg m i + dg N i) j / B ^ j) ∧ RowU wr b 120 (dl n) (fun t => if t < j then dg N t else 0) ∧ Below w.heap.size w wr) (fun _ i _ => dl n - (intOf i).toNat)
  case atStart => exact ⟨0, 0, by omega, by omega, rfl, rfl, by simp [vs, Hid], hrow1.congr fun t _ => by rw [if_neg (by omega)], hbw1⟩
  case round =>
    obtain ⟨j, c, hj, hc, rfl, rfl, hcv, hrow, hbw⟩ := hrel
    have hd1 : dg n j < 1000000000 := dg_lt n j
    have hd2 : dg m j < 1000000000 := dg_lt m j
    have hd3 : dg N j < 1000000000 := dg_lt N j
    by_cases hlt : j < dl n
    · obtain ⟨ba, off, rfl, hlb, hbb, hcell⟩ := HB.out (by omega)
      have hcl := (hbw.cell (p := ⟨ba, off + j, none⟩) hbb).trans (hcell j hlt)
      clear hcell
      have hfz := hrow.frozen j
      have hc3 := hrow.cell (i := j) hlt
      have hnx : Hid (∀ t, t < dl n → upd (fun t => if t < j then dg N t else 0) j (dg N j) t = if t < j + 1 then dg N t else 0) := by
        intro t _
        by_cases e : t = j
        · subst e; rw [upd_same, if_pos (by omega)]
        · rw [upd_other _ _ e]
          by_cases h2 : t < j
          · rw [if_pos h2, if_pos (by omega)]
          · rw [if_neg h2, if_neg (by omega)]
      obtain ⟨c2, hc2, hc2v, hstep⟩ := sub_step HN.out hcv.out
      have HS := Lib.hid hstep
      have HV := Lib.hid hc2v
      clear hstep hc2v
      by_cases hjm : j < dl m
      · obtain ⟨b', off', rfl, hlb', hbb', hcell'⟩ := HB'.out (by omega)
        have hcl' := (hbw.cell (p := ⟨b', off' + j, none⟩) hbb').trans (hcell' j hjm)
        clear hcell'
        by_cases hneg : dg n j < c + dg m j
        · obtain rfl : c2 = 1 := by have := HS.out; omega
          have hval : Hid (((dg n j : Nat) : Int) + 1000000000 - (c + dg m j) = ((dg N j : Nat) : Int)) := by have := HS.out; show _ = _; omega
          go_wp2
          go_roundw
          case rel => exact ⟨j + 1, 1, by omega, by omega, by go_num, by go_num, HV, RowU.congr (RowU.set hrow j (by rw [← hval.out])) hnx.out, Below.setCell hbw hlb1 _⟩
          case measure => simp [intOf]; omega
        · obtain rfl : c2 = 0 := by have := HS.out; omega
          have hval : Hid (((dg n j : Nat) : Int) - (c + dg m j) = ((dg N j : Nat) : Int)) := by have := HS.out; show _ = _; omega
          go_wp2
          go_roundw
          case rel => exact ⟨j + 1, 0, by omega, by omega, by go_num, by go_num, HV, RowU.congr (RowU.set hrow j (by rw [← hval.out])) hnx.out, Below.setCell hbw hlb1 _⟩
          case measure => simp [intOf]; omega
      · have hz := Lib.hid (dg_beyond (n := m) (i := j) (by omega))
        rw [hz.out] at HS
        by_cases hneg : dg n j < c
        · obtain rfl : c2 = 1 := by have := HS.out; omega
          have hval : Hid (((dg n j : Nat) : Int) + 1000000000 - c = ((dg N j : Nat) : Int)) := by have := HS.out; show _ = _; omega
          go_wp2
          go_roundw
          case rel => exact ⟨j + 1, 1, by omega, by omega, by go_num, by go_num, HV, RowU.congr (RowU.set hrow j (by rw [← hval.out])) hnx.out, Below.setCell hbw hlb1 _⟩
          case measure => simp [intOf]; omega
        · obtain rfl : c2 = 0 := by have := HS.out; omega
          have hval : Hid (((dg n j : Nat) : Int) - c = ((dg N j : Nat) : Int)) := by have := HS.out; show _ = _; omega
          go_wp2
          go_roundw
          case rel => exact ⟨j + 1, 0, by omega, by omega, by go_num, by go_num, HV, RowU.congr (RowU.set hrow j (by rw [← hval.out])) hnx.out, Below.setCell hbw hlb1 _⟩
          case measure => simp [intOf]; omega
    · obtain rfl : j = dl n := by omega
      have hNj : Hid (N < B ^ dl n) := Nat.lt_of_le_of_lt (by have := HN.out; omega) (lt_dl n)
      have hrow0 : RowU wr b 120 (dl n) (dg N) := hrow.congr fun t ht => by rw [if_pos ht]
      clear hrow
      go_wp2_with fail
      refine (cut_any _ _ _ _ _ (hrow0.limbs hlb1 (by omega) fun i _ => Nat.lt_trans (dg_lt N i) (by decide)) hNj.out (by omega)).mono ?_
      rintro e w' ⟨v', rfl, hnat, hb2⟩
      go_wp2
      go_ret
      exact ⟨v', rfl, hnat.lower hbw.size, hbw.trans (hb2.mono hbw.size)⟩

set_option maxHeartbeats 1000000 in
theorem natSmall_any (w : World) (lo : Nat) (v : Value) (n m : Nat) (hv : NatR w lo v n) (hk : dl n ≤ 8589934592) (hm : m < 1000000000) (hm0 : 0 < m) :
    Calls Tryz.prog 122 #[v, .int .u64 m] w (fun e w' => ∃ v2, e = .returned (.tuple #[v2, .int .u64 (n % m : Nat)]) ∧ NatR w' w.heap.size v2 (n / m) ∧ Below w.heap.size w w') := by
  obtain ⟨_, A, c, rfl, hkc, hcm, hb⟩ := hv
  unfold maxLen at hcm
  have HB := Lib.hid hb
  have hmz : ((m : Int) == 0) = false := by rw [beq_eq_false_iff_ne]; omega
  clear hb
  go_enter Tryz.func122, Tryz.ntmps122
  go_wp2_with (at_make; refine wpList_mkn _ rfl _ _ 25 rfl w.heap.size 120 Tryz.underlying25 info_u32 _ _ _ _ (dl n) (by rfl) (by rfl) (by omega) (by omega) (by omega) w (Below.refl _ _) (Nat.le_refl _) ?_; intro b w1 hlb1 _ hrow1 hbw1 _)
  go_loopw [7, 8] (fun rv i wr => ∃ j r : Nat, j ≤ dl n ∧ r < m ∧ i = .int .i64 (↑j - 1) ∧ rv = .int .u64 r ∧ Hid (r = n / B ^ j % m) ∧ RowU wr b 120 (dl n) (fun t => if j ≤ t then dg (n / m) t else 0) ∧ Below w.heap.size w wr) (fun _ i _ => (intOf i + 1).toNat)
  case atStart =>
    refine ⟨dl n, 0, by omega, hm0, rfl, rfl, ?_, hrow1.congr fun t ht => by rw [if_neg (by omega)], hbw1⟩
    show 0 = n / B ^ dl n % m
    rw [Nat.div_eq_of_lt (lt_dl n), Nat.zero_mod]
  case round =>
    obtain ⟨j, r, hj, hr, rfl, rfl, hrv, hrow, hbw⟩ := hrel
    rcases j with _ | j
    · have hrow0 : RowU wr b 120 (dl n) (dg (n / m)) := hrow.congr fun t _ => by rw [if_pos (by omega)]
      have hq : Hid (n / m < B ^ dl n) := Nat.lt_of_le_of_lt (Nat.div_le_self _ _) (lt_dl n)
      have hrf : Hid (r = n % m) := by have := hrv.out; rw [Nat.pow_zero, Nat.div_one] at this; exact this
      clear hrow
      go_wp2_with fail
      refine (cut_any _ _ _ _ _ (hrow0.limbs hlb1 (by omega) fun i _ => Nat.lt_trans (dg_lt _ i) (by decide)) hq.out (by omega)).mono ?_
      rintro e w' ⟨v', rfl, hnat, hb2⟩
      go_wp2
      go_ret2
      exact ⟨v', by rw [← hrf.out]; rfl, hnat.lower hbw.size, hbw.trans (hb2.mono hbw.size)⟩
    · have hd : dg n j < 1000000000 := dg_lt n j
      obtain ⟨ba, off, rfl, hlb, hbb, hcell⟩ := HB.out (by omega)
      have hcl := (hbw.cell (p := ⟨ba, off + j, none⟩) hbb).trans (hcell j (by omega))
      have hfz := hrow.frozen j
      have hc3 := hrow.cell (i := j) (by omega)
      obtain ⟨hq1, hq2⟩ := quo_digit (n := n) (j := j) hm0
      rw [← hrv.out] at hq1 hq2
      have HQ1 := Lib.hid hq1
      have HQ2 := Lib.hid hq2
      have hqb : (r * 1000000000 + dg n j) / m < 1000000000 := by rw [hq1]; exact dg_lt _ _
      have hqm : (r * 1000000000 + dg n j) % m < m := Nat.mod_lt _ hm0
      obtain ⟨x, hxe⟩ : ∃ x, Hid (x = dg n j) := ⟨_, rfl⟩
      rw [← hxe.out] at hcl hd HQ1 HQ2 hqb hqm
      have hqi : ((r : Int) * 1000000000 + x) / m < 1000000000 := by have h := Int.ofNat_lt.2 hqb; simpa using h
      have hqi0 : 0 ≤ ((r : Int) * 1000000000 + x) / m := Int.ediv_nonneg (by omega) (by omega)
      clear hcell hq1 hq2 hqb
      go_wp2
      go_roundw
      case rel =>
        refine ⟨j, (r * 1000000000 + x) % m, by omega, hqm, by go_num, by go_num, HQ2, RowU.congr (RowU.set hrow j (z := (r * 1000000000 + x) / m) (by go_num)) fun t ht => ?_, Below.setCell hbw hlb1 _⟩
        by_cases e : t = j
        · subst e; rw [upd_same, if_pos (by omega)]; exact HQ1.out
        · rw [upd_other _ _ e]
          by_cases h2 : j + 1 ≤ t
          · rw [if_pos h2, if_pos (by omega)]
          · rw [if_neg h2, if_neg (by omega)]
      case measure => simp [intOf]

end Go.Proofs.YtgheaoaicbkaoaaGreatDoor

