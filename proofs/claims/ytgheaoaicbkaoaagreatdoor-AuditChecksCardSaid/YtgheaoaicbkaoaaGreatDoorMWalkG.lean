/-
  The walks of rational's multiplySmall and divideSmall.
-/
import Derived.Test.YtgheaoaicbkaoaaGreatDoorMWalkA
import Derived.Test.YtgheaoaicbkaoaaGreatDoorMNum
namespace Go.Proofs.YtgheaoaicbkaoaaGreatDoor
open Go.RowKit AC
set_option linter.unusedVariables false
set_option linter.unusedSimpArgs false

theorem vs_scale (n m k : Nat) : vs (fun i => dg n i * m) k = n % B ^ k * m := by
  induction k with
  | zero => simp [vs, Nat.mod_one]
  | succ k ih =>
    rw [vs, ih, mod_pow_succ, Nat.add_mul]
    congr 1
    simp only [Nat.mul_comm, Nat.mul_assoc]

theorem scale_carry (n m j : Nat) (hm : m < B) : vs (fun i => dg n i * m) j / B ^ j < 1000000000 := by
  rw [vs_scale]
  have h1 := Nat.mod_lt n (Bp_pos j)
  have h2 : n % B ^ j * m / B ^ j ≤ m := by
    apply Nat.div_le_of_le_mul
    exact Nat.mul_le_mul_right m (Nat.le_of_lt h1)
  rw [B_eq] at hm
  omega

theorem prod_bound {a b : Nat} (ha : a < 1000000000) (hb : b < 1000000000) : a * b ≤ 999999998000000001 :=
  Nat.le_trans (Nat.mul_le_mul (show a ≤ 999999999 by omega) (show b ≤ 999999999 by omega)) (by decide)

set_option maxHeartbeats 1000000 in
theorem multiplySmall_any (w : World) (lo : Nat) (v : Value) (n m : Nat) (hv : NatR w lo v n) (hk : dl n ≤ 4294967296) (hm : m < 1000000000) :
    Calls Tryz.prog 167 #[v, .int .u64 m] w (Ret fun v2 w' => ∃ b, v2 = .slice (some ⟨b, 0, none⟩) (dl n + 1) (dl n + 1) ∧ w.heap.size ≤ b ∧ RowU w' b 120 (dl n + 1) (dg (n * m)) ∧ Below w.heap.size w w') := by
  obtain ⟨_, A, c, rfl, hkc, hcm, hb⟩ := hv
  unfold maxLen at hcm
  have HB := Lib.hid hb
  have HN : Hid (vs (fun i => dg n i * m) (dl n) = n * m) := by show _ = _; rw [vs_scale, Nat.mod_eq_of_lt (lt_dl n)]
  clear hb
  go_enter Tryz.func167, Tryz.ntmps167
  go_wp2_with (at_make; refine wpList_mkn _ rfl _ _ 112 rfl w.heap.size 120 Tryz.underlying112 info_u32 _ _ _ _ (dl n + 1) (by rfl) (by rfl) (by omega) (by omega) (by omega) w (Below.refl _ _) (Nat.le_refl _) ?_; intro b w1 hlb1 _ hrow1 hbw1 _)
  go_loopw [6, 15] (fun cv i wr => ∃ j c : Nat, j ≤ dl n ∧ c < 1000000000 ∧ i = .int .i64 j ∧ cv = .int .u64 c ∧ Hid (c = vs (fun i => dg n i * m) j / B ^ j) ∧ RowU wr b 120 (dl n + 1) (fun t => if t < j then dg (n * m) t else 0) ∧ Below w.heap.size w wr) (fun _ i _ => dl n - (intOf i).toNat)
  case atStart => exact ⟨0, 0, by omega, by omega, rfl, rfl, by simp [vs, Hid], hrow1.congr fun t _ => by simp, hbw1⟩
  case round =>
    obtain ⟨j, c, hj, hc, rfl, rfl, hcv, hrow, hbw⟩ := hrel
    have hd : dg n j < 1000000000 := dg_lt n j
    by_cases hlt : j < dl n
    · obtain ⟨ba, off, rfl, hlb, hbb, hcell⟩ := HB.out (by omega)
      have hcl := (hbw.cell (p := ⟨ba, off + j, none⟩) hbb).trans (hcell j hlt)
      have hfz := hrow.frozen j
      have hc3 := hrow.cell (i := j) (by omega)
      have hdg : Hid ((dg n j * m + c) % 1000000000 = dg (n * m) j) := by
        have h1 := dg_vs_any (fun i => dg n i * m) hlt
        rw [← hcv.out, HN.out, B_eq] at h1
        exact h1.symm
      have hcn : Hid ((dg n j * m + c) / 1000000000 = vs (fun i => dg n i * m) (j + 1) / B ^ (j + 1)) := by
        have h1 := vs_div_succ (fun i => dg n i * m) j
        rw [← hcv.out] at h1
        exact h1.symm
      have hnb : Hid ((dg n j * m + c) / 1000000000 < 1000000000) := by
        have := scale_carry n m (j + 1) hm
        rw [← hcn.out] at this
        exact this
      obtain ⟨x, hxe⟩ : ∃ x, Hid (x = dg n j) := ⟨_, rfl⟩
      rw [← hxe.out] at hcl hd hdg hcn hnb
      have hpb := prod_bound hd hm
      have hm1 : ((x : Int) * m) ≤ 999999998000000001 := by omega
      have hm0 : 0 ≤ ((x : Int) * m) := by omega
      clear hcell hpb
      go_wp2
      go_roundw
      case rel =>
        refine ⟨j + 1, (x * m + c) / 1000000000, by omega, hnb.out, by go_num, by go_num, hcn, RowU.congr (RowU.set hrow j (z := (x * m + c) % 1000000000) (by go_num)) fun t ht => ?_, Below.setCell hbw hlb1 _⟩
        by_cases e : t = j
        · subst e; rw [upd_same, if_pos (by omega)]; exact hdg.out
        · rw [upd_other _ _ e]
          by_cases h2 : t < j
          · rw [if_pos h2, if_pos (by omega)]
          · rw [if_neg h2, if_neg (by omega)]
      case measure => simp [intOf]; omega
    · obtain rfl : j = dl n := by omega
      have hfz := hrow.frozen (dl n)
      have hc3 := hrow.cell (i := dl n) (by omega)
      have htop : Hid (c = dg (n * m) (dl n)) := by
        show c = n * m / B ^ dl n % B
        rw [← HN.out, ← hcv.out, Nat.mod_eq_of_lt (show c < B from hc)]
      go_wp2
      go_ret
      refine ⟨_, rfl, b, rfl, hlb1, RowU.congr (RowU.set hrow (dl n) (z := c) rfl) fun t ht => ?_, Below.setCell hbw hlb1 _⟩
      by_cases e : t = dl n
      · subst e; rw [upd_same]; exact htop.out
      · rw [upd_other _ _ e, if_pos (by omega)]

theorem quo_digit {n m j : Nat} (hm : 0 < m) :
    (n / B ^ (j + 1) % m * 1000000000 + dg n j) / m = dg (n / m) j ∧ (n / B ^ (j + 1) % m * 1000000000 + dg n j) % m = n / B ^ j % m := by
  have h1 : n / B ^ j = n / B ^ (j + 1) * B + dg n j := by
    have h := div_pow_succ n j
    unfold dg
    rw [h, Nat.mul_comm]
    exact (Nat.div_add_mod _ _).symm
  have h2 : n / m / B ^ j = n / B ^ j / m := by rw [Nat.div_div_eq_div_mul, Nat.div_div_eq_div_mul, Nat.mul_comm]
  generalize n / B ^ (j + 1) = X at *
  have hd : dg n j < B := dg_lt n j
  generalize dg n j = d at *
  have h3 : X * B + d = m * (X / m * B) + (X % m * 1000000000 + d) := by
    have h := Nat.div_add_mod X m
    calc X * B + d = (m * (X / m) + X % m) * B + d := by rw [h]
      _ = m * (X / m * B) + (X % m * 1000000000 + d) := by rw [Nat.add_mul, B_eq, Nat.mul_assoc, Nat.add_assoc]
  have h4 : (X % m * 1000000000 + d) / m < B := by
    rw [Nat.div_lt_iff_lt_mul hm]
    have h := Nat.mod_lt X hm
    have h5 : (X % m + 1) * B ≤ m * B := Nat.mul_le_mul_right _ h
    rw [Nat.mul_comm B m]
    rw [B_eq] at *
    omega
  constructor
  · unfold dg
    rw [h2, h1, h3, Nat.mul_add_div hm, Nat.mul_add_mod_self_right, Nat.mod_eq_of_lt h4]
  · rw [h1, h3, Nat.mul_add_mod]

set_option maxHeartbeats 1000000 in
theorem divideSmall_any (w : World) (lo : Nat) (v : Value) (n m : Nat) (hv : NatR w lo v n) (hk : dl n ≤ 8589934592) (hm : m < 1000000000) (hm0 : 0 < m) :
    Calls Tryz.prog 166 #[v, .int .u64 m] w (fun e w' => ∃ v2, e = .returned (.tuple #[v2, .int .u64 (n % m : Nat)]) ∧ NatR w' w.heap.size v2 (n / m) ∧ Below w.heap.size w w') := by
  obtain ⟨_, A, c, rfl, hkc, hcm, hb⟩ := hv
  unfold maxLen at hcm
  have HB := Lib.hid hb
  have hmz : ((m : Int) == 0) = false := by rw [beq_eq_false_iff_ne]; omega
  clear hb
  go_enter Tryz.func166, Tryz.ntmps166
  go_wp2_with (at_make; refine wpList_mkn _ rfl _ _ 112 rfl w.heap.size 120 Tryz.underlying112 info_u32 _ _ _ _ (dl n) (by rfl) (by rfl) (by omega) (by omega) (by omega) w (Below.refl _ _) (Nat.le_refl _) ?_; intro b w1 hlb1 _ hrow1 hbw1 _)
  go_loopw [7, 8] (fun rv i wr => ∃ j r : Nat, j ≤ dl n ∧ r < m ∧ i = .int .i64 (↑j - 1) ∧ rv = .int .u64 r ∧ Hid (r = n / B ^ j % m) ∧ RowU wr b 120 (dl n) (fun t => if j ≤ t then dg (n / m) t else 0) ∧ Below w.heap.size w wr) (fun _ i _ => (intOf i + 1).toNat)
  case atStart =>
    refine ⟨dl n, 0, by omega, hm0, rfl, rfl, ?_, hrow1.congr fun t ht => by rw [if_neg (by omega)], hbw1⟩
    show 0 = n / B ^ dl n % m
    rw [Nat.div_eq_of_lt (lt_dl n), Nat.zero_mod]
  case round =>
    obtain ⟨j, r, hj, hr, rfl, rfl, hrv, hrow, hbw⟩ := hrel
    rcases j with _ | j
    · have hrow0 : RowU wr b 120 (dl n) (dg (n / m)) := hrow.congr fun t _ => by rw [if_pos (by omega)]
      have hq : Hid (n / m < B ^ dl n) := Nat.lt_of_le_of_lt (Nat.div_le_self _ _) (lt_dl n)
      have hrf : Hid (r = n % m) := by have := hrv.out; rw [Nat.pow_zero, Nat.div_one] at this; exact this
      clear hrow
      go_wp2_with fail
      refine (trim_any _ _ _ _ _ (hrow0.limbs hlb1 (by omega) fun i _ => Nat.lt_trans (dg_lt _ i) (by decide)) hq.out).mono ?_
      rintro e w' ⟨v', rfl, hnat, rfl⟩
      go_wp2
      go_ret2
      exact ⟨v', by rw [← hrf.out]; rfl, hnat, hbw⟩
    · have hd : dg n j < 1000000000 := dg_lt n j
      obtain ⟨ba, off, rfl, hlb, hbb, hcell⟩ := HB.out (by omega)
      have hcl := (hbw.cell (p := ⟨ba, off + j, none⟩) hbb).trans (hcell j (by omega))
      have hfz := hrow.frozen j
      have hc3 := hrow.cell (i := j) (by omega)
      obtain ⟨hq1, hq2⟩ := quo_digit (n := n) (j := j) hm0
      rw [← hrv.out] at hq1 hq2
      have HQ1 := Lib.hid hq1
      have HQ2 := Lib.hid hq2
      have hqb : (r * 1000000000 + dg n j) / m < 1000000000 := by rw [hq1]; exact dg_lt _ _
      have hqm : (r * 1000000000 + dg n j) % m < m := Nat.mod_lt _ hm0
      obtain ⟨x, hxe⟩ : ∃ x, Hid (x = dg n j) := ⟨_, rfl⟩
      rw [← hxe.out] at hcl hd HQ1 HQ2 hqb hqm
      have hqi : ((r : Int) * 1000000000 + x) / m < 1000000000 := by have h := Int.ofNat_lt.2 hqb; simpa using h
      have hqi0 : 0 ≤ ((r : Int) * 1000000000 + x) / m := Int.ediv_nonneg (by omega) (by omega)
      clear hcell hq1 hq2 hqb
      go_wp2
      go_roundw
      case rel =>
        refine ⟨j, (r * 1000000000 + x) % m, by omega, hqm, by go_num, by go_num, HQ2, RowU.congr (RowU.set hrow j (z := (r * 1000000000 + x) / m) (by go_num)) fun t ht => ?_, Below.setCell hbw hlb1 _⟩
        by_cases e : t = j
        · subst e; rw [upd_same, if_pos (by omega)]; exact HQ1.out
        · rw [upd_other _ _ e]
          by_cases h2 : j + 1 ≤ t
          · rw [if_pos h2, if_pos (by omega)]
          · rw [if_neg h2, if_neg (by omega)]
      case measure => simp [intOf]

end Go.Proofs.YtgheaoaicbkaoaaGreatDoor

/-
  Plain facts for the long division: the guess of a digit.
-/
namespace AC
set_option linter.unusedVariables false
set_option linter.unusedSimpArgs false

/-- The guess is never below the digit: the first guess. -/
theorem knuth_first {U V head top next u2 vl ul P q : Nat} (hV : V = (top * B + next) * P + vl) (hU : U = (head * B + u2) * P + ul) (hul : ul < P) (hu2 : u2 < B) (hq : q * V ≤ U) : q * top ≤ head := by
  rcases Nat.lt_or_ge head (q * top) with h | h
  · exfalso
    have h1 : q * (top * B * P) ≤ q * V := Nat.mul_le_mul_left q (by rw [hV, Nat.add_mul]; omega)
    have h2 : (head + 1) * (B * P) ≤ q * top * (B * P) := Nat.mul_le_mul_right _ h
    have h3 : q * (top * B * P) = q * top * (B * P) := by simp only [Nat.mul_assoc]
    have h4 : (u2 + 1) * P ≤ B * P := Nat.mul_le_mul_right _ hu2
    have h5 : (head * B + u2) * P = head * (B * P) + u2 * P := by rw [Nat.add_mul, Nat.mul_assoc]
    rw [Nat.add_mul, Nat.one_mul] at h2 h4
    omega
  · exact h

/-- A guess that is found too great is above the digit. -/
theorem knuth_less {U V head top next u2 vl ul P q g r : Nat} (hV : V = (top * B + next) * P + vl) (hU : U = (head * B + u2) * P + ul) (hul : ul < P) (hh : head = g * top + r)
    (hg : r * B + u2 < g * next) (hq : q * V ≤ U) : q < g := by
  rcases Nat.lt_or_ge q g with h | h
  · exact h
  · exfalso
    have h1 : g * ((top * B + next) * P) ≤ q * V := Nat.mul_le_mul h (by rw [hV]; omega)
    have h2 : g * ((top * B + next) * P) = (g * top * B + g * next) * P := by rw [← Nat.mul_assoc, Nat.mul_add, Nat.mul_assoc]
    have h3 : head * B + u2 + 1 ≤ g * top * B + g * next := by
      have : head * B = g * top * B + r * B := by rw [hh, Nat.add_mul]
      omega
    have h4 : (head * B + u2 + 1) * P ≤ (g * top * B + g * next) * P := Nat.mul_le_mul_right _ h3
    rw [Nat.add_mul, Nat.one_mul] at h4
    omega

/-- A guess that is not found too great is at most one above the digit. -/
theorem knuth_near {U V head top next u2 vl ul P g r : Nat} (hV : V = (top * B + next) * P + vl) (hvl : vl < P) (hnext : next < B) (hU : U = (head * B + u2) * P + ul) (hh : head = g * top + r)
    (htop : 0 < top) (hgB : g < B) (hend : B ≤ r ∨ g * next ≤ r * B + u2) : (g - 1) * V ≤ U := by
  rcases Nat.eq_zero_or_pos g with h0 | h0
  · subst h0; simp
  obtain ⟨k, rfl⟩ : ∃ k, g = k + 1 := ⟨g - 1, by omega⟩
  simp only [Nat.add_sub_cancel]
  rcases hend with h | h
  · have h1 : V ≤ (top + 1) * (B * P) := by
      have h2 : (next + 1) * P ≤ B * P := Nat.mul_le_mul_right _ hnext
      rw [Nat.add_mul, Nat.one_mul] at h2
      have h3 : (top * B + next) * P = top * (B * P) + next * P := by rw [Nat.add_mul, Nat.mul_assoc]
      rw [Nat.add_mul, Nat.one_mul]
      omega
    have h2 : k * V ≤ k * ((top + 1) * (B * P)) := Nat.mul_le_mul_left _ h1
    have h3 : k * ((top + 1) * (B * P)) = (k * top + k) * (B * P) := by rw [← Nat.mul_assoc, Nat.mul_add, Nat.mul_one]
    have h4 : (k * top + k) * (B * P) ≤ head * (B * P) := by
      apply Nat.mul_le_mul_right
      rw [hh, Nat.add_mul]
      omega
    have h5 : (head * B + u2) * P = head * (B * P) + u2 * P := by rw [Nat.add_mul, Nat.mul_assoc]
    omega
  · have h1 : V ≤ (top * B + next + 1) * P := by rw [Nat.add_mul (top * B + next), Nat.one_mul]; omega
    have h2 : k * V ≤ k * ((top * B + next + 1) * P) := Nat.mul_le_mul_left _ h1
    have h3 : k * ((top * B + next + 1) * P) = (k * (top * B + next) + k) * P := by rw [← Nat.mul_assoc, Nat.mul_add k (top * B + next), Nat.mul_one]
    have h4 : k * (top * B + next) + k ≤ head * B + u2 := by
      have e1 : head * B = (k + 1) * top * B + r * B := by rw [hh, Nat.add_mul]
      have e2 : (k + 1) * (top * B + next) = (k + 1) * top * B + (k + 1) * next := by rw [Nat.mul_add, Nat.mul_assoc]
      have e3 : (k + 1) * (top * B + next) = k * (top * B + next) + (top * B + next) := by rw [Nat.add_mul, Nat.one_mul]
      have e4 : 1 * B ≤ top * B := Nat.mul_le_mul_right _ htop
      omega
    have h5 : (k * (top * B + next) + k) * P ≤ (head * B + u2) * P := Nat.mul_le_mul_right _ h4
    omega

/-- A guess of B and more leaves a small rest. -/
theorem knuth_rest {U V head top next u2 vl ul P g r : Nat} (hV : V = (top * B + next) * P + vl) (hvl : vl < P) (hnext : next < B) (hU : U = (head * B + u2) * P + ul) (hh : head = g * top + r)
    (hUV : U < V * B) (hr : B ≤ r) : g < B := by
  rcases Nat.lt_or_ge g B with h | h
  · exact h
  · exfalso
    have h1 : B * top ≤ g * top := Nat.mul_le_mul_right _ h
    have h2 : (B * top + B) * (B * P) ≤ head * (B * P) := Nat.mul_le_mul_right _ (by omega)
    have h3 : V * B ≤ (top + 1) * (B * P) * B := by
      apply Nat.mul_le_mul_right
      have h2 : (next + 1) * P ≤ B * P := Nat.mul_le_mul_right _ hnext
      rw [Nat.add_mul, Nat.one_mul] at h2
      have h3 : (top * B + next) * P = top * (B * P) + next * P := by rw [Nat.add_mul, Nat.mul_assoc]
      rw [Nat.add_mul, Nat.one_mul]
      omega
    have h4 : (top + 1) * (B * P) * B = (B * top + B) * (B * P) := by
      have : B * top + B = (top + 1) * B := by rw [Nat.add_mul, Nat.one_mul, Nat.mul_comm]
      rw [this]
      simp only [Nat.mul_comm, Nat.mul_left_comm, Nat.mul_assoc]
    have h5 : (head * B + u2) * P = head * (B * P) + u2 * P := by rw [Nat.add_mul, Nat.mul_assoc]
    omega

/-- The split of a number at its two highest digits. -/
theorem top_two (V m : Nat) (h : V < B ^ (m + 2)) : V = (dg V (m + 1) * B + dg V m) * B ^ m + V % B ^ m := by
  have h1 := mod_pow_succ V (m + 1)
  have h2 := mod_pow_succ V m
  rw [Nat.mod_eq_of_lt h] at h1
  have h3 : dg V (m + 1) * B ^ (m + 1) = dg V (m + 1) * B * B ^ m := by rw [Nat.pow_succ, Nat.mul_comm (B ^ m) B, Nat.mul_assoc]
  rw [Nat.add_mul]
  omega

theorem vs_top_three (f : Nat → Nat) (m : Nat) : vs f (m + 3) = ((f (m + 2) * B + f (m + 1)) * B + f m) * B ^ m + vs f m := by
  simp only [vs]
  have e1 : f (m + 1) * B ^ (m + 1) = f (m + 1) * B * B ^ m := by rw [Nat.pow_succ, Nat.mul_comm (B ^ m) B, Nat.mul_assoc]
  have e2 : f (m + 2) * B ^ (m + 2) = f (m + 2) * B * B * B ^ m := by
    rw [Nat.pow_succ, Nat.pow_succ]; simp only [Nat.mul_comm, Nat.mul_left_comm, Nat.mul_assoc]
  rw [e1, e2]
  simp only [Nat.add_mul]
  omega

end AC

