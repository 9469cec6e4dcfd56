/-
  The walks of the reference's natural numbers: cut, nat, limbs, natCmp.
-/
import Derived.Test.YtafhbipafbchcaaWalkX
namespace Go.Proofs.Ytafhbipafbchcaa
open Go.RowKit AC
set_option linter.unusedVariables false
set_option linter.unusedSimpArgs false

set_option maxHeartbeats 800000 in
theorem cut_any (w : World) (lo : Nat) (v : Value) (k N : Nat) (hv : Limbs w lo v k (dg N)) (hN : N < B ^ k) (hk : k ≤ 4294967296000) :
    Calls Try.prog 53 #[v] w (Ret fun v' w' => NatR w' w.heap.size v' N ∧ Below w.heap.size w w') := by
  obtain ⟨hlt, A, c, rfl, hkc, hcm, hb⟩ := hv
  have HN := Lib.hid hN
  have HB := Lib.hid hb
  have HL := Lib.hid hlt
  unfold maxLen at hcm
  clear hN hb hlt
  go_enter Try.func53, Try.ntmps53
  go_wp2
  go_loop [3] (fun t => ∃ j : Nat, j ≤ k ∧ t = .int .i64 j ∧ Hid (N < B ^ j)) (fun t => (intOf t).toNat)
  case atStart => exact ⟨k, Nat.le_refl _, rfl, HN⟩
  case round =>
    obtain ⟨j, hj, rfl, hNj⟩ := hrel
    rcases j with _ | j
    · have HS : Hid (Limbs w lo (.slice A 0 c) 0 (dg N)) := ⟨fun i hi => absurd hi (by omega), A, c, rfl, by omega, by unfold maxLen; omega, fun h => absurd h (by omega)⟩
      go_wp2_with (at_builtin; refine wpList_copyNew _ rfl _ _ 27 rfl w.heap.size 49 Try.underlying27 info_u32 (by rfl) _ 0 c (dg N) (by rfl) lo HS.out w (Below.refl _ _) (Nat.le_refl _) (by omega) ?_; intro v1 w1 hown1 hb1)
      go_ret
      have h0 : N = 0 := by simpa using hNj.out
      exact ⟨v1, rfl, NatR.of (hown1.limbs fun i _ => Nat.lt_trans (dg_lt _ i) (by decide)) (by rw [h0, dl_zero]), hb1⟩
    · obtain ⟨b, off, rfl, hlb, hbw, hcell⟩ := HB.out (by omega)
      have hcl := hcell j (by omega)
      have HC := Lib.hid hcell
      clear hcell
      by_cases h0 : dg N j = 0
      · have h1 : (((dg N j : Nat) : Int) == 0) = true := by rw [h0]; rfl
        have H0 := Lib.hid h0
        clear h0
        go_wp2
        go_round
        case rel => exact ⟨j, by omega, rfl, low_of_zero hNj.out H0.out⟩
        case measure => simp [intOf]
      · have h1 : (((dg N j : Nat) : Int) == 0) = false := by rw [beq_eq_false_iff_ne]; omega
        have H0 := Lib.hid h0
        clear h0
        have HS : Hid (Limbs w lo (.slice (some ⟨b, off, none⟩) (j + 1) c) (j + 1) (dg N)) := ⟨fun i hi => HL.out i (by omega), _, c, rfl, by omega, by unfold maxLen; omega, fun _ => ⟨b, off, rfl, hlb, hbw, fun i hi => HC.out i (by omega)⟩⟩
        go_wp2_with (at_builtin; refine wpList_copyNew _ rfl _ _ 27 rfl w.heap.size 49 Try.underlying27 info_u32 (by rfl) _ (j + 1) c (dg N) (by rfl) lo HS.out w (Below.refl _ _) (Nat.le_refl _) (by omega) ?_; intro v1 w1 hown1 hb1)
        go_ret
        have e := dl_of_digits (k := j + 1) hNj.out (.inr (by simpa using H0.out))
        exact ⟨v1, rfl, NatR.of (hown1.limbs fun i _ => Nat.lt_trans (dg_lt _ i) (by decide)) e, hb1⟩

set_option maxHeartbeats 800000 in
theorem nat_any (w : World) (lo : Nat) (v : Value) (k : Nat) (f : Nat → Nat) (hv : Limbs w lo v k f) (hk : k ≤ 4294967296) :
    Calls Try.prog 40 #[v] w (Ret fun v' w' => NatR w' w.heap.size v' (vs f k) ∧ Below w.heap.size w w') := by
  obtain ⟨hlt, A, c, rfl, hkc, hcm, hb⟩ := hv
  have HC := Lib.hid (carry_small f k hlt)
  have HB := Lib.hid hb
  have HL := Lib.hid hlt
  obtain ⟨N, HN⟩ : ∃ N, Hid (N = vs f k) := ⟨_, rfl⟩
  unfold maxLen at hcm
  clear hb hlt
  go_enter Try.func40, Try.ntmps40
  go_wp2
  go_loopw [3, 4, 5] (fun o cv i wr => ∃ j c : Nat, j ≤ k ∧ c ≤ 4 ∧ i = .int .i64 j ∧ cv = .int .u64 c ∧ Hid (c = vs f j / B ^ j) ∧ Own wr w.heap.size 49 o j (dg N) ∧ Below w.heap.size w wr) (fun _ _ i _ => k - (intOf i).toNat)
  case atStart => exact ⟨0, 0, by omega, by omega, rfl, rfl, by simp [vs, Hid], World.ownsRow_nil _ _ _ _, Below.refl _ _⟩
  case round =>
    obtain ⟨j, c, hj, hc, rfl, rfl, hcv, hown, hbw⟩ := hrel
    by_cases hlt : j < k
    · obtain ⟨b, off, rfl, hlb, hbb, hcell⟩ := HB.out (by omega)
      have hcl := (hbw.cell (p := ⟨b, off + j, none⟩) hbb).trans (hcell j hlt)
      have hfj := HL.out j hlt
      have hdg : Hid ((c + f j) % 1000000000 = dg N j) := by
        have h1 := dg_vs_any f hlt
        rw [← hcv.out, ← HN.out, B_eq, Nat.add_comm] at h1
        exact h1.symm
      have hcn : Hid ((c + f j) / 1000000000 = vs f (j + 1) / B ^ (j + 1)) := by
        have h1 := vs_div_succ f j
        rw [← hcv.out, Nat.add_comm (f j)] at h1
        exact h1.symm
      have hc4 : (c + f j) / 1000000000 ≤ 4 := by omega
      clear hcell
      go_wp2_with (at_builtin; refine wpList_push wr rfl _ _ 27 rfl w.heap.size 49 Try.underlying27 info_u32 _ j (dg N) (by rfl) hown (by rfl) w hbw hbw.size (by omega) ?c1 ?_)
      case c1 => rw [← hdg.out]; omega
      intro v1 w1 hown1 hb1
      go_wp2
      go_roundw
      case rel => exact ⟨j + 1, (c + f j) / 1000000000, by omega, hc4, by go_num, by go_num, hcn, hown1, hb1⟩
      case measure => simp [intOf]; omega
    · obtain rfl : j = k := by omega
      have hNv : Hid (N = vs f j) := HN
      have hdv : Hid (c = N / B ^ j) := by rw [hcv.out, HN.out]; rfl
      by_cases hc0 : 0 < c
      · have hcb : Hid (dg N j = c) := by
          show N / B ^ j % B = c
          rw [← hdv.out, B_eq]
          omega
        have hNj : Hid (N < B ^ (j + 1)) := by
          show N < B ^ (j + 1)
          rw [Nat.pow_succ, Nat.mul_comm, ← Nat.div_lt_iff_lt_mul (Bp_pos j), ← hdv.out, B_eq]
          omega
        go_wp2_with (at_builtin; refine wpList_push wr rfl _ _ 27 rfl w.heap.size 49 Try.underlying27 info_u32 _ j (dg N) (by rfl) hown (by rfl) w hbw hbw.size (by omega) ?c1 ?_)
        case c1 => rw [hcb.out]
        intro v1 w1 hown1 hb1
        go_wp2_with fail
        refine (cut_any _ _ _ _ _ (hown1.limbs fun i _ => Nat.lt_trans (dg_lt N i) (by decide)) hNj.out (by omega)).mono ?_
        rintro e w' ⟨v', rfl, hnat, hb2⟩
        go_wp2
        go_ret
        exact ⟨v', rfl, by rw [← HN.out]; exact hnat.lower hb1.size, hb1.trans (hb2.mono hb1.size)⟩
      · have hNj : Hid (N < B ^ j) := by
          have h0 : N / B ^ j = 0 := by rw [← hdv.out]; omega
          exact (Nat.div_eq_zero_iff_lt (Bp_pos j)).1 h0
        go_wp2_with fail
        refine (cut_any _ _ _ _ _ (hown.limbs fun i _ => Nat.lt_trans (dg_lt N i) (by decide)) hNj.out (by omega)).mono ?_
        rintro e w' ⟨v', rfl, hnat, hb2⟩
        go_wp2
        go_ret
        exact ⟨v', rfl, by rw [← HN.out]; exact hnat.lower hbw.size, hbw.trans (hb2.mono hbw.size)⟩

set_option maxHeartbeats 800000 in
theorem limbs_any (w : World) (n : Nat) (hn : n < 18446744073709551616) :
    Calls Try.prog 26 #[.int .u64 n] w (Ret fun v' w' => NatR w' w.heap.size v' n ∧ Below w.heap.size w w') := by
  have hd3 : dl n ≤ 3 := dl_le (Nat.lt_trans hn (by decide))
  obtain ⟨N, HN⟩ : ∃ N, Hid (N = n) := ⟨_, rfl⟩
  go_enter Try.func26, Try.ntmps26
  go_wp2
  go_loopw [0, 3] (fun nv o wr => ∃ j m : Nat, j ≤ 3 ∧ m ≤ n ∧ nv = .int .u64 m ∧ Hid (m = N / B ^ j) ∧ Hid (j ≤ dl N) ∧ Own wr w.heap.size 49 o j (dg N) ∧ Below w.heap.size w wr) (fun nv _ _ => (intOf nv).toNat)
  case atStart => exact ⟨0, n, by omega, by omega, rfl, by simp [Hid, HN.out], Nat.zero_le _, World.ownsRow_nil _ _ _ _, Below.refl _ _⟩
  case round =>
    obtain ⟨j, m, hj, hm, rfl, hmv, hjd, hown, hbw⟩ := hrel
    by_cases h0 : 0 < m
    · have hdg : Hid (m % 1000000000 = dg N j) := by show _ = N / B ^ j % B; rw [← hmv.out, B_eq]
      have hnx : Hid (m / 1000000000 = N / B ^ (j + 1)) := by show _ = _; rw [div_pow_succ, ← hmv.out, B_eq]
      have hjl : Hid (j + 1 ≤ dl N) := by
        refine dl_gt ?_
        have h1 := hmv.out
        rcases Nat.lt_or_ge N (B ^ j) with h | h
        · rw [Nat.div_eq_of_lt h] at h1; omega
        · exact h
      have hj3 : j + 1 ≤ 3 := by have := hjl.out; rw [HN.out] at this; omega
      go_wp2_with (at_builtin; refine wpList_push wr rfl _ _ 27 rfl w.heap.size 49 Try.underlying27 info_u32 _ j (dg N) (by rfl) hown (by rfl) w hbw hbw.size (by omega) ?c1 ?_)
      case c1 => rw [← hdg.out]; omega
      intro v1 w1 hown1 hb1
      go_wp2
      go_roundw
      case rel => exact ⟨j + 1, m / 1000000000, hj3, by omega, by go_num, hnx, hjl, hown1, hb1⟩
      case measure => simp [intOf]; omega
    · obtain rfl : m = 0 := by omega
      go_wp2
      go_ret
      have hlt : N < B ^ j := (Nat.div_eq_zero_iff_lt (Bp_pos j)).1 hmv.out.symm
      have e : dl N = j := Nat.le_antisymm (dl_le hlt) hjd.out
      refine ⟨_, rfl, ?_, hbw⟩
      rw [← HN.out]
      exact NatR.of (hown.limbs fun i _ => Nat.lt_trans (dg_lt _ i) (by decide)) e

end Go.Proofs.Ytafhbipafbchcaa
