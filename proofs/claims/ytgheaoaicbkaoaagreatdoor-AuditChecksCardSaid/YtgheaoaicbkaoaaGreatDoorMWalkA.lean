/-
  The walks of rational's natural numbers: trim, isOne, normal, compare, add, subtract.
-/
import Derived.Test.YtgheaoaicbkaoaaGreatDoorMNum
import Derived.Test.YtgheaoaicbkaoaaGreatDoorProg
import Derived.WalkKit
import Derived.WalkSpells
import Derived.WalkLawsBesides
import Derived.Deep.QuietTactic
import Derived.BigQuiet
import Derived.IntWalk
import Derived.Lib.Hide
namespace Go.Proofs.YtgheaoaicbkaoaaGreatDoor
open Go.RowKit AC
set_option linter.unusedVariables false
set_option linter.unusedSimpArgs false

/-- The call returns a value v and leaves a world w' with R v w'. -/
def Ret (R : Value → World → Prop) (e : Ending) (w' : World) : Prop := ∃ v, e = .returned v ∧ R v w'

theorem low_of_zero {N j : Nat} (h : N < B ^ (j + 1)) (h0 : dg N j = 0) : N < B ^ j := by
  have h1 := mod_pow_succ N j
  rw [h0, Nat.mod_eq_of_lt h] at h1
  have := Nat.mod_lt N (Bp_pos j)
  omega

set_option maxHeartbeats 400000 in
theorem trim_any (w : World) (lo : Nat) (v : Value) (k N : Nat) (hv : Limbs w lo v k (dg N)) (hN : N < B ^ k) :
    Calls Tryz.prog 62 #[v] w (Ret fun v' w' => NatR w lo v' N ∧ w = w') := by
  obtain ⟨hlt, A, c, rfl, hkc, hcm, hb⟩ := hv
  have hv : Hid (Limbs w lo (.slice A k c) k (dg N)) := ⟨hlt, A, c, rfl, hkc, hcm, hb⟩
  have HN := Lib.hid hN
  have HB := Lib.hid hb
  have HL := Lib.hid hlt
  unfold maxLen at hcm
  clear hN hb hlt
  go_enter Tryz.func62, Tryz.ntmps62
  go_wp2
  go_loop [3] (fun t => ∃ j : Nat, j ≤ k ∧ t = .int .i64 j ∧ Hid (N < B ^ j)) (fun t => (intOf t).toNat)
  case atStart => exact ⟨k, Nat.le_refl _, rfl, HN⟩
  case round =>
    obtain ⟨j, hj, rfl, hNj⟩ := hrel
    rcases j with _ | j
    · go_wp2
      go_ret
      refine ⟨.slice A 0 c, rfl, ?_, rfl⟩
      have h0 : N = 0 := by simpa using hNj.out
      subst h0
      refine ⟨fun i hi => ?_, A, c, by rw [dl_zero], by rw [dl_zero]; omega, by unfold maxLen; omega, fun h => ?_⟩
      · rw [dl_zero] at hi; omega
      · rw [dl_zero] at h; omega
    · obtain ⟨b, off, rfl, hlb, hbw, hcell⟩ := HB.out (by omega)
      have hcl := hcell j (by omega)
      have HC := Lib.hid hcell
      clear hcell
      by_cases h0 : dg N j = 0
      · have h1 : (((dg N j : Nat) : Int) == 0) = true := by rw [h0]; rfl
        have H0 := Lib.hid h0
        clear h0
        go_wp2
        go_round
        case rel => exact ⟨j, by omega, rfl, low_of_zero hNj.out H0.out⟩
        case measure => simp [intOf]
      · have h1 : (((dg N j : Nat) : Int) == 0) = false := by rw [beq_eq_false_iff_ne]; omega
        have H0 := Lib.hid h0
        clear h0
        go_wp2
        go_ret
        have e := dl_of_digits (k := j + 1) hNj.out (.inr (by simpa using H0.out))
        refine ⟨.slice (some ⟨b, off, none⟩) (j + 1) c, rfl, ?_, rfl⟩
        refine NatR.of (k := j + 1) ⟨fun i hi => HL.out i (by omega), _, c, rfl, by omega, by unfold maxLen; omega, fun _ => ⟨b, off, rfl, hlb, hbw, fun i hi => HC.out i (by omega)⟩⟩ e

theorem info_u32 : (Tryz.prog.info? 120).map (fun i => (i.zero, i.size, i.bytes)) = some (some (.int .u32 0), 1, 4) := by kernel_rfl

theorem carry_small (f : Nat → Nat) (k : Nat) (h : ∀ i, i < k → f i < 4294967296) : ∀ j, j ≤ k → vs f j / B ^ j ≤ 4 := by
  intro j
  induction j with
  | zero => intro _; simp [vs]
  | succ j ih =>
    intro hj
    have h1 := ih (by omega)
    have h2 := h j (by omega)
    rw [vs_div_succ]
    generalize vs f j / B ^ j = q at *
    rw [B_eq]
    omega

set_option maxHeartbeats 800000 in
theorem normal_any (w : World) (lo : Nat) (v : Value) (k : Nat) (f : Nat → Nat) (hv : Limbs w lo v k f) (hk : k ≤ 4294967296) :
    Calls Tryz.prog 61 #[v] w (Ret fun v' w' => NatR w' w.heap.size v' (vs f k) ∧ Below w.heap.size w w') := by
  obtain ⟨hlt, A, c, rfl, hkc, hcm, hb⟩ := hv
  have HC := Lib.hid (carry_small f k hlt)
  have HB := Lib.hid hb
  have HL := Lib.hid hlt
  obtain ⟨N, HN⟩ : ∃ N, Hid (N = vs f k) := ⟨_, rfl⟩
  unfold maxLen at hcm
  clear hb hlt
  go_enter Tryz.func61, Tryz.ntmps61
  go_wp2_with (at_make; refine wpList_mk0 _ rfl _ _ 112 rfl w.heap.size 120 Tryz.underlying112 info_u32 _ _ _ (k + 1) rfl rfl (by omega) (by omega) (Nat.le_refl _) ?_; intro v0 w0 hown0 hg0)
  have hb0 : Below w.heap.size w w0 := (Below.refl _ _).grown hg0 (Nat.le_refl _) (by simp)
  go_loopw [3, 4, 13] (fun o cv i wr => ∃ j c : Nat, j ≤ k ∧ c ≤ 4 ∧ i = .int .i64 j ∧ cv = .int .u64 c ∧ Hid (c = vs f j / B ^ j) ∧ Own wr w.heap.size 120 o j (dg N) ∧ Below w.heap.size w wr) (fun _ _ i _ => k - (intOf i).toNat)
  case atStart => exact ⟨0, 0, by omega, by omega, rfl, rfl, by simp [vs, Hid], hown0 _, hb0⟩
  case round =>
    obtain ⟨j, c, hj, hc, rfl, rfl, hcv, hown, hbw⟩ := hrel
    by_cases hlt : j < k
    · obtain ⟨b, off, rfl, hlb, hbb, hcell⟩ := HB.out (by omega)
      have hcl := (hbw.cell (p := ⟨b, off + j, none⟩) hbb).trans (hcell j hlt)
      have hfj := HL.out j hlt
      have hdg : Hid ((f j + c) % 1000000000 = dg N j) := by
        have h1 := dg_vs_any f hlt
        rw [← hcv.out, ← HN.out, B_eq] at h1
        exact h1.symm
      have hcn : Hid ((f j + c) / 1000000000 = vs f (j + 1) / B ^ (j + 1)) := by
        have h1 := vs_div_succ f j
        rw [← hcv.out] at h1
        exact h1.symm
      have hc4 : (f j + c) / 1000000000 ≤ 4 := by omega
      clear hcell
      go_wp2_with (at_builtin; refine wpList_push wr rfl _ _ 112 rfl w.heap.size 120 Tryz.underlying112 info_u32 _ j (dg N) (by rfl) hown (by rfl) w hbw hbw.size (by omega) ?c1 ?_)
      case c1 => rw [← hdg.out]; omega
      intro v1 w1 hown1 hb1
      go_wp2
      go_roundw
      case rel => exact ⟨j + 1, (f j + c) / 1000000000, by omega, hc4, by go_num, by go_num, hcn, hown1, hb1⟩
      case measure => simp [intOf]; omega
    · obtain rfl : j = k := by omega
      have hNv : Hid (N = vs f j) := HN
      have hdv : Hid (c = N / B ^ j) := by rw [hcv.out, HN.out]; rfl
      by_cases hc0 : 0 < c
      · have hcb : Hid (dg N j = c) := by
          show N / B ^ j % B = c
          rw [← hdv.out, B_eq]
          omega
        have hNj : Hid (N < B ^ (j + 1)) := by
          show N < B ^ (j + 1)
          rw [Nat.pow_succ, Nat.mul_comm, ← Nat.div_lt_iff_lt_mul (Bp_pos j), ← hdv.out, B_eq]
          omega
        go_wp2_with (at_builtin; refine wpList_push wr rfl _ _ 112 rfl w.heap.size 120 Tryz.underlying112 info_u32 _ j (dg N) (by rfl) hown (by rfl) w hbw hbw.size (by omega) ?c1 ?_)
        case c1 => rw [hcb.out]
        intro v1 w1 hown1 hb1
        go_wp2_with fail
        refine (trim_any _ _ _ _ _ (hown1.limbs fun i _ => Nat.lt_trans (dg_lt N i) (by decide)) hNj.out).mono ?_
        rintro e w' ⟨v', rfl, hnat, rfl⟩
        go_wp2
        go_ret
        exact ⟨v', rfl, by rw [← HN.out]; exact hnat, hb1⟩
      · have hNj : Hid (N < B ^ j) := by
          have h0 : N / B ^ j = 0 := by rw [← hdv.out]; omega
          exact (Nat.div_eq_zero_iff_lt (Bp_pos j)).1 h0
        go_wp2_with fail
        refine (trim_any _ _ _ _ _ (hown.limbs fun i _ => Nat.lt_trans (dg_lt N i) (by decide)) hNj.out).mono ?_
        rintro e w' ⟨v', rfl, hnat, rfl⟩
        go_wp2
        go_ret
        exact ⟨v', rfl, by rw [← HN.out]; exact hnat, hbw⟩

end Go.Proofs.YtgheaoaicbkaoaaGreatDoor

/-
  The walk of rational's word, where the number fits.
-/
namespace Go.Proofs.YtgheaoaicbkaoaaGreatDoor
open Go.RowKit AC
set_option linter.unusedVariables false
set_option linter.unusedSimpArgs false

theorem div_split' (n j : Nat) : n / B ^ j = n / B ^ (j + 1) * B + dg n j := by
  have h := div_pow_succ n j
  unfold dg
  rw [h, Nat.mul_comm]
  exact (Nat.div_add_mod _ _).symm

set_option maxHeartbeats 1000000 in
theorem word_yes (w : World) (lo : Nat) (v : Value) (n : Nat) (hv : NatR w lo v n) (hn : n < 18446744073709551616) :
    Calls Tryz.prog 165 #[v] w (fun e w' => e = .returned (.tuple #[.int .u64 n, .bool true]) ∧ w = w') := by
  obtain ⟨_, A, c, rfl, hkc, hcm, hb⟩ := hv
  unfold maxLen at hcm
  have HB := Lib.hid hb
  have HN := Lib.hid hn
  clear hb hn
  obtain ⟨k, hk⟩ : ∃ k, k = dl n := ⟨_, rfl⟩
  rw [← hk] at HB hkc ⊢
  have HK := Lib.hid hk
  clear hk
  go_enter Tryz.func165, Tryz.ntmps165
  go_wp2
  go_loop [4, 9] (fun x i => ∃ j y : Nat, j ≤ k ∧ y < 18446744073709551616 ∧ i = .int .i64 j ∧ x = .int .u64 y ∧ Hid (y = n / B ^ (k - j))) (fun _ i => k - (intOf i).toNat)
  case atStart => exact ⟨0, 0, by omega, by omega, rfl, rfl, by show 0 = n / B ^ (k - 0); rw [Nat.sub_zero, HK.out, Nat.div_eq_of_lt (lt_dl n)]⟩
  case round =>
    obtain ⟨j, y, hj, hy, rfl, rfl, hyv⟩ := hrel
    by_cases hlt : j < k
    · obtain ⟨b, off, rfl, hlb, hbb, hcell⟩ := HB.out (by omega)
      have hcl := hcell (k - 1 - j) (by omega)
      clear hcell
      have hd := dg_lt n (k - 1 - j)
      rw [B_eq] at hd
      have hnx : y * 1000000000 + dg n (k - 1 - j) = n / B ^ (k - (j + 1)) := by
        have h1 := div_split' n (k - 1 - j)
        rw [show k - 1 - j + 1 = k - j by omega, ← hyv.out, B_eq] at h1
        rw [← h1, show k - (j + 1) = k - 1 - j by omega]; rfl
      have hle : n / B ^ (k - (j + 1)) ≤ n := Nat.div_le_self _ _
      have HNX := Lib.hid hnx
      have hs : y * 1000000000 + dg n (k - 1 - j) ≤ 18446744073709551615 := by have := HN.out; omega
      clear hle hnx
      generalize dg n (k - 1 - j) = d at *
      have hq : ¬ ((18446744073709551615 - (d : Int)) / 1000000000 < (y : Int)) := by omega
      go_wp2
      go_round
      case rel => exact ⟨j + 1, y * 1000000000 + d, by omega, by omega, by go_num, by go_num, HNX⟩
      case measure => simp [intOf]; omega
    · obtain rfl : j = k := by omega
      have hfin : Hid (y = n) := by have := hyv.out; rw [Nat.sub_self, Nat.pow_zero, Nat.div_one] at this; exact this
      go_wp2
      go_ret2
      exact ⟨by rw [← hfin.out]; rfl, rfl⟩

end Go.Proofs.YtgheaoaicbkaoaaGreatDoor

/-
  The walks of rational's natural numbers: compare.
-/
namespace Go.Proofs.YtgheaoaicbkaoaaGreatDoor
open Go.RowKit AC
set_option linter.unusedVariables false
set_option linter.unusedSimpArgs false

/-- What compare returns. -/
def cmpI (n m : Nat) : Int := if n < m then -1 else if n = m then 0 else 1
theorem cmpI_lt {n m : Nat} (h : n < m) : cmpI n m = -1 := by unfold cmpI; rw [if_pos h]
theorem cmpI_eq {n m : Nat} (h : n = m) : cmpI n m = 0 := by unfold cmpI; rw [if_neg (by omega), if_pos h]
theorem cmpI_gt {n m : Nat} (h : m < n) : cmpI n m = 1 := by unfold cmpI; rw [if_neg (by omega), if_neg (by omega)]

theorem div_split (n j : Nat) : n / B ^ j = n / B ^ (j + 1) * B + dg n j := by
  have h := div_pow_succ n j
  unfold dg
  rw [h, Nat.mul_comm]
  exact (Nat.div_add_mod _ _).symm

theorem lt_of_div_lt {n m k : Nat} (h : n / k < m / k) : n < m := by
  rcases Nat.lt_or_ge n m with h1 | h1
  · exact h1
  · have := Nat.div_le_div_right (c := k) h1; omega

set_option maxHeartbeats 800000 in
theorem ucompare_any (w : World) (lo lo' : Nat) (v v' : Value) (n m : Nat) (hv : NatR w lo v n) (hv' : NatR w lo' v' m) :
    Calls Tryz.prog 27 #[v, v'] w (fun e w' => e = .returned (.int .i64 (cmpI n m)) ∧ Qt w w') := by
  obtain ⟨_, A, c, rfl, hkc, hcm, hb⟩ := hv
  obtain ⟨_, A', c', rfl, hkc', hcm', hb'⟩ := hv'
  unfold maxLen at hcm hcm'
  have HB := Lib.hid hb
  have HB' := Lib.hid hb'
  clear hb hb'
  rcases Nat.lt_trichotomy (dl n) (dl m) with h | h | h
  · have hne : (((dl n : Nat) : Int) != ((dl m : Nat) : Int)) = true := by rw [bne_iff_ne]; omega
    go_enter Tryz.func27, Tryz.ntmps27
    go_wp2
    go_ret
    exact ⟨by rw [cmpI_lt (lt_of_dl_lt h)]; rfl, Qt.refl _⟩
  · obtain ⟨k, hk⟩ : ∃ k, k = dl n := ⟨_, rfl⟩
    have hm := hk.trans h
    rw [← hk] at HB hkc ⊢
    rw [← hm] at HB' hkc' ⊢
    have HK := Lib.hid hk
    have HM := Lib.hid hm
    clear hk hm h
    go_enter Tryz.func27, Tryz.ntmps27
    go_wp2
    go_loopw [5] (fun i wr => ∃ j q : Nat, j ≤ k ∧ i = .int .i64 (↑j - 1) ∧ Hid (n / B ^ j = m / B ^ j) ∧ wr = w.drewN q) (fun i _ => (intOf i + 1).toNat)
    case atStart =>
      refine ⟨k, 0, Nat.le_refl _, rfl, ?_, rfl⟩
      have h1 := lt_dl n
      have h2 := lt_dl m
      rw [← HK.out] at h1
      rw [← HM.out] at h2
      show n / B ^ k = m / B ^ k
      rw [Nat.div_eq_of_lt h1, Nat.div_eq_of_lt h2]
    case round =>
      obtain ⟨j, q, hj, rfl, hd, rfl⟩ := hrel
      rcases j with _ | j
      · go_wp2
        go_ret
        refine ⟨?_, Qt.of _ _⟩
        have h1 : n = m := by simpa using hd.out
        rw [cmpI_eq h1]; rfl
      · obtain ⟨b, off, rfl, hlb, hbb, hcell⟩ := HB.out (by omega)
        obtain ⟨b', off', rfl, hlb', hbb', hcell'⟩ := HB'.out (by omega)
        have hc1 := hcell j (by omega)
        have hc2 := hcell' j (by omega)
        clear hcell hcell'
        have hs1 := Lib.hid (div_split n j)
        have hs2 := Lib.hid (div_split m j)
        rcases Nat.lt_trichotomy (dg n j) (dg m j) with h | h | h
        · have hfin : Hid (n < m) := lt_of_div_lt (k := B ^ j) (by rw [hs1.out, hs2.out, hd.out]; omega)
          go_wp2
          go_quiet (fail)
          go_wp2
          go_ret
          exact ⟨by rw [cmpI_lt hfin.out]; rfl, (Qt.of _ _).drewN _⟩
        · have hfin : Hid (n / B ^ j = m / B ^ j) := by show n / B ^ j = m / B ^ j; rw [hs1.out, hs2.out, hd.out, h]
          have hne1 : decide (dg n j < dg m j) = false := by simp; omega
          have hne2 : decide (dg m j < dg n j) = false := by simp; omega
          clear h
          go_wp2
          go_quiet (fail)
          go_wp2
          go_quiet (fail)
          go_wp2
          go_roundw
          case rel => exact ⟨j, _, by omega, by go_num, hfin, rfl⟩
          case measure => simp [intOf]
        · have hfin : Hid (m < n) := lt_of_div_lt (k := B ^ j) (by rw [hs1.out, hs2.out, hd.out]; omega)
          have hne1 : decide (dg n j < dg m j) = false := by simp; omega
          go_wp2
          go_quiet (fail)
          go_wp2
          go_quiet (fail)
          go_wp2
          go_ret
          exact ⟨by rw [cmpI_gt hfin.out]; rfl, ((Qt.of _ _).drewN _).drewN _⟩
  · have hne : (((dl n : Nat) : Int) != ((dl m : Nat) : Int)) = true := by rw [bne_iff_ne]; omega
    go_enter Tryz.func27, Tryz.ntmps27
    go_wp2
    go_ret
    exact ⟨by rw [cmpI_gt (lt_of_dl_lt h)]; rfl, Qt.refl _⟩

end Go.Proofs.YtgheaoaicbkaoaaGreatDoor

