/-
  The walk of rational's gcd.
-/
import Derived.Test.YtafhbipafbchcaaWalkE
import Derived.Test.YtafhbipafbchcaaWalkI
namespace Go.Proofs.Ytafhbipafbchcaa
open Go.RowKit AC
set_option linter.unusedVariables false
set_option linter.unusedSimpArgs false

theorem le_two {x : Nat} (h : dl x ≤ 2) : x < 1000000000000000000 := by
  have h1 := Nat.lt_of_lt_of_le (lt_dl x) (Nat.pow_le_pow_right B_pos h)
  have h2 : B ^ 2 = 1000000000000000000 := by decide
  omega

set_option maxHeartbeats 2000000 in
theorem gcd_any (w : World) (lo : Nat) (v v' : Value) (a b : Nat) (hlo : lo ≤ w.heap.size) (hv : NatR w lo v a) (hv' : NatR w lo v' b) (hk : dl a ≤ 4294967296) (hk' : dl b ≤ 4294967296) :
    Calls Try.prog 57 #[v, v'] w (Ret fun v2 w' => NatR w' lo v2 (Nat.gcd a b) ∧ Below w.heap.size w w') := by
  have H1 := Lib.hid hv
  have H2 := Lib.hid hv'
  obtain ⟨A, c, rfl⟩ := Limbs.len hv
  obtain ⟨A', c', rfl⟩ := Limbs.len hv'
  clear hv hv'
  go_enter Try.func57, Try.ntmps57
  go_wp2
  go_loopg [0, 1] b (fun m av bv wr => ∃ x y : Nat, y ≤ m ∧ dl x ≤ 4294967296 ∧ dl y ≤ 4294967296 ∧ NatR wr lo av x ∧ NatR wr lo bv y ∧ Hid (Nat.gcd x y = Nat.gcd a b) ∧ Below w.heap.size w wr)
  case atStart => exact ⟨a, b, Nat.le_refl _, hk, hk', H1.out, H2.out, rfl, Below.refl _ _⟩
  case round =>
    obtain ⟨x, y, hym, hkx, hky, hx, hy, hg, hbw⟩ := hrel
    obtain ⟨A1, c1, rfl⟩ := Limbs.len hx
    obtain ⟨A2, c2, rfl⟩ := Limbs.len hy
    have HX := Lib.hid hx
    have HY := Lib.hid hy
    clear hx hy
    by_cases hy0 : y = 0
    · subst hy0
      rw [dl_zero] at *
      go_wp2
      go_ret
      refine ⟨_, rfl, ?_, hbw⟩
      have := hg.out
      rw [Nat.gcd_zero_right] at this
      rw [← this]
      exact HX.out
    · have hyp : 0 < dl y := Nat.pos_of_ne_zero (mt dl_eq_zero.1 hy0)
      by_cases hb2 : dl x ≤ 2 ∧ dl y ≤ 2
      · obtain ⟨hx2, hy2⟩ := hb2
        have e1 : decide (((dl x : Nat) : Int) ≤ 2) = true := by simp; omega
        have e2 : decide (((dl y : Nat) : Int) ≤ 2) = true := by simp; omega
        have hxb := le_two hx2
        have hyb := le_two hy2
        go_wp2_with fail
        refine (word_yes _ _ _ _ HX.out (by omega)).mono ?_
        rintro e w1 ⟨rfl, rfl⟩
        go_wp2_with fail
        refine (word_yes _ _ _ _ HY.out (by omega)).mono ?_
        rintro e w2 ⟨rfl, rfl⟩
        go_wp2
        obtain ⟨wo, rfl⟩ : ∃ wo : World, wo = wr := ⟨_, rfl⟩
        go_loopg [5, 7] y (fun m xv yv wr => ∃ x' y' : Nat, y' ≤ m ∧ x' < 1000000000000000000 ∧ y' < 1000000000000000000 ∧ xv = .int .u64 x' ∧ yv = .int .u64 y' ∧ Hid (Nat.gcd x' y' = Nat.gcd x y) ∧ Hid (Qt wo wr))
        case atStart => exact ⟨x, y, Nat.le_refl _, hxb, hyb, rfl, rfl, rfl, Qt.refl _⟩
        case round =>
          obtain ⟨x', y', hm', hx', hy', rfl, rfl, hg', hq'⟩ := hrel
          by_cases hz : y' = 0
          · subst hz
            go_wp2_with fail
            refine (fromWord_any _ x' (by omega)).mono ?_
            rintro e w3 ⟨v3, rfl, hn3, hb3⟩
            go_wp2
            go_ret
            have hbq := hbw.trans (hq'.out.below _)
            refine ⟨v3, rfl, ?_, hbq.trans (hb3.mono hbq.size)⟩
            have e3 : x' = Nat.gcd a b := by
              have := hg'.out
              rw [Nat.gcd_zero_right] at this
              rw [this]; exact hg.out
            rw [← e3]
            exact hn3.lower (Nat.le_trans hlo hbq.size)
          · have hzb : ((y' : Int) == 0) = false := by rw [beq_eq_false_iff_ne]; omega
            have hyp' : 0 < y' := by omega
            have hml := Nat.mod_lt x' hyp'
            go_wp2
            go_quiet (fail)
            go_wp2
            go_roundg (x' % y')
            case measure => omega
            case rel => exact ⟨y', x' % y', Nat.le_refl _, hy', by omega, rfl, by go_num, by show _ = _; rw [← hg'.out, Nat.gcd_comm x' y', Nat.gcd_rec y' x', Nat.gcd_comm], hq'.out.drewN _⟩
      · have hyv : 0 < y := by omega
        by_cases hx2 : dl x ≤ 2
        · have e1 : decide (((dl x : Nat) : Int) ≤ 2) = true := by simp; omega
          have e2 : decide (((dl y : Nat) : Int) ≤ 2) = false := by simp; omega
          go_wp2_with fail
          refine (divide_any _ _ _ _ _ _ _ HX.out HY.out hkx hyv).mono ?_
          rintro e w1 ⟨vq, vr, rfl, hq1, hr1, hb1⟩
          go_wp2
          go_roundg (x % y)
          case measure => have := Nat.mod_lt x hyv; omega
          case rel => exact ⟨y, x % y, Nat.le_refl _, hky, Nat.le_trans (dl_mono (Nat.le_of_lt (Nat.mod_lt x hyv))) hky, HY.out.below hb1, hr1.lower (Nat.le_trans hlo hbw.size), by show _ = _; rw [← hg.out, Nat.gcd_comm x y, Nat.gcd_rec y x, Nat.gcd_comm], hbw.trans (hb1.mono hbw.size)⟩
        · have e1 : decide (((dl x : Nat) : Int) ≤ 2) = false := by simp; omega
          go_wp2_with fail
          refine (divide_any _ _ _ _ _ _ _ HX.out HY.out hkx hyv).mono ?_
          rintro e w1 ⟨vq, vr, rfl, hq1, hr1, hb1⟩
          go_wp2
          go_roundg (x % y)
          case measure => have := Nat.mod_lt x hyv; omega
          case rel => exact ⟨y, x % y, Nat.le_refl _, hky, Nat.le_trans (dl_mono (Nat.le_of_lt (Nat.mod_lt x hyv))) hky, HY.out.below hb1, hr1.lower (Nat.le_trans hlo hbw.size), by show _ = _; rw [← hg.out, Nat.gcd_comm x y, Nat.gcd_rec y x, Nat.gcd_comm], hbw.trans (hb1.mono hbw.size)⟩

end Go.Proofs.Ytafhbipafbchcaa
