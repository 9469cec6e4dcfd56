/-
  The walks of the reference's natDiv (joined), natGcd and build.
-/
import Derived.Test.YtafhbipafbchcaaRefF
namespace Go.Proofs.Ytafhbipafbchcaa
open Go.RowKit AC
set_option linter.unusedVariables false
set_option linter.unusedSimpArgs false

theorem natDiv_any (w : World) (lo lo' : Nat) (v v' : Value) (n m : Nat) (hv : NatR w lo v n) (hv' : NatR w lo' v' m) (hk : dl n ≤ 4294967290) (hm : m ≠ 0) :
    Calls Try.prog 42 #[v, v'] w (DivP w n m) := by
  rcases Nat.lt_or_ge n m with h | h
  · exact natDiv_less w lo lo' v v' n m hv hv' (by omega) h
  · have h1 : 0 < dl m := Nat.pos_of_ne_zero (mt dl_eq_zero.1 hm)
    by_cases h2 : dl m = 1
    · exact natDiv_small w lo lo' v v' n m hv hv' (by omega) h2 h
    · exact natDiv_long w lo lo' v v' n m hv hv' hk (by omega) h

set_option maxHeartbeats 1000000 in
theorem natGcd_any (w : World) (lo : Nat) (v v' : Value) (a b : Nat) (hlo : lo ≤ w.heap.size) (hv : NatR w lo v a) (hv' : NatR w lo v' b) (hk : dl a ≤ 4294967290) (hk' : dl b ≤ 4294967290) :
    Calls Try.prog 41 #[v, v'] w (Ret fun v2 w' => NatR w' lo v2 (Nat.gcd a b) ∧ Below w.heap.size w w') := by
  have H1 := Lib.hid hv
  have H2 := Lib.hid hv'
  obtain ⟨A, c, rfl⟩ := Limbs.len hv
  obtain ⟨A', c', rfl⟩ := Limbs.len hv'
  clear hv hv'
  go_enter Try.func41, Try.ntmps41
  go_wp2
  go_loopg [0, 1] b (fun m av bv wr => ∃ x y : Nat, y ≤ m ∧ dl x ≤ 4294967290 ∧ dl y ≤ 4294967290 ∧ NatR wr lo av x ∧ NatR wr lo bv y ∧ Hid (Nat.gcd x y = Nat.gcd a b) ∧ Below w.heap.size w wr)
  case atStart => exact ⟨a, b, Nat.le_refl _, hk, hk', H1.out, H2.out, rfl, Below.refl _ _⟩
  case round =>
    obtain ⟨x, y, hym, hkx, hky, hx, hy, hg, hbw⟩ := hrel
    obtain ⟨A1, c1, rfl⟩ := Limbs.len hx
    obtain ⟨A2, c2, rfl⟩ := Limbs.len hy
    have HX := Lib.hid hx
    have HY := Lib.hid hy
    clear hx hy
    by_cases hy0 : y = 0
    · subst hy0
      rw [dl_zero] at *
      go_wp2
      go_ret
      refine ⟨_, rfl, ?_, hbw⟩
      have := hg.out
      rw [Nat.gcd_zero_right] at this
      rw [← this]
      exact HX.out
    · have hyp : 0 < dl y := Nat.pos_of_ne_zero (mt dl_eq_zero.1 hy0)
      go_wp2_with fail
      refine (natDiv_any _ lo lo _ _ x y HX.out HY.out hkx hy0).mono ?_
      rintro e w1 ⟨q, r, rfl, hq, hr, hb1⟩
      have hlt : x % y < y := Nat.mod_lt _ (Nat.pos_of_ne_zero hy0)
      have hs := hbw.size
      go_wp2
      go_roundg (x % y)
      case rel =>
        refine ⟨y, x % y, Nat.le_refl _, hky, Nat.le_trans (dl_mono (Nat.le_of_lt hlt)) hky, HY.out.below hb1, hr.lower (by omega), ?_, hbw.trans (hb1.mono hs)⟩
        show _ = _
        rw [← hg.out, Nat.gcd_comm x y, Nat.gcd_comm y (x % y), ← Nat.gcd_rec]
      case measure => omega

end Go.Proofs.Ytafhbipafbchcaa
