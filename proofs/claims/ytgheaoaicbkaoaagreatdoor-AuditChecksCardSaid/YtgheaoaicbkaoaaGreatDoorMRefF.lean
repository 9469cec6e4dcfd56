/-
  The walk of the reference's natDiv: long division.
-/
import Derived.Test.YtgheaoaicbkaoaaGreatDoorMRefC
import Derived.Deep.CutBlock
import Derived.Deep.DeepCutAuto
namespace Go.Proofs.YtgheaoaicbkaoaaGreatDoor
open Go.RowKit AC
set_option linter.unusedVariables false
set_option linter.unusedSimpArgs false

/-- One step of long division: R is the rest with the next digit. -/
theorem long_step {n m j : Nat} (hm : 0 < m) : ∃ R, R = dg n j + B * (n / B ^ (j + 1) % m) ∧ R < m * B ∧ R / m = dg (n / m) j ∧ R % m = n / B ^ j % m := by
  obtain ⟨h1, h2⟩ := quo_digit (n := n) (j := j) hm
  have e : n / B ^ (j + 1) % m * 1000000000 + dg n j = dg n j + B * (n / B ^ (j + 1) % m) := by rw [B_eq, Nat.mul_comm, Nat.add_comm]
  rw [e] at h1 h2
  refine ⟨_, rfl, ?_, h1, h2⟩
  have h3 : n / B ^ (j + 1) % m < m := Nat.mod_lt _ hm
  have h4 := dg_lt n j
  have h5 : B * (n / B ^ (j + 1) % m + 1) ≤ B * m := Nat.mul_le_mul_left _ h3
  rw [Nat.mul_add, Nat.mul_one] at h5
  rw [Nat.mul_comm m B]
  omega

/-- The outer loop. -/
def DvRel (w : World) (b n m : Nat) (rv iv : Value) (wr : World) : Prop :=
  ∃ j : Nat, j ≤ dl n ∧ iv = .int .i64 ((j : Int) - 1) ∧ Hid (NatR wr (b + 1) rv (n / B ^ j % m)) ∧ Hid (RowU wr b 120 (dl n) (fun t => if j ≤ t then dg (n / m) t else 0)) ∧ Below w.heap.size w wr

set_option maxHeartbeats 4000000 in
theorem natDiv_long (w : World) (lo lo' : Nat) (v v' : Value) (n m : Nat) (hv : NatR w lo v n) (hv' : NatR w lo' v' m) (hk : dl n ≤ 4294967290) (hm2 : 2 ≤ dl m) (hge : m ≤ n) :
    Calls Tryz.prog 71 #[v, v'] w (DivP w n m) := by
  have HV := Lib.hid hv
  have HV' := Lib.hid hv'
  have hm0 : 0 < m := by
    rcases Nat.eq_zero_or_pos m with h | h
    · rw [h, dl_zero] at hm2; omega
    · exact h
  have hmn : dl m ≤ dl n := dl_mono hge
  obtain ⟨_, A, c, rfl, hkc, hcm, hb⟩ := hv
  obtain ⟨A', c', rfl⟩ := Limbs.len hv'
  unfold maxLen at hcm
  have HB := Lib.hid hb
  have HC : Hid (0 ≤ cmpI n m) := by
    show 0 ≤ cmpI n m
    rcases Nat.lt_or_ge m n with h | h
    · rw [cmpI_gt h]; omega
    · rw [cmpI_eq (by omega)]; omega
  obtain ⟨z, hz⟩ : ∃ z, z = cmpI n m := ⟨_, rfl⟩
  rw [← hz] at HC
  have HZ := Lib.hid hz
  have hz0 := HC.out
  have hne1 : (((dl m : Nat) : Int) == 1) = false := by rw [beq_eq_false_iff_ne]; omega
  clear hv' hb hz
  go_enter Tryz.func71, Tryz.ntmps71
  go_wp2_with fail
  refine (natCmp_any _ lo lo' _ _ n m HV.out HV'.out).mono ?_
  rintro e w0 ⟨rfl, hq0⟩
  rw [← HZ.out]
  have hb0 := hq0.below w.heap.size
  go_wp2_with (at_make; refine wpList_mkn _ rfl _ _ 25 rfl w.heap.size 120 Tryz.underlying25 info_u32 _ _ _ _ (dl n) (by rfl) (by rfl) (by omega) (by omega) (by omega) w hb0 hb0.size ?_; intro b w1 hlb1 _ hrow1 hbw1 _)
  go_loopw [9, 10] (fun rv iv wr => DvRel w b n m rv iv wr) (fun _ iv _ => (intOf iv + 1).toNat)
  case atStart =>
    refine ⟨dl n, Nat.le_refl _, rfl, ?_, hrow1.congr fun t ht => by rw [if_neg (by omega)], hbw1⟩
    show NatR _ _ _ _
    rw [Nat.div_eq_of_lt (lt_dl n), Nat.zero_mod]
    exact NatR.zero _ _
  case round =>
    obtain ⟨j, hj, rfl, hr, hrow, hbw⟩ := hrel
    rcases j with _ | j
    · have hrow0 : Hid (RowU wr b 120 (dl n) (dg (n / m))) := hrow.out.congr fun t _ => by rw [if_pos (by omega)]
      have hq : Hid (n / m < B ^ dl n) := Nat.lt_of_le_of_lt (Nat.div_le_self _ _) (lt_dl n)
      have hrf := hr.out
      rw [Nat.pow_zero, Nat.div_one] at hrf
      have HRF := Lib.hid hrf
      clear hrow hr hrf
      go_wp2_with fail
      refine (cut_any _ _ _ _ _ (hrow0.out.limbs hlb1 (by omega) fun i _ => Nat.lt_trans (dg_lt _ i) (by decide)) hq.out (by omega)).mono ?_
      rintro e w' ⟨v', rfl, hnat, hb2⟩
      go_wp2
      go_ret2
      exact ⟨v', _, rfl, hnat.lower hbw.size, (HRF.out.below hb2).lower (by omega), hbw.trans (hb2.mono hbw.size)⟩
    · have hd : dg n j < 1000000000 := dg_lt n j
      obtain ⟨ba, off, rfl, hlb, hbb, hcell⟩ := HB.out (by omega)
      have hcl := (hbw.cell (p := ⟨ba, off + j, none⟩) hbb).trans (hcell j (by omega))
      clear hcell
      obtain ⟨R, hR1, hR2, hR3, hR4⟩ := long_step (n := n) (j := j) hm0
      have hlenr : dl (n / B ^ (j + 1) % m) ≤ dl m := dl_mono (Nat.le_of_lt (Nat.mod_lt _ hm0))
      obtain ⟨r0, hr0⟩ : ∃ r0, r0 = n / B ^ (j + 1) % m := ⟨_, rfl⟩
      rw [← hr0] at hr hR1 hlenr
      have hRl : R < B ^ (dl r0 + 1) := by
        rw [hR1, Nat.pow_succ, Nat.mul_comm _ B]
        have h1 := lt_dl r0
        have h2 : B * (r0 + 1) ≤ B * B ^ dl r0 := Nat.mul_le_mul_left _ h1
        have h3 := dg_lt n j
        rw [Nat.mul_add, Nat.mul_one] at h2
        omega
      have hdlR : dl R ≤ dl m + 1 := Nat.le_trans (dl_le hRl) (by omega)
      have HR1 := Lib.hid hR1
      have HR2 := Lib.hid hR2
      have HR3 := Lib.hid hR3
      have HR4 := Lib.hid hR4
      have HRL := Lib.hid hRl
      obtain ⟨A9, c9, rfl⟩ := Limbs.len hr.out
      have hlr := hrow.out.lt
      clear hR1 hR2 hR3 hR4 hRl hr0
      go_wp2_with (at_builtin; refine wpList_cons wr rfl _ _ 25 rfl 120 Tryz.underlying25 info_u32 (by rfl) A9 (dl r0) c9 (dg r0) (by rfl) (b + 1) hr.out (by omega) ?_; intro v1 w2 hown2 hbw2)
      have hown3 := hown2.congr (g := dg R) fun i _ => by rw [HR1.out]; exact dg_cons hd i
      refine (cut_any _ _ _ _ R (hown3.limbs fun i _ => Nat.lt_trans (dg_lt _ i) (by decide)) HRL.out (by omega)).mono ?_
      rintro e w3 ⟨v3, rfl, hn3, hb3⟩
      have hbw3 := hbw2.trans (hb3.mono hbw2.size)
      have HROW := Lib.hid (hrow.out.below hbw3)
      have hs2 := hbw2.size
      have hs3 := hb3.size
      have HN3 := Lib.hid (hn3.lower (lo' := b + 1) (by omega))
      have hbq := hbw.trans (hbw3.mono hbw.size)
      have HM3 := Lib.hid (NatR.below HV'.out hbq)
      obtain ⟨A3, c3, rfl⟩ := Limbs.len hn3
      clear hown2 hown3 hn3 hb3 hbw3 hbw2 hrow hr hcl
      go_wp2_with fail
      refine (guess_any _ _ _ _ _ R m HN3.out HM3.out hm2 hdlR).mono ?_
      rintro e w4 ⟨d0, hd0, rfl, hq4⟩
      go_upto_block 2 with (fail)
      go_cut [11] from 54 to 66 (fun dv wx => ∃ d : Nat, d ≤ 999999999 ∧ dv = .int .u64 d ∧ Hid (m * d ≤ R) ∧ Below w3.heap.size w3 wx)
      case first =>
        go_wp2
        go_loopw [11] (fun dv wx => ∃ d : Nat, d ≤ 999999999 ∧ dv = .int .u64 d ∧ Below w3.heap.size w3 wx) (fun dv _ => (intOf dv).toNat)
        case atStart => exact ⟨d0, hd0, rfl, hq4.below _⟩
        case round =>
          obtain ⟨d, hdd, rfl, hbx⟩ := hrel
          rcases d with _ | d
          · go_wp2
            go_meet
            exact ⟨0, by omega, rfl, Nat.zero_le _, hbx⟩
          · have hgt : decide ((0 : Int) < (d : Int) + 1) = true := by rw [decide_eq_true_iff]; omega
            go_wp2_with fail
            refine (limbs_any _ (d + 1) (by omega)).mono ?_
            rintro e w5 ⟨v5, rfl, hn5, hb5⟩
            have HN5 := Lib.hid hn5
            have hbx5 := hbx.trans (hb5.mono hbx.size)
            have hdl5 : dl (d + 1) ≤ 1 := dl_le (by rw [Nat.pow_one, B_eq]; omega)
            obtain ⟨A5, c5, rfl⟩ := Limbs.len hn5
            clear hn5 hb5
            go_wp2_with fail
            refine (natMul_any _ lo' _ _ _ m (d + 1) (HM3.out.below hbx5) HN5.out (by omega) (by omega)).mono ?_
            rintro e w6 ⟨v6, rfl, hn6, hb6⟩
            have HN6 := Lib.hid hn6
            have hbx6 := hbx5.trans (hb6.mono hbx5.size)
            obtain ⟨A6, c6, rfl⟩ := Limbs.len hn6
            clear hn6 hb6
            go_wp2_with fail
            refine (natCmp_any _ _ _ _ _ (m * (d + 1)) R HN6.out (HN3.out.below hbx6)).mono ?_
            rintro e w7 ⟨rfl, hq7⟩
            have hbx7 := hbx6.trans (hq7.below _)
            by_cases hgr : R < m * (d + 1)
            · rw [cmpI_gt hgr]
              clear hgr
              go_wp2
              go_roundw
              case rel => exact ⟨d, by omega, by go_num, hbx7⟩
              case measure => simp [intOf]
            · have hc7 : cmpI (m * (d + 1)) R ≤ 0 := by
                rcases Nat.lt_or_ge (m * (d + 1)) R with h | h
                · rw [cmpI_lt h]; omega
                · rw [cmpI_eq (by omega)]; omega
              have HGR : Hid (m * (d + 1) ≤ R) := Nat.le_of_not_lt hgr
              generalize cmpI (m * (d + 1)) R = z7 at *
              clear hgr
              go_wp2
              go_meet
              exact ⟨d + 1, by omega, by go_num, HGR, hbx7⟩
      case rest =>
        obtain ⟨d, hdd, rfl, hmd, hbx⟩ := hcut
        go_wp2_with fail
        refine (limbs_any _ d (by omega)).mono ?_
        rintro e w5 ⟨v5, rfl, hn5, hb5⟩
        have HN5 := Lib.hid hn5
        have hbx5 := hbx.trans (hb5.mono hbx.size)
        have hdl5 : dl d ≤ 1 := dl_le (by rw [Nat.pow_one, B_eq]; omega)
        obtain ⟨A5, c5, rfl⟩ := Limbs.len hn5
        clear hn5 hb5
        go_wp2_with fail
        refine (natMul_any _ lo' _ _ _ m d (HM3.out.below hbx5) HN5.out (by omega) (by omega)).mono ?_
        rintro e w6 ⟨v6, rfl, hn6, hb6⟩
        have HN6 := Lib.hid hn6
        have hbx6 := hbx5.trans (hb6.mono hbx5.size)
        obtain ⟨A6, c6, rfl⟩ := Limbs.len hn6
        clear hn6 hb6
        go_wp2_with fail
        refine (natSub_any _ _ _ _ _ R (m * d) (R - m * d) (HN3.out.below hbx6) HN6.out (by omega) (by have := hmd.out; omega)).mono ?_
        rintro e w7 ⟨v7, rfl, hn7, hb7⟩
        have HN7 := Lib.hid hn7
        have hbx7 := hbx6.trans (hb7.mono hbx6.size)
        have hs6 := hbx6.size
        clear hn7 hb7
        go_wp2
        go_loopw [9, 11] (fun rv dv wx => ∃ d r : Nat, d ≤ 999999999 ∧ dv = .int .u64 d ∧ Hid (R = m * d + r) ∧ Hid (NatR wx (b + 1) rv r) ∧ Below w3.heap.size w3 wx) (fun _ dv _ => 1000000000 - (intOf dv).toNat)
        case atStart => exact ⟨d, R - m * d, hdd, rfl, (by have := hmd.out; show _ = _; omega), HN7.out.lower (by omega), hbx7⟩
        case round =>
          obtain ⟨d, r, hdd, rfl, hRd, hr, hbx⟩ := hrel
          obtain ⟨A9, c9, hv9⟩ := Limbs.len hr.out
          subst hv9
          have hrR : r ≤ R := by have := hRd.out; omega
          have hdlr : dl r ≤ 4294967296 := Nat.le_trans (dl_mono hrR) (by omega)
          go_wp2_with fail
          refine (natCmp_any _ _ lo' _ _ r m hr.out (HM3.out.below hbx)).mono ?_
          rintro e w8 ⟨rfl, hq8⟩
          have hbx8 := hbx.trans (hq8.below _)
          have HR8 := Lib.hid (NatR.below hr.out (hq8.below _))
          by_cases hlt : r < m
          · have HD : Hid (d = dg (n / m) j) := by
              show _ = _
              rw [← HR3.out, hRd.out, Nat.mul_add_div hm0, Nat.div_eq_of_lt hlt, Nat.add_zero]
            have HM : Hid (r = n / B ^ j % m) := by
              show _ = _
              rw [← HR4.out, hRd.out, Nat.mul_add_mod, Nat.mod_eq_of_lt hlt]
            rw [cmpI_lt hlt]
            have HRO := Lib.hid (HROW.out.below hbx8)
            have hfz := HRO.out.frozen j
            have hc3 := HRO.out.cell (i := j) (by omega)
            go_wp2
            go_roundw
            case rel =>
              refine ⟨j, by omega, by go_num, ?_, RowU.congr (RowU.set HRO.out j (z := d) (by go_num)) fun t ht => ?_, Below.setCell (hbq.trans (hbx8.mono hbq.size)) hlb1 _⟩
              · show NatR _ _ _ _
                rw [← HM.out]
                exact Limbs.setCell HR8.out (Nat.lt_succ_self b) _
              · by_cases e : t = j
                · subst e; rw [upd_same, if_pos (by omega)]; exact HD.out
                · rw [upd_other _ _ e]
                  by_cases h2 : j + 1 ≤ t
                  · rw [if_pos h2, if_pos (by omega)]
                  · rw [if_neg h2, if_neg (by omega)]
            case measure => simp [intOf]
          · have hc8 : 0 ≤ cmpI r m := by
              rcases Nat.lt_or_ge m r with h | h
              · rw [cmpI_gt h]; omega
              · rw [cmpI_eq (by omega)]; omega
            have hdn : d + 1 ≤ 999999999 := by
              have h1 : m * (d + 1) ≤ R := by rw [hRd.out, Nat.mul_add, Nat.mul_one]; omega
              have h2 := Nat.lt_of_mul_lt_mul_left (Nat.lt_of_le_of_lt h1 HR2.out)
              rw [B_eq] at h2
              omega
            generalize cmpI r m = z8 at *
            go_wp2_with fail
            refine (natSub_any _ _ lo' _ _ r m (r - m) HR8.out (HM3.out.below hbx8) (by omega) (by omega)).mono ?_
            rintro e w9 ⟨v9, rfl, hn9, hb9⟩
            have hs8 := hbx8.size
            go_wp2
            go_roundw
            case rel => exact ⟨d + 1, r - m, hdn, by go_num, (by show _ = _; rw [hRd.out, Nat.mul_add, Nat.mul_one]; omega), hn9.lower (by omega), hbx8.trans (hb9.mono hs8)⟩
            case measure => simp [intOf]; omega

end Go.Proofs.YtgheaoaicbkaoaaGreatDoor

/-
  The walks of the reference's natDiv (joined), natGcd and build.
-/
namespace Go.Proofs.YtgheaoaicbkaoaaGreatDoor
open Go.RowKit AC
set_option linter.unusedVariables false
set_option linter.unusedSimpArgs false

theorem natDiv_any (w : World) (lo lo' : Nat) (v v' : Value) (n m : Nat) (hv : NatR w lo v n) (hv' : NatR w lo' v' m) (hk : dl n ≤ 4294967290) (hm : m ≠ 0) :
    Calls Tryz.prog 71 #[v, v'] w (DivP w n m) := by
  rcases Nat.lt_or_ge n m with h | h
  · exact natDiv_less w lo lo' v v' n m hv hv' (by omega) h
  · have h1 : 0 < dl m := Nat.pos_of_ne_zero (mt dl_eq_zero.1 hm)
    by_cases h2 : dl m = 1
    · exact natDiv_small w lo lo' v v' n m hv hv' (by omega) h2 h
    · exact natDiv_long w lo lo' v v' n m hv hv' hk (by omega) h

set_option maxHeartbeats 1000000 in
theorem natGcd_any (w : World) (lo : Nat) (v v' : Value) (a b : Nat) (hlo : lo ≤ w.heap.size) (hv : NatR w lo v a) (hv' : NatR w lo v' b) (hk : dl a ≤ 4294967290) (hk' : dl b ≤ 4294967290) :
    Calls Tryz.prog 70 #[v, v'] w (Ret fun v2 w' => NatR w' lo v2 (Nat.gcd a b) ∧ Below w.heap.size w w') := by
  have H1 := Lib.hid hv
  have H2 := Lib.hid hv'
  obtain ⟨A, c, rfl⟩ := Limbs.len hv
  obtain ⟨A', c', rfl⟩ := Limbs.len hv'
  clear hv hv'
  go_enter Tryz.func70, Tryz.ntmps70
  go_wp2
  go_loopg [0, 1] b (fun m av bv wr => ∃ x y : Nat, y ≤ m ∧ dl x ≤ 4294967290 ∧ dl y ≤ 4294967290 ∧ NatR wr lo av x ∧ NatR wr lo bv y ∧ Hid (Nat.gcd x y = Nat.gcd a b) ∧ Below w.heap.size w wr)
  case atStart => exact ⟨a, b, Nat.le_refl _, hk, hk', H1.out, H2.out, rfl, Below.refl _ _⟩
  case round =>
    obtain ⟨x, y, hym, hkx, hky, hx, hy, hg, hbw⟩ := hrel
    obtain ⟨A1, c1, rfl⟩ := Limbs.len hx
    obtain ⟨A2, c2, rfl⟩ := Limbs.len hy
    have HX := Lib.hid hx
    have HY := Lib.hid hy
    clear hx hy
    by_cases hy0 : y = 0
    · subst hy0
      rw [dl_zero] at *
      go_wp2
      go_ret
      refine ⟨_, rfl, ?_, hbw⟩
      have := hg.out
      rw [Nat.gcd_zero_right] at this
      rw [← this]
      exact HX.out
    · have hyp : 0 < dl y := Nat.pos_of_ne_zero (mt dl_eq_zero.1 hy0)
      go_wp2_with fail
      refine (natDiv_any _ lo lo _ _ x y HX.out HY.out hkx hy0).mono ?_
      rintro e w1 ⟨q, r, rfl, hq, hr, hb1⟩
      have hlt : x % y < y := Nat.mod_lt _ (Nat.pos_of_ne_zero hy0)
      have hs := hbw.size
      go_wp2
      go_roundg (x % y)
      case rel =>
        refine ⟨y, x % y, Nat.le_refl _, hky, Nat.le_trans (dl_mono (Nat.le_of_lt hlt)) hky, HY.out.below hb1, hr.lower (by omega), ?_, hbw.trans (hb1.mono hs)⟩
        show _ = _
        rw [← hg.out, Nat.gcd_comm x y, Nat.gcd_comm y (x % y), ← Nat.gcd_rec]
      case measure => omega

end Go.Proofs.YtgheaoaicbkaoaaGreatDoor

/-
  The walk of the reference's build.
-/
namespace Go.Proofs.YtgheaoaicbkaoaaGreatDoor
open Go.RowKit AC
set_option linter.unusedVariables false
set_option linter.unusedSimpArgs false

set_option maxHeartbeats 2000000 in
theorem build_zero (w : World) (lo lo' : Nat) (neg : Bool) (v v' : Value) (kn kd : Nat) (fn fd : Nat → Nat) (hn : Limbs w lo v kn fn) (hd : Limbs w lo' v' kd fd) (hkn : kn ≤ 4000000000) (hkd : kd ≤ 4000000000) (N D : Nat) (hN : Hid (N = vs fn kn)) (hD : Hid (D = vs fd kd)) (h0 : N = 0 ∨ D = 0) :
    Calls Tryz.prog 35 #[.bool neg, v, v'] w (Ret fun v2 w' => FracR w' w.heap.size v2 false 0 1 ∧ Below w.heap.size w w') := by
  have HN := Lib.hid hn
  have HD := Lib.hid hd
  obtain ⟨A, c, rfl⟩ := Limbs.len hn
  obtain ⟨A', c', rfl⟩ := Limbs.len hd
  clear hn hd
  go_enter Tryz.func35, Tryz.ntmps35
  go_wp2_with fail
  refine (nat_any _ lo _ kn fn (HN.out.below (bel1 w _)) (by omega)).mono ?_
  rintro e w1 ⟨v1, rfl, hn1, hb1⟩
  rw [← hN.out] at hn1
  have HN1 := Lib.hid hn1
  have HR1 := Lib.hid ((Bk.new w 27 #[.bool false, .slice none 0 0, .slice none 0 0]).below hb1 (by simp))
  have hbw1 := (bel1 w _).trans (hb1.mono (by simp))
  obtain ⟨A1, c1, rfl⟩ := Limbs.len hn1
  have hz1 : w.heap.size < w1.heap.size := HR1.out.lt
  clear hn1 hb1
  go_wp2_with fail
  refine (nat_any _ lo' _ kd fd (HD.out.below hbw1) (by omega)).mono ?_
  rintro e w2 ⟨v2, rfl, hn2, hb2⟩
  rw [← hD.out] at hn2
  have HN2 := Lib.hid (hn2.lower (lo' := w.heap.size + 1) hz1)
  have HN1' := Lib.hid ((HN1.out.below hb2).lower (lo' := w.heap.size + 1) (by simp))
  have HR2 := Lib.hid (HR1.out.below hb2 hz1)
  have hbw2 := hbw1.trans (hb2.mono hbw1.size)
  obtain ⟨A2, c2, rfl⟩ := Limbs.len hn2
  have hz2 : w.heap.size < w2.heap.size := HR2.out.lt
  clear hn2 hb2 HN1 HR1
  have H0 := Lib.hid h0
  clear h0
  obtain ⟨hcR, hfR, hzR⟩ := HR2.out.facts
  by_cases h1 : N = 0
  · subst h1
    rw [dl_zero] at *
    go_wp2
    have hF := ((((HR2.out.set 0 (.bool false)).set 1 (.slice none 0 0)).set 2 (.slice (some ⟨w2.heap.size, 0, none⟩) 1 1)).alloc (.cells #[.int .u32 1] 120))
    obtain ⟨hcF, _, _⟩ := hF.facts
    refine bodyPost_ret (v := .agg #[.bool false, .slice none 0 0, .slice (some ⟨w2.heap.size, 0, none⟩) 1 1]) (by simp [results, Tryz.results35, go_sem, hcF]) rfl ⟨_, rfl, ⟨_, _, rfl, NatR.zero _ _, ?_⟩, (below_set3 hbw2 (Nat.le_refl _) _ _ _).alloc (by rw [size_set3]; omega) _⟩
    have h1 := NatR.oneNew (((w2.setCell ⟨w.heap.size, 0, none⟩ (.bool false)).setCell ⟨w.heap.size, 1, none⟩ (.slice none 0 0)).setCell ⟨w.heap.size, 2, none⟩ (.slice (some ⟨w2.heap.size, 0, none⟩) 1 1)) w.heap.size 120 (by rw [size_set3]; omega)
    rw [size_set3] at h1
    exact h1
  · have h2 : D = 0 := by have := H0.out; omega
    subst h2
    rw [dl_zero] at *
    have hne : (((dl N : Nat) : Int) == 0) = false := by
      rw [beq_eq_false_iff_ne]
      have := mt dl_eq_zero.1 h1
      omega
    go_wp2
    have hF := ((((HR2.out.set 0 (.bool false)).set 1 (.slice none 0 0)).set 2 (.slice (some ⟨w2.heap.size, 0, none⟩) 1 1)).alloc (.cells #[.int .u32 1] 120))
    obtain ⟨hcF, _, _⟩ := hF.facts
    refine bodyPost_ret (v := .agg #[.bool false, .slice none 0 0, .slice (some ⟨w2.heap.size, 0, none⟩) 1 1]) (by simp [results, Tryz.results35, go_sem, hcF]) rfl ⟨_, rfl, ⟨_, _, rfl, NatR.zero _ _, ?_⟩, (below_set3 hbw2 (Nat.le_refl _) _ _ _).alloc (by rw [size_set3]; omega) _⟩
    have h1 := NatR.oneNew (((w2.setCell ⟨w.heap.size, 0, none⟩ (.bool false)).setCell ⟨w.heap.size, 1, none⟩ (.slice none 0 0)).setCell ⟨w.heap.size, 2, none⟩ (.slice (some ⟨w2.heap.size, 0, none⟩) 1 1)) w.heap.size 120 (by rw [size_set3]; omega)
    rw [size_set3] at h1
    exact h1

end Go.Proofs.YtgheaoaicbkaoaaGreatDoor

/-
  The walk of the reference's build, the numbers that are not zero.
-/
namespace Go.Proofs.YtgheaoaicbkaoaaGreatDoor
open Go.RowKit AC
set_option linter.unusedVariables false
set_option linter.unusedSimpArgs false

theorem lowest_form {N D : Nat} (hN : N ≠ 0) (hD : D ≠ 0) : 0 < Nat.gcd N D ∧ N / Nat.gcd N D ≠ 0 := by
  have hg : 0 < Nat.gcd N D := Nat.gcd_pos_of_pos_left D (Nat.pos_of_ne_zero hN)
  exact ⟨hg, low_pos hN⟩

set_option maxHeartbeats 2000000 in
theorem build_pos (w : World) (lo lo' : Nat) (neg : Bool) (v v' : Value) (kn kd : Nat) (fn fd : Nat → Nat) (hn : Limbs w lo v kn fn) (hd : Limbs w lo' v' kd fd) (hkn : kn ≤ 4000000000) (hkd : kd ≤ 4000000000) (N D : Nat) (hN : Hid (N = vs fn kn)) (hD : Hid (D = vs fd kd)) (h0 : N ≠ 0) (h0' : D ≠ 0) :
    Calls Tryz.prog 35 #[.bool neg, v, v'] w (Ret fun v2 w' => FracR w' w.heap.size v2 neg (N / Nat.gcd N D) (D / Nat.gcd N D) ∧ Below w.heap.size w w') := by
  have hkN : dl N ≤ 4000000001 := by
    rw [hN.out]
    exact Nat.le_trans (dl_limbs (fun i hi => hn.1 i hi)) (by omega)
  have hkD : dl D ≤ 4000000001 := by
    rw [hD.out]
    exact Nat.le_trans (dl_limbs (fun i hi => hd.1 i hi)) (by omega)
  have HN := Lib.hid hn
  have HD := Lib.hid hd
  obtain ⟨A, c, rfl⟩ := Limbs.len hn
  obtain ⟨A', c', rfl⟩ := Limbs.len hd
  clear hn hd
  go_enter Tryz.func35, Tryz.ntmps35
  go_wp2_with fail
  refine (nat_any _ lo _ kn fn (HN.out.below (bel1 w _)) (by omega)).mono ?_
  rintro e w1 ⟨v1, rfl, hn1, hb1⟩
  rw [← hN.out] at hn1
  have HN1 := Lib.hid hn1
  have HR1 := Lib.hid ((Bk.new w 27 #[.bool false, .slice none 0 0, .slice none 0 0]).below hb1 (by simp))
  have hbw1 := (bel1 w _).trans (hb1.mono (by simp))
  obtain ⟨A1, c1, rfl⟩ := Limbs.len hn1
  have hz1 : w.heap.size < w1.heap.size := HR1.out.lt
  clear hn1 hb1
  go_wp2_with fail
  refine (nat_any _ lo' _ kd fd (HD.out.below hbw1) (by omega)).mono ?_
  rintro e w2 ⟨v2, rfl, hn2, hb2⟩
  rw [← hD.out] at hn2
  have HN2 := Lib.hid (hn2.lower (lo' := w.heap.size + 1) hz1)
  have HN1' := Lib.hid ((HN1.out.below hb2).lower (lo' := w.heap.size + 1) (by simp))
  have HR2 := Lib.hid (HR1.out.below hb2 hz1)
  have hbw2 := hbw1.trans (hb2.mono hbw1.size)
  obtain ⟨A2, c2, rfl⟩ := Limbs.len hn2
  have hz2 : w.heap.size < w2.heap.size := HR2.out.lt
  clear hn2 hb2 HN1 HR1
  have hne : (((dl N : Nat) : Int) == 0) = false := by
    rw [beq_eq_false_iff_ne]
    have := mt dl_eq_zero.1 h0
    omega
  have hne' : (((dl D : Nat) : Int) == 0) = false := by
    rw [beq_eq_false_iff_ne]
    have := mt dl_eq_zero.1 h0'
    omega
  go_wp2_with fail
  refine (natGcd_any _ (w.heap.size + 1) _ _ N D hz2 HN1'.out HN2.out (by omega) (by omega)).mono ?_
  rintro e w3 ⟨vg, rfl, hg3, hb3⟩
  have HG3 := Lib.hid hg3
  have hgp := (lowest_form h0 h0').1
  have hlg : dl (Nat.gcd N D) ≤ dl N := dl_mono (Nat.gcd_le_left D (Nat.pos_of_ne_zero h0))
  obtain ⟨g, hg⟩ : ∃ g, g = Nat.gcd N D := ⟨_, rfl⟩
  rw [← hg] at HG3 hgp hg3 hlg
  have HGE := Lib.hid hg
  clear hg
  have HR3 := Lib.hid (HR2.out.below hb3 hz2)
  have hbw3 := hbw2.trans (hb3.mono hbw2.size)
  have HA3 := Lib.hid (HN1'.out.below hb3)
  have HB3 := Lib.hid (HN2.out.below hb3)
  have hz3 : w.heap.size < w3.heap.size := HR3.out.lt
  obtain ⟨_, Ag, cg, rfl, hgc, hgm, hgcell⟩ := hg3
  have hdg1 : 0 < dl g := Nat.pos_of_ne_zero (mt dl_eq_zero.1 (by omega))
  obtain ⟨bg, og, rfl, hlg2, hbg, hgcell⟩ := hgcell hdg1
  have hcg := hgcell 0 hdg1
  rw [Nat.add_zero] at hcg
  have hgd : dg g 0 < 1000000000 := dg_lt _ _
  clear hgcell hb3 HN1' HN2 HR2
  by_cases hone : g = 1
  · subst hone
    rw [dl_one, dg_zero_of (by decide)] at *
    obtain ⟨hcR, hfR, hzR⟩ := HR3.out.facts
    go_wp2
    have hF := ((HR3.out.set 0 (.bool neg)).set 1 (.slice A1 (dl N) c1)).set 2 (.slice A2 (dl D) c2)
    obtain ⟨hcF, _, _⟩ := hF.facts
    refine bodyPost_ret (v := .agg #[.bool neg, .slice A1 (dl N) c1, .slice A2 (dl D) c2]) (by simp [results, Tryz.results35, go_sem, hcF]) rfl ⟨_, rfl, ⟨_, _, rfl, ?_, ?_⟩, below_set3 hbw3 (Nat.le_refl _) _ _ _⟩
    · rw [← HGE.out, Nat.div_one]; exact (limbs_set3 HA3.out (Nat.lt_succ_self _) _ _ _).lower (by omega)
    · rw [← HGE.out, Nat.div_one]; exact (limbs_set3 HB3.out (Nat.lt_succ_self _) _ _ _).lower (by omega)
  · by_cases h1 : dl g = 1
    · have hgne : ((((dg g 0 : Nat) : Int)) != 1) = true := by
        have hgB : g < B := by have := lt_dl g; rw [h1, Nat.pow_one] at this; exact this
        rw [dg_zero_of hgB]
        rw [bne_iff_ne]
        omega
      have hl1 : (((dl g : Nat) : Int) != 1) = false := by rw [h1]; rfl
      clear h1
      go_wp2_with fail
      refine (natDiv_any w3 (w.heap.size + 1) (w.heap.size + 1) (.slice A1 (dl N) c1) (.slice (some ⟨bg, og, none⟩) (dl g) cg) N g HA3.out HG3.out (by omega) (by omega)).mono ?_
      rintro e w4 ⟨v4, v4', rfl, hq4, _, hb4⟩
      have HR4 := Lib.hid (HR3.out.below hb4 hz3)
      have hbw4 := hbw3.trans (hb4.mono hbw3.size)
      have HQ4 := Lib.hid (hq4.lower (lo' := w.heap.size + 1) hz3)
      have HB4 := Lib.hid (HB3.out.below hb4)
      have HG4 := Lib.hid (NatR.below HG3.out hb4)
      have hz4 : w.heap.size < w4.heap.size := HR4.out.lt
      obtain ⟨A4, c4, rfl⟩ := Limbs.len hq4
      clear hq4 hb4
      go_wp2_with fail
      refine (natDiv_any w4 (w.heap.size + 1) (w.heap.size + 1) (.slice A2 (dl D) c2) (.slice (some ⟨bg, og, none⟩) (dl g) cg) D g HB4.out HG4.out (by omega) (by omega)).mono ?_
      rintro e w5 ⟨v5, v5', rfl, hq5, _, hb5⟩
      have HR5 := Lib.hid (HR4.out.below hb5 hz4)
      have hbw5 := hbw4.trans (hb5.mono hbw4.size)
      have HQ5 := Lib.hid (hq5.lower (lo' := w.heap.size + 1) hz4)
      have HP5 := Lib.hid (HQ4.out.below hb5)
      obtain ⟨A5, c5, rfl⟩ := Limbs.len hq5
      clear hq5 hb5
      obtain ⟨hcR, hfR, hzR⟩ := HR5.out.facts
      go_wp2
      have hF := ((HR5.out.set 0 (.bool neg)).set 1 (.slice A4 (dl (N / g)) c4)).set 2 (.slice A5 (dl (D / g)) c5)
      obtain ⟨hcF, _, _⟩ := hF.facts
      refine bodyPost_ret (v := .agg #[.bool neg, .slice A4 (dl (N / g)) c4, .slice A5 (dl (D / g)) c5]) (by simp [results, Tryz.results35, go_sem, hcF]) rfl ⟨_, rfl, ⟨_, _, rfl, ?_, ?_⟩, below_set3 hbw5 (Nat.le_refl _) _ _ _⟩
      · rw [← HGE.out]; exact (limbs_set3 HP5.out (Nat.lt_succ_self _) _ _ _).lower (by omega)
      · rw [← HGE.out]; exact (limbs_set3 HQ5.out (Nat.lt_succ_self _) _ _ _).lower (by omega)
    · have hl1 : (((dl g : Nat) : Int) != 1) = true := by rw [bne_iff_ne]; omega
      clear h1
      go_wp2_with fail
      refine (natDiv_any w3 (w.heap.size + 1) (w.heap.size + 1) (.slice A1 (dl N) c1) (.slice (some ⟨bg, og, none⟩) (dl g) cg) N g HA3.out HG3.out (by omega) (by omega)).mono ?_
      rintro e w4 ⟨v4, v4', rfl, hq4, _, hb4⟩
      have HR4 := Lib.hid (HR3.out.below hb4 hz3)
      have hbw4 := hbw3.trans (hb4.mono hbw3.size)
      have HQ4 := Lib.hid (hq4.lower (lo' := w.heap.size + 1) hz3)
      have HB4 := Lib.hid (HB3.out.below hb4)
      have HG4 := Lib.hid (NatR.below HG3.out hb4)
      have hz4 : w.heap.size < w4.heap.size := HR4.out.lt
      obtain ⟨A4, c4, rfl⟩ := Limbs.len hq4
      clear hq4 hb4
      go_wp2_with fail
      refine (natDiv_any w4 (w.heap.size + 1) (w.heap.size + 1) (.slice A2 (dl D) c2) (.slice (some ⟨bg, og, none⟩) (dl g) cg) D g HB4.out HG4.out (by omega) (by omega)).mono ?_
      rintro e w5 ⟨v5, v5', rfl, hq5, _, hb5⟩
      have HR5 := Lib.hid (HR4.out.below hb5 hz4)
      have hbw5 := hbw4.trans (hb5.mono hbw4.size)
      have HQ5 := Lib.hid (hq5.lower (lo' := w.heap.size + 1) hz4)
      have HP5 := Lib.hid (HQ4.out.below hb5)
      obtain ⟨A5, c5, rfl⟩ := Limbs.len hq5
      clear hq5 hb5
      obtain ⟨hcR, hfR, hzR⟩ := HR5.out.facts
      go_wp2
      have hF := ((HR5.out.set 0 (.bool neg)).set 1 (.slice A4 (dl (N / g)) c4)).set 2 (.slice A5 (dl (D / g)) c5)
      obtain ⟨hcF, _, _⟩ := hF.facts
      refine bodyPost_ret (v := .agg #[.bool neg, .slice A4 (dl (N / g)) c4, .slice A5 (dl (D / g)) c5]) (by simp [results, Tryz.results35, go_sem, hcF]) rfl ⟨_, rfl, ⟨_, _, rfl, ?_, ?_⟩, below_set3 hbw5 (Nat.le_refl _) _ _ _⟩
      · rw [← HGE.out]; exact (limbs_set3 HP5.out (Nat.lt_succ_self _) _ _ _).lower (by omega)
      · rw [← HGE.out]; exact (limbs_set3 HQ5.out (Nat.lt_succ_self _) _ _ _).lower (by omega)
end Go.Proofs.YtgheaoaicbkaoaaGreatDoor

