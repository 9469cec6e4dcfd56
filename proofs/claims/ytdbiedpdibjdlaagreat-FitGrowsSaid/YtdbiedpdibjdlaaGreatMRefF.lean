/-
  The walk of the reference's natDiv: long division.
-/
import Derived.Test.YtdbiedpdibjdlaaGreatMRefC
import Derived.Deep.CutBlock
import Derived.Deep.DeepCutAuto
namespace Go.Proofs.YtdbiedpdibjdlaaGreat
open Go.RowKit AC
set_option linter.unusedVariables false
set_option linter.unusedSimpArgs false

/-- One step of long division: R is the rest with the next digit. -/
theorem long_step {n m j : Nat} (hm : 0 < m) : ∃ R, R = dg n j + B * (n / B ^ (j + 1) % m) ∧ R < m * B ∧ R / m = dg (n / m) j ∧ R % m = n / B ^ j % m := by
  obtain ⟨h1, h2⟩ := quo_digit (n := n) (j := j) hm
  have e : n / B ^ (j + 1) % m * 1000000000 + dg n j = dg n j + B * (n / B ^ (j + 1) % m) := by rw [B_eq, Nat.mul_comm, Nat.add_comm]
  rw [e] at h1 h2
  refine ⟨_, rfl, ?_, h1, h2⟩
  have h3 : n / B ^ (j + 1) % m < m := Nat.mod_lt _ hm
  have h4 := dg_lt n j
  have h5 : B * (n / B ^ (j + 1) % m + 1) ≤ B * m := Nat.mul_le_mul_left _ h3
  rw [Nat.mul_add, Nat.mul_one] at h5
  rw [Nat.mul_comm m B]
  omega

/-- The outer loop. -/
def DvRel (w : World) (b n m : Nat) (rv iv : Value) (wr : World) : Prop :=
  ∃ j : Nat, j ≤ dl n ∧ iv = .int .i64 ((j : Int) - 1) ∧ Hid (NatR wr (b + 1) rv (n / B ^ j % m)) ∧ Hid (RowU wr b 80 (dl n) (fun t => if j ≤ t then dg (n / m) t else 0)) ∧ Below w.heap.size w wr

set_option maxHeartbeats 4000000 in
theorem natDiv_long (w : World) (lo lo' : Nat) (v v' : Value) (n m : Nat) (hv : NatR w lo v n) (hv' : NatR w lo' v' m) (hk : dl n ≤ 4294967290) (hm2 : 2 ≤ dl m) (hge : m ≤ n) :
    Calls Tryz.prog 65 #[v, v'] w (DivP w n m) := by
  have HV := Lib.hid hv
  have HV' := Lib.hid hv'
  have hm0 : 0 < m := by
    rcases Nat.eq_zero_or_pos m with h | h
    · rw [h, dl_zero] at hm2; omega
    · exact h
  have hmn : dl m ≤ dl n := dl_mono hge
  obtain ⟨_, A, c, rfl, hkc, hcm, hb⟩ := hv
  obtain ⟨A', c', rfl⟩ := Limbs.len hv'
  unfold maxLen at hcm
  have HB := Lib.hid hb
  have HC : Hid (0 ≤ cmpI n m) := by
    show 0 ≤ cmpI n m
    rcases Nat.lt_or_ge m n with h | h
    · rw [cmpI_gt h]; omega
    · rw [cmpI_eq (by omega)]; omega
  obtain ⟨z, hz⟩ : ∃ z, z = cmpI n m := ⟨_, rfl⟩
  rw [← hz] at HC
  have HZ := Lib.hid hz
  have hz0 := HC.out
  have hne1 : (((dl m : Nat) : Int) == 1) = false := by rw [beq_eq_false_iff_ne]; omega
  clear hv' hb hz
  go_enter Tryz.func65, Tryz.ntmps65
  go_wp2_with fail
  refine (natCmp_any _ lo lo' _ _ n m HV.out HV'.out).mono ?_
  rintro e w0 ⟨rfl, hq0⟩
  rw [← HZ.out]
  have hb0 := hq0.below w.heap.size
  go_wp2_with (at_make; refine wpList_mkn _ rfl _ _ 44 rfl w.heap.size 80 Tryz.underlying44 info_u32 _ _ _ _ (dl n) (by rfl) (by rfl) (by omega) (by omega) (by omega) w hb0 hb0.size ?_; intro b w1 hlb1 _ hrow1 hbw1 _)
  go_loopw [9, 10] (fun rv iv wr => DvRel w b n m rv iv wr) (fun _ iv _ => (intOf iv + 1).toNat)
  case atStart =>
    refine ⟨dl n, Nat.le_refl _, rfl, ?_, hrow1.congr fun t ht => by rw [if_neg (by omega)], hbw1⟩
    show NatR _ _ _ _
    rw [Nat.div_eq_of_lt (lt_dl n), Nat.zero_mod]
    exact NatR.zero _ _
  case round =>
    obtain ⟨j, hj, rfl, hr, hrow, hbw⟩ := hrel
    rcases j with _ | j
    · have hrow0 : Hid (RowU wr b 80 (dl n) (dg (n / m))) := hrow.out.congr fun t _ => by rw [if_pos (by omega)]
      have hq : Hid (n / m < B ^ dl n) := Nat.lt_of_le_of_lt (Nat.div_le_self _ _) (lt_dl n)
      have hrf := hr.out
      rw [Nat.pow_zero, Nat.div_one] at hrf
      have HRF := Lib.hid hrf
      clear hrow hr hrf
      go_wp2_with fail
      refine (cut_any _ _ _ _ _ (hrow0.out.limbs hlb1 (by omega) fun i _ => Nat.lt_trans (dg_lt _ i) (by decide)) hq.out (by omega)).mono ?_
      rintro e w' ⟨v', rfl, hnat, hb2⟩
      go_wp2
      go_ret2
      exact ⟨v', _, rfl, hnat.lower hbw.size, (HRF.out.below hb2).lower (by omega), hbw.trans (hb2.mono hbw.size)⟩
    · have hd : dg n j < 1000000000 := dg_lt n j
      obtain ⟨ba, off, rfl, hlb, hbb, hcell⟩ := HB.out (by omega)
      have hcl := (hbw.cell (p := ⟨ba, off + j, none⟩) hbb).trans (hcell j (by omega))
      clear hcell
      obtain ⟨R, hR1, hR2, hR3, hR4⟩ := long_step (n := n) (j := j) hm0
      have hlenr : dl (n / B ^ (j + 1) % m) ≤ dl m := dl_mono (Nat.le_of_lt (Nat.mod_lt _ hm0))
      obtain ⟨r0, hr0⟩ : ∃ r0, r0 = n / B ^ (j + 1) % m := ⟨_, rfl⟩
      rw [← hr0] at hr hR1 hlenr
      have hRl : R < B ^ (dl r0 + 1) := by
        rw [hR1, Nat.pow_succ, Nat.mul_comm _ B]
        have h1 := lt_dl r0
        have h2 : B * (r0 + 1) ≤ B * B ^ dl r0 := Nat.mul_le_mul_left _ h1
        have h3 := dg_lt n j
        rw [Nat.mul_add, Nat.mul_one] at h2
        omega
      have hdlR : dl R ≤ dl m + 1 := Nat.le_trans (dl_le hRl) (by omega)
      have HR1 := Lib.hid hR1
      have HR2 := Lib.hid hR2
      have HR3 := Lib.hid hR3
      have HR4 := Lib.hid hR4
      have HRL := Lib.hid hRl
      obtain ⟨A9, c9, rfl⟩ := Limbs.len hr.out
      have hlr := hrow.out.lt
      clear hR1 hR2 hR3 hR4 hRl hr0
      go_wp2_with (at_builtin; refine wpList_cons wr rfl _ _ 44 rfl 80 Tryz.underlying44 info_u32 (by rfl) A9 (dl r0) c9 (dg r0) (by rfl) (b + 1) hr.out (by omega) ?_; intro v1 w2 hown2 hbw2)
      have hown3 := hown2.congr (g := dg R) fun i _ => by rw [HR1.out]; exact dg_cons hd i
      refine (cut_any _ _ _ _ R (hown3.limbs fun i _ => Nat.lt_trans (dg_lt _ i) (by decide)) HRL.out (by omega)).mono ?_
      rintro e w3 ⟨v3, rfl, hn3, hb3⟩
      have hbw3 := hbw2.trans (hb3.mono hbw2.size)
      have HROW := Lib.hid (hrow.out.below hbw3)
      have hs2 := hbw2.size
      have hs3 := hb3.size
      have HN3 := Lib.hid (hn3.lower (lo' := b + 1) (by omega))
      have hbq := hbw.trans (hbw3.mono hbw.size)
      have HM3 := Lib.hid (NatR.below HV'.out hbq)
      obtain ⟨A3, c3, rfl⟩ := Limbs.len hn3
      clear hown2 hown3 hn3 hb3 hbw3 hbw2 hrow hr hcl
      go_wp2_with fail
      refine (guess_any _ _ _ _ _ R m HN3.out HM3.out hm2 hdlR).mono ?_
      rintro e w4 ⟨d0, hd0, rfl, hq4⟩
      go_upto_block 2 with (fail)
      go_cut [11] from 54 to 66 (fun dv wx => ∃ d : Nat, d ≤ 999999999 ∧ dv = .int .u64 d ∧ Hid (m * d ≤ R) ∧ Below w3.heap.size w3 wx)
      case first =>
        go_wp2
        go_loopw [11] (fun dv wx => ∃ d : Nat, d ≤ 999999999 ∧ dv = .int .u64 d ∧ Below w3.heap.size w3 wx) (fun dv _ => (intOf dv).toNat)
        case atStart => exact ⟨d0, hd0, rfl, hq4.below _⟩
        case round =>
          obtain ⟨d, hdd, rfl, hbx⟩ := hrel
          rcases d with _ | d
          · go_wp2
            go_meet
            exact ⟨0, by omega, rfl, Nat.zero_le _, hbx⟩
          · have hgt : decide ((0 : Int) < (d : Int) + 1) = true := by rw [decide_eq_true_iff]; omega
            go_wp2_with fail
            refine (limbs_any _ (d + 1) (by omega)).mono ?_
            rintro e w5 ⟨v5, rfl, hn5, hb5⟩
            have HN5 := Lib.hid hn5
            have hbx5 := hbx.trans (hb5.mono hbx.size)
            have hdl5 : dl (d + 1) ≤ 1 := dl_le (by rw [Nat.pow_one, B_eq]; omega)
            obtain ⟨A5, c5, rfl⟩ := Limbs.len hn5
            clear hn5 hb5
            go_wp2_with fail
            refine (natMul_any _ lo' _ _ _ m (d + 1) (HM3.out.below hbx5) HN5.out (by omega) (by omega)).mono ?_
            rintro e w6 ⟨v6, rfl, hn6, hb6⟩
            have HN6 := Lib.hid hn6
            have hbx6 := hbx5.trans (hb6.mono hbx5.size)
            obtain ⟨A6, c6, rfl⟩ := Limbs.len hn6
            clear hn6 hb6
            go_wp2_with fail
            refine (natCmp_any _ _ _ _ _ (m * (d + 1)) R HN6.out (HN3.out.below hbx6)).mono ?_
            rintro e w7 ⟨rfl, hq7⟩
            have hbx7 := hbx6.trans (hq7.below _)
            by_cases hgr : R < m * (d + 1)
            · rw [cmpI_gt hgr]
              clear hgr
              go_wp2
              go_roundw
              case rel => exact ⟨d, by omega, by go_num, hbx7⟩
              case measure => simp [intOf]
            · have hc7 : cmpI (m * (d + 1)) R ≤ 0 := by
                rcases Nat.lt_or_ge (m * (d + 1)) R with h | h
                · rw [cmpI_lt h]; omega
                · rw [cmpI_eq (by omega)]; omega
              have HGR : Hid (m * (d + 1) ≤ R) := Nat.le_of_not_lt hgr
              generalize cmpI (m * (d + 1)) R = z7 at *
              clear hgr
              go_wp2
              go_meet
              exact ⟨d + 1, by omega, by go_num, HGR, hbx7⟩
      case rest =>
        obtain ⟨d, hdd, rfl, hmd, hbx⟩ := hcut
        go_wp2_with fail
        refine (limbs_any _ d (by omega)).mono ?_
        rintro e w5 ⟨v5, rfl, hn5, hb5⟩
        have HN5 := Lib.hid hn5
        have hbx5 := hbx.trans (hb5.mono hbx.size)
        have hdl5 : dl d ≤ 1 := dl_le (by rw [Nat.pow_one, B_eq]; omega)
        obtain ⟨A5, c5, rfl⟩ := Limbs.len hn5
        clear hn5 hb5
        go_wp2_with fail
        refine (natMul_any _ lo' _ _ _ m d (HM3.out.below hbx5) HN5.out (by omega) (by omega)).mono ?_
        rintro e w6 ⟨v6, rfl, hn6, hb6⟩
        have HN6 := Lib.hid hn6
        have hbx6 := hbx5.trans (hb6.mono hbx5.size)
        obtain ⟨A6, c6, rfl⟩ := Limbs.len hn6
        clear hn6 hb6
        go_wp2_with fail
        refine (natSub_any _ _ _ _ _ R (m * d) (R - m * d) (HN3.out.below hbx6) HN6.out (by omega) (by have := hmd.out; omega)).mono ?_
        rintro e w7 ⟨v7, rfl, hn7, hb7⟩
        have HN7 := Lib.hid hn7
        have hbx7 := hbx6.trans (hb7.mono hbx6.size)
        have hs6 := hbx6.size
        clear hn7 hb7
        go_wp2
        go_loopw [9, 11] (fun rv dv wx => ∃ d r : Nat, d ≤ 999999999 ∧ dv = .int .u64 d ∧ Hid (R = m * d + r) ∧ Hid (NatR wx (b + 1) rv r) ∧ Below w3.heap.size w3 wx) (fun _ dv _ => 1000000000 - (intOf dv).toNat)
        case atStart => exact ⟨d, R - m * d, hdd, rfl, (by have := hmd.out; show _ = _; omega), HN7.out.lower (by omega), hbx7⟩
        case round =>
          obtain ⟨d, r, hdd, rfl, hRd, hr, hbx⟩ := hrel
          obtain ⟨A9, c9, hv9⟩ := Limbs.len hr.out
          subst hv9
          have hrR : r ≤ R := by have := hRd.out; omega
          have hdlr : dl r ≤ 4294967296 := Nat.le_trans (dl_mono hrR) (by omega)
          go_wp2_with fail
          refine (natCmp_any _ _ lo' _ _ r m hr.out (HM3.out.below hbx)).mono ?_
          rintro e w8 ⟨rfl, hq8⟩
          have hbx8 := hbx.trans (hq8.below _)
          have HR8 := Lib.hid (NatR.below hr.out (hq8.below _))
          by_cases hlt : r < m
          · have HD : Hid (d = dg (n / m) j) := by
              show _ = _
              rw [← HR3.out, hRd.out, Nat.mul_add_div hm0, Nat.div_eq_of_lt hlt, Nat.add_zero]
            have HM : Hid (r = n / B ^ j % m) := by
              show _ = _
              rw [← HR4.out, hRd.out, Nat.mul_add_mod, Nat.mod_eq_of_lt hlt]
            rw [cmpI_lt hlt]
            have HRO := Lib.hid (HROW.out.below hbx8)
            have hfz := HRO.out.frozen j
            have hc3 := HRO.out.cell (i := j) (by omega)
            go_wp2
            go_roundw
            case rel =>
              refine ⟨j, by omega, by go_num, ?_, RowU.congr (RowU.set HRO.out j (z := d) (by go_num)) fun t ht => ?_, Below.setCell (hbq.trans (hbx8.mono hbq.size)) hlb1 _⟩
              · show NatR _ _ _ _
                rw [← HM.out]
                exact Limbs.setCell HR8.out (Nat.lt_succ_self b) _
              · by_cases e : t = j
                · subst e; rw [upd_same, if_pos (by omega)]; exact HD.out
                · rw [upd_other _ _ e]
                  by_cases h2 : j + 1 ≤ t
                  · rw [if_pos h2, if_pos (by omega)]
                  · rw [if_neg h2, if_neg (by omega)]
            case measure => simp [intOf]
          · have hc8 : 0 ≤ cmpI r m := by
              rcases Nat.lt_or_ge m r with h | h
              · rw [cmpI_gt h]; omega
              · rw [cmpI_eq (by omega)]; omega
            have hdn : d + 1 ≤ 999999999 := by
              have h1 : m * (d + 1) ≤ R := by rw [hRd.out, Nat.mul_add, Nat.mul_one]; omega
              have h2 := Nat.lt_of_mul_lt_mul_left (Nat.lt_of_le_of_lt h1 HR2.out)
              rw [B_eq] at h2
              omega
            generalize cmpI r m = z8 at *
            go_wp2_with fail
            refine (natSub_any _ _ lo' _ _ r m (r - m) HR8.out (HM3.out.below hbx8) (by omega) (by omega)).mono ?_
            rintro e w9 ⟨v9, rfl, hn9, hb9⟩
            have hs8 := hbx8.size
            go_wp2
            go_roundw
            case rel => exact ⟨d + 1, r - m, hdn, by go_num, (by show _ = _; rw [hRd.out, Nat.mul_add, Nat.mul_one]; omega), hn9.lower (by omega), hbx8.trans (hb9.mono hs8)⟩
            case measure => simp [intOf]; omega

end Go.Proofs.YtdbiedpdibjdlaaGreat

