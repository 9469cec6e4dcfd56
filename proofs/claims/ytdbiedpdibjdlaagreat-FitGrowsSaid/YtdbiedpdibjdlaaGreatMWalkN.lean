/-
  The walks of rational's FromInt, Small and plus.
-/
import Derived.Test.YtdbiedpdibjdlaaGreatMRat
import Derived.Test.YtdbiedpdibjdlaaGreatMWalkA
namespace Go.Proofs.YtdbiedpdibjdlaaGreat
open Go.RowKit AC
set_option linter.unusedVariables false
set_option linter.unusedSimpArgs false

theorem bel1 (w : World) (o : Obj) : Below w.heap.size w (w.alloc o) := (Below.refl _ _).alloc (Nat.le_refl _) o

theorem rat_set3 {w : World} {lo : Nat} {v : Value} {q : Rat} (h : RatR w lo v q) {g : Nat} (hg : g < lo) (x y z : Value) :
    RatR (((w.setCell ⟨g, 0, none⟩ x).setCell ⟨g, 1, none⟩ y).setCell ⟨g, 2, none⟩ z) lo v q := by
  obtain ⟨vn, vd, rfl, h1, h2⟩ := h
  exact ⟨vn, vd, rfl, limbs_set3 h1 hg x y z, limbs_set3 h2 hg x y z⟩
theorem frac_set3 {w : World} {lo : Nat} {v : Value} {neg : Bool} {n d : Nat} (h : FracR w lo v neg n d) {g : Nat} (hg : g < lo) (x y z : Value) :
    FracR (((w.setCell ⟨g, 0, none⟩ x).setCell ⟨g, 1, none⟩ y).setCell ⟨g, 2, none⟩ z) lo v neg n d := by
  obtain ⟨vn, vd, rfl, h1, h2⟩ := h
  exact ⟨vn, vd, rfl, limbs_set3 h1 hg x y z, limbs_set3 h2 hg x y z⟩

set_option maxHeartbeats 1000000 in
theorem fromInt_any (w : World) (x : Int) (h1 : -9223372036854775808 ≤ x) (h2 : x ≤ 9223372036854775807) :
    Calls Tryz.prog 52 #[.int .i64 x] w (Ret fun v2 w' => RatR w' w.heap.size v2 (mkRat x 1) ∧ Below w.heap.size w w') := by
  have hsg : Hid (sg (decide (x < 0)) x.natAbs = x) := by
    show _ = _
    unfold sg
    by_cases h : x < 0
    · simp [h]; omega
    · simp [h]; omega
  have hdl : Hid (dl x.natAbs ≤ 3) := by
    show dl x.natAbs ≤ 3
    apply dl_le
    have h3 : B ^ 3 = 1000000000000000000000000000 := by decide
    omega
  go_enter Tryz.func52, Tryz.ntmps52
  go_wp2_with fail
  refine (magnitude_any _ x h1 h2).mono ?_
  rintro e w1 ⟨v1, rfl, hn1, hb1⟩
  have hR1 := Lib.hid ((Bk.new w 46 _).below hb1 (by simp))
  have HN1 := Lib.hid hn1
  obtain ⟨A, c, rfl⟩ := Limbs.len hn1
  have hz1 : w.heap.size < w1.heap.size := hR1.out.lt
  have hbw1 := (bel1 w _).trans (hb1.mono (by simp))
  clear hn1 hb1
  go_wp2_with fail
  refine (store_any _ (w.heap.size + 1) _ _ x.natAbs 1 (by simp; omega) ⟨_, _, rfl, ?_, ?_⟩ (by decide) (by have := hdl.out; omega) (by rw [dl_one]; omega)).mono ?_
  · exact Limbs.lower (Limbs.alloc HN1.out _) (by simp)
  · exact NatR.oneNew _ _ _ (by omega)
  rintro e w2 ⟨v2, rfl, hr2, hb2⟩
  rw [hsg.out] at hr2
  obtain ⟨q, hq⟩ : ∃ q, Hid (q = mkRat x 1) := ⟨_, rfl⟩
  rw [← hq.out] at hr2
  have HR2 := Lib.hid hr2
  obtain ⟨A2, c2, A3, c3, rfl, h3, h4⟩ := FracR.form hr2
  obtain ⟨hcR, hfR, hz2⟩ := ((hR1.out.alloc _).below hb2 (by simp; omega)).facts
  have hbw2 := (hbw1.alloc (by omega) _).trans (hb2.mono (by simp; omega))
  clear h3 h4 hr2 hb2
  go_wp2
  exact bodyPost_ret (v := .agg #[.bool (decide (q.num < 0)), .slice A2 (dl q.num.natAbs) c2, .slice A3 (dl q.den) c3]) (by simp [results, Tryz.results52, go_sem, hcR]) rfl
    ⟨_, rfl, by rw [← hq.out]; exact RatR.lower (rat_set3 HR2.out (by omega) _ _ _) (by omega), below_set3 hbw2 (Nat.le_refl _) _ _ _⟩

end Go.Proofs.YtdbiedpdibjdlaaGreat

/-
  The walk of rational's multiply.
-/
namespace Go.Proofs.YtdbiedpdibjdlaaGreat
open Go.RowKit AC
set_option linter.unusedVariables false
set_option linter.unusedSimpArgs false

/-- One step of the inner loop. -/
theorem mul_step {g : Nat → Nat} {T x y c K m' s : Nat} (hT : s = x * y + dg T K + c)
    (h : vs g K + c * B ^ K = T % B ^ K + m') : vs (upd g K (s % 1000000000)) (K + 1) + s / 1000000000 * B ^ (K + 1) = T % B ^ (K + 1) + (m' + x * y * B ^ K) := by
  rw [vs, vs_upd g _ (Nat.le_refl K), upd_same, mod_pow_succ, Nat.pow_succ]
  have h1 : s % 1000000000 * B ^ K + s / 1000000000 * (B ^ K * B) = s * B ^ K := by
    have e : s / 1000000000 * (B ^ K * B) = s / 1000000000 * 1000000000 * B ^ K := by rw [B_eq, Nat.mul_comm (1000000000 ^ K), Nat.mul_assoc]
    rw [e, ← Nat.add_mul, Nat.mod_add_div']
  have h2 : s * B ^ K = x * y * B ^ K + dg T K * B ^ K + c * B ^ K := by rw [hT, Nat.add_mul, Nat.add_mul]
  omega

theorem mul_part (x m i j : Nat) : x * (m % B ^ j) * B ^ i + x * dg m j * B ^ (i + j) = x * (m % B ^ (j + 1)) * B ^ i := by
  rw [mod_pow_succ, Nat.mul_add, Nat.add_mul, Nat.pow_add]
  congr 1
  simp only [Nat.mul_comm, Nat.mul_left_comm, Nat.mul_assoc]

/-- The end of the inner loop. -/
theorem mul_done {g : Nat → Nat} {n m i c L : Nat} (hg : ∀ t, t < L → g t < B) (hc : c < B) (hL : i + dl m < L)
    (hhi : ∀ t, i + dl m ≤ t → t < L → g t = dg (n % B ^ i * m) t)
    (h : vs g (i + dl m) + c * B ^ (i + dl m) = (n % B ^ i * m) % B ^ (i + dl m) + dg n i * (m % B ^ dl m) * B ^ i) :
    ∀ t, t < L → upd g (i + dl m) c t = dg (n % B ^ (i + 1) * m) t := by
  have hT : n % B ^ i * m < B ^ (i + dl m) := by
    rw [Nat.pow_add]
    have h1 := Nat.mod_lt n (Bp_pos i)
    have h2 := lt_dl m
    rcases Nat.eq_zero_or_pos m with h0 | h0
    · subst h0; rw [Nat.mul_zero]; exact Nat.mul_pos (Bp_pos _) (Bp_pos _)
    · exact Nat.mul_lt_mul_of_lt_of_le h1 (Nat.le_of_lt h2) (Bp_pos _)
  rw [Nat.mod_eq_of_lt hT, Nat.mod_eq_of_lt (lt_dl m)] at h
  have hv : vs (upd g (i + dl m) c) (i + dl m + 1) = n % B ^ (i + 1) * m := by
    rw [vs, vs_upd g _ (Nat.le_refl _), upd_same, h, mod_pow_succ, Nat.add_mul]
    congr 1
    simp only [Nat.mul_comm, Nat.mul_assoc]
  have hd : ∀ t, t < i + dl m + 1 → upd g (i + dl m) c t < B := by
    intro t ht
    by_cases e : t = i + dl m
    · subst e; rw [upd_same]; exact hc
    · rw [upd_other g c e]; exact hg t (by omega)
  intro t ht
  rcases Nat.lt_or_ge t (i + dl m + 1) with h1 | h1
  · rw [← hv]; exact (dg_vs hd h1).symm
  · rw [upd_other g c (by omega), hhi t (by omega) ht]
    have h2 : n % B ^ (i + 1) * m < B ^ (i + dl m + 1) := by rw [← hv]; exact vs_lt hd
    rw [dg_far (Nat.lt_of_lt_of_le hT (Nat.pow_le_pow_right B_pos (by omega))), dg_far (Nat.lt_of_lt_of_le h2 (Nat.pow_le_pow_right B_pos h1))]

theorem mul_bound {a b t c : Nat} (ha : a < 1000000000) (hb : b < 1000000000) (ht : t < 1000000000) (hc : c < 1000000000) :
    a * b ≤ 999999998000000001 ∧ a * b + t + c ≤ 999999999999999999 := by
  have h : a * b ≤ 999999999 * 999999999 := Nat.mul_le_mul (by omega) (by omega)
  omega

theorem multiply_zero (w : World) (lo lo' : Nat) (v v' : Value) (n m : Nat) (hv : NatR w lo v n) (hv' : NatR w lo' v' m) (h : n = 0 ∨ m = 0) :
    Calls Tryz.prog 59 #[v, v'] w (fun e w' => e = .returned (.slice none 0 0) ∧ w = w') := by
  obtain ⟨A, c, rfl⟩ := Limbs.len hv
  obtain ⟨A', c', rfl⟩ := Limbs.len hv'
  by_cases h0 : n = 0
  · subst h0
    rw [dl_zero]
    clear hv hv' h
    go_enter Tryz.func59, Tryz.ntmps59
    go_wp2
    go_ret
    exact ⟨rfl, rfl⟩
  · have hm : m = 0 := by omega
    subst hm
    rw [dl_zero]
    have hne : (((dl n : Nat) : Int) == 0) = false := by
      rw [beq_eq_false_iff_ne]
      have := mt dl_eq_zero.1 h0
      omega
    clear hv hv' h h0
    go_enter Tryz.func59, Tryz.ntmps59
    go_wp2
    go_ret
    exact ⟨rfl, rfl⟩

set_option maxHeartbeats 2000000 in
theorem multiply_pos (w : World) (lo lo' : Nat) (v v' : Value) (n m : Nat) (hv : NatR w lo v n) (hv' : NatR w lo' v' m) (hk : dl n ≤ 4294967296) (hk' : dl m ≤ 4294967296) (h0 : n ≠ 0) (h0' : m ≠ 0) :
    Calls Tryz.prog 59 #[v, v'] w (Ret fun v2 w' => NatR w' w.heap.size v2 (n * m) ∧ Below w.heap.size w w') := by
  obtain ⟨_, A, c, rfl, hkc, hcm, hb⟩ := hv
  obtain ⟨_, A', c', rfl, hkc', hcm', hb'⟩ := hv'
  unfold maxLen at hcm hcm'
  have hp : 0 < dl n := Nat.pos_of_ne_zero (mt dl_eq_zero.1 h0)
  have hp' : 0 < dl m := Nat.pos_of_ne_zero (mt dl_eq_zero.1 h0')
  obtain ⟨ba, off, rfl, hlb, hbb, hcell⟩ := hb hp
  obtain ⟨bb, off', rfl, hlb', hbb', hcell'⟩ := hb' hp'
  have HC := Lib.hid hcell
  have HC' := Lib.hid hcell'
  clear hb hb' hcell hcell' h0 h0'
  have hne : (((dl n : Nat) : Int) == 0) = false := by rw [beq_eq_false_iff_ne]; omega
  have hne' : (((dl m : Nat) : Int) == 0) = false := by rw [beq_eq_false_iff_ne]; omega
  go_enter Tryz.func59, Tryz.ntmps59
  go_wp2_with (at_make; refine wpList_mkn _ rfl _ _ 104 rfl w.heap.size 80 Tryz.underlying104 info_u32 _ _ _ _ (dl n + dl m) (by rfl) (by rfl) (by omega) (by omega) (by omega) w (Below.refl _ _) (Nat.le_refl _) ?_; intro b w1 hlb1 _ hrow1 hbw1 _)
  go_loopw [26] (fun i wr => ∃ i0 : Nat, i0 ≤ dl n ∧ i = .int .i64 i0 ∧ RowU wr b 80 (dl n + dl m) (dg (n % B ^ i0 * m)) ∧ Below w.heap.size w wr) (fun i _ => dl n - (intOf i).toNat)
  case atStart =>
    refine ⟨0, by omega, rfl, hrow1.congr fun t _ => ?_, hbw1⟩
    rw [Nat.pow_zero, Nat.mod_one, Nat.zero_mul]; unfold dg; simp
  case round =>
    obtain ⟨i, hi, rfl, hrow, hbw⟩ := hrel
    by_cases hlt : i < dl n
    · obtain ⟨wo, rfl⟩ : ∃ wo : World, wo = wr := ⟨_, rfl⟩
      have hca : Hid (∀ wx, Below w.heap.size w wx → wx.cell? ⟨ba, off + i, none⟩ = some (.int .u32 ((dg n i : Nat) : Int))) := fun wx hx => (hx.cell (p := ⟨ba, off + i, none⟩) hbb).trans (HC.out i hlt)
      have hda : dg n i < 1000000000 := dg_lt n i
      go_wp2
      go_loopw [7, 31] (fun cv jv wr => ∃ (j c : Nat) (g : Nat → Nat), j ≤ dl m ∧ c < 1000000000 ∧ jv = .int .i64 j ∧ cv = .int .u64 c ∧ Hid (∀ t, t < dl n + dl m → g t < B) ∧
          Hid (∀ t, i + j ≤ t → t < dl n + dl m → g t = dg (n % B ^ i * m) t) ∧ Hid (vs g (i + j) + c * B ^ (i + j) = (n % B ^ i * m) % B ^ (i + j) + dg n i * (m % B ^ j) * B ^ i) ∧
          RowU wr b 80 (dl n + dl m) g ∧ Below w.heap.size w wr) (fun _ jv _ => dl m - (intOf jv).toNat)
      case atStart =>
        refine ⟨0, 0, dg (n % B ^ i * m), by omega, by omega, rfl, rfl, fun t _ => dg_lt _ _, fun _ _ _ => rfl, ?_, hrow, hbw⟩
        show _ = _
        rw [vs_dg, Nat.pow_zero, Nat.mod_one]; simp
      case round =>
        obtain ⟨j, c, g, hj, hc, rfl, rfl, hgB, hghi, hgv, hrow', hbw'⟩ := hrel
        by_cases hjm : j < dl m
        · have hc1 := hca.out wr hbw'
          have hc2 := (hbw'.cell (p := ⟨bb, off' + j, none⟩) hbb').trans (HC'.out j hjm)
          have hc3 := hrow'.cell (i := i + j) (by omega)
          have hfz := hrow'.frozen (i + j)
          rw [hghi.out (i + j) (Nat.le_refl _) (by omega)] at hc3
          have hdb : dg m j < 1000000000 := dg_lt m j
          have hdt : dg (n % B ^ i * m) (i + j) < 1000000000 := dg_lt _ _
          obtain ⟨x, hxe⟩ : ∃ x, Hid (x = dg n i) := ⟨_, rfl⟩
          obtain ⟨y, hye⟩ : ∃ y, Hid (y = dg m j) := ⟨_, rfl⟩
          obtain ⟨t, hte⟩ : ∃ t, Hid (t = dg (n % B ^ i * m) (i + j)) := ⟨_, rfl⟩
          rw [← hxe.out] at hc1 hda
          rw [← hye.out] at hc2 hdb
          rw [← hte.out] at hc3 hdt
          have hmb := mul_bound hda hdb hdt hc
          have hm1 : ((x : Int) * y) ≤ 999999998000000001 := by have := hmb.1; omega
          have hm0 : 0 ≤ ((x : Int) * y) := by omega
          clear hmb
          go_wp2
          go_quiet (fail)
          go_wp2
          go_roundw
          case rel =>
            have hs := (mul_bound hda hdb hdt hc).2
            have h9 : (x * y + t + c) / 1000000000 < 1000000000 := by omega
            refine ⟨j + 1, (x * y + t + c) / 1000000000, upd g (i + j) ((x * y + t + c) % 1000000000), by omega, h9, by go_num, by go_num, ?_, ?_, ?_, RowU.set (RowU.drewN hrow' _) (i + j) (by go_num), Below.setCell (hbw'.drewN _) hlb1 _⟩
            · intro t' ht'
              by_cases e : t' = i + j
              · subst e; rw [upd_same]; exact Nat.mod_lt _ B_pos
              · rw [upd_other g _ e]; exact hgB.out t' ht'
            · intro t' h1 h2
              rw [upd_other g _ (by omega)]; exact hghi.out t' (by omega) h2
            · have h1 := mul_step (g := g) (T := n % B ^ i * m) (x := x) (y := y) (c := c) (K := i + j) (s := x * y + t + c) (by rw [hte.out]) hgv.out
              show vs _ (i + (j + 1)) + _ * B ^ (i + (j + 1)) = _
              rw [show i + (j + 1) = i + j + 1 by omega, h1, ← mul_part, hxe.out, hye.out]
          case measure => simp [intOf]; omega
        · obtain rfl : j = dl m := by omega
          have hfz := hrow'.frozen (i + dl m)
          have hc3 := hrow'.cell (i := i + dl m) (by omega)
          go_wp2
          go_roundw
          case rel =>
            exact ⟨i + 1, by omega, by go_num, RowU.congr (RowU.set hrow' (i + dl m) rfl) (mul_done hgB.out hc (by omega) hghi.out hgv.out), Below.setCell hbw' hlb1 _⟩
          case measure => simp [intOf]; omega
    · obtain rfl : i = dl n := by omega
      have hT : Hid (n % B ^ dl n * m = n * m) := by show _ = _; rw [Nat.mod_eq_of_lt (lt_dl n)]
      rw [hT.out] at hrow
      have hlt2 : Hid (n * m < B ^ (dl n + dl m)) := Nat.lt_of_lt_of_le (lt_dl _) (Nat.pow_le_pow_right B_pos (dl_mul_le n m))
      go_wp2_with fail
      refine (trim_any _ _ _ _ _ (hrow.limbs hlb1 (by omega) fun i _ => Nat.lt_trans (dg_lt _ i) (by decide)) hlt2.out).mono ?_
      rintro e w' ⟨v', rfl, hnat, rfl⟩
      go_wp2
      go_ret
      exact ⟨v', rfl, hnat, hbw⟩

theorem multiply_any (w : World) (lo lo' : Nat) (v v' : Value) (n m : Nat) (hv : NatR w lo v n) (hv' : NatR w lo' v' m) (hk : dl n ≤ 4294967296) (hk' : dl m ≤ 4294967296) :
    Calls Tryz.prog 59 #[v, v'] w (Ret fun v2 w' => NatR w' w.heap.size v2 (n * m) ∧ Below w.heap.size w w') := by
  by_cases h : n = 0 ∨ m = 0
  · refine (multiply_zero w lo lo' v v' n m hv hv' h).mono ?_
    rintro e w' ⟨rfl, rfl⟩
    have e0 : n * m = 0 := by rcases h with h | h <;> subst h <;> simp
    exact ⟨_, rfl, by rw [e0]; exact NatR.zero _ _, Below.refl _ _⟩
  · exact multiply_pos w lo lo' v v' n m hv hv' hk hk' (fun e => h (.inl e)) (fun e => h (.inr e))

end Go.Proofs.YtdbiedpdibjdlaaGreat

