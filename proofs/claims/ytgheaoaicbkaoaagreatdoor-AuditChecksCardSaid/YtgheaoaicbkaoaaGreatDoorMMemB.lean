/-
  Words for memory: a block that is known whole.
-/
import Derived.Test.YtgheaoaicbkaoaaGreatDoorMNum
import Derived.Test.YtgheaoaicbkaoaaGreatDoorMRat
import Derived.Test.YtgheaoaicbkaoaaGreatDoorMWalkA
import Derived.Test.YtgheaoaicbkaoaaGreatDoorMWalkC
namespace AC
open Go Go.RowKit
set_option linter.unusedVariables false
set_option linter.unusedSimpArgs false

/-- Block b is just the cells cs of element type t, none frozen. -/
def Bk (w : World) (b : Nat) (t : TypeId) (cs : Array Value) : Prop := w.heap[b]? = some (.cells cs t (0, 0))
section
variable {w w' : World} {b : Nat} {t : TypeId} {cs : Array Value}
theorem Bk.lt (h : Bk w b t cs) : b < w.heap.size := by
  unfold Bk at h
  rcases Nat.lt_or_ge b w.heap.size with h1 | h1
  · exact h1
  · rw [Array.getElem?_eq_none h1] at h; cases h
theorem Bk.cell (h : Bk w b t cs) (o : Nat) : w.cell? ⟨b, o, none⟩ = cs[o]? := by
  unfold Bk at h; simp [World.cell?, h]
theorem Bk.frozen (h : Bk w b t cs) (o : Nat) : w.frozen? ⟨b, o, none⟩ = false := by
  unfold Bk at h; simp [World.frozen?, h]
theorem Bk.facts (h : Bk w b t cs) : (∀ o, w.cell? ⟨b, o, none⟩ = cs[o]?) ∧ (∀ o, w.frozen? ⟨b, o, none⟩ = false) ∧ b < w.heap.size := ⟨h.cell, h.frozen, h.lt⟩
theorem Bk.new (w : World) (t : TypeId) (cs : Array Value) : Bk (w.alloc (.cells cs t)) w.heap.size t cs := heap_alloc_new w _
theorem Bk.drew (h : Bk w b t cs) : Bk w.drew b t cs := h
theorem Bk.drewN (h : Bk w b t cs) (n : Nat) : Bk (w.drewN n) b t cs := h
theorem Bk.alloc (h : Bk w b t cs) (o : Obj) : Bk (w.alloc o) b t cs := (Below.heap_alloc w o b h.lt).trans h
theorem Bk.below (h : Bk w b t cs) {n : Nat} (hb : Below n w w') (hn : b < n) : Bk w' b t cs := (hb.block b hn).trans h
theorem Bk.grown (h : Bk w b t cs) {r : Option Nat} (hg : w.grownBy w' r) (hr : some b ≠ r) : Bk w' b t cs := (hg.block b h.lt hr).trans h
theorem Bk.far (h : Bk w b t cs) {p : Addr} (hp : b ≠ p.block) (u : Value) : Bk (w.setCell p u) b t cs := (Below.heap_setCell w p u b hp).trans h
theorem Bk.set (h : Bk w b t cs) (i : Nat) (u : Value) : Bk (w.setCell ⟨b, i, none⟩ u) b t (cs.setIfInBounds i u) := by
  unfold Bk at h ⊢
  simp [World.setCell, Array.getElem?_modify, h]
end

/-- Three stores into one block of the call's own. -/
theorem below_set3 {n : Nat} {a w : World} (h : Below n a w) {g : Nat} (hg : n ≤ g) (x y z : Value) :
    Below n a (((w.setCell ⟨g, 0, none⟩ x).setCell ⟨g, 1, none⟩ y).setCell ⟨g, 2, none⟩ z) :=
  ((h.setCell (p := ⟨g, 0, none⟩) hg x).setCell (p := ⟨g, 1, none⟩) hg y).setCell (p := ⟨g, 2, none⟩) hg z
theorem limbs_set3 {w : World} {lo k : Nat} {v : Value} {f : Nat → Nat} (h : Limbs w lo v k f) {g : Nat} (hg : g < lo) (x y z : Value) :
    Limbs (((w.setCell ⟨g, 0, none⟩ x).setCell ⟨g, 1, none⟩ y).setCell ⟨g, 2, none⟩ z) lo v k f :=
  ((h.setCell (p := ⟨g, 0, none⟩) hg x).setCell (p := ⟨g, 1, none⟩) hg y).setCell (p := ⟨g, 2, none⟩) hg z

end AC

/-
  The walks of rational's FromInt, Small and plus.
-/
namespace Go.Proofs.YtgheaoaicbkaoaaGreatDoor
open Go.RowKit AC
set_option linter.unusedVariables false
set_option linter.unusedSimpArgs false

theorem bel1 (w : World) (o : Obj) : Below w.heap.size w (w.alloc o) := (Below.refl _ _).alloc (Nat.le_refl _) o

theorem rat_set3 {w : World} {lo : Nat} {v : Value} {q : Rat} (h : RatR w lo v q) {g : Nat} (hg : g < lo) (x y z : Value) :
    RatR (((w.setCell ⟨g, 0, none⟩ x).setCell ⟨g, 1, none⟩ y).setCell ⟨g, 2, none⟩ z) lo v q := by
  obtain ⟨vn, vd, rfl, h1, h2⟩ := h
  exact ⟨vn, vd, rfl, limbs_set3 h1 hg x y z, limbs_set3 h2 hg x y z⟩
theorem frac_set3 {w : World} {lo : Nat} {v : Value} {neg : Bool} {n d : Nat} (h : FracR w lo v neg n d) {g : Nat} (hg : g < lo) (x y z : Value) :
    FracR (((w.setCell ⟨g, 0, none⟩ x).setCell ⟨g, 1, none⟩ y).setCell ⟨g, 2, none⟩ z) lo v neg n d := by
  obtain ⟨vn, vd, rfl, h1, h2⟩ := h
  exact ⟨vn, vd, rfl, limbs_set3 h1 hg x y z, limbs_set3 h2 hg x y z⟩

set_option maxHeartbeats 1000000 in
theorem fromInt_any (w : World) (x : Int) (h1 : -9223372036854775808 ≤ x) (h2 : x ≤ 9223372036854775807) :
    Calls Tryz.prog 11 #[.int .i64 x] w (Ret fun v2 w' => RatR w' w.heap.size v2 (mkRat x 1) ∧ Below w.heap.size w w') := by
  have hsg : Hid (sg (decide (x < 0)) x.natAbs = x) := by
    show _ = _
    unfold sg
    by_cases h : x < 0
    · simp [h]; omega
    · simp [h]; omega
  have hdl : Hid (dl x.natAbs ≤ 3) := by
    show dl x.natAbs ≤ 3
    apply dl_le
    have h3 : B ^ 3 = 1000000000000000000000000000 := by decide
    omega
  go_enter Tryz.func11, Tryz.ntmps11
  go_wp2_with fail
  refine (magnitude_any _ x h1 h2).mono ?_
  rintro e w1 ⟨v1, rfl, hn1, hb1⟩
  have hR1 := Lib.hid ((Bk.new w 27 _).below hb1 (by simp))
  have HN1 := Lib.hid hn1
  obtain ⟨A, c, rfl⟩ := Limbs.len hn1
  have hz1 : w.heap.size < w1.heap.size := hR1.out.lt
  have hbw1 := (bel1 w _).trans (hb1.mono (by simp))
  clear hn1 hb1
  go_wp2_with fail
  refine (store_any _ (w.heap.size + 1) _ _ x.natAbs 1 (by simp; omega) ⟨_, _, rfl, ?_, ?_⟩ (by decide) (by have := hdl.out; omega) (by rw [dl_one]; omega)).mono ?_
  · exact Limbs.lower (Limbs.alloc HN1.out _) (by simp)
  · exact NatR.oneNew _ _ _ (by omega)
  rintro e w2 ⟨v2, rfl, hr2, hb2⟩
  rw [hsg.out] at hr2
  obtain ⟨q, hq⟩ : ∃ q, Hid (q = mkRat x 1) := ⟨_, rfl⟩
  rw [← hq.out] at hr2
  have HR2 := Lib.hid hr2
  obtain ⟨A2, c2, A3, c3, rfl, h3, h4⟩ := FracR.form hr2
  obtain ⟨hcR, hfR, hz2⟩ := ((hR1.out.alloc _).below hb2 (by simp; omega)).facts
  have hbw2 := (hbw1.alloc (by omega) _).trans (hb2.mono (by simp; omega))
  clear h3 h4 hr2 hb2
  go_wp2
  exact bodyPost_ret (v := .agg #[.bool (decide (q.num < 0)), .slice A2 (dl q.num.natAbs) c2, .slice A3 (dl q.den) c3]) (by simp [results, Tryz.results11, go_sem, hcR]) rfl
    ⟨_, rfl, by rw [← hq.out]; exact RatR.lower (rat_set3 HR2.out (by omega) _ _ _) (by omega), below_set3 hbw2 (Nat.le_refl _) _ _ _⟩

end Go.Proofs.YtgheaoaicbkaoaaGreatDoor

/-
  The walk of rational's multiply.
-/
namespace Go.Proofs.YtgheaoaicbkaoaaGreatDoor
open Go.RowKit AC
set_option linter.unusedVariables false
set_option linter.unusedSimpArgs false

/-- One step of the inner loop. -/
theorem mul_step {g : Nat → Nat} {T x y c K m' s : Nat} (hT : s = x * y + dg T K + c)
    (h : vs g K + c * B ^ K = T % B ^ K + m') : vs (upd g K (s % 1000000000)) (K + 1) + s / 1000000000 * B ^ (K + 1) = T % B ^ (K + 1) + (m' + x * y * B ^ K) := by
  rw [vs, vs_upd g _ (Nat.le_refl K), upd_same, mod_pow_succ, Nat.pow_succ]
  have h1 : s % 1000000000 * B ^ K + s / 1000000000 * (B ^ K * B) = s * B ^ K := by
    have e : s / 1000000000 * (B ^ K * B) = s / 1000000000 * 1000000000 * B ^ K := by rw [B_eq, Nat.mul_comm (1000000000 ^ K), Nat.mul_assoc]
    rw [e, ← Nat.add_mul, Nat.mod_add_div']
  have h2 : s * B ^ K = x * y * B ^ K + dg T K * B ^ K + c * B ^ K := by rw [hT, Nat.add_mul, Nat.add_mul]
  omega

theorem mul_part (x m i j : Nat) : x * (m % B ^ j) * B ^ i + x * dg m j * B ^ (i + j) = x * (m % B ^ (j + 1)) * B ^ i := by
  rw [mod_pow_succ, Nat.mul_add, Nat.add_mul, Nat.pow_add]
  congr 1
  simp only [Nat.mul_comm, Nat.mul_left_comm, Nat.mul_assoc]

/-- The end of the inner loop. -/
theorem mul_done {g : Nat → Nat} {n m i c L : Nat} (hg : ∀ t, t < L → g t < B) (hc : c < B) (hL : i + dl m < L)
    (hhi : ∀ t, i + dl m ≤ t → t < L → g t = dg (n % B ^ i * m) t)
    (h : vs g (i + dl m) + c * B ^ (i + dl m) = (n % B ^ i * m) % B ^ (i + dl m) + dg n i * (m % B ^ dl m) * B ^ i) :
    ∀ t, t < L → upd g (i + dl m) c t = dg (n % B ^ (i + 1) * m) t := by
  have hT : n % B ^ i * m < B ^ (i + dl m) := by
    rw [Nat.pow_add]
    have h1 := Nat.mod_lt n (Bp_pos i)
    have h2 := lt_dl m
    rcases Nat.eq_zero_or_pos m with h0 | h0
    · subst h0; rw [Nat.mul_zero]; exact Nat.mul_pos (Bp_pos _) (Bp_pos _)
    · exact Nat.mul_lt_mul_of_lt_of_le h1 (Nat.le_of_lt h2) (Bp_pos _)
  rw [Nat.mod_eq_of_lt hT, Nat.mod_eq_of_lt (lt_dl m)] at h
  have hv : vs (upd g (i + dl m) c) (i + dl m + 1) = n % B ^ (i + 1) * m := by
    rw [vs, vs_upd g _ (Nat.le_refl _), upd_same, h, mod_pow_succ, Nat.add_mul]
    congr 1
    simp only [Nat.mul_comm, Nat.mul_assoc]
  have hd : ∀ t, t < i + dl m + 1 → upd g (i + dl m) c t < B := by
    intro t ht
    by_cases e : t = i + dl m
    · subst e; rw [upd_same]; exact hc
    · rw [upd_other g c e]; exact hg t (by omega)
  intro t ht
  rcases Nat.lt_or_ge t (i + dl m + 1) with h1 | h1
  · rw [← hv]; exact (dg_vs hd h1).symm
  · rw [upd_other g c (by omega), hhi t (by omega) ht]
    have h2 : n % B ^ (i + 1) * m < B ^ (i + dl m + 1) := by rw [← hv]; exact vs_lt hd
    rw [dg_far (Nat.lt_of_lt_of_le hT (Nat.pow_le_pow_right B_pos (by omega))), dg_far (Nat.lt_of_lt_of_le h2 (Nat.pow_le_pow_right B_pos h1))]

theorem mul_bound {a b t c : Nat} (ha : a < 1000000000) (hb : b < 1000000000) (ht : t < 1000000000) (hc : c < 1000000000) :
    a * b ≤ 999999998000000001 ∧ a * b + t + c ≤ 999999999999999999 := by
  have h : a * b ≤ 999999999 * 999999999 := Nat.mul_le_mul (by omega) (by omega)
  omega

theorem multiply_zero (w : World) (lo lo' : Nat) (v v' : Value) (n m : Nat) (hv : NatR w lo v n) (hv' : NatR w lo' v' m) (h : n = 0 ∨ m = 0) :
    Calls Tryz.prog 28 #[v, v'] w (fun e w' => e = .returned (.slice none 0 0) ∧ w = w') := by
  obtain ⟨A, c, rfl⟩ := Limbs.len hv
  obtain ⟨A', c', rfl⟩ := Limbs.len hv'
  by_cases h0 : n = 0
  · subst h0
    rw [dl_zero]
    clear hv hv' h
    go_enter Tryz.func28, Tryz.ntmps28
    go_wp2
    go_ret
    exact ⟨rfl, rfl⟩
  · have hm : m = 0 := by omega
    subst hm
    rw [dl_zero]
    have hne : (((dl n : Nat) : Int) == 0) = false := by
      rw [beq_eq_false_iff_ne]
      have := mt dl_eq_zero.1 h0
      omega
    clear hv hv' h h0
    go_enter Tryz.func28, Tryz.ntmps28
    go_wp2
    go_ret
    exact ⟨rfl, rfl⟩

set_option maxHeartbeats 2000000 in
theorem multiply_pos (w : World) (lo lo' : Nat) (v v' : Value) (n m : Nat) (hv : NatR w lo v n) (hv' : NatR w lo' v' m) (hk : dl n ≤ 4294967296) (hk' : dl m ≤ 4294967296) (h0 : n ≠ 0) (h0' : m ≠ 0) :
    Calls Tryz.prog 28 #[v, v'] w (Ret fun v2 w' => NatR w' w.heap.size v2 (n * m) ∧ Below w.heap.size w w') := by
  obtain ⟨_, A, c, rfl, hkc, hcm, hb⟩ := hv
  obtain ⟨_, A', c', rfl, hkc', hcm', hb'⟩ := hv'
  unfold maxLen at hcm hcm'
  have hp : 0 < dl n := Nat.pos_of_ne_zero (mt dl_eq_zero.1 h0)
  have hp' : 0 < dl m := Nat.pos_of_ne_zero (mt dl_eq_zero.1 h0')
  obtain ⟨ba, off, rfl, hlb, hbb, hcell⟩ := hb hp
  obtain ⟨bb, off', rfl, hlb', hbb', hcell'⟩ := hb' hp'
  have HC := Lib.hid hcell
  have HC' := Lib.hid hcell'
  clear hb hb' hcell hcell' h0 h0'
  have hne : (((dl n : Nat) : Int) == 0) = false := by rw [beq_eq_false_iff_ne]; omega
  have hne' : (((dl m : Nat) : Int) == 0) = false := by rw [beq_eq_false_iff_ne]; omega
  go_enter Tryz.func28, Tryz.ntmps28
  go_wp2_with (at_make; refine wpList_mkn _ rfl _ _ 112 rfl w.heap.size 120 Tryz.underlying112 info_u32 _ _ _ _ (dl n + dl m) (by rfl) (by rfl) (by omega) (by omega) (by omega) w (Below.refl _ _) (Nat.le_refl _) ?_; intro b w1 hlb1 _ hrow1 hbw1 _)
  go_loopw [26] (fun i wr => ∃ i0 : Nat, i0 ≤ dl n ∧ i = .int .i64 i0 ∧ RowU wr b 120 (dl n + dl m) (dg (n % B ^ i0 * m)) ∧ Below w.heap.size w wr) (fun i _ => dl n - (intOf i).toNat)
  case atStart =>
    refine ⟨0, by omega, rfl, hrow1.congr fun t _ => ?_, hbw1⟩
    rw [Nat.pow_zero, Nat.mod_one, Nat.zero_mul]; unfold dg; simp
  case round =>
    obtain ⟨i, hi, rfl, hrow, hbw⟩ := hrel
    by_cases hlt : i < dl n
    · obtain ⟨wo, rfl⟩ : ∃ wo : World, wo = wr := ⟨_, rfl⟩
      have hca : Hid (∀ wx, Below w.heap.size w wx → wx.cell? ⟨ba, off + i, none⟩ = some (.int .u32 ((dg n i : Nat) : Int))) := fun wx hx => (hx.cell (p := ⟨ba, off + i, none⟩) hbb).trans (HC.out i hlt)
      have hda : dg n i < 1000000000 := dg_lt n i
      go_wp2
      go_loopw [7, 31] (fun cv jv wr => ∃ (j c : Nat) (g : Nat → Nat), j ≤ dl m ∧ c < 1000000000 ∧ jv = .int .i64 j ∧ cv = .int .u64 c ∧ Hid (∀ t, t < dl n + dl m → g t < B) ∧
          Hid (∀ t, i + j ≤ t → t < dl n + dl m → g t = dg (n % B ^ i * m) t) ∧ Hid (vs g (i + j) + c * B ^ (i + j) = (n % B ^ i * m) % B ^ (i + j) + dg n i * (m % B ^ j) * B ^ i) ∧
          RowU wr b 120 (dl n + dl m) g ∧ Below w.heap.size w wr) (fun _ jv _ => dl m - (intOf jv).toNat)
      case atStart =>
        refine ⟨0, 0, dg (n % B ^ i * m), by omega, by omega, rfl, rfl, fun t _ => dg_lt _ _, fun _ _ _ => rfl, ?_, hrow, hbw⟩
        show _ = _
        rw [vs_dg, Nat.pow_zero, Nat.mod_one]; simp
      case round =>
        obtain ⟨j, c, g, hj, hc, rfl, rfl, hgB, hghi, hgv, hrow', hbw'⟩ := hrel
        by_cases hjm : j < dl m
        · have hc1 := hca.out wr hbw'
          have hc2 := (hbw'.cell (p := ⟨bb, off' + j, none⟩) hbb').trans (HC'.out j hjm)
          have hc3 := hrow'.cell (i := i + j) (by omega)
          have hfz := hrow'.frozen (i + j)
          rw [hghi.out (i + j) (Nat.le_refl _) (by omega)] at hc3
          have hdb : dg m j < 1000000000 := dg_lt m j
          have hdt : dg (n % B ^ i * m) (i + j) < 1000000000 := dg_lt _ _
          obtain ⟨x, hxe⟩ : ∃ x, Hid (x = dg n i) := ⟨_, rfl⟩
          obtain ⟨y, hye⟩ : ∃ y, Hid (y = dg m j) := ⟨_, rfl⟩
          obtain ⟨t, hte⟩ : ∃ t, Hid (t = dg (n % B ^ i * m) (i + j)) := ⟨_, rfl⟩
          rw [← hxe.out] at hc1 hda
          rw [← hye.out] at hc2 hdb
          rw [← hte.out] at hc3 hdt
          have hmb := mul_bound hda hdb hdt hc
          have hm1 : ((x : Int) * y) ≤ 999999998000000001 := by have := hmb.1; omega
          have hm0 : 0 ≤ ((x : Int) * y) := by omega
          clear hmb
          go_wp2
          go_quiet (fail)
          go_wp2
          go_roundw
          case rel =>
            have hs := (mul_bound hda hdb hdt hc).2
            have h9 : (x * y + t + c) / 1000000000 < 1000000000 := by omega
            refine ⟨j + 1, (x * y + t + c) / 1000000000, upd g (i + j) ((x * y + t + c) % 1000000000), by omega, h9, by go_num, by go_num, ?_, ?_, ?_, RowU.set (RowU.drewN hrow' _) (i + j) (by go_num), Below.setCell (hbw'.drewN _) hlb1 _⟩
            · intro t' ht'
              by_cases e : t' = i + j
              · subst e; rw [upd_same]; exact Nat.mod_lt _ B_pos
              · rw [upd_other g _ e]; exact hgB.out t' ht'
            · intro t' h1 h2
              rw [upd_other g _ (by omega)]; exact hghi.out t' (by omega) h2
            · have h1 := mul_step (g := g) (T := n % B ^ i * m) (x := x) (y := y) (c := c) (K := i + j) (s := x * y + t + c) (by rw [hte.out]) hgv.out
              show vs _ (i + (j + 1)) + _ * B ^ (i + (j + 1)) = _
              rw [show i + (j + 1) = i + j + 1 by omega, h1, ← mul_part, hxe.out, hye.out]
          case measure => simp [intOf]; omega
        · obtain rfl : j = dl m := by omega
          have hfz := hrow'.frozen (i + dl m)
          have hc3 := hrow'.cell (i := i + dl m) (by omega)
          go_wp2
          go_roundw
          case rel =>
            exact ⟨i + 1, by omega, by go_num, RowU.congr (RowU.set hrow' (i + dl m) rfl) (mul_done hgB.out hc (by omega) hghi.out hgv.out), Below.setCell hbw' hlb1 _⟩
          case measure => simp [intOf]; omega
    · obtain rfl : i = dl n := by omega
      have hT : Hid (n % B ^ dl n * m = n * m) := by show _ = _; rw [Nat.mod_eq_of_lt (lt_dl n)]
      rw [hT.out] at hrow
      have hlt2 : Hid (n * m < B ^ (dl n + dl m)) := Nat.lt_of_lt_of_le (lt_dl _) (Nat.pow_le_pow_right B_pos (dl_mul_le n m))
      go_wp2_with fail
      refine (trim_any _ _ _ _ _ (hrow.limbs hlb1 (by omega) fun i _ => Nat.lt_trans (dg_lt _ i) (by decide)) hlt2.out).mono ?_
      rintro e w' ⟨v', rfl, hnat, rfl⟩
      go_wp2
      go_ret
      exact ⟨v', rfl, hnat, hbw⟩

theorem multiply_any (w : World) (lo lo' : Nat) (v v' : Value) (n m : Nat) (hv : NatR w lo v n) (hv' : NatR w lo' v' m) (hk : dl n ≤ 4294967296) (hk' : dl m ≤ 4294967296) :
    Calls Tryz.prog 28 #[v, v'] w (Ret fun v2 w' => NatR w' w.heap.size v2 (n * m) ∧ Below w.heap.size w w') := by
  by_cases h : n = 0 ∨ m = 0
  · refine (multiply_zero w lo lo' v v' n m hv hv' h).mono ?_
    rintro e w' ⟨rfl, rfl⟩
    have e0 : n * m = 0 := by rcases h with h | h <;> subst h <;> simp
    exact ⟨_, rfl, by rw [e0]; exact NatR.zero _ _, Below.refl _ _⟩
  · exact multiply_pos w lo lo' v v' n m hv hv' hk hk' (fun e => h (.inl e)) (fun e => h (.inr e))

end Go.Proofs.YtgheaoaicbkaoaaGreatDoor

/-
  The walk of rational's plus.
-/
namespace Go.Proofs.YtgheaoaicbkaoaaGreatDoor
open Go.RowKit AC
set_option linter.unusedVariables false
set_option linter.unusedSimpArgs false

/-- What plus gives. -/
def PlusR (w : World) (n1 d1 n2 d2 : Nat) (s1 s2 : Bool) (v2 : Value) (w' : World) : Prop :=
  ∃ neg n, FracR w' w.heap.size v2 neg n (d1 * d2) ∧ sg neg n = sg s1 n1 * d2 + sg s2 n2 * d1 ∧ Below w.heap.size w w'

theorem sg_same (s : Bool) (n1 n2 d1 d2 : Nat) : sg s (n1 * d2 + n2 * d1) = sg s n1 * d2 + sg s n2 * d1 := by
  cases s <;> simp [sg, Int.neg_mul, Int.neg_add]
theorem sg_diff_lt {s1 s2 : Bool} (h : ¬ s1 = s2) {n1 n2 d1 d2 : Nat} (hlt : n1 * d2 < n2 * d1) : sg s2 (n2 * d1 - n1 * d2) = sg s1 n1 * d2 + sg s2 n2 * d1 := by
  have e : ((n2 * d1 - n1 * d2 : Nat) : Int) = (n2 : Int) * d1 - (n1 : Int) * d2 := by
    rw [Int.ofNat_sub (by omega)]; simp
  cases s1 <;> cases s2 <;> simp_all [sg, Int.neg_mul] <;> omega
theorem sg_diff_ge {s1 s2 : Bool} (h : ¬ s1 = s2) {n1 n2 d1 d2 : Nat} (hge : n2 * d1 ≤ n1 * d2) : sg s1 (n1 * d2 - n2 * d1) = sg s1 n1 * d2 + sg s2 n2 * d1 := by
  have e : ((n1 * d2 - n2 * d1 : Nat) : Int) = (n1 : Int) * d2 - (n2 : Int) * d1 := by
    rw [Int.ofNat_sub (by omega)]; simp
  cases s1 <;> cases s2 <;> simp_all [sg, Int.neg_mul] <;> omega

theorem cell_set3 (w : World) {g b : Nat} (h : b ≠ g) (o : Nat) (x y z : Value) :
    (((w.setCell ⟨g, 0, none⟩ x).setCell ⟨g, 1, none⟩ y).setCell ⟨g, 2, none⟩ z).cell? ⟨b, o, none⟩ = w.cell? ⟨b, o, none⟩ := by
  rw [World.cell?_setCell_other _ _ _ _ (by intro e; injection e with e; omega), World.cell?_setCell_other _ _ _ _ (by intro e; injection e with e; omega), World.cell?_setCell_other _ _ _ _ (by intro e; injection e with e; omega)]

set_option maxHeartbeats 4000000 in
theorem plus_any (w : World) (lo lo' : Nat) (v v' : Value) (s1 s2 : Bool) (n1 d1 n2 d2 : Nat) (hv : FracR w lo v s1 n1 d1) (hv' : FracR w lo' v' s2 n2 d2)
    (k1 : dl n1 + dl d2 ≤ 4294967290) (k2 : dl n2 + dl d1 ≤ 4294967290) (k3 : dl d1 + dl d2 ≤ 4294967290) :
    Calls Tryz.prog 65 #[v, v'] w (Ret (PlusR w n1 d1 n2 d2 s1 s2)) := by
  obtain ⟨A1, c1, B1, e1, rfl, hn1, hd1⟩ := hv.form
  obtain ⟨A2, c2, B2, e2, rfl, hn2, hd2⟩ := hv'.form
  have HN1 := Lib.hid hn1
  have HD1 := Lib.hid hd1
  have HN2 := Lib.hid hn2
  have HD2 := Lib.hid hd2
  clear hv hv' hn1 hd1 hn2 hd2
  go_enter Tryz.func65, Tryz.ntmps65
  go_wp2
  go_outline
  go_region_held3 (fun w' => w'.cell? ⟨w.heap.size, 1, none⟩ = some (.slice A1 (dl n1) c1) ∧ w'.cell? ⟨w.heap.size, 2, none⟩ = some (.slice B1 (dl d1) e1) ∧ w'.cell? ⟨w.heap.size + 1, 1, none⟩ = some (.slice A2 (dl n2) c2) ∧ w'.cell? ⟨w.heap.size + 1, 2, none⟩ = some (.slice B2 (dl d2) e2)) (go_keep)
    (first
      | (go_at_call_of 28 (Value.slice A1 (dl n1) c1); refine (multiply_any _ lo lo' _ _ n1 d2 (by exact ((HN1.out.alloc _).alloc _).alloc _) (by exact ((HD2.out.alloc _).alloc _).alloc _) (by omega) (by omega)).mono ?_; rintro e w1 ⟨va, rfl, hna, hb1⟩; have hbw1 := (bel3 w _ _ _).drew.trans (hb1.mono (by simp; omega)); have hF1 := ((((Bk.new w 114 _).alloc _).alloc _).drew.below hb1 (by simp; omega)); have hG1 := (((Bk.new _ 114 _).alloc _).drew.below hb1 (by simp)); have hR1 := ((Bk.new _ 114 _).drew.below hb1 (by simp)); obtain ⟨hcF1, hfF1, hzF1⟩ := hF1.facts; obtain ⟨hcG1, hfG1, hzG1⟩ := hG1.facts; simp only [World.size_alloc] at hcG1 hfG1 hzG1 hG1 hR1; have hzR1 := hR1.lt)
      | (go_at_call_of 28 (Value.slice A2 (dl n2) c2); refine (multiply_any _ lo' lo _ _ n2 d1 (by exact HN2.out.below hbw1) (by exact HD1.out.below hbw1) (by omega) (by omega)).mono ?_; rintro e w2 ⟨vb, rfl, hnb, hb2⟩; have hbw2 := hbw1.trans (hb2.mono hbw1.size); have hF2 := hF1.below hb2 hzF1; have hG2 := hG1.below hb2 hzG1; have hR2 := hR1.below hb2 hzR1; obtain ⟨hcF2, hfF2, hzF2⟩ := hF2.facts; obtain ⟨hcG2, hfG2, hzG2⟩ := hG2.facts))
  have HA2 := Lib.hid (hna.below hb2)
  have HB2 := Lib.hid hnb
  obtain ⟨Aa, ca, rfl⟩ := Limbs.len hna
  obtain ⟨Ab, cb, rfl⟩ := Limbs.len hnb
  have HF2 := Lib.hid hF2
  have HG2 := Lib.hid hG2
  have HR2 := Lib.hid hR2
  have hzz1 : w.heap.size + 1 + 1 < w1.heap.size := hzR1
  have hzz2 := hb2.size
  clear hna hnb hF1 hG1 hR1 hF2 hG2 hR2 hb1 hcF1 hcG1 hfF1 hfG1 hzF1 hzG1 hzR1 hb2
  go_wp2_with fail
  refine (multiply_any _ lo lo' _ _ d1 d2 (HD1.out.below hbw2) (HD2.out.below hbw2) (by omega) (by omega)).mono ?_
  rintro e w3 ⟨vd, rfl, hnd, hb3⟩
  have hbw3 := hbw2.trans (hb3.mono hbw2.size)
  have hzz4 := hb3.size
  have HF3 := Lib.hid (HF2.out.below hb3 HF2.out.lt)
  have HG3 := Lib.hid (HG2.out.below hb3 HG2.out.lt)
  have HR3 := Lib.hid (HR2.out.below hb3 HR2.out.lt)
  have HA3 := Lib.hid (HA2.out.below hb3)
  have HB3 := Lib.hid (HB2.out.below hb3)
  have HD3 := Lib.hid hnd
  obtain ⟨Ad, cd, rfl⟩ := Limbs.len hnd
  obtain ⟨hcF3, hfF3, hzF3⟩ := HF3.out.facts
  obtain ⟨hcG3, hfG3, hzG3⟩ := HG3.out.facts
  clear hnd hb3 hcF2 hcG2 hfF2 hfG2 HA2 HB2 HF2 HG2 HR2 hzF2 hzG2
  have hzz3 : w.heap.size + 1 + 1 < w3.heap.size := HR3.out.lt
  by_cases hs : s1 = s2
  · subst hs
    go_wp2
    go_region_held3 (fun w' => w'.cell? ⟨w.heap.size, 0, none⟩ = some (.bool s1)) (first | go_keep | (refine (cell_set3 _ (by omega) _ _ _ _).trans ?_; simp [*]))
      (first
        | (go_at_call 119; refine (add_any _ _ _ _ _ (n1 * d2) (n2 * d1) (by exact HA3.out) (by exact HB3.out) (by have := dl_mul_le n1 d2; omega) (by have := dl_mul_le n2 d1; omega)).mono ?_; rintro e w4 ⟨vs', rfl, hns, hb4⟩; obtain ⟨As, cs, rfl⟩ := Limbs.len hns; obtain ⟨hcF4, hfF4, hzF4⟩ := (HF3.out.drew.below hb4 hzF3).facts; obtain ⟨hcR4, hfR4, hzR4⟩ := (HR3.out.drew.below hb4 HR3.out.lt).facts))
    have hbw4 := hbw3.drew.trans (hb4.mono hbw3.size)
    have HS4 := Lib.hid hns
    have HD4 := Lib.hid (HD3.out.drew.below hb4)
    clear hns hb4
    go_wp2
    exact bodyPost_ret (v := .agg #[.bool s1, .slice As (dl (n1 * d2 + n2 * d1)) cs, .slice Ad (dl (d1 * d2)) cd]) (by simp [results, Tryz.results65, go_sem, hcR4]) rfl
      ⟨_, rfl, s1, _, frac_set3 ⟨_, _, rfl, HS4.out.lower (by simp; omega), HD4.out.lower (by omega)⟩ (show w.heap.size + 1 + 1 < w1.heap.size by omega) _ _ _ |>.lower (by omega), sg_same s1 n1 n2 d1 d2, below_set3 hbw4 (by omega) _ _ _⟩
  · have hsb : (s1 == s2) = false := by simpa using hs
    obtain ⟨ci, hci⟩ : ∃ ci, Hid (cmpI (n1 * d2) (n2 * d1) = ci) := ⟨_, rfl⟩
    go_wp2_with fail
    refine (ucompare_any _ _ _ _ _ _ _ HA3.out HB3.out).mono ?_
    rintro e w3' ⟨rfl, qc, rfl⟩
    rw [hci.out]
    rcases Nat.lt_or_ge (n1 * d2) (n2 * d1) with hlt | hge
    · have hc0 : ci = -1 := by rw [← hci.out]; exact cmpI_lt hlt
      subst hc0
      go_wp2
      go_region_held3 (fun w' => w'.cell? ⟨w.heap.size + 1, 0, none⟩ = some (.bool s2)) (first | go_keep | (refine (cell_set3 _ (by omega) _ _ _ _).trans ?_; simp [*]))
        (first
          | (go_at_call 120; refine (subtract_any _ _ _ _ _ (n2 * d1) (n1 * d2) (n2 * d1 - n1 * d2) (by exact HB3.out.drewN _) (by exact HA3.out.drewN _) (by have := dl_mul_le n1 d2; have := dl_mul_le n2 d1; omega) (by omega)).mono ?_; rintro e w4 ⟨vs', rfl, hns, hb4⟩; obtain ⟨As, cs, rfl⟩ := Limbs.len hns; obtain ⟨hcF4, hfF4, hzF4⟩ := (HG3.out.drewN _ |>.below hb4 hzG3).facts; obtain ⟨hcR4, hfR4, hzR4⟩ := (HR3.out.drewN _ |>.below hb4 HR3.out.lt).facts))
      have hbw4 := (hbw3.drewN qc).drew.trans (hb4.mono hbw3.size)
      have HS4 := Lib.hid hns
      have HD4 := Lib.hid ((HD3.out.drewN qc).drew.below hb4)
      clear hns hb4
      go_wp2
      exact bodyPost_ret (v := .agg #[.bool s2, .slice As (dl (n2 * d1 - n1 * d2)) cs, .slice Ad (dl (d1 * d2)) cd]) (by simp [results, Tryz.results65, go_sem, hcR4]) rfl
        ⟨_, rfl, s2, _, frac_set3 ⟨_, _, rfl, HS4.out.lower (by simp; omega), HD4.out.lower (by omega)⟩ (show w.heap.size + 1 + 1 < w1.heap.size by omega) _ _ _ |>.lower (by omega), sg_diff_lt hs hlt, below_set3 hbw4 (by omega) _ _ _⟩
    · have hc0 : 0 ≤ ci := by
        rw [← hci.out]
        rcases Nat.lt_or_ge (n2 * d1) (n1 * d2) with h5 | h5
        · rw [cmpI_gt h5]; decide
        · rw [cmpI_eq (by omega)]; decide
      go_wp2
      go_region_held3 (fun w' => w'.cell? ⟨w.heap.size, 0, none⟩ = some (.bool s1)) (first | go_keep | (refine (cell_set3 _ (by omega) _ _ _ _).trans ?_; simp [*]))
        (first
          | (go_at_call 120; refine (subtract_any _ _ _ _ _ (n1 * d2) (n2 * d1) (n1 * d2 - n2 * d1) (by exact HA3.out.drewN _) (by exact HB3.out.drewN _) (by have := dl_mul_le n1 d2; have := dl_mul_le n2 d1; omega) (by omega)).mono ?_; rintro e w4 ⟨vs', rfl, hns, hb4⟩; obtain ⟨As, cs, rfl⟩ := Limbs.len hns; obtain ⟨hcF4, hfF4, hzF4⟩ := (HF3.out.drewN _ |>.below hb4 hzF3).facts; obtain ⟨hcR4, hfR4, hzR4⟩ := (HR3.out.drewN _ |>.below hb4 HR3.out.lt).facts))
      have hbw4 := (hbw3.drewN qc).drew.trans (hb4.mono hbw3.size)
      have HS4 := Lib.hid hns
      have HD4 := Lib.hid ((HD3.out.drewN qc).drew.below hb4)
      clear hns hb4
      go_wp2
      exact bodyPost_ret (v := .agg #[.bool s1, .slice As (dl (n1 * d2 - n2 * d1)) cs, .slice Ad (dl (d1 * d2)) cd]) (by simp [results, Tryz.results65, go_sem, hcR4]) rfl
        ⟨_, rfl, s1, _, frac_set3 ⟨_, _, rfl, HS4.out.lower (by simp; omega), HD4.out.lower (by omega)⟩ (show w.heap.size + 1 + 1 < w1.heap.size by omega) _ _ _ |>.lower (by omega), sg_diff_ge hs hge, below_set3 hbw4 (by omega) _ _ _⟩

end Go.Proofs.YtgheaoaicbkaoaaGreatDoor

