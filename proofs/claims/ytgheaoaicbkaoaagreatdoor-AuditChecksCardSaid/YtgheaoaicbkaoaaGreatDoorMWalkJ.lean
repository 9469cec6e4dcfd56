/-
  The walk of rational's gcd.
-/
import Derived.Test.YtgheaoaicbkaoaaGreatDoorMWalkA
import Derived.Test.YtgheaoaicbkaoaaGreatDoorMWalkI
namespace Go.Proofs.YtgheaoaicbkaoaaGreatDoor
open Go.RowKit AC
set_option linter.unusedVariables false
set_option linter.unusedSimpArgs false

theorem le_two {x : Nat} (h : dl x ≤ 2) : x < 1000000000000000000 := by
  have h1 := Nat.lt_of_lt_of_le (lt_dl x) (Nat.pow_le_pow_right B_pos h)
  have h2 : B ^ 2 = 1000000000000000000 := by decide
  omega

set_option maxHeartbeats 2000000 in
theorem gcd_any (w : World) (lo : Nat) (v v' : Value) (a b : Nat) (hlo : lo ≤ w.heap.size) (hv : NatR w lo v a) (hv' : NatR w lo v' b) (hk : dl a ≤ 4294967296) (hk' : dl b ≤ 4294967296) :
    Calls Tryz.prog 117 #[v, v'] w (Ret fun v2 w' => NatR w' lo v2 (Nat.gcd a b) ∧ Below w.heap.size w w') := by
  have H1 := Lib.hid hv
  have H2 := Lib.hid hv'
  obtain ⟨A, c, rfl⟩ := Limbs.len hv
  obtain ⟨A', c', rfl⟩ := Limbs.len hv'
  clear hv hv'
  go_enter Tryz.func117, Tryz.ntmps117
  go_wp2
  go_loopg [0, 1] b (fun m av bv wr => ∃ x y : Nat, y ≤ m ∧ dl x ≤ 4294967296 ∧ dl y ≤ 4294967296 ∧ NatR wr lo av x ∧ NatR wr lo bv y ∧ Hid (Nat.gcd x y = Nat.gcd a b) ∧ Below w.heap.size w wr)
  case atStart => exact ⟨a, b, Nat.le_refl _, hk, hk', H1.out, H2.out, rfl, Below.refl _ _⟩
  case round =>
    obtain ⟨x, y, hym, hkx, hky, hx, hy, hg, hbw⟩ := hrel
    obtain ⟨A1, c1, rfl⟩ := Limbs.len hx
    obtain ⟨A2, c2, rfl⟩ := Limbs.len hy
    have HX := Lib.hid hx
    have HY := Lib.hid hy
    clear hx hy
    by_cases hy0 : y = 0
    · subst hy0
      rw [dl_zero] at *
      go_wp2
      go_ret
      refine ⟨_, rfl, ?_, hbw⟩
      have := hg.out
      rw [Nat.gcd_zero_right] at this
      rw [← this]
      exact HX.out
    · have hyp : 0 < dl y := Nat.pos_of_ne_zero (mt dl_eq_zero.1 hy0)
      by_cases hb2 : dl x ≤ 2 ∧ dl y ≤ 2
      · obtain ⟨hx2, hy2⟩ := hb2
        have e1 : decide (((dl x : Nat) : Int) ≤ 2) = true := by simp; omega
        have e2 : decide (((dl y : Nat) : Int) ≤ 2) = true := by simp; omega
        have hxb := le_two hx2
        have hyb := le_two hy2
        go_wp2_with fail
        refine (word_yes _ _ _ _ HX.out (by omega)).mono ?_
        rintro e w1 ⟨rfl, rfl⟩
        go_wp2_with fail
        refine (word_yes _ _ _ _ HY.out (by omega)).mono ?_
        rintro e w2 ⟨rfl, rfl⟩
        go_wp2
        obtain ⟨wo, rfl⟩ : ∃ wo : World, wo = wr := ⟨_, rfl⟩
        go_loopg [5, 7] y (fun m xv yv wr => ∃ x' y' : Nat, y' ≤ m ∧ x' < 1000000000000000000 ∧ y' < 1000000000000000000 ∧ xv = .int .u64 x' ∧ yv = .int .u64 y' ∧ Hid (Nat.gcd x' y' = Nat.gcd x y) ∧ Hid (Qt wo wr))
        case atStart => exact ⟨x, y, Nat.le_refl _, hxb, hyb, rfl, rfl, rfl, Qt.refl _⟩
        case round =>
          obtain ⟨x', y', hm', hx', hy', rfl, rfl, hg', hq'⟩ := hrel
          by_cases hz : y' = 0
          · subst hz
            go_wp2_with fail
            refine (fromWord_any _ x' (by omega)).mono ?_
            rintro e w3 ⟨v3, rfl, hn3, hb3⟩
            go_wp2
            go_ret
            have hbq := hbw.trans (hq'.out.below _)
            refine ⟨v3, rfl, ?_, hbq.trans (hb3.mono hbq.size)⟩
            have e3 : x' = Nat.gcd a b := by
              have := hg'.out
              rw [Nat.gcd_zero_right] at this
              rw [this]; exact hg.out
            rw [← e3]
            exact hn3.lower (Nat.le_trans hlo hbq.size)
          · have hzb : ((y' : Int) == 0) = false := by rw [beq_eq_false_iff_ne]; omega
            have hyp' : 0 < y' := by omega
            have hml := Nat.mod_lt x' hyp'
            go_wp2
            go_quiet (fail)
            go_wp2
            go_roundg (x' % y')
            case measure => omega
            case rel => exact ⟨y', x' % y', Nat.le_refl _, hy', by omega, rfl, by go_num, by show _ = _; rw [← hg'.out, Nat.gcd_comm x' y', Nat.gcd_rec y' x', Nat.gcd_comm], hq'.out.drewN _⟩
      · have hyv : 0 < y := by omega
        by_cases hx2 : dl x ≤ 2
        · have e1 : decide (((dl x : Nat) : Int) ≤ 2) = true := by simp; omega
          have e2 : decide (((dl y : Nat) : Int) ≤ 2) = false := by simp; omega
          go_wp2_with fail
          refine (divide_any _ _ _ _ _ _ _ HX.out HY.out hkx hyv).mono ?_
          rintro e w1 ⟨vq, vr, rfl, hq1, hr1, hb1⟩
          go_wp2
          go_roundg (x % y)
          case measure => have := Nat.mod_lt x hyv; omega
          case rel => exact ⟨y, x % y, Nat.le_refl _, hky, Nat.le_trans (dl_mono (Nat.le_of_lt (Nat.mod_lt x hyv))) hky, HY.out.below hb1, hr1.lower (Nat.le_trans hlo hbw.size), by show _ = _; rw [← hg.out, Nat.gcd_comm x y, Nat.gcd_rec y x, Nat.gcd_comm], hbw.trans (hb1.mono hbw.size)⟩
        · have e1 : decide (((dl x : Nat) : Int) ≤ 2) = false := by simp; omega
          go_wp2_with fail
          refine (divide_any _ _ _ _ _ _ _ HX.out HY.out hkx hyv).mono ?_
          rintro e w1 ⟨vq, vr, rfl, hq1, hr1, hb1⟩
          go_wp2
          go_roundg (x % y)
          case measure => have := Nat.mod_lt x hyv; omega
          case rel => exact ⟨y, x % y, Nat.le_refl _, hky, Nat.le_trans (dl_mono (Nat.le_of_lt (Nat.mod_lt x hyv))) hky, HY.out.below hb1, hr1.lower (Nat.le_trans hlo hbw.size), by show _ = _; rw [← hg.out, Nat.gcd_comm x y, Nat.gcd_rec y x, Nat.gcd_comm], hbw.trans (hb1.mono hbw.size)⟩

end Go.Proofs.YtgheaoaicbkaoaaGreatDoor

/-
  The walks of rational's fractions: lowest, store, sign, magnitude.
-/
namespace Go.Proofs.YtgheaoaicbkaoaaGreatDoor
open Go.RowKit AC
set_option linter.unusedVariables false
set_option linter.unusedSimpArgs false

/-- A struct of a sign and two natural numbers. -/
def FracR (w : World) (lo : Nat) (v : Value) (neg : Bool) (n d : Nat) : Prop :=
  ∃ vn vd, v = .agg #[.bool neg, vn, vd] ∧ NatR w lo vn n ∧ NatR w lo vd d

theorem FracR.below {w w' : World} {lo : Nat} {v : Value} {neg : Bool} {n d : Nat} (h : FracR w lo v neg n d) (hb : Below w.heap.size w w') : FracR w' lo v neg n d := by
  obtain ⟨vn, vd, rfl, h1, h2⟩ := h
  exact ⟨vn, vd, rfl, h1.below hb, h2.below hb⟩
theorem FracR.lower {w : World} {lo lo' : Nat} {v : Value} {neg : Bool} {n d : Nat} (h : FracR w lo v neg n d) (hl : lo' ≤ lo) : FracR w lo' v neg n d := by
  obtain ⟨vn, vd, rfl, h1, h2⟩ := h
  exact ⟨vn, vd, rfl, h1.lower hl, h2.lower hl⟩

theorem bcell {W w1 : World} (hb : Below W.heap.size W w1) :
    (∀ b o, b < W.heap.size → w1.cell? ⟨b, o, none⟩ = W.cell? ⟨b, o, none⟩) ∧ (∀ b o, b < W.heap.size → w1.frozen? ⟨b, o, none⟩ = W.frozen? ⟨b, o, none⟩) :=
  ⟨fun b o h => hb.cell (p := ⟨b, o, none⟩) h, fun b o h => hb.frozen (p := ⟨b, o, none⟩) h⟩

/-- In lowest terms. -/
def lowN (n d : Nat) : Nat := n / Nat.gcd n d
def lowD (n d : Nat) : Nat := if n = 0 then 1 else d / Nat.gcd n d
def lowS (neg : Bool) (n : Nat) : Bool := if n = 0 then false else neg

theorem NatR.oneNew (w : World) (lo : Nat) (e : TypeId) (h : lo ≤ w.heap.size) : NatR (w.alloc (.cells #[.int .u32 1] e)) lo (.slice (some ⟨w.heap.size, 0, none⟩) 1 1) 1 := by
  refine NatR.of (k := 1) ⟨fun i _ => Nat.lt_trans (dg_lt _ i) (by decide), _, 1, rfl, Nat.le_refl _, by unfold maxLen; omega, fun _ => ⟨w.heap.size, 0, rfl, h, by simp, fun i hi => ?_⟩⟩ dl_one
  obtain rfl : i = 0 := by omega
  rw [World.cell?_alloc_at _ _ _ _ rfl, dg_zero_of (by decide)]
  rfl

theorem bel2 (w : World) (o o' : Obj) : Below w.heap.size w ((w.alloc o).alloc o') := ((Below.refl _ _).alloc (Nat.le_refl _) o).alloc (by simp) o'
theorem bel3 (w : World) (o o' o2 : Obj) : Below w.heap.size w (((w.alloc o).alloc o').alloc o2) := (bel2 w o o').alloc (by simp; omega) o2

set_option maxHeartbeats 1000000 in
theorem lowest_zero (w : World) (lo : Nat) (v : Value) (neg : Bool) (d : Nat) (hv : FracR w lo v neg 0 d) :
    Calls Tryz.prog 64 #[v] w (Ret fun v2 w' => FracR w' w.heap.size v2 false 0 1 ∧ Below w.heap.size w w') := by
  obtain ⟨vn, vd, rfl, h1, h2⟩ := hv
  obtain ⟨A, c, rfl⟩ := Limbs.len h1
  obtain ⟨A', c', rfl⟩ := Limbs.len h2
  rw [dl_zero]
  clear h1 h2
  go_enter Tryz.func64, Tryz.ntmps64
  go_wp2
  refine bodyPost_ret (v := .agg #[.bool false, .slice none 0 0, .slice (some ⟨w.heap.size + 1 + 1, 0, none⟩) 1 1]) (by simp [results, Tryz.results64, go_sem]) rfl ⟨_, rfl, ⟨_, _, rfl, NatR.zero _ _, ?_⟩, bel3 _ _ _ _⟩
  have := NatR.oneNew ((w.alloc (.cells #[.bool neg, .slice A 0 c, .slice A' (dl d) c'] 114)).alloc (.cells #[.bool false, .slice none 0 0, .slice (some ⟨w.heap.size + 1 + 1, 0, none⟩) 1 1] 114)) w.heap.size 120 (by simp; omega)
  simpa using this

set_option maxHeartbeats 1000000 in
theorem lowest_one (w : World) (lo : Nat) (v : Value) (neg : Bool) (n : Nat) (hv : FracR w lo v neg n 1) (hn : n ≠ 0) :
    Calls Tryz.prog 64 #[v] w (Ret fun v2 w' => v2 = v ∧ Below w.heap.size w w') := by
  obtain ⟨vn, vd, rfl, h1, h2⟩ := hv
  have H2 := Lib.hid h2
  obtain ⟨A, c, rfl⟩ := Limbs.len h1
  obtain ⟨A', c', rfl⟩ := Limbs.len h2
  have hp : (((dl n : Nat) : Int) == 0) = false := by
    rw [beq_eq_false_iff_ne]
    have := mt dl_eq_zero.1 hn
    omega
  clear h1 h2
  go_enter Tryz.func64, Tryz.ntmps64
  go_wp2_with fail
  refine (isOne_yes _ lo _ ((H2.out.alloc _).alloc _)).mono ?_
  rintro e w1 ⟨rfl, rfl⟩
  go_wp2
  exact bodyPost_ret (v := .agg #[.bool neg, .slice A (dl n) c, .slice A' (dl 1) c']) (by simp [results, Tryz.results64, go_sem]) rfl ⟨_, rfl, rfl, bel2 _ _ _⟩

set_option maxHeartbeats 1000000 in
theorem lowest_more (w : World) (lo : Nat) (v : Value) (neg : Bool) (n d : Nat) (hlo : lo ≤ w.heap.size) (hv : FracR w lo v neg n d) (hn : n ≠ 0) (hd : d ≠ 1) (hk : dl n ≤ 4294967296) (hk' : dl d ≤ 4294967296) :
    Calls Tryz.prog 64 #[v] w (Ret fun v2 w' => (v2 = v ∧ Nat.gcd n d = 1 ∨ FracR w' w.heap.size v2 neg (n / Nat.gcd n d) (d / Nat.gcd n d)) ∧ Below w.heap.size w w') := by
  obtain ⟨vn, vd, rfl, h1, h2⟩ := hv
  have H1 := Lib.hid h1
  have H2 := Lib.hid h2
  obtain ⟨A, c, rfl⟩ := Limbs.len h1
  obtain ⟨A', c', rfl⟩ := Limbs.len h2
  have hp : (((dl n : Nat) : Int) == 0) = false := by
    rw [beq_eq_false_iff_ne]
    have := mt dl_eq_zero.1 hn
    omega
  have HG : 0 < Nat.gcd n d := Nat.gcd_pos_of_pos_left d (Nat.pos_of_ne_zero hn)
  clear h1 h2
  go_enter Tryz.func64, Tryz.ntmps64
  go_wp2_with fail
  refine (isOne_no _ lo _ d ((H2.out.alloc _).alloc _) hd).mono ?_
  rintro e w1 ⟨rfl, rfl⟩
  go_wp2_with fail
  refine (gcd_any _ lo _ _ n d (by simp; omega) ((H1.out.alloc _).alloc _) ((H2.out.alloc _).alloc _) hk hk').mono ?_
  rintro e w2 ⟨vg, rfl, hg2, hb2⟩
  obtain ⟨hc2, hf2⟩ := bcell hb2
  have hz2 : w.heap.size + 1 + 1 ≤ w2.heap.size := by have := hb2.size; simpa using this
  have hbw2 := (bel2 w _ _).trans (hb2.mono (by simp; omega))
  by_cases hone : Nat.gcd n d = 1
  · rw [hone] at hg2
    go_wp2_with fail
    refine (isOne_yes _ lo _ hg2).mono ?_
    rintro e w3 ⟨rfl, rfl⟩
    go_wp2
    have hfin := fun (a b c : Value) => ((hbw2.setCell (p := ⟨w.heap.size + 1, 0, none⟩) (by simp) a).setCell (p := ⟨w.heap.size + 1, 1, none⟩) (by simp) b).setCell (p := ⟨w.heap.size + 1, 2, none⟩) (by simp) c
    refine bodyPost_ret (v := .agg #[.bool neg, .slice A (dl n) c, .slice A' (dl d) c']) (by simp [results, Tryz.results64, go_sem, hc2, hf2]) rfl ⟨_, rfl, .inl ⟨rfl, hone⟩, hfin _ _ _⟩
  · go_wp2_with fail
    refine (isOne_no _ lo _ _ hg2 hone).mono ?_
    rintro e w3 ⟨rfl, rfl⟩
    go_wp2_with fail
    refine (divide_any _ _ _ _ _ n (Nat.gcd n d) (H1.out.below hbw2) hg2 hk HG).mono ?_
    rintro e w3 ⟨vq, vr, rfl, hq3, hr3, hb3⟩
    have hz3 := hb3.size
    have hbw3 := hbw2.trans (hb3.mono (by omega))
    have hc3 : ∀ b o, b < w.heap.size + 2 → w3.cell? ⟨b, o, none⟩ = w2.cell? ⟨b, o, none⟩ := fun b o h => hb3.cell (p := ⟨b, o, none⟩) (by simp; omega)
    have hf3 : ∀ b o, b < w.heap.size + 2 → w3.frozen? ⟨b, o, none⟩ = w2.frozen? ⟨b, o, none⟩ := fun b o h => hb3.frozen (p := ⟨b, o, none⟩) (by simp; omega)
    clear hb2
    go_wp2_with fail
    refine (divide_any _ _ _ _ _ d (Nat.gcd n d) (H2.out.below hbw3) (hg2.below hb3) hk' HG).mono ?_
    rintro e w4 ⟨vq4, vr4, rfl, hq4, hr4, hb4⟩
    have hz4 := hb4.size
    have hbw4 := hbw3.trans (hb4.mono (by omega))
    have hc4 : ∀ b o, b < w.heap.size + 2 → w4.cell? ⟨b, o, none⟩ = w3.cell? ⟨b, o, none⟩ := fun b o h => hb4.cell (p := ⟨b, o, none⟩) (by simp; omega)
    have hf4 : ∀ b o, b < w.heap.size + 2 → w4.frozen? ⟨b, o, none⟩ = w3.frozen? ⟨b, o, none⟩ := fun b o h => hb4.frozen (p := ⟨b, o, none⟩) (by simp; omega)
    obtain ⟨Aq, cq, rfl⟩ := Limbs.len hq3
    obtain ⟨Aq4, cq4, rfl⟩ := Limbs.len hq4
    have HQ3 := Lib.hid (hq3.below hb4)
    have HQ4 := Lib.hid hq4
    clear hq3 hq4 hr3 hr4 hb3 hb4
    go_wp2
    have hfin := fun (a b c : Value) => ((hbw4.setCell (p := ⟨w.heap.size + 1, 0, none⟩) (by simp) a).setCell (p := ⟨w.heap.size + 1, 1, none⟩) (by simp) b).setCell (p := ⟨w.heap.size + 1, 2, none⟩) (by simp) c
    refine bodyPost_ret (v := .agg #[.bool neg, .slice Aq (dl (n / Nat.gcd n d)) cq, .slice Aq4 (dl (d / Nat.gcd n d)) cq4]) (by simp [results, Tryz.results64, go_sem, hc4, hf4, hc3, hf3, hc2, hf2]) rfl ⟨_, rfl, .inr ⟨_, _, rfl, ?_, ?_⟩, hfin _ _ _⟩
    · exact (((Limbs.setCell HQ3.out (by simp; omega) _).setCell (by simp; omega) _).setCell (by simp; omega) _).lower (by omega)
    · exact (((Limbs.setCell HQ4.out (by simp; omega) _).setCell (by simp; omega) _).setCell (by simp; omega) _).lower (by omega)

end Go.Proofs.YtgheaoaicbkaoaaGreatDoor

