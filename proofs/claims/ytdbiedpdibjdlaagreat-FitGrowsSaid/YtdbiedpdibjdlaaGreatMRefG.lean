/-
  The walks of the reference's natDiv (joined), natGcd and build.
-/
import Derived.Test.YtdbiedpdibjdlaaGreatMRefF
namespace Go.Proofs.YtdbiedpdibjdlaaGreat
open Go.RowKit AC
set_option linter.unusedVariables false
set_option linter.unusedSimpArgs false

theorem natDiv_any (w : World) (lo lo' : Nat) (v v' : Value) (n m : Nat) (hv : NatR w lo v n) (hv' : NatR w lo' v' m) (hk : dl n ≤ 4294967290) (hm : m ≠ 0) :
    Calls Tryz.prog 65 #[v, v'] w (DivP w n m) := by
  rcases Nat.lt_or_ge n m with h | h
  · exact natDiv_less w lo lo' v v' n m hv hv' (by omega) h
  · have h1 : 0 < dl m := Nat.pos_of_ne_zero (mt dl_eq_zero.1 hm)
    by_cases h2 : dl m = 1
    · exact natDiv_small w lo lo' v v' n m hv hv' (by omega) h2 h
    · exact natDiv_long w lo lo' v v' n m hv hv' hk (by omega) h

set_option maxHeartbeats 1000000 in
theorem natGcd_any (w : World) (lo : Nat) (v v' : Value) (a b : Nat) (hlo : lo ≤ w.heap.size) (hv : NatR w lo v a) (hv' : NatR w lo v' b) (hk : dl a ≤ 4294967290) (hk' : dl b ≤ 4294967290) :
    Calls Tryz.prog 64 #[v, v'] w (Ret fun v2 w' => NatR w' lo v2 (Nat.gcd a b) ∧ Below w.heap.size w w') := by
  have H1 := Lib.hid hv
  have H2 := Lib.hid hv'
  obtain ⟨A, c, rfl⟩ := Limbs.len hv
  obtain ⟨A', c', rfl⟩ := Limbs.len hv'
  clear hv hv'
  go_enter Tryz.func64, Tryz.ntmps64
  go_wp2
  go_loopg [0, 1] b (fun m av bv wr => ∃ x y : Nat, y ≤ m ∧ dl x ≤ 4294967290 ∧ dl y ≤ 4294967290 ∧ NatR wr lo av x ∧ NatR wr lo bv y ∧ Hid (Nat.gcd x y = Nat.gcd a b) ∧ Below w.heap.size w wr)
  case atStart => exact ⟨a, b, Nat.le_refl _, hk, hk', H1.out, H2.out, rfl, Below.refl _ _⟩
  case round =>
    obtain ⟨x, y, hym, hkx, hky, hx, hy, hg, hbw⟩ := hrel
    obtain ⟨A1, c1, rfl⟩ := Limbs.len hx
    obtain ⟨A2, c2, rfl⟩ := Limbs.len hy
    have HX := Lib.hid hx
    have HY := Lib.hid hy
    clear hx hy
    by_cases hy0 : y = 0
    · subst hy0
      rw [dl_zero] at *
      go_wp2
      go_ret
      refine ⟨_, rfl, ?_, hbw⟩
      have := hg.out
      rw [Nat.gcd_zero_right] at this
      rw [← this]
      exact HX.out
    · have hyp : 0 < dl y := Nat.pos_of_ne_zero (mt dl_eq_zero.1 hy0)
      go_wp2_with fail
      refine (natDiv_any _ lo lo _ _ x y HX.out HY.out hkx hy0).mono ?_
      rintro e w1 ⟨q, r, rfl, hq, hr, hb1⟩
      have hlt : x % y < y := Nat.mod_lt _ (Nat.pos_of_ne_zero hy0)
      have hs := hbw.size
      go_wp2
      go_roundg (x % y)
      case rel =>
        refine ⟨y, x % y, Nat.le_refl _, hky, Nat.le_trans (dl_mono (Nat.le_of_lt hlt)) hky, HY.out.below hb1, hr.lower (by omega), ?_, hbw.trans (hb1.mono hs)⟩
        show _ = _
        rw [← hg.out, Nat.gcd_comm x y, Nat.gcd_comm y (x % y), ← Nat.gcd_rec]
      case measure => omega

end Go.Proofs.YtdbiedpdibjdlaaGreat

/-
  The walk of the reference's build.
-/
namespace Go.Proofs.YtdbiedpdibjdlaaGreat
open Go.RowKit AC
set_option linter.unusedVariables false
set_option linter.unusedSimpArgs false

set_option maxHeartbeats 2000000 in
theorem build_zero (w : World) (lo lo' : Nat) (neg : Bool) (v v' : Value) (kn kd : Nat) (fn fd : Nat → Nat) (hn : Limbs w lo v kn fn) (hd : Limbs w lo' v' kd fd) (hkn : kn ≤ 4000000000) (hkd : kd ≤ 4000000000) (N D : Nat) (hN : Hid (N = vs fn kn)) (hD : Hid (D = vs fd kd)) (h0 : N = 0 ∨ D = 0) :
    Calls Tryz.prog 32 #[.bool neg, v, v'] w (Ret fun v2 w' => FracR w' w.heap.size v2 false 0 1 ∧ Below w.heap.size w w') := by
  have HN := Lib.hid hn
  have HD := Lib.hid hd
  obtain ⟨A, c, rfl⟩ := Limbs.len hn
  obtain ⟨A', c', rfl⟩ := Limbs.len hd
  clear hn hd
  go_enter Tryz.func32, Tryz.ntmps32
  go_wp2_with fail
  refine (nat_any _ lo _ kn fn (HN.out.below (bel1 w _)) (by omega)).mono ?_
  rintro e w1 ⟨v1, rfl, hn1, hb1⟩
  rw [← hN.out] at hn1
  have HN1 := Lib.hid hn1
  have HR1 := Lib.hid ((Bk.new w 46 #[.bool false, .slice none 0 0, .slice none 0 0]).below hb1 (by simp))
  have hbw1 := (bel1 w _).trans (hb1.mono (by simp))
  obtain ⟨A1, c1, rfl⟩ := Limbs.len hn1
  have hz1 : w.heap.size < w1.heap.size := HR1.out.lt
  clear hn1 hb1
  go_wp2_with fail
  refine (nat_any _ lo' _ kd fd (HD.out.below hbw1) (by omega)).mono ?_
  rintro e w2 ⟨v2, rfl, hn2, hb2⟩
  rw [← hD.out] at hn2
  have HN2 := Lib.hid (hn2.lower (lo' := w.heap.size + 1) hz1)
  have HN1' := Lib.hid ((HN1.out.below hb2).lower (lo' := w.heap.size + 1) (by simp))
  have HR2 := Lib.hid (HR1.out.below hb2 hz1)
  have hbw2 := hbw1.trans (hb2.mono hbw1.size)
  obtain ⟨A2, c2, rfl⟩ := Limbs.len hn2
  have hz2 : w.heap.size < w2.heap.size := HR2.out.lt
  clear hn2 hb2 HN1 HR1
  have H0 := Lib.hid h0
  clear h0
  obtain ⟨hcR, hfR, hzR⟩ := HR2.out.facts
  by_cases h1 : N = 0
  · subst h1
    rw [dl_zero] at *
    go_wp2
    have hF := ((((HR2.out.set 0 (.bool false)).set 1 (.slice none 0 0)).set 2 (.slice (some ⟨w2.heap.size, 0, none⟩) 1 1)).alloc (.cells #[.int .u32 1] 80))
    obtain ⟨hcF, _, _⟩ := hF.facts
    refine bodyPost_ret (v := .agg #[.bool false, .slice none 0 0, .slice (some ⟨w2.heap.size, 0, none⟩) 1 1]) (by simp [results, Tryz.results32, go_sem, hcF]) rfl ⟨_, rfl, ⟨_, _, rfl, NatR.zero _ _, ?_⟩, (below_set3 hbw2 (Nat.le_refl _) _ _ _).alloc (by rw [size_set3]; omega) _⟩
    have h1 := NatR.oneNew (((w2.setCell ⟨w.heap.size, 0, none⟩ (.bool false)).setCell ⟨w.heap.size, 1, none⟩ (.slice none 0 0)).setCell ⟨w.heap.size, 2, none⟩ (.slice (some ⟨w2.heap.size, 0, none⟩) 1 1)) w.heap.size 80 (by rw [size_set3]; omega)
    rw [size_set3] at h1
    exact h1
  · have h2 : D = 0 := by have := H0.out; omega
    subst h2
    rw [dl_zero] at *
    have hne : (((dl N : Nat) : Int) == 0) = false := by
      rw [beq_eq_false_iff_ne]
      have := mt dl_eq_zero.1 h1
      omega
    go_wp2
    have hF := ((((HR2.out.set 0 (.bool false)).set 1 (.slice none 0 0)).set 2 (.slice (some ⟨w2.heap.size, 0, none⟩) 1 1)).alloc (.cells #[.int .u32 1] 80))
    obtain ⟨hcF, _, _⟩ := hF.facts
    refine bodyPost_ret (v := .agg #[.bool false, .slice none 0 0, .slice (some ⟨w2.heap.size, 0, none⟩) 1 1]) (by simp [results, Tryz.results32, go_sem, hcF]) rfl ⟨_, rfl, ⟨_, _, rfl, NatR.zero _ _, ?_⟩, (below_set3 hbw2 (Nat.le_refl _) _ _ _).alloc (by rw [size_set3]; omega) _⟩
    have h1 := NatR.oneNew (((w2.setCell ⟨w.heap.size, 0, none⟩ (.bool false)).setCell ⟨w.heap.size, 1, none⟩ (.slice none 0 0)).setCell ⟨w.heap.size, 2, none⟩ (.slice (some ⟨w2.heap.size, 0, none⟩) 1 1)) w.heap.size 80 (by rw [size_set3]; omega)
    rw [size_set3] at h1
    exact h1

end Go.Proofs.YtdbiedpdibjdlaaGreat

/-
  The walk of the reference's build, the numbers that are not zero.
-/
namespace Go.Proofs.YtdbiedpdibjdlaaGreat
open Go.RowKit AC
set_option linter.unusedVariables false
set_option linter.unusedSimpArgs false

theorem lowest_form {N D : Nat} (hN : N ≠ 0) (hD : D ≠ 0) : 0 < Nat.gcd N D ∧ N / Nat.gcd N D ≠ 0 := by
  have hg : 0 < Nat.gcd N D := Nat.gcd_pos_of_pos_left D (Nat.pos_of_ne_zero hN)
  exact ⟨hg, low_pos hN⟩

set_option maxHeartbeats 2000000 in
theorem build_pos (w : World) (lo lo' : Nat) (neg : Bool) (v v' : Value) (kn kd : Nat) (fn fd : Nat → Nat) (hn : Limbs w lo v kn fn) (hd : Limbs w lo' v' kd fd) (hkn : kn ≤ 4000000000) (hkd : kd ≤ 4000000000) (N D : Nat) (hN : Hid (N = vs fn kn)) (hD : Hid (D = vs fd kd)) (h0 : N ≠ 0) (h0' : D ≠ 0) :
    Calls Tryz.prog 32 #[.bool neg, v, v'] w (Ret fun v2 w' => FracR w' w.heap.size v2 neg (N / Nat.gcd N D) (D / Nat.gcd N D) ∧ Below w.heap.size w w') := by
  have hkN : dl N ≤ 4000000001 := by
    rw [hN.out]
    exact Nat.le_trans (dl_limbs (fun i hi => hn.1 i hi)) (by omega)
  have hkD : dl D ≤ 4000000001 := by
    rw [hD.out]
    exact Nat.le_trans (dl_limbs (fun i hi => hd.1 i hi)) (by omega)
  have HN := Lib.hid hn
  have HD := Lib.hid hd
  obtain ⟨A, c, rfl⟩ := Limbs.len hn
  obtain ⟨A', c', rfl⟩ := Limbs.len hd
  clear hn hd
  go_enter Tryz.func32, Tryz.ntmps32
  go_wp2_with fail
  refine (nat_any _ lo _ kn fn (HN.out.below (bel1 w _)) (by omega)).mono ?_
  rintro e w1 ⟨v1, rfl, hn1, hb1⟩
  rw [← hN.out] at hn1
  have HN1 := Lib.hid hn1
  have HR1 := Lib.hid ((Bk.new w 46 #[.bool false, .slice none 0 0, .slice none 0 0]).below hb1 (by simp))
  have hbw1 := (bel1 w _).trans (hb1.mono (by simp))
  obtain ⟨A1, c1, rfl⟩ := Limbs.len hn1
  have hz1 : w.heap.size < w1.heap.size := HR1.out.lt
  clear hn1 hb1
  go_wp2_with fail
  refine (nat_any _ lo' _ kd fd (HD.out.below hbw1) (by omega)).mono ?_
  rintro e w2 ⟨v2, rfl, hn2, hb2⟩
  rw [← hD.out] at hn2
  have HN2 := Lib.hid (hn2.lower (lo' := w.heap.size + 1) hz1)
  have HN1' := Lib.hid ((HN1.out.below hb2).lower (lo' := w.heap.size + 1) (by simp))
  have HR2 := Lib.hid (HR1.out.below hb2 hz1)
  have hbw2 := hbw1.trans (hb2.mono hbw1.size)
  obtain ⟨A2, c2, rfl⟩ := Limbs.len hn2
  have hz2 : w.heap.size < w2.heap.size := HR2.out.lt
  clear hn2 hb2 HN1 HR1
  have hne : (((dl N : Nat) : Int) == 0) = false := by
    rw [beq_eq_false_iff_ne]
    have := mt dl_eq_zero.1 h0
    omega
  have hne' : (((dl D : Nat) : Int) == 0) = false := by
    rw [beq_eq_false_iff_ne]
    have := mt dl_eq_zero.1 h0'
    omega
  go_wp2_with fail
  refine (natGcd_any _ (w.heap.size + 1) _ _ N D hz2 HN1'.out HN2.out (by omega) (by omega)).mono ?_
  rintro e w3 ⟨vg, rfl, hg3, hb3⟩
  have HG3 := Lib.hid hg3
  have hgp := (lowest_form h0 h0').1
  have hlg : dl (Nat.gcd N D) ≤ dl N := dl_mono (Nat.gcd_le_left D (Nat.pos_of_ne_zero h0))
  obtain ⟨g, hg⟩ : ∃ g, g = Nat.gcd N D := ⟨_, rfl⟩
  rw [← hg] at HG3 hgp hg3 hlg
  have HGE := Lib.hid hg
  clear hg
  have HR3 := Lib.hid (HR2.out.below hb3 hz2)
  have hbw3 := hbw2.trans (hb3.mono hbw2.size)
  have HA3 := Lib.hid (HN1'.out.below hb3)
  have HB3 := Lib.hid (HN2.out.below hb3)
  have hz3 : w.heap.size < w3.heap.size := HR3.out.lt
  obtain ⟨_, Ag, cg, rfl, hgc, hgm, hgcell⟩ := hg3
  have hdg1 : 0 < dl g := Nat.pos_of_ne_zero (mt dl_eq_zero.1 (by omega))
  obtain ⟨bg, og, rfl, hlg2, hbg, hgcell⟩ := hgcell hdg1
  have hcg := hgcell 0 hdg1
  rw [Nat.add_zero] at hcg
  have hgd : dg g 0 < 1000000000 := dg_lt _ _
  clear hgcell hb3 HN1' HN2 HR2
  by_cases hone : g = 1
  · subst hone
    rw [dl_one, dg_zero_of (by decide)] at *
    obtain ⟨hcR, hfR, hzR⟩ := HR3.out.facts
    go_wp2
    have hF := ((HR3.out.set 0 (.bool neg)).set 1 (.slice A1 (dl N) c1)).set 2 (.slice A2 (dl D) c2)
    obtain ⟨hcF, _, _⟩ := hF.facts
    refine bodyPost_ret (v := .agg #[.bool neg, .slice A1 (dl N) c1, .slice A2 (dl D) c2]) (by simp [results, Tryz.results32, go_sem, hcF]) rfl ⟨_, rfl, ⟨_, _, rfl, ?_, ?_⟩, below_set3 hbw3 (Nat.le_refl _) _ _ _⟩
    · rw [← HGE.out, Nat.div_one]; exact (limbs_set3 HA3.out (Nat.lt_succ_self _) _ _ _).lower (by omega)
    · rw [← HGE.out, Nat.div_one]; exact (limbs_set3 HB3.out (Nat.lt_succ_self _) _ _ _).lower (by omega)
  · by_cases h1 : dl g = 1
    · have hgne : ((((dg g 0 : Nat) : Int)) != 1) = true := by
        have hgB : g < B := by have := lt_dl g; rw [h1, Nat.pow_one] at this; exact this
        rw [dg_zero_of hgB]
        rw [bne_iff_ne]
        omega
      have hl1 : (((dl g : Nat) : Int) != 1) = false := by rw [h1]; rfl
      clear h1
      go_wp2_with fail
      refine (natDiv_any w3 (w.heap.size + 1) (w.heap.size + 1) (.slice A1 (dl N) c1) (.slice (some ⟨bg, og, none⟩) (dl g) cg) N g HA3.out HG3.out (by omega) (by omega)).mono ?_
      rintro e w4 ⟨v4, v4', rfl, hq4, _, hb4⟩
      have HR4 := Lib.hid (HR3.out.below hb4 hz3)
      have hbw4 := hbw3.trans (hb4.mono hbw3.size)
      have HQ4 := Lib.hid (hq4.lower (lo' := w.heap.size + 1) hz3)
      have HB4 := Lib.hid (HB3.out.below hb4)
      have HG4 := Lib.hid (NatR.below HG3.out hb4)
      have hz4 : w.heap.size < w4.heap.size := HR4.out.lt
      obtain ⟨A4, c4, rfl⟩ := Limbs.len hq4
      clear hq4 hb4
      go_wp2_with fail
      refine (natDiv_any w4 (w.heap.size + 1) (w.heap.size + 1) (.slice A2 (dl D) c2) (.slice (some ⟨bg, og, none⟩) (dl g) cg) D g HB4.out HG4.out (by omega) (by omega)).mono ?_
      rintro e w5 ⟨v5, v5', rfl, hq5, _, hb5⟩
      have HR5 := Lib.hid (HR4.out.below hb5 hz4)
      have hbw5 := hbw4.trans (hb5.mono hbw4.size)
      have HQ5 := Lib.hid (hq5.lower (lo' := w.heap.size + 1) hz4)
      have HP5 := Lib.hid (HQ4.out.below hb5)
      obtain ⟨A5, c5, rfl⟩ := Limbs.len hq5
      clear hq5 hb5
      obtain ⟨hcR, hfR, hzR⟩ := HR5.out.facts
      go_wp2
      have hF := ((HR5.out.set 0 (.bool neg)).set 1 (.slice A4 (dl (N / g)) c4)).set 2 (.slice A5 (dl (D / g)) c5)
      obtain ⟨hcF, _, _⟩ := hF.facts
      refine bodyPost_ret (v := .agg #[.bool neg, .slice A4 (dl (N / g)) c4, .slice A5 (dl (D / g)) c5]) (by simp [results, Tryz.results32, go_sem, hcF]) rfl ⟨_, rfl, ⟨_, _, rfl, ?_, ?_⟩, below_set3 hbw5 (Nat.le_refl _) _ _ _⟩
      · rw [← HGE.out]; exact (limbs_set3 HP5.out (Nat.lt_succ_self _) _ _ _).lower (by omega)
      · rw [← HGE.out]; exact (limbs_set3 HQ5.out (Nat.lt_succ_self _) _ _ _).lower (by omega)
    · have hl1 : (((dl g : Nat) : Int) != 1) = true := by rw [bne_iff_ne]; omega
      clear h1
      go_wp2_with fail
      refine (natDiv_any w3 (w.heap.size + 1) (w.heap.size + 1) (.slice A1 (dl N) c1) (.slice (some ⟨bg, og, none⟩) (dl g) cg) N g HA3.out HG3.out (by omega) (by omega)).mono ?_
      rintro e w4 ⟨v4, v4', rfl, hq4, _, hb4⟩
      have HR4 := Lib.hid (HR3.out.below hb4 hz3)
      have hbw4 := hbw3.trans (hb4.mono hbw3.size)
      have HQ4 := Lib.hid (hq4.lower (lo' := w.heap.size + 1) hz3)
      have HB4 := Lib.hid (HB3.out.below hb4)
      have HG4 := Lib.hid (NatR.below HG3.out hb4)
      have hz4 : w.heap.size < w4.heap.size := HR4.out.lt
      obtain ⟨A4, c4, rfl⟩ := Limbs.len hq4
      clear hq4 hb4
      go_wp2_with fail
      refine (natDiv_any w4 (w.heap.size + 1) (w.heap.size + 1) (.slice A2 (dl D) c2) (.slice (some ⟨bg, og, none⟩) (dl g) cg) D g HB4.out HG4.out (by omega) (by omega)).mono ?_
      rintro e w5 ⟨v5, v5', rfl, hq5, _, hb5⟩
      have HR5 := Lib.hid (HR4.out.below hb5 hz4)
      have hbw5 := hbw4.trans (hb5.mono hbw4.size)
      have HQ5 := Lib.hid (hq5.lower (lo' := w.heap.size + 1) hz4)
      have HP5 := Lib.hid (HQ4.out.below hb5)
      obtain ⟨A5, c5, rfl⟩ := Limbs.len hq5
      clear hq5 hb5
      obtain ⟨hcR, hfR, hzR⟩ := HR5.out.facts
      go_wp2
      have hF := ((HR5.out.set 0 (.bool neg)).set 1 (.slice A4 (dl (N / g)) c4)).set 2 (.slice A5 (dl (D / g)) c5)
      obtain ⟨hcF, _, _⟩ := hF.facts
      refine bodyPost_ret (v := .agg #[.bool neg, .slice A4 (dl (N / g)) c4, .slice A5 (dl (D / g)) c5]) (by simp [results, Tryz.results32, go_sem, hcF]) rfl ⟨_, rfl, ⟨_, _, rfl, ?_, ?_⟩, below_set3 hbw5 (Nat.le_refl _) _ _ _⟩
      · rw [← HGE.out]; exact (limbs_set3 HP5.out (Nat.lt_succ_self _) _ _ _).lower (by omega)
      · rw [← HGE.out]; exact (limbs_set3 HQ5.out (Nat.lt_succ_self _) _ _ _).lower (by omega)
end Go.Proofs.YtdbiedpdibjdlaaGreat

/-
  The walks of the reference's build (joined), Canonical, Neg, FromInt, Sign.
-/
namespace Go.Proofs.YtdbiedpdibjdlaaGreat
open Go.RowKit AC
set_option linter.unusedVariables false
set_option linter.unusedSimpArgs false

theorem build_any (w : World) (lo lo' : Nat) (neg : Bool) (v v' : Value) (kn kd : Nat) (fn fd : Nat → Nat) (hn : Limbs w lo v kn fn) (hd : Limbs w lo' v' kd fd) (hkn : kn ≤ 4000000000) (hkd : kd ≤ 4000000000) (q : Rat) (hq : q = mkRat (sg neg (vs fn kn)) (vs fd kd)) :
    Calls Tryz.prog 32 #[.bool neg, v, v'] w (RetQ w q) := by
  by_cases h0 : vs fn kn = 0 ∨ vs fd kd = 0
  · refine (build_zero w lo lo' neg v v' kn kd fn fd hn hd hkn hkd _ _ rfl rfl h0).mono ?_
    rintro e w' ⟨v2, rfl, h, hb⟩
    refine ⟨v2, rfl, ?_, hb⟩
    subst hq
    rcases h0 with h0 | h0
    · rw [h0]; exact RatR.ofZero h
    · rw [h0, Rat.mkRat_zero]; exact h
  · refine (build_pos w lo lo' neg v v' kn kd fn fd hn hd hkn hkd _ _ rfl rfl (fun h => h0 (.inl h)) (fun h => h0 (.inr h))).mono ?_
    rintro e w' ⟨v2, rfl, h, hb⟩
    refine ⟨v2, rfl, ?_, hb⟩
    subst hq
    exact RatR.ofLow (fun h => h0 (.inr h)) (fun h => h0 (.inl h)) h

/-- The parts of a number that comes in. -/
theorem RatV.parts {w : World} {lo : Nat} {v : Value} {K : Nat} {q : Rat} (h : RatV w lo v K q) :
    ∃ s A k c A' k' c' fn fd, v = .agg #[.bool s, .slice A k c, .slice A' k' c'] ∧ Limbs w lo (.slice A k c) k fn ∧ Limbs w lo (.slice A' k' c') k' fd ∧ k ≤ K ∧ k' ≤ K ∧ q = mkRat (sg s (vs fn k)) (vs fd k') := by
  obtain ⟨neg, kn, kd, fn, fd, vn, vd, rfl, h1, h2, h3, h4, h5⟩ := h
  obtain ⟨A, c, rfl⟩ := h1.len
  obtain ⟨A', c', rfl⟩ := h2.len
  exact ⟨neg, A, kn, c, A', kd, c', fn, fd, rfl, h1, h2, h3, h4, h5⟩

set_option maxHeartbeats 1000000 in
theorem rCanonical_any (w : World) (lo : Nat) (v : Value) (K : Nat) (q : Rat) (hv : RatV w lo v K q) (hK : K ≤ 4000000000) :
    Calls Tryz.prog 60 #[v] w (RetQ w q) := by
  obtain ⟨s, A, k, c, A', k', c', fn, fd, rfl, hn, hd, hkn, hkd, hq⟩ := hv.parts
  have HN := Lib.hid hn
  have HD := Lib.hid hd
  have HQ := Lib.hid hq
  clear hv hn hd hq
  go_enter Tryz.func60, Tryz.ntmps60
  go_wp2_with fail
  refine (build_any _ lo lo s _ _ k k' fn fd (HN.out.below (bel2 w _ _)) (HD.out.below (bel2 w _ _)) (by omega) (by omega) q HQ.out).mono ?_
  rintro e w1 ⟨v1, rfl, hr1, hb1⟩
  have hbw1 := (bel2 w _ _).trans (hb1.mono (by simp; omega))
  have hR1 := (Bk.new _ 46 _).below hb1 (by simp)
  simp only [World.size_alloc] at hR1 hr1
  have HR1 := Lib.hid hr1
  obtain ⟨A2, c2, A3, c3, rfl, _, _⟩ := FracR.form hr1
  obtain ⟨hcR, hfR, hz2⟩ := hR1.facts
  clear hr1 hb1
  go_wp2
  exact bodyPost_ret (v := .agg #[.bool (decide (q.num < 0)), .slice A2 (dl q.num.natAbs) c2, .slice A3 (dl q.den) c3]) (by simp [results, Tryz.results60, go_sem, hcR]) rfl
    ⟨_, rfl, RatR.lower (rat_set3 HR1.out (by omega) _ _ _) (by omega), below_set3 hbw1 (by omega) _ _ _⟩

set_option maxHeartbeats 1000000 in
theorem rNeg_any (w : World) (lo : Nat) (v : Value) (K : Nat) (q : Rat) (hv : RatV w lo v K q) (hK : K ≤ 4000000000) :
    Calls Tryz.prog 62 #[v] w (RetQ w (-q)) := by
  obtain ⟨s, A, k, c, A', k', c', fn, fd, rfl, hn, hd, hkn, hkd, hq⟩ := hv.parts
  have HN := Lib.hid hn
  have HD := Lib.hid hd
  obtain ⟨q', hq'⟩ : ∃ q', Hid (q' = -q) := ⟨_, rfl⟩
  have HQ : Hid (q' = mkRat (sg (!s) (vs fn k)) (vs fd k')) := by
    show _ = _
    rw [hq'.out, sg_not, ← Rat.neg_mkRat, ← hq]
  rw [← hq'.out]
  clear hv hn hd hq hq'
  go_enter Tryz.func62, Tryz.ntmps62
  go_wp2_with fail
  refine (build_any _ lo lo (!s) _ _ k k' fn fd (HN.out.below (bel2 w _ _)) (HD.out.below (bel2 w _ _)) (by omega) (by omega) q' HQ.out).mono ?_
  rintro e w1 ⟨v1, rfl, hr1, hb1⟩
  have hbw1 := (bel2 w _ _).trans (hb1.mono (by simp; omega))
  have hR1 := (Bk.new _ 46 _).below hb1 (by simp)
  simp only [World.size_alloc] at hR1 hr1
  have HR1 := Lib.hid hr1
  obtain ⟨A2, c2, A3, c3, rfl, _, _⟩ := FracR.form hr1
  obtain ⟨hcR, hfR, hz2⟩ := hR1.facts
  clear hr1 hb1
  go_wp2
  exact bodyPost_ret (v := .agg #[.bool (decide (q'.num < 0)), .slice A2 (dl q'.num.natAbs) c2, .slice A3 (dl q'.den) c3]) (by simp [results, Tryz.results62, go_sem, hcR]) rfl
    ⟨_, rfl, RatR.lower (rat_set3 HR1.out (by omega) _ _ _) (by omega), below_set3 hbw1 (by omega) _ _ _⟩

theorem cut_sign {q : Rat} : q.num.natAbs = 0 → sgnQ q = 0 := by
  intro h; unfold sgnQ; rw [Int.natAbs_eq_zero.1 h]; rfl

set_option maxHeartbeats 1000000 in
theorem rSign_any (w : World) (lo : Nat) (v : Value) (K : Nat) (q : Rat) (hv : RatV w lo v K q) (hK : K ≤ 4000000000) :
    Calls Tryz.prog 30 #[v] w (fun e w' => e = .returned (.int .i64 (sgnQ q)) ∧ Below w.heap.size w w') := by
  have HV := Lib.hid hv
  obtain ⟨s, A, k, c, A', k', c', rfl⟩ := hv.form
  clear hv
  go_enter Tryz.func30, Tryz.ntmps30
  go_wp2_with fail
  refine (rCanonical_any _ lo _ K q (HV.out.below (bel1 w _)) hK).mono ?_
  rintro e w1 ⟨v1, rfl, hr1, hb1⟩
  have hbw1 := (bel1 w _).trans (hb1.mono (by simp))
  have hR1 := (Bk.new _ 46 _).below hb1 (by simp)
  obtain ⟨A2, c2, A3, c3, rfl, _, _⟩ := FracR.form hr1
  obtain ⟨hcR, hfR, hz2⟩ := hR1.facts
  have hgo : ∀ z, sgnQ q = z → ∀ w', Below w.heap.size w w' → (Ending.returned (.int .i64 z) = .returned (.int .i64 (sgnQ q)) ∧ Below w.heap.size w w') := by
    rintro z rfl w' hb; exact ⟨rfl, hb⟩
  have HGO := Lib.hid hgo
  clear hr1 hb1 hgo
  by_cases h0 : q.num.natAbs = 0
  · have hs := Lib.hid (cut_sign h0)
    have hl : ((dl q.num.natAbs : Nat) : Int) = 0 := by rw [h0, dl_zero]; rfl
    have hl' : (((dl q.num.natAbs : Nat) : Int) == 0) = true := by rw [hl]; rfl
    clear h0 hl
    go_wp2
    go_ret
    exact HGO.out _ hs.out _ (below_set3 hbw1 (Nat.le_refl _) _ _ _)
  · have hl' : (((dl q.num.natAbs : Nat) : Int) == 0) = false := by
      rw [beq_eq_false_iff_ne]
      have := mt dl_eq_zero.1 h0
      omega
    by_cases hneg : q.num < 0
    · have hs : Hid (sgnQ q = -1) := by show _ = _; unfold sgnQ; exact Int.sign_eq_neg_one_of_neg hneg
      have hd : decide (q.num < 0) = true := by simpa using hneg
      clear h0
      rw [hd] at *
      go_wp2
      go_ret
      exact HGO.out _ hs.out _ (below_set3 hbw1 (Nat.le_refl _) _ _ _)
    · have hs : Hid (sgnQ q = 1) := by show _ = _; unfold sgnQ; exact Int.sign_eq_one_of_pos (by omega)
      have hd : decide (q.num < 0) = false := by simpa using hneg
      clear h0
      rw [hd] at *
      go_wp2
      go_ret
      exact HGO.out _ hs.out _ (below_set3 hbw1 (Nat.le_refl _) _ _ _)

set_option maxHeartbeats 1000000 in
theorem rFromInt_any (w : World) (x : Int) (h1 : -9223372036854775808 ≤ x) (h2 : x ≤ 9223372036854775807) :
    Calls Tryz.prog 13 #[.int .i64 x] w (RetQ w (mkRat x 1)) := by
  have hdl : Hid (dl x.natAbs ≤ 3) := by
    show dl x.natAbs ≤ 3
    apply dl_le
    have h3 : B ^ 3 = 1000000000000000000000000000 := by decide
    omega
  obtain ⟨q, hq⟩ : ∃ q, Hid (q = mkRat x 1) := ⟨_, rfl⟩
  rw [← hq.out]
  have h1v : Hid (vs (dg 1) 1 = 1) := by show _ = _; rw [vs_dg]; decide
  have HQ : Hid (q = mkRat (sg (decide (x < 0)) (vs (dg x.natAbs) (dl x.natAbs))) (vs (dg 1) 1)) := by
    show _ = _
    rw [hq.out, vs_dl, h1v.out]
    congr 1
    unfold sg
    by_cases h : x < 0
    · simp [h]; omega
    · simp [h]; omega
  by_cases h0 : x < 0
  · have hd : decide (x < 0) = true := by simpa using h0
    rw [hd] at HQ
    clear hd
    go_enter Tryz.func13, Tryz.ntmps13
    go_wp2_with fail
    rw [show (-(x + 1) + 1) = ((x.natAbs : Nat) : Int) by omega]
    refine (limbs_any _ x.natAbs (by omega)).mono ?_
    rintro e w1 ⟨v1, rfl, hn1, hb1⟩
    have hR1 := Lib.hid ((Bk.new w 46 _).below hb1 (by simp))
    have HN1 := Lib.hid hn1
    obtain ⟨A, c, rfl⟩ := Limbs.len hn1
    have hz1 : w.heap.size < w1.heap.size := hR1.out.lt
    have hbw1 := (bel1 w _).trans (hb1.mono (by simp))
    clear hn1 hb1
    go_wp2_with fail
    refine (build_any _ (w.heap.size + 1) (w.heap.size + 1) true _ _ (dl x.natAbs) 1 (dg x.natAbs) (dg 1) ?_ ?_ (by have := hdl.out; omega) (by omega) q HQ.out).mono ?_
    · exact Limbs.lower (Limbs.alloc HN1.out _) (by simp)
    · have := NatR.oneNew w1 (w.heap.size + 1) 80 (by omega); unfold NatR at this; rw [dl_one] at this; exact this
    rintro e w2 ⟨v2, rfl, hr2, hb2⟩
    have HR2 := Lib.hid hr2
    obtain ⟨A2, c2, A3, c3, rfl, h3, h4⟩ := FracR.form hr2
    obtain ⟨hcR, hfR, hz2⟩ := ((hR1.out.alloc _).below hb2 (by simp; omega)).facts
    have hbw2 := (hbw1.alloc (by omega) _).trans (hb2.mono (by simp; omega))
    clear h3 h4 hr2 hb2
    go_wp2
    exact bodyPost_ret (v := .agg #[.bool (decide (q.num < 0)), .slice A2 (dl q.num.natAbs) c2, .slice A3 (dl q.den) c3]) (by simp [results, Tryz.results13, go_sem, hcR]) rfl
      ⟨_, rfl, RatR.lower (rat_set3 HR2.out (by simp; omega) _ _ _) (by simp; omega), below_set3 hbw2 (by omega) _ _ _⟩
  · have hd : decide (x < 0) = false := by simpa using h0
    rw [hd] at HQ
    clear hd
    obtain ⟨n, rfl⟩ : ∃ n : Nat, x = n := ⟨x.toNat, by omega⟩
    rw [Int.natAbs_natCast] at HQ hdl
    go_enter Tryz.func13, Tryz.ntmps13
    go_wp2_with fail
    refine (limbs_any _ n (by omega)).mono ?_
    rintro e w1 ⟨v1, rfl, hn1, hb1⟩
    have hR1 := Lib.hid ((Bk.new w 46 _).below hb1 (by simp))
    have HN1 := Lib.hid hn1
    obtain ⟨A, c, rfl⟩ := Limbs.len hn1
    have hz1 : w.heap.size < w1.heap.size := hR1.out.lt
    have hbw1 := (bel1 w _).trans (hb1.mono (by simp))
    clear hn1 hb1
    go_wp2_with fail
    refine (build_any _ (w.heap.size + 1) (w.heap.size + 1) false _ _ (dl n) 1 (dg n) (dg 1) ?_ ?_ (by have := hdl.out; omega) (by omega) q HQ.out).mono ?_
    · exact Limbs.lower (Limbs.alloc HN1.out _) (by simp)
    · have := NatR.oneNew w1 (w.heap.size + 1) 80 (by omega); unfold NatR at this; rw [dl_one] at this; exact this
    rintro e w2 ⟨v2, rfl, hr2, hb2⟩
    have HR2 := Lib.hid hr2
    obtain ⟨A2, c2, A3, c3, rfl, h3, h4⟩ := FracR.form hr2
    obtain ⟨hcR, hfR, hz2⟩ := ((hR1.out.alloc _).below hb2 (by simp; omega)).facts
    have hbw2 := (hbw1.alloc (by omega) _).trans (hb2.mono (by simp; omega))
    clear h3 h4 hr2 hb2
    go_wp2
    exact bodyPost_ret (v := .agg #[.bool (decide (q.num < 0)), .slice A2 (dl q.num.natAbs) c2, .slice A3 (dl q.den) c3]) (by simp [results, Tryz.results13, go_sem, hcR]) rfl
      ⟨_, rfl, RatR.lower (rat_set3 HR2.out (by simp; omega) _ _ _) (by simp; omega), below_set3 hbw2 (by omega) _ _ _⟩

end Go.Proofs.YtdbiedpdibjdlaaGreat

