/-
  The walk of the reference's Add.
-/
import Derived.Test.YtgheaoaicbkaoaaGreatDoorMRefJ
namespace Go.Proofs.YtgheaoaicbkaoaaGreatDoor
open Go.RowKit AC
set_option linter.unusedVariables false
set_option linter.unusedSimpArgs false

/-- Both numbers in their canonical form, in the variables a and b. -/
def AddC1 (w : World) (q q' : Rat) (wx : World) : Prop :=
  ∃ A1 c1 B1 e1 A4 c4 B4 e4, Bk wx w.heap.size 27 #[.bool (decide (q.num < 0)), .slice A1 (dl q.num.natAbs) c1, .slice B1 (dl q.den) e1] ∧ Bk wx (w.heap.size + 1) 27 #[.bool (decide (q'.num < 0)), .slice A4 (dl q'.num.natAbs) c4, .slice B4 (dl q'.den) e4] ∧ Bk wx (w.heap.size + 1 + 1) 27 zero3 ∧
    RatR wx (w.heap.size + 3) (.agg #[.bool (decide (q.num < 0)), .slice A1 (dl q.num.natAbs) c1, .slice B1 (dl q.den) e1]) q ∧ RatR wx (w.heap.size + 3) (.agg #[.bool (decide (q'.num < 0)), .slice A4 (dl q'.num.natAbs) c4, .slice B4 (dl q'.den) e4]) q' ∧ Below w.heap.size w wx

/-- The two products in x and y. -/
def AddC2 (w W3 : World) (q q' : Rat) (A1 : Option Addr) (c1 : Nat) (B1 : Option Addr) (e1 : Nat) (A4 : Option Addr) (c4 : Nat) (B4 : Option Addr) (e4 : Nat) (vx vy : Value) (wx : World) : Prop :=
  ∃ Ax cx Ay cy, vx = .slice Ax (dl (q.num.natAbs * q'.den)) cx ∧ vy = .slice Ay (dl (q'.num.natAbs * q.den)) cy ∧
    Bk wx w.heap.size 27 #[.bool (decide (q.num < 0)), .slice A1 (dl q.num.natAbs) c1, .slice B1 (dl q.den) e1] ∧ Bk wx (w.heap.size + 1) 27 #[.bool (decide (q'.num < 0)), .slice A4 (dl q'.num.natAbs) c4, .slice B4 (dl q'.den) e4] ∧ Bk wx (w.heap.size + 1 + 1) 27 zero3 ∧
    NatR wx W3.heap.size (.slice Ax (dl (q.num.natAbs * q'.den)) cx) (q.num.natAbs * q'.den) ∧ NatR wx W3.heap.size (.slice Ay (dl (q'.num.natAbs * q.den)) cy) (q'.num.natAbs * q.den) ∧
    NatR wx (w.heap.size + 3) (.slice A1 (dl q.num.natAbs) c1) q.num.natAbs ∧ NatR wx (w.heap.size + 3) (.slice B1 (dl q.den) e1) q.den ∧ NatR wx (w.heap.size + 3) (.slice A4 (dl q'.num.natAbs) c4) q'.num.natAbs ∧ NatR wx (w.heap.size + 3) (.slice B4 (dl q'.den) e4) q'.den ∧ W3.heap.size ≤ wx.heap.size ∧ Below w.heap.size w wx

theorem FracR.two {w : World} {lo : Nat} {neg : Bool} {A A' : Option Addr} {c c' n d : Nat} (h : FracR w lo (.agg #[.bool neg, .slice A (dl n) c, .slice A' (dl d) c']) neg n d) : NatR w lo (.slice A (dl n) c) n ∧ NatR w lo (.slice A' (dl d) c') d := by
  obtain ⟨vn, vd, e, h1, h2⟩ := h
  simp only [Value.agg.injEq, Array.mk.injEq, List.cons.injEq, and_true, true_and] at e
  obtain ⟨rfl, rfl⟩ := e
  exact ⟨h1, h2⟩

theorem rat_sg (q : Rat) : sg (decide (q.num < 0)) q.num.natAbs = q.num := by
  unfold sg
  by_cases h : q.num < 0
  · simp [h]; omega
  · simp [h]; omega
theorem add_form {q q' : Rat} {s : Bool} {N : Nat} (h : sg s N = sg (decide (q.num < 0)) q.num.natAbs * (q'.den : Int) + sg (decide (q'.num < 0)) q'.num.natAbs * (q.den : Int)) : q + q' = mkRat (sg s N) (q.den * q'.den) := by
  rw [Rat.add_def', h, rat_sg, rat_sg]

set_option maxHeartbeats 4000000 in
theorem rAdd_any (w : World) (lo lo' : Nat) (v v' : Value) (K K' : Nat) (q q' : Rat) (hv : RatV w lo v K q) (hv' : RatV w lo' v' K' q') (hK : K + K' ≤ 3000000000) :
    Calls Tryz.prog 37 #[v, v'] w (RetQ w (q + q')) := by
  have hs1 : sz q ≤ K + 1 := hv.size
  have hs2 : sz q' ≤ K' + 1 := hv'.size
  have hd1 : dl q.num.natAbs ≤ K + 1 := Nat.le_trans (Nat.le_max_left _ _) hs1
  have hd2 : dl q.den ≤ K + 1 := Nat.le_trans (Nat.le_max_right _ _) hs1
  have hd3 : dl q'.num.natAbs ≤ K' + 1 := Nat.le_trans (Nat.le_max_left _ _) hs2
  have hd4 : dl q'.den ≤ K' + 1 := Nat.le_trans (Nat.le_max_right _ _) hs2
  have HV := Lib.hid hv
  have HV' := Lib.hid hv'
  obtain ⟨s, A, k, c, A', k', c', rfl⟩ := hv.form
  obtain ⟨s2, A2, k2, c2, A3, k3, c3, rfl⟩ := hv'.form
  obtain ⟨Q, hQ⟩ : ∃ Q, Hid (Q = q + q') := ⟨_, rfl⟩
  rw [← hQ.out]
  clear hv hv' hs1 hs2
  go_enter Tryz.func37, Tryz.ntmps37
  go_upto_region 1 with (fail)
  obtain ⟨W, hW⟩ : ∃ W, W = (((w.alloc (.cells #[.bool s, .slice A k c, .slice A' k' c'] 27)).alloc (.cells #[.bool s2, .slice A2 k2 c2, .slice A3 k3 c3] 27)).alloc (.cells zero3 27)) := ⟨_, rfl⟩
  have hbW : Below w.heap.size w W := by rw [hW]; exact bel3 _ _ _ _
  have hFW : Bk W w.heap.size 27 #[.bool s, .slice A k c, .slice A' k' c'] := by rw [hW]; exact ((Bk.new _ _ _).alloc _).alloc _
  have hGW : Bk W (w.heap.size + 1) 27 #[.bool s2, .slice A2 k2 c2, .slice A3 k3 c3] := by
    rw [hW]; have := (Bk.new (w.alloc (.cells #[.bool s, .slice A k c, .slice A' k' c'] 27)) 27 #[.bool s2, .slice A2 k2 c2, .slice A3 k3 c3]).alloc (.cells zero3 27); simpa using this
  have hRW : Bk W (w.heap.size + 1 + 1) 27 zero3 := by
    rw [hW]; have := (Bk.new ((w.alloc (.cells #[.bool s, .slice A k c, .slice A' k' c'] 27)).alloc (.cells #[.bool s2, .slice A2 k2 c2, .slice A3 k3 c3] 27)) 27 zero3); simpa using this
  have hW' := hW
  simp only [zero3] at hW'
  rw [← hW']
  clear hW hW'
  go_cut [] (fun wx => AddC1 w q q' wx)
  case first =>
    refine wp_region_stable (by kernel_rfl) (by kernel_rfl) [8, 9, 10, 11] 3 (by kernel_rfl) (fun i lo hi v x => match i with
      | 0 => v = .agg #[.bool s, .slice A k c, .slice A' k' c']
      | 1 => RatR x W.heap.size v q
      | 2 => v = .agg #[.bool s2, .slice A2 k2 c2, .slice A3 k3 c3]
      | _ => RatR x W.heap.size v q') ?_ ?_ ?_
    · intro i lo hi v x x' hi h hb
      rcases i with _ | _ | _ | i
      · exact h
      · exact RatR.below h hb
      · exact h
      · exact RatR.below h hb
    · intro i o S x ho hi hbx hdep
      rcases i with _ | _ | _ | _ | i
      · cases ho
        obtain ⟨hcF, hfF, hzF⟩ := (hFW.below hbx hFW.lt).facts
        refine wpOp_plain rfl rfl fun KK hKK => ?_
        have HK := Lib.hid hKK
        clear hKK hdep hi
        simp only [putAll, Act.put, List.setIfInBounds_toArray, List.set_cons_succ, List.set_cons_zero, List.getD_cons_zero, List.getD_cons_succ, Nat.zero_add, Nat.reduceAdd] at HK ⊢
        go_wp2
        exact HK.out _ _ ⟨_, rfl, rfl, Below.refl _ _⟩
      · cases ho
        obtain ⟨_, _, h0⟩ := hdep 0 (by kernel_rfl) (by decide)
        refine wpOp_plain rfl rfl fun KK hKK => ?_
        have HK := Lib.hid hKK
        clear hKK hdep hi
        simp only [putAll, Act.put, List.setIfInBounds_toArray, List.set_cons_succ, List.set_cons_zero, List.getD_cons_zero, List.getD_cons_succ, Nat.zero_add, Nat.reduceAdd] at HK ⊢
        generalize S 0 = t0 at *
        subst h0
        go_wp2_with fail
        refine (rCanonical_any _ lo _ K q (HV.out.below (hbW.trans (hbx.mono hbW.size))) (by omega)).mono ?_
        rintro e xN ⟨vN, rfl, hrN, hbN⟩
        exact HK.out _ _ ⟨_, rfl, RatR.lower hrN hbx.size, hbN⟩
      · cases ho
        obtain ⟨hcG, hfG, hzG⟩ := (hGW.below hbx hGW.lt).facts
        refine wpOp_plain rfl rfl fun KK hKK => ?_
        have HK := Lib.hid hKK
        clear hKK hdep hi
        simp only [putAll, Act.put, List.setIfInBounds_toArray, List.set_cons_succ, List.set_cons_zero, List.getD_cons_zero, List.getD_cons_succ, Nat.zero_add, Nat.reduceAdd] at HK ⊢
        go_wp2
        exact HK.out _ _ ⟨_, rfl, rfl, Below.refl _ _⟩
      · cases ho
        obtain ⟨_, _, h2⟩ := hdep 2 (by kernel_rfl) (by decide)
        refine wpOp_plain rfl rfl fun KK hKK => ?_
        have HK := Lib.hid hKK
        clear hKK hdep hi
        simp only [putAll, Act.put, List.setIfInBounds_toArray, List.set_cons_succ, List.set_cons_zero, List.getD_cons_zero, List.getD_cons_succ, Nat.zero_add, Nat.reduceAdd] at HK ⊢
        generalize S 2 = t2 at *
        subst h2
        go_wp2_with fail
        refine (rCanonical_any _ lo' _ K' q' (HV'.out.below (hbW.trans (hbx.mono hbW.size))) (by omega)).mono ?_
        rintro e xN ⟨vN, rfl, hrN, hbN⟩
        exact HK.out _ _ ⟨_, rfl, RatR.lower hrN hbx.size, hbN⟩
      · exact absurd hi (by simp)
    · intro S lo1 hi1 x hbx hF hdis
      have g0 : S 0 = .agg #[.bool s, .slice A k c, .slice A' k' c'] := (hF 0 (by decide)).1
      have g1 : RatR x W.heap.size (S 1) q := (hF 1 (by decide)).1
      have g2 : S 2 = .agg #[.bool s2, .slice A2 k2 c2, .slice A3 k3 c3] := (hF 2 (by decide)).1
      have g3 : RatR x W.heap.size (S 3) q' := (hF 3 (by decide)).1
      clear hF hdis
      simp only [putAll, Act.put, List.setIfInBounds_toArray, List.set_cons_succ, List.set_cons_zero, List.getD_cons_zero, List.getD_cons_succ, Nat.zero_add, Nat.reduceAdd, List.length_cons, List.length_nil, List.drop_succ_cons, List.drop_zero]
      generalize S 0 = t0 at *
      subst g0
      generalize S 1 = t1 at *
      generalize S 2 = t2 at *
      subst g2
      generalize S 3 = t3 at *
      have HQ := Lib.hid g1
      have HQ' := Lib.hid g3
      obtain ⟨A1, c1, B1, e1, rfl, _, _⟩ := FracR.form g1
      obtain ⟨A4, c4, B4, e4, rfl, _, _⟩ := FracR.form g3
      have hF2 := hFW.below hbx hFW.lt
      have hG2 := hGW.below hbx hGW.lt
      have hR2 := Lib.hid (hRW.below hbx hRW.lt)
      have HF2 := Lib.hid hF2
      have HG2 := Lib.hid hG2
      have hbxw := hbW.trans (hbx.mono hbW.size)
      have hzx := hbx.size
      have hzW := hRW.lt
      obtain ⟨hcF, hfF, hzF⟩ := hF2.facts
      obtain ⟨hcG, hfG, hzG⟩ := hG2.facts
      clear g1 g3 hF2 hG2
      go_wp2
      go_meet
      exact ⟨_, _, _, _, _, _, _, _, (heap_set3 _ _ _ _ _ _ (by omega)).trans (((Bk.set HF2.out 0 _).set 1 _).set 2 _), ((Bk.set ((heap_set3 _ _ _ _ _ _ (by omega)).trans HG2.out) 0 _).set 1 _).set 2 _, (heap_set3 _ _ _ _ _ _ (by omega)).trans ((heap_set3 _ _ _ _ _ _ (by omega)).trans hR2.out), (rat_set3 (rat_set3 HQ.out (by omega) _ _ _) (by omega) _ _ _).lower (by omega), (rat_set3 (rat_set3 HQ'.out (by omega) _ _ _) (by omega) _ _ _).lower (by omega), below_set3 (below_set3 hbxw (by omega) _ _ _) (by omega) _ _ _⟩
  obtain ⟨A1, c1, B1, e1, A4, c4, B4, e4, hF3', hG3', hR3', hr1, hr2, hb3⟩ := hcut
  have hn1 := hr1.two
  have hn2 := hr2.two
  have HN1 := Lib.hid hn1.1
  have HD1 := Lib.hid hn1.2
  have HN2 := Lib.hid hn2.1
  have HD2 := Lib.hid hn2.2
  have hF3 := Lib.hid hF3'
  have hG3 := Lib.hid hG3'
  have hR3 := Lib.hid hR3'
  clear hn1 hn2 hr1 hr2 HV HV' hbW hFW hGW hRW hF3' hG3' hR3'
  go_upto_region 2 with (fail)
  obtain ⟨W3, hW3⟩ : ∃ W3 : World, W3 = wc := ⟨_, rfl⟩
  subst hW3
  go_cut [5, 6] (fun vx vy wy => AddC2 w W3 q q' A1 c1 B1 e1 A4 c4 B4 e4 vx vy wy)
  case first =>
    refine wp_region_stable (by kernel_rfl) (by kernel_rfl) [12, 13, 14, 15, 16, 17, 18, 19, 20, 21] 3 (by kernel_rfl) (fun i lo hi v x => match i with
      | 0 => v = .pointer (some ⟨w.heap.size, 1, none⟩)
      | 1 => v = .slice A1 (dl q.num.natAbs) c1
      | 2 => v = .pointer (some ⟨w.heap.size + 1, 2, none⟩)
      | 3 => v = .slice B4 (dl q'.den) e4
      | 4 => NatR x W3.heap.size v (q.num.natAbs * q'.den)
      | 5 => v = .pointer (some ⟨w.heap.size + 1, 1, none⟩)
      | 6 => v = .slice A4 (dl q'.num.natAbs) c4
      | 7 => v = .pointer (some ⟨w.heap.size, 2, none⟩)
      | 8 => v = .slice B1 (dl q.den) e1
      | _ => NatR x W3.heap.size v (q'.num.natAbs * q.den)) ?_ ?_ ?_
    · intro i lo hi v x x' hi h hb
      rcases i with _ | _ | _ | _ | _ | _ | _ | _ | _ | i
      · exact h
      · exact h
      · exact h
      · exact h
      · exact NatR.below h hb
      · exact h
      · exact h
      · exact h
      · exact h
      · exact NatR.below h hb
    · intro i o S x ho hi hbx hdep
      rcases i with _ | _ | _ | _ | _ | _ | _ | _ | _ | _ | i
      · cases ho
        obtain ⟨hcF, hfF, hzF⟩ := (hF3.out.below hbx hF3.out.lt).facts
        refine wpOp_plain rfl rfl fun KK hKK => ?_
        have HK := Lib.hid hKK
        clear hKK hdep hi
        simp only [putAll, Act.put, List.setIfInBounds_toArray, List.set_cons_succ, List.set_cons_zero, List.getD_cons_zero, List.getD_cons_succ, Nat.zero_add, Nat.reduceAdd] at HK ⊢
        go_wp2
        exact HK.out _ _ ⟨_, rfl, rfl, Below.refl _ _⟩
      · cases ho
        obtain ⟨_, _, h0⟩ := hdep 0 (by kernel_rfl) (by decide)
        obtain ⟨hcF, hfF, hzF⟩ := (hF3.out.below hbx hF3.out.lt).facts
        refine wpOp_plain rfl rfl fun KK hKK => ?_
        have HK := Lib.hid hKK
        clear hKK hdep hi
        simp only [putAll, Act.put, List.setIfInBounds_toArray, List.set_cons_succ, List.set_cons_zero, List.getD_cons_zero, List.getD_cons_succ, Nat.zero_add, Nat.reduceAdd] at HK ⊢
        generalize S 0 = t0 at *
        subst h0
        go_wp2
        exact HK.out _ _ ⟨_, rfl, rfl, Below.refl _ _⟩
      · cases ho
        obtain ⟨hcG, hfG, hzG⟩ := (hG3.out.below hbx hG3.out.lt).facts
        refine wpOp_plain rfl rfl fun KK hKK => ?_
        have HK := Lib.hid hKK
        clear hKK hdep hi
        simp only [putAll, Act.put, List.setIfInBounds_toArray, List.set_cons_succ, List.set_cons_zero, List.getD_cons_zero, List.getD_cons_succ, Nat.zero_add, Nat.reduceAdd] at HK ⊢
        go_wp2
        exact HK.out _ _ ⟨_, rfl, rfl, Below.refl _ _⟩
      · cases ho
        obtain ⟨_, _, h2⟩ := hdep 2 (by kernel_rfl) (by decide)
        obtain ⟨hcG, hfG, hzG⟩ := (hG3.out.below hbx hG3.out.lt).facts
        refine wpOp_plain rfl rfl fun KK hKK => ?_
        have HK := Lib.hid hKK
        clear hKK hdep hi
        simp only [putAll, Act.put, List.setIfInBounds_toArray, List.set_cons_succ, List.set_cons_zero, List.getD_cons_zero, List.getD_cons_succ, Nat.zero_add, Nat.reduceAdd] at HK ⊢
        generalize S 2 = t2 at *
        subst h2
        go_wp2
        exact HK.out _ _ ⟨_, rfl, rfl, Below.refl _ _⟩
      · cases ho
        obtain ⟨_, _, h1⟩ := hdep 1 (by kernel_rfl) (by decide)
        obtain ⟨_, _, h3⟩ := hdep 3 (by kernel_rfl) (by decide)
        refine wpOp_plain rfl rfl fun KK hKK => ?_
        have HK := Lib.hid hKK
        clear hKK hdep hi
        simp only [putAll, Act.put, List.setIfInBounds_toArray, List.set_cons_succ, List.set_cons_zero, List.getD_cons_zero, List.getD_cons_succ, Nat.zero_add, Nat.reduceAdd] at HK ⊢
        generalize S 1 = t1 at *
        subst h1
        generalize S 3 = t3 at *
        subst h3
        go_wp2_with fail
        refine (natMul_any _ (w.heap.size + 3) (w.heap.size + 3) _ _ q.num.natAbs q'.den (HN1.out.below hbx) (HD2.out.below hbx) (by omega) (by omega)).mono ?_
        rintro e xN ⟨vN, rfl, hrN, hbN⟩
        exact HK.out _ _ ⟨_, rfl, hrN.lower hbx.size, hbN⟩
      · cases ho
        obtain ⟨hcG, hfG, hzG⟩ := (hG3.out.below hbx hG3.out.lt).facts
        refine wpOp_plain rfl rfl fun KK hKK => ?_
        have HK := Lib.hid hKK
        clear hKK hdep hi
        simp only [putAll, Act.put, List.setIfInBounds_toArray, List.set_cons_succ, List.set_cons_zero, List.getD_cons_zero, List.getD_cons_succ, Nat.zero_add, Nat.reduceAdd] at HK ⊢
        go_wp2
        exact HK.out _ _ ⟨_, rfl, rfl, Below.refl _ _⟩
      · cases ho
        obtain ⟨_, _, h5⟩ := hdep 5 (by kernel_rfl) (by decide)
        obtain ⟨hcG, hfG, hzG⟩ := (hG3.out.below hbx hG3.out.lt).facts
        refine wpOp_plain rfl rfl fun KK hKK => ?_
        have HK := Lib.hid hKK
        clear hKK hdep hi
        simp only [putAll, Act.put, List.setIfInBounds_toArray, List.set_cons_succ, List.set_cons_zero, List.getD_cons_zero, List.getD_cons_succ, Nat.zero_add, Nat.reduceAdd] at HK ⊢
        generalize S 5 = t5 at *
        subst h5
        go_wp2
        exact HK.out _ _ ⟨_, rfl, rfl, Below.refl _ _⟩
      · cases ho
        obtain ⟨hcF, hfF, hzF⟩ := (hF3.out.below hbx hF3.out.lt).facts
        refine wpOp_plain rfl rfl fun KK hKK => ?_
        have HK := Lib.hid hKK
        clear hKK hdep hi
        simp only [putAll, Act.put, List.setIfInBounds_toArray, List.set_cons_succ, List.set_cons_zero, List.getD_cons_zero, List.getD_cons_succ, Nat.zero_add, Nat.reduceAdd] at HK ⊢
        go_wp2
        exact HK.out _ _ ⟨_, rfl, rfl, Below.refl _ _⟩
      · cases ho
        obtain ⟨_, _, h7⟩ := hdep 7 (by kernel_rfl) (by decide)
        obtain ⟨hcF, hfF, hzF⟩ := (hF3.out.below hbx hF3.out.lt).facts
        refine wpOp_plain rfl rfl fun KK hKK => ?_
        have HK := Lib.hid hKK
        clear hKK hdep hi
        simp only [putAll, Act.put, List.setIfInBounds_toArray, List.set_cons_succ, List.set_cons_zero, List.getD_cons_zero, List.getD_cons_succ, Nat.zero_add, Nat.reduceAdd] at HK ⊢
        generalize S 7 = t7 at *
        subst h7
        go_wp2
        exact HK.out _ _ ⟨_, rfl, rfl, Below.refl _ _⟩
      · cases ho
        obtain ⟨_, _, h6⟩ := hdep 6 (by kernel_rfl) (by decide)
        obtain ⟨_, _, h8⟩ := hdep 8 (by kernel_rfl) (by decide)
        refine wpOp_plain rfl rfl fun KK hKK => ?_
        have HK := Lib.hid hKK
        clear hKK hdep hi
        simp only [putAll, Act.put, List.setIfInBounds_toArray, List.set_cons_succ, List.set_cons_zero, List.getD_cons_zero, List.getD_cons_succ, Nat.zero_add, Nat.reduceAdd] at HK ⊢
        generalize S 6 = t6 at *
        subst h6
        generalize S 8 = t8 at *
        subst h8
        go_wp2_with fail
        refine (natMul_any _ (w.heap.size + 3) (w.heap.size + 3) _ _ q'.num.natAbs q.den (HN2.out.below hbx) (HD1.out.below hbx) (by omega) (by omega)).mono ?_
        rintro e xN ⟨vN, rfl, hrN, hbN⟩
        exact HK.out _ _ ⟨_, rfl, hrN.lower hbx.size, hbN⟩
      · exact absurd hi (by simp)
    · intro S lo1 hi1 x hbx hF hdis
      have g0 : S 0 = .pointer (some ⟨w.heap.size, 1, none⟩) := (hF 0 (by decide)).1
      have g1 : S 1 = .slice A1 (dl q.num.natAbs) c1 := (hF 1 (by decide)).1
      have g2 : S 2 = .pointer (some ⟨w.heap.size + 1, 2, none⟩) := (hF 2 (by decide)).1
      have g3 : S 3 = .slice B4 (dl q'.den) e4 := (hF 3 (by decide)).1
      have g4 : NatR x W3.heap.size (S 4) (q.num.natAbs * q'.den) := (hF 4 (by decide)).1
      have g5 : S 5 = .pointer (some ⟨w.heap.size + 1, 1, none⟩) := (hF 5 (by decide)).1
      have g6 : S 6 = .slice A4 (dl q'.num.natAbs) c4 := (hF 6 (by decide)).1
      have g7 : S 7 = .pointer (some ⟨w.heap.size, 2, none⟩) := (hF 7 (by decide)).1
      have g8 : S 8 = .slice B1 (dl q.den) e1 := (hF 8 (by decide)).1
      have g9 : NatR x W3.heap.size (S 9) (q'.num.natAbs * q.den) := (hF 9 (by decide)).1
      clear hF hdis
      simp only [putAll, Act.put, List.setIfInBounds_toArray, List.set_cons_succ, List.set_cons_zero, List.getD_cons_zero, List.getD_cons_succ, Nat.zero_add, Nat.reduceAdd, List.length_cons, List.length_nil, List.drop_succ_cons, List.drop_zero]
      generalize S 0 = t0 at *
      subst g0
      generalize S 1 = t1 at *
      subst g1
      generalize S 2 = t2 at *
      subst g2
      generalize S 3 = t3 at *
      subst g3
      generalize S 4 = t4 at *
      generalize S 5 = t5 at *
      subst g5
      generalize S 6 = t6 at *
      subst g6
      generalize S 7 = t7 at *
      subst g7
      generalize S 8 = t8 at *
      subst g8
      generalize S 9 = t9 at *
      have HX := Lib.hid g4
      have HY := Lib.hid g9
      obtain ⟨Ax, cx, rfl⟩ := Limbs.len g4
      obtain ⟨Ay, cy, rfl⟩ := Limbs.len g9
      have hF4 := Lib.hid (hF3.out.below hbx hF3.out.lt)
      have hG4 := Lib.hid (hG3.out.below hbx hG3.out.lt)
      have hR4 := Lib.hid (hR3.out.below hbx hR3.out.lt)
      have hbx4 := hb3.trans (hbx.mono hb3.size)
      have hzx := hbx.size
      clear g4 g9
      go_wp2_with fail
      go_meet
      exact ⟨_, _, _, _, rfl, rfl, hF4.out, hG4.out, hR4.out, HX.out, HY.out, HN1.out.below hbx, HD1.out.below hbx, HN2.out.below hbx, HD2.out.below hbx, hzx, hbx4⟩
  obtain ⟨Ax, cx, Ay, cy, rfl, rfl, hF4, hG4, hR4, hX4, hY4, hN1, hD1, hN2, hD2, hz34, hb4⟩ := hcut
  obtain ⟨W4, hW4⟩ : ∃ W4 : World, W4 = wc := ⟨_, rfl⟩
  subst hW4
  have HX4 := Lib.hid hX4
  have HY4 := Lib.hid hY4
  have HD14 := Lib.hid hD1
  have HD24 := Lib.hid hD2
  have HF4 := Lib.hid hF4
  have HG4 := Lib.hid hG4
  have HR4 := Lib.hid hR4
  obtain ⟨hcF, hfF, hzF⟩ := hF4.facts
  obtain ⟨hcG, hfG, hzG⟩ := hG4.facts
  clear hF3 hG3 hR3 HN1 HD1 HN2 HD2 hX4 hY4 hN1 hD1 hN2 hD2 hF4 hG4 hR4
  go_wp2_with fail
  refine (natMul_any _ (w.heap.size + 3) (w.heap.size + 3) _ _ q.den q'.den HD14.out HD24.out (by omega) (by omega)).mono ?_
  rintro e W5 ⟨vz, rfl, hz5, hb45⟩
  have HZ := Lib.hid hz5
  obtain ⟨Az, cz, rfl⟩ := Limbs.len hz5
  have hF5 := Lib.hid (HF4.out.below hb45 hzF)
  have hG5 := Lib.hid (HG4.out.below hb45 hzG)
  have hR5 := Lib.hid (HR4.out.below hb45 HR4.out.lt)
  have hb5 := hb4.trans (hb45.mono hb4.size)
  have HX := Lib.hid (HX4.out.below hb45)
  have HY := Lib.hid (HY4.out.below hb45)
  have hdX := dl_mul_le q.num.natAbs q'.den
  have hdY := dl_mul_le q'.num.natAbs q.den
  have hZk : dl (q.den * q'.den) ≤ 4000000000 := by have := dl_mul_le q.den q'.den; omega
  have hzz := hb45.size
  have hz45 : W3.heap.size ≤ W5.heap.size := by omega
  clear hcF hfF hzF hcG hfG hzG hz5 HX4 HY4 HD14 HD24 HF4 HG4 HR4 hb45 hb4 hzz
  have hqf := fun s N => @add_form q q' s N
  generalize hb1e : decide (q.num < 0) = b1 at *
  generalize hb2e : decide (q'.num < 0) = b2 at *
  have HQF := Lib.hid hqf
  clear hb1e hb2e hqf
  obtain ⟨hcF, hfF, hzF⟩ := hF5.out.facts
  obtain ⟨hcG, hfG, hzG⟩ := hG5.out.facts
  by_cases hbb : b1 = b2
  · subst hbb
    obtain ⟨N, hN⟩ : ∃ N, Hid (N = q.num.natAbs * q'.den + q'.num.natAbs * q.den) := ⟨_, rfl⟩
    have hNk : dl N ≤ 4000000000 := by rw [hN.out]; have := dl_add_le (q.num.natAbs * q'.den) (q'.num.natAbs * q.den); omega
    have HQN : Hid (Q = mkRat (sg b1 (vs (dg N) (dl N))) (vs (dg (q.den * q'.den)) (dl (q.den * q'.den)))) := by
      show _ = _
      rw [vs_dl, vs_dl, hQ.out]
      exact HQF.out _ _ (by rw [hN.out]; exact sg_same _ _ _ _ _)
    go_upto_region 5 with (fail)
    refine wp_region_stable (by kernel_rfl) (by kernel_rfl) [32, 33, 34, 35, 36, 37, 38] 3 (by kernel_rfl) (fun i lo hi v x => match i with
      | 0 => v = .pointer (some ⟨w.heap.size, 0, none⟩)
      | 1 => v = .bool b1
      | 2 => v = .slice Ax (dl (q.num.natAbs * q'.den)) cx
      | 3 => v = .slice Ay (dl (q'.num.natAbs * q.den)) cy
      | 4 => NatR x W5.heap.size v N
      | 5 => v = .slice Az (dl (q.den * q'.den)) cz
      | _ => RatR x W5.heap.size v Q) ?_ ?_ ?_
    · intro i lo hi v x x' hi h hb
      rcases i with _ | _ | _ | _ | _ | _ | i
      · exact h
      · exact h
      · exact h
      · exact h
      · exact NatR.below h hb
      · exact h
      · exact RatR.below h hb
    · intro i o S x ho hi hbx hdep
      rcases i with _ | _ | _ | _ | _ | _ | _ | i
      · cases ho
        obtain ⟨hcF, hfF, hzF⟩ := (hF5.out.below hbx hF5.out.lt).facts
        refine wpOp_plain rfl rfl fun KK hKK => ?_
        have HK := Lib.hid hKK
        clear hKK hdep hi
        simp only [putAll, Act.put, List.setIfInBounds_toArray, List.set_cons_succ, List.set_cons_zero, List.getD_cons_zero, List.getD_cons_succ, Nat.zero_add, Nat.reduceAdd] at HK ⊢
        go_wp2
        exact HK.out _ _ ⟨_, rfl, rfl, Below.refl _ _⟩
      · cases ho
        obtain ⟨_, _, h0⟩ := hdep 0 (by kernel_rfl) (by decide)
        obtain ⟨hcF, hfF, hzF⟩ := (hF5.out.below hbx hF5.out.lt).facts
        refine wpOp_plain rfl rfl fun KK hKK => ?_
        have HK := Lib.hid hKK
        clear hKK hdep hi
        simp only [putAll, Act.put, List.setIfInBounds_toArray, List.set_cons_succ, List.set_cons_zero, List.getD_cons_zero, List.getD_cons_succ, Nat.zero_add, Nat.reduceAdd] at HK ⊢
        generalize S 0 = t0 at *
        subst h0
        go_wp2
        exact HK.out _ _ ⟨_, rfl, rfl, Below.refl _ _⟩
      · cases ho
        refine wpOp_plain rfl rfl fun KK hKK => ?_
        have HK := Lib.hid hKK
        clear hKK hdep hi
        simp only [putAll, Act.put, List.setIfInBounds_toArray, List.set_cons_succ, List.set_cons_zero, List.getD_cons_zero, List.getD_cons_succ, Nat.zero_add, Nat.reduceAdd] at HK ⊢
        go_wp2
        exact HK.out _ _ ⟨_, rfl, rfl, Below.refl _ _⟩
      · cases ho
        refine wpOp_plain rfl rfl fun KK hKK => ?_
        have HK := Lib.hid hKK
        clear hKK hdep hi
        simp only [putAll, Act.put, List.setIfInBounds_toArray, List.set_cons_succ, List.set_cons_zero, List.getD_cons_zero, List.getD_cons_succ, Nat.zero_add, Nat.reduceAdd] at HK ⊢
        go_wp2
        exact HK.out _ _ ⟨_, rfl, rfl, Below.refl _ _⟩
      · cases ho
        obtain ⟨_, _, h2⟩ := hdep 2 (by kernel_rfl) (by decide)
        obtain ⟨_, _, h3⟩ := hdep 3 (by kernel_rfl) (by decide)
        refine wpOp_plain rfl rfl fun KK hKK => ?_
        have HK := Lib.hid hKK
        clear hKK hdep hi
        simp only [putAll, Act.put, List.setIfInBounds_toArray, List.set_cons_succ, List.set_cons_zero, List.getD_cons_zero, List.getD_cons_succ, Nat.zero_add, Nat.reduceAdd] at HK ⊢
        generalize S 2 = t2 at *
        subst h2
        generalize S 3 = t3 at *
        subst h3
        go_wp2_with fail
        refine (natAdd_any _ W3.heap.size W3.heap.size _ _ (q.num.natAbs * q'.den) (q'.num.natAbs * q.den) (HX.out.below hbx) (HY.out.below hbx) (by omega) (by omega)).mono ?_
        rintro e xN ⟨vN, rfl, hrN, hbN⟩
        exact HK.out _ _ ⟨_, rfl, (by rw [hN.out]; exact hrN.lower hbx.size), hbN⟩
      · cases ho
        refine wpOp_plain rfl rfl fun KK hKK => ?_
        have HK := Lib.hid hKK
        clear hKK hdep hi
        simp only [putAll, Act.put, List.setIfInBounds_toArray, List.set_cons_succ, List.set_cons_zero, List.getD_cons_zero, List.getD_cons_succ, Nat.zero_add, Nat.reduceAdd] at HK ⊢
        go_wp2
        exact HK.out _ _ ⟨_, rfl, rfl, Below.refl _ _⟩
      · cases ho
        obtain ⟨_, _, h1⟩ := hdep 1 (by kernel_rfl) (by decide)
        obtain ⟨_, _, h4⟩ := hdep 4 (by kernel_rfl) (by decide)
        replace h4 : NatR x W5.heap.size (S 4) N := h4
        obtain ⟨_, _, h5⟩ := hdep 5 (by kernel_rfl) (by decide)
        have HM := Lib.hid h4
        clear h4
        refine wpOp_plain rfl rfl fun KK hKK => ?_
        have HK := Lib.hid hKK
        clear hKK hdep hi
        simp only [putAll, Act.put, List.setIfInBounds_toArray, List.set_cons_succ, List.set_cons_zero, List.getD_cons_zero, List.getD_cons_succ, Nat.zero_add, Nat.reduceAdd] at HK ⊢
        generalize S 1 = t1 at *
        subst h1
        generalize S 5 = t5 at *
        subst h5
        go_wp2_with fail
        refine (build_any _ W5.heap.size 0 _ _ _ (dl N) (dl (q.den * q'.den)) (dg N) (dg (q.den * q'.den)) HM.out (Limbs.lower (HZ.out.below hbx) (by omega)) hNk hZk Q HQN.out).mono ?_
        rintro e xN ⟨vN, rfl, hrN, hbN⟩
        exact HK.out _ _ ⟨_, rfl, RatR.lower hrN hbx.size, hbN⟩
      · exact absurd hi (by simp)
    · intro S lo1 hi1 x hbx hF hdis
      have g0 : S 0 = .pointer (some ⟨w.heap.size, 0, none⟩) := (hF 0 (by decide)).1
      have g1 : S 1 = .bool b1 := (hF 1 (by decide)).1
      have g2 : S 2 = .slice Ax (dl (q.num.natAbs * q'.den)) cx := (hF 2 (by decide)).1
      have g3 : S 3 = .slice Ay (dl (q'.num.natAbs * q.den)) cy := (hF 3 (by decide)).1
      have g4 : NatR x W5.heap.size (S 4) N := (hF 4 (by decide)).1
      have g5 : S 5 = .slice Az (dl (q.den * q'.den)) cz := (hF 5 (by decide)).1
      have g6 : RatR x W5.heap.size (S 6) Q := (hF 6 (by decide)).1
      clear hF hdis
      simp only [putAll, Act.put, List.setIfInBounds_toArray, List.set_cons_succ, List.set_cons_zero, List.getD_cons_zero, List.getD_cons_succ, Nat.zero_add, Nat.reduceAdd, List.length_cons, List.length_nil, List.drop_succ_cons, List.drop_zero]
      generalize S 0 = t0 at *
      subst g0
      generalize S 1 = t1 at *
      subst g1
      generalize S 2 = t2 at *
      subst g2
      generalize S 3 = t3 at *
      subst g3
      generalize S 4 = t4 at *
      generalize S 5 = t5 at *
      subst g5
      generalize S 6 = t6 at *
      have HQ := Lib.hid g6
      obtain ⟨A7, c7, B7, e7, rfl, _, _⟩ := FracR.form g6
      have hR6 := hR5.out.below hbx hR5.out.lt
      have hbx5 := hb5.trans (hbx.mono hb5.size)
      have hzx := hbx.size
      have hzR := hR5.out.lt
      obtain ⟨hcR, hfR, hzR6⟩ := hR6.facts
      simp only [zero3] at hcR
      clear g6 g4
      go_wp2
      exact bodyPost_ret (v := .agg #[.bool (decide (Q.num < 0)), .slice A7 (dl Q.num.natAbs) c7, .slice B7 (dl Q.den) e7]) (by simp [results, Tryz.results37, go_sem, hcR]) rfl ⟨_, rfl, RatR.lower (rat_set3 HQ.out (by omega) _ _ _) (by omega), below_set3 hbx5 (by omega) _ _ _⟩
  · have hbf : (b1 == b2) = false := by rw [beq_eq_false_iff_ne]; exact hbb
    have HBB := Lib.hid hbb
    clear hbb
    go_wp2_with fail
    refine (natCmp_any _ W3.heap.size W3.heap.size _ _ (q.num.natAbs * q'.den) (q'.num.natAbs * q.den) HX.out HY.out).mono ?_
    rintro e W6 ⟨rfl, hq6⟩
    have hb56 := hq6.below W5.heap.size
    replace hF5 := Lib.hid (hF5.out.below hb56 hF5.out.lt)
    replace hG5 := Lib.hid (hG5.out.below hb56 hG5.out.lt)
    replace hR5 := Lib.hid (hR5.out.below hb56 hR5.out.lt)
    replace HX := Lib.hid (HX.out.below hb56)
    replace HY := Lib.hid (HY.out.below hb56)
    replace HZ := Lib.hid (HZ.out.below hb56)
    replace hb5 := hb5.trans (hb56.mono hb5.size)
    replace hz45 : W3.heap.size ≤ W6.heap.size := Nat.le_trans hz45 hb56.size
    have hz56 := hb56.size
    clear hcF hfF hzF hcG hfG hzG hq6 hb56
    obtain ⟨z, hz⟩ : ∃ z, z = cmpI (q.num.natAbs * q'.den) (q'.num.natAbs * q.den) := ⟨_, rfl⟩
    rw [← hz]
    by_cases hge : q'.num.natAbs * q.den ≤ q.num.natAbs * q'.den
    · have hz0 : 0 ≤ z := by rw [hz]; unfold cmpI; split <;> (try split) <;> omega
      obtain ⟨N, hN⟩ : ∃ N, Hid (q.num.natAbs * q'.den = q'.num.natAbs * q.den + N) := ⟨q.num.natAbs * q'.den - q'.num.natAbs * q.den, by show _ = _; omega⟩
      have hNk : dl N ≤ 4000000000 := by have := dl_mono (n := N) (m := q.num.natAbs * q'.den) (by have := hN.out; omega); omega
      have HQN : Hid (Q = mkRat (sg b1 (vs (dg N) (dl N))) (vs (dg (q.den * q'.den)) (dl (q.den * q'.den)))) := by
        show _ = _
        rw [vs_dl, vs_dl, hQ.out]
        refine HQF.out _ _ ?_
        rw [← sg_diff_ge HBB.out hge, hN.out]
        congr 1; omega
      clear hz hge
      go_upto_region 7 with (fail)
      refine wp_region_stable (by kernel_rfl) (by kernel_rfl) [43, 44, 45, 46, 47, 48, 49] 3 (by kernel_rfl) (fun i lo hi v x => match i with
        | 0 => v = .pointer (some ⟨w.heap.size, 0, none⟩)
        | 1 => v = .bool b1
        | 2 => v = .slice Ax (dl (q.num.natAbs * q'.den)) cx
        | 3 => v = .slice Ay (dl (q'.num.natAbs * q.den)) cy
        | 4 => NatR x W6.heap.size v N
        | 5 => v = .slice Az (dl (q.den * q'.den)) cz
        | _ => RatR x W6.heap.size v Q) ?_ ?_ ?_
      · intro i lo hi v x x' hi h hb
        rcases i with _ | _ | _ | _ | _ | _ | i
        · exact h
        · exact h
        · exact h
        · exact h
        · exact NatR.below h hb
        · exact h
        · exact RatR.below h hb
      · intro i o S x ho hi hbx hdep
        rcases i with _ | _ | _ | _ | _ | _ | _ | i
        · cases ho
          obtain ⟨hcF, hfF, hzF⟩ := (hF5.out.below hbx hF5.out.lt).facts
          refine wpOp_plain rfl rfl fun KK hKK => ?_
          have HK := Lib.hid hKK
          clear hKK hdep hi
          simp only [putAll, Act.put, List.setIfInBounds_toArray, List.set_cons_succ, List.set_cons_zero, List.getD_cons_zero, List.getD_cons_succ, Nat.zero_add, Nat.reduceAdd] at HK ⊢
          go_wp2
          exact HK.out _ _ ⟨_, rfl, rfl, Below.refl _ _⟩
        · cases ho
          obtain ⟨_, _, h0⟩ := hdep 0 (by kernel_rfl) (by decide)
          obtain ⟨hcF, hfF, hzF⟩ := (hF5.out.below hbx hF5.out.lt).facts
          refine wpOp_plain rfl rfl fun KK hKK => ?_
          have HK := Lib.hid hKK
          clear hKK hdep hi
          simp only [putAll, Act.put, List.setIfInBounds_toArray, List.set_cons_succ, List.set_cons_zero, List.getD_cons_zero, List.getD_cons_succ, Nat.zero_add, Nat.reduceAdd] at HK ⊢
          generalize S 0 = t0 at *
          subst h0
          go_wp2
          exact HK.out _ _ ⟨_, rfl, rfl, Below.refl _ _⟩
        · cases ho
          refine wpOp_plain rfl rfl fun KK hKK => ?_
          have HK := Lib.hid hKK
          clear hKK hdep hi
          simp only [putAll, Act.put, List.setIfInBounds_toArray, List.set_cons_succ, List.set_cons_zero, List.getD_cons_zero, List.getD_cons_succ, Nat.zero_add, Nat.reduceAdd] at HK ⊢
          go_wp2
          exact HK.out _ _ ⟨_, rfl, rfl, Below.refl _ _⟩
        · cases ho
          refine wpOp_plain rfl rfl fun KK hKK => ?_
          have HK := Lib.hid hKK
          clear hKK hdep hi
          simp only [putAll, Act.put, List.setIfInBounds_toArray, List.set_cons_succ, List.set_cons_zero, List.getD_cons_zero, List.getD_cons_succ, Nat.zero_add, Nat.reduceAdd] at HK ⊢
          go_wp2
          exact HK.out _ _ ⟨_, rfl, rfl, Below.refl _ _⟩
        · cases ho
          obtain ⟨_, _, h2⟩ := hdep 2 (by kernel_rfl) (by decide)
          obtain ⟨_, _, h3⟩ := hdep 3 (by kernel_rfl) (by decide)
          refine wpOp_plain rfl rfl fun KK hKK => ?_
          have HK := Lib.hid hKK
          clear hKK hdep hi
          simp only [putAll, Act.put, List.setIfInBounds_toArray, List.set_cons_succ, List.set_cons_zero, List.getD_cons_zero, List.getD_cons_succ, Nat.zero_add, Nat.reduceAdd] at HK ⊢
          generalize S 2 = t2 at *
          subst h2
          generalize S 3 = t3 at *
          subst h3
          go_wp2_with fail
          refine (natSub_any _ W3.heap.size W3.heap.size _ _ (q.num.natAbs * q'.den) (q'.num.natAbs * q.den) N (HX.out.below hbx) (HY.out.below hbx) (by omega) hN.out).mono ?_
          rintro e xN ⟨vN, rfl, hrN, hbN⟩
          exact HK.out _ _ ⟨_, rfl, hrN.lower hbx.size, hbN⟩
        · cases ho
          refine wpOp_plain rfl rfl fun KK hKK => ?_
          have HK := Lib.hid hKK
          clear hKK hdep hi
          simp only [putAll, Act.put, List.setIfInBounds_toArray, List.set_cons_succ, List.set_cons_zero, List.getD_cons_zero, List.getD_cons_succ, Nat.zero_add, Nat.reduceAdd] at HK ⊢
          go_wp2
          exact HK.out _ _ ⟨_, rfl, rfl, Below.refl _ _⟩
        · cases ho
          obtain ⟨_, _, h1⟩ := hdep 1 (by kernel_rfl) (by decide)
          obtain ⟨_, _, h4⟩ := hdep 4 (by kernel_rfl) (by decide)
          replace h4 : NatR x W6.heap.size (S 4) N := h4
          obtain ⟨_, _, h5⟩ := hdep 5 (by kernel_rfl) (by decide)
          have HM := Lib.hid h4
          clear h4
          refine wpOp_plain rfl rfl fun KK hKK => ?_
          have HK := Lib.hid hKK
          clear hKK hdep hi
          simp only [putAll, Act.put, List.setIfInBounds_toArray, List.set_cons_succ, List.set_cons_zero, List.getD_cons_zero, List.getD_cons_succ, Nat.zero_add, Nat.reduceAdd] at HK ⊢
          generalize S 1 = t1 at *
          subst h1
          generalize S 5 = t5 at *
          subst h5
          go_wp2_with fail
          refine (build_any _ W6.heap.size 0 _ _ _ (dl N) (dl (q.den * q'.den)) (dg N) (dg (q.den * q'.den)) HM.out (Limbs.lower (HZ.out.below hbx) (by omega)) hNk hZk Q HQN.out).mono ?_
          rintro e xN ⟨vN, rfl, hrN, hbN⟩
          exact HK.out _ _ ⟨_, rfl, RatR.lower hrN hbx.size, hbN⟩
        · exact absurd hi (by simp)
      · intro S lo1 hi1 x hbx hF hdis
        have g0 : S 0 = .pointer (some ⟨w.heap.size, 0, none⟩) := (hF 0 (by decide)).1
        have g1 : S 1 = .bool b1 := (hF 1 (by decide)).1
        have g2 : S 2 = .slice Ax (dl (q.num.natAbs * q'.den)) cx := (hF 2 (by decide)).1
        have g3 : S 3 = .slice Ay (dl (q'.num.natAbs * q.den)) cy := (hF 3 (by decide)).1
        have g4 : NatR x W6.heap.size (S 4) N := (hF 4 (by decide)).1
        have g5 : S 5 = .slice Az (dl (q.den * q'.den)) cz := (hF 5 (by decide)).1
        have g6 : RatR x W6.heap.size (S 6) Q := (hF 6 (by decide)).1
        clear hF hdis
        simp only [putAll, Act.put, List.setIfInBounds_toArray, List.set_cons_succ, List.set_cons_zero, List.getD_cons_zero, List.getD_cons_succ, Nat.zero_add, Nat.reduceAdd, List.length_cons, List.length_nil, List.drop_succ_cons, List.drop_zero]
        generalize S 0 = t0 at *
        subst g0
        generalize S 1 = t1 at *
        subst g1
        generalize S 2 = t2 at *
        subst g2
        generalize S 3 = t3 at *
        subst g3
        generalize S 4 = t4 at *
        generalize S 5 = t5 at *
        subst g5
        generalize S 6 = t6 at *
        have HQ := Lib.hid g6
        obtain ⟨A7, c7, B7, e7, rfl, _, _⟩ := FracR.form g6
        have hR6 := hR5.out.below hbx hR5.out.lt
        have hbx5 := hb5.trans (hbx.mono hb5.size)
        have hzx := hbx.size
        have hzR := hR5.out.lt
        obtain ⟨hcR, hfR, hzR6⟩ := hR6.facts
        simp only [zero3] at hcR
        clear g6 g4
        go_wp2
        exact bodyPost_ret (v := .agg #[.bool (decide (Q.num < 0)), .slice A7 (dl Q.num.natAbs) c7, .slice B7 (dl Q.den) e7]) (by simp [results, Tryz.results37, go_sem, hcR]) rfl ⟨_, rfl, RatR.lower (rat_set3 HQ.out (by omega) _ _ _) (by omega), below_set3 hbx5 (by omega) _ _ _⟩
    · have hz0 : z < 0 := by rw [hz]; unfold cmpI; rw [if_pos (by omega)]; decide
      obtain ⟨N, hN⟩ : ∃ N, Hid (q'.num.natAbs * q.den = q.num.natAbs * q'.den + N) := ⟨q'.num.natAbs * q.den - q.num.natAbs * q'.den, by show _ = _; omega⟩
      have hNk : dl N ≤ 4000000000 := by have := dl_mono (n := N) (m := q'.num.natAbs * q.den) (by have := hN.out; omega); omega
      have HQN : Hid (Q = mkRat (sg b2 (vs (dg N) (dl N))) (vs (dg (q.den * q'.den)) (dl (q.den * q'.den)))) := by
        show _ = _
        rw [vs_dl, vs_dl, hQ.out]
        refine HQF.out _ _ ?_
        rw [← sg_diff_lt HBB.out (Nat.lt_of_not_le hge), hN.out]
        congr 1; omega
      clear hz hge
      go_upto_region 8 with (fail)
      refine wp_region_stable (by kernel_rfl) (by kernel_rfl) [50, 51, 52, 53, 54, 55, 56] 3 (by kernel_rfl) (fun i lo hi v x => match i with
        | 0 => v = .pointer (some ⟨w.heap.size + 1, 0, none⟩)
        | 1 => v = .bool b2
        | 2 => v = .slice Ay (dl (q'.num.natAbs * q.den)) cy
        | 3 => v = .slice Ax (dl (q.num.natAbs * q'.den)) cx
        | 4 => NatR x W6.heap.size v N
        | 5 => v = .slice Az (dl (q.den * q'.den)) cz
        | _ => RatR x W6.heap.size v Q) ?_ ?_ ?_
      · intro i lo hi v x x' hi h hb
        rcases i with _ | _ | _ | _ | _ | _ | i
        · exact h
        · exact h
        · exact h
        · exact h
        · exact NatR.below h hb
        · exact h
        · exact RatR.below h hb
      · intro i o S x ho hi hbx hdep
        rcases i with _ | _ | _ | _ | _ | _ | _ | i
        · cases ho
          obtain ⟨hcG, hfG, hzG⟩ := (hG5.out.below hbx hG5.out.lt).facts
          refine wpOp_plain rfl rfl fun KK hKK => ?_
          have HK := Lib.hid hKK
          clear hKK hdep hi
          simp only [putAll, Act.put, List.setIfInBounds_toArray, List.set_cons_succ, List.set_cons_zero, List.getD_cons_zero, List.getD_cons_succ, Nat.zero_add, Nat.reduceAdd] at HK ⊢
          go_wp2
          exact HK.out _ _ ⟨_, rfl, rfl, Below.refl _ _⟩
        · cases ho
          obtain ⟨_, _, h0⟩ := hdep 0 (by kernel_rfl) (by decide)
          obtain ⟨hcG, hfG, hzG⟩ := (hG5.out.below hbx hG5.out.lt).facts
          refine wpOp_plain rfl rfl fun KK hKK => ?_
          have HK := Lib.hid hKK
          clear hKK hdep hi
          simp only [putAll, Act.put, List.setIfInBounds_toArray, List.set_cons_succ, List.set_cons_zero, List.getD_cons_zero, List.getD_cons_succ, Nat.zero_add, Nat.reduceAdd] at HK ⊢
          generalize S 0 = t0 at *
          subst h0
          go_wp2
          exact HK.out _ _ ⟨_, rfl, rfl, Below.refl _ _⟩
        · cases ho
          refine wpOp_plain rfl rfl fun KK hKK => ?_
          have HK := Lib.hid hKK
          clear hKK hdep hi
          simp only [putAll, Act.put, List.setIfInBounds_toArray, List.set_cons_succ, List.set_cons_zero, List.getD_cons_zero, List.getD_cons_succ, Nat.zero_add, Nat.reduceAdd] at HK ⊢
          go_wp2
          exact HK.out _ _ ⟨_, rfl, rfl, Below.refl _ _⟩
        · cases ho
          refine wpOp_plain rfl rfl fun KK hKK => ?_
          have HK := Lib.hid hKK
          clear hKK hdep hi
          simp only [putAll, Act.put, List.setIfInBounds_toArray, List.set_cons_succ, List.set_cons_zero, List.getD_cons_zero, List.getD_cons_succ, Nat.zero_add, Nat.reduceAdd] at HK ⊢
          go_wp2
          exact HK.out _ _ ⟨_, rfl, rfl, Below.refl _ _⟩
        · cases ho
          obtain ⟨_, _, h2⟩ := hdep 2 (by kernel_rfl) (by decide)
          obtain ⟨_, _, h3⟩ := hdep 3 (by kernel_rfl) (by decide)
          refine wpOp_plain rfl rfl fun KK hKK => ?_
          have HK := Lib.hid hKK
          clear hKK hdep hi
          simp only [putAll, Act.put, List.setIfInBounds_toArray, List.set_cons_succ, List.set_cons_zero, List.getD_cons_zero, List.getD_cons_succ, Nat.zero_add, Nat.reduceAdd] at HK ⊢
          generalize S 2 = t2 at *
          subst h2
          generalize S 3 = t3 at *
          subst h3
          go_wp2_with fail
          refine (natSub_any _ W3.heap.size W3.heap.size _ _ (q'.num.natAbs * q.den) (q.num.natAbs * q'.den) N (HY.out.below hbx) (HX.out.below hbx) (by omega) hN.out).mono ?_
          rintro e xN ⟨vN, rfl, hrN, hbN⟩
          exact HK.out _ _ ⟨_, rfl, hrN.lower hbx.size, hbN⟩
        · cases ho
          refine wpOp_plain rfl rfl fun KK hKK => ?_
          have HK := Lib.hid hKK
          clear hKK hdep hi
          simp only [putAll, Act.put, List.setIfInBounds_toArray, List.set_cons_succ, List.set_cons_zero, List.getD_cons_zero, List.getD_cons_succ, Nat.zero_add, Nat.reduceAdd] at HK ⊢
          go_wp2
          exact HK.out _ _ ⟨_, rfl, rfl, Below.refl _ _⟩
        · cases ho
          obtain ⟨_, _, h1⟩ := hdep 1 (by kernel_rfl) (by decide)
          obtain ⟨_, _, h4⟩ := hdep 4 (by kernel_rfl) (by decide)
          replace h4 : NatR x W6.heap.size (S 4) N := h4
          obtain ⟨_, _, h5⟩ := hdep 5 (by kernel_rfl) (by decide)
          have HM := Lib.hid h4
          clear h4
          refine wpOp_plain rfl rfl fun KK hKK => ?_
          have HK := Lib.hid hKK
          clear hKK hdep hi
          simp only [putAll, Act.put, List.setIfInBounds_toArray, List.set_cons_succ, List.set_cons_zero, List.getD_cons_zero, List.getD_cons_succ, Nat.zero_add, Nat.reduceAdd] at HK ⊢
          generalize S 1 = t1 at *
          subst h1
          generalize S 5 = t5 at *
          subst h5
          go_wp2_with fail
          refine (build_any _ W6.heap.size 0 _ _ _ (dl N) (dl (q.den * q'.den)) (dg N) (dg (q.den * q'.den)) HM.out (Limbs.lower (HZ.out.below hbx) (by omega)) hNk hZk Q HQN.out).mono ?_
          rintro e xN ⟨vN, rfl, hrN, hbN⟩
          exact HK.out _ _ ⟨_, rfl, RatR.lower hrN hbx.size, hbN⟩
        · exact absurd hi (by simp)
      · intro S lo1 hi1 x hbx hF hdis
        have g0 : S 0 = .pointer (some ⟨w.heap.size + 1, 0, none⟩) := (hF 0 (by decide)).1
        have g1 : S 1 = .bool b2 := (hF 1 (by decide)).1
        have g2 : S 2 = .slice Ay (dl (q'.num.natAbs * q.den)) cy := (hF 2 (by decide)).1
        have g3 : S 3 = .slice Ax (dl (q.num.natAbs * q'.den)) cx := (hF 3 (by decide)).1
        have g4 : NatR x W6.heap.size (S 4) N := (hF 4 (by decide)).1
        have g5 : S 5 = .slice Az (dl (q.den * q'.den)) cz := (hF 5 (by decide)).1
        have g6 : RatR x W6.heap.size (S 6) Q := (hF 6 (by decide)).1
        clear hF hdis
        simp only [putAll, Act.put, List.setIfInBounds_toArray, List.set_cons_succ, List.set_cons_zero, List.getD_cons_zero, List.getD_cons_succ, Nat.zero_add, Nat.reduceAdd, List.length_cons, List.length_nil, List.drop_succ_cons, List.drop_zero]
        generalize S 0 = t0 at *
        subst g0
        generalize S 1 = t1 at *
        subst g1
        generalize S 2 = t2 at *
        subst g2
        generalize S 3 = t3 at *
        subst g3
        generalize S 4 = t4 at *
        generalize S 5 = t5 at *
        subst g5
        generalize S 6 = t6 at *
        have HQ := Lib.hid g6
        obtain ⟨A7, c7, B7, e7, rfl, _, _⟩ := FracR.form g6
        have hR6 := hR5.out.below hbx hR5.out.lt
        have hbx5 := hb5.trans (hbx.mono hb5.size)
        have hzx := hbx.size
        have hzR := hR5.out.lt
        obtain ⟨hcR, hfR, hzR6⟩ := hR6.facts
        simp only [zero3] at hcR
        clear g6 g4
        go_wp2
        exact bodyPost_ret (v := .agg #[.bool (decide (Q.num < 0)), .slice A7 (dl Q.num.natAbs) c7, .slice B7 (dl Q.den) e7]) (by simp [results, Tryz.results37, go_sem, hcR]) rfl ⟨_, rfl, RatR.lower (rat_set3 HQ.out (by omega) _ _ _) (by omega), below_set3 hbx5 (by omega) _ _ _⟩

end Go.Proofs.YtgheaoaicbkaoaaGreatDoor

