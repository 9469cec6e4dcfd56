/-
 Which certificates are looked at (printed by kgen.py).
-/
import Derived.Test.YtpbdkkoanedimaaGreatDoorHKb
import Derived.Test.YtpbdkkoanedimaaGreatDoorHOpen
namespace Go.Proofs.YtpbdkkoanedimaaGreatDoor
open Go.Lib (hid)
open Go.RowKit AC
set_option linter.unusedVariables false
set_option linter.unusedSimpArgs false
theorem kSize_ix (n : Nat) (w W : World) (D : Nat → Prop) (v : List Value) (t : List UInt8) (limit : Nat) (hl : limit ≤ 13) (h : Rep w D (indexS n) v [t]) (hW : Below w.heap.size w W) : Calls Tryz.prog 43 #[.agg v.toArray, .int .i64 limit] W (KS t limit W) := by
 have := kSize_any n w W D v t limit hl h hW
 rw [val_index] at this
 exact this
theorem kTypeSize_ix (n : Nat) (w W : World) (D : Nat → Prop) (v : List Value) (t : List UInt8) (limit : Nat) (hl : limit ≤ 13) (h : Rep w D (typS n) v [t]) (hW : Below w.heap.size w W) : Calls Tryz.prog 42 #[.agg v.toArray, .int .i64 limit] W (KS t limit W) := by
 have := kTypeSize_any n w W D v t limit hl h hW
 rw [val_typ] at this
 exact this
set_option maxHeartbeats 4000000 in
set_option maxRecDepth 100000 in
theorem kMono_any (n : Nat) (w W : World) (D : Nat → Prop) (v : List Value) (t : List UInt8)  (h : Rep w D (monoS n) v [t]) (hW : Below w.heap.size w W) :
 Calls Tryz.prog 17 #[.agg v.toArray] W (KP (t.length ≤ 3443) W) := by
 have HW := hid hW
 clear hW
 have HB0 := hid (Below.refl W.heap.size W)
 obtain ⟨_, d4, l5, _, l6, _, rfl, rfl, d5, l7, _, l8, _, rfl, rfl, d6, rfl, rfl⟩ := h
 injection d4 with d4 _
 obtain ⟨d7, a6, d8, rfl⟩ := ty_list d5.ty
 obtain ⟨d9, a7, e0, rfl⟩ := ty_list d6.ty
 subst d4
 have j2 := hid d5
 clear d5
 have j3 := hid d6
 clear d6
 show Calls Tryz.prog 17 #[.agg #[.slice d7 a6 d8, .slice d9 a7 e0]] W _
 go_enter Tryz.func17, Tryz.ntmps17
 go_upto_region 1 with (fail)
 obtain ⟨C, hC⟩ : ∃ C, C = W.alloc (.cells #[.slice d7 a6 d8, .slice d9 a7 e0] 64) := ⟨_, rfl⟩
 have hbC : Below W.heap.size W C := by rw [hC]; exact (Below.refl _ _).alloc (Nat.le_refl _) _
 have c1 := hid (HB0.out.trans (hbC.mono HB0.out.size))
 have e1 : Hid (Bk C W.heap.size 64 #[.slice d7 a6 d8, .slice d9 a7 e0]) := by rw [hC]; exact Bk.new _ _ _
 obtain ⟨l9, _, _⟩ := e1.out.facts
 rw [← hC]
 clear hC hbC
 rcases Nat.lt_or_ge 4 a6 with m0 | g3
 ·go_wp2
  go_ret
  exact KP.no c1.out
 have g3 : a6 ≤ 4 := g3
 rcases Nat.lt_or_ge 4 a7 with m1 | g4
 ·go_wp2
  go_ret
  exact KP.no c1.out
 have g4 : a7 ≤ 4 := g4
 obtain ⟨j4, e2, j5, m2, j6, g5, g6⟩ := j2.out.unlist
 subst j5
 unfold maxLen at j6
 have j7 := hid g5
 have j8 := hid g6
 clear g5 g6
 go_wp2
 go_loopw [18] (fun iv wr => ∃ (i : Nat), i ≤ a6 ∧ iv = .int .i64 i ∧ Hid (∀ j, j < i → (e2 j).length ≤ 623) ∧ Hid (Below C.heap.size C wr)) (fun iv _ => a6 - (intOf iv).toNat)
 case atStart => exact ⟨0, by omega, rfl, (fun j hj => absurd hj (by omega)), Below.refl _ _⟩
 obtain ⟨a0, m3, rfl, g7, e3⟩ := hrel
 obtain ⟨b7, hwr⟩ : ∃ w : World, w = wr := ⟨_, rfl⟩
 subst hwr
 have e4 := e3.out
 have a8 := hid (c1.out.trans (e4.mono c1.out.size))
 have b8 := hid (e1.out.below e4 e1.out.lt)
 obtain ⟨m4, _, _⟩ := b8.out.facts
 clear e4
 by_cases c2 : a0 < a6
 ·obtain ⟨a2, a3, hAx, _, b3, c3⟩ := j7.out (by omega)
  subst hAx
  have e5 := j8.out a0 c2
  obtain ⟨m5, b4⟩ : ∃ u, j4 a0 = u := ⟨_, rfl⟩
  rw [b4] at e5
  have c4 : Shape.sz (factorS n) = 3 := sz_factor
  obtain ⟨m6, e6⟩ : ∃ t, e2 a0 = t := ⟨_, rfl⟩
  rw [e6] at e5
  have g8 := hid e6
  clear e6
  obtain ⟨_, e7, m7, _, m8, _, rfl, rfl, e8, m9, _, n0, _, rfl, rfl, e9, rfl, rfl⟩ := e5
  injection e7 with e7 _
  obtain ⟨b9, rfl⟩ := ty_int e8.ty
  obtain ⟨a9, b0, b1, b2, rfl⟩ := ty_index e9.ty
  subst e7
  have j9 := hid e8
  clear e8
  have k0 := hid e9
  clear e9
  have k1 := hid b4
  have g9 : Hid (w.cell? ⟨a2, a3 + a0 * 3, none⟩ = some (.int .i64 b9)) := by
   have h9 := c3 a0 c2 0 (.int .i64 b9) (by rw [b4]; rfl)
   rw [c4] at h9
   show w.cell? ⟨a2, a3 + a0 * 3, none⟩ = some (.int .i64 b9)
   simpa using h9
  have n1 : b7.cell? ⟨a2, a3 + a0 * 3, none⟩ = some (.int .i64 b9) := ((HW.out.trans (a8.out.mono HW.out.size)).cell (p := ⟨a2, a3 + a0 * 3, none⟩) b3).trans g9.out
  have h0 : Hid (w.cell? ⟨a2, a3 + a0 * 3 + 1, none⟩ = some (.int .i64 a9)) := by
   have h9 := c3 a0 c2 1 (.int .i64 a9) (by rw [b4]; rfl)
   rw [c4] at h9
   show w.cell? ⟨a2, a3 + a0 * 3 + 1, none⟩ = some (.int .i64 a9)
   exact h9
  have n2 : b7.cell? ⟨a2, a3 + a0 * 3 + 1, none⟩ = some (.int .i64 a9) := ((HW.out.trans (a8.out.mono HW.out.size)).cell (p := ⟨a2, a3 + a0 * 3 + 1, none⟩) b3).trans h0.out
  have h1 : Hid (w.cell? ⟨a2, a3 + a0 * 3 + 2, none⟩ = some (.slice b0 b1 b2)) := by
   have h9 := c3 a0 c2 2 (.slice b0 b1 b2) (by rw [b4]; rfl)
   rw [c4] at h9
   show w.cell? ⟨a2, a3 + a0 * 3 + 2, none⟩ = some (.slice b0 b1 b2)
   exact h9
  have n3 : b7.cell? ⟨a2, a3 + a0 * 3 + 2, none⟩ = some (.slice b0 b1 b2) := ((HW.out.trans (a8.out.mono HW.out.size)).cell (p := ⟨a2, a3 + a0 * 3 + 2, none⟩) b3).trans h1.out
  clear c3 b4 c4
  go_wp2_with fail
  refine ((show Calls _ _ #[.agg #[.int .i64 a9, .slice b0 b1 b2], _] _ _ from kSize_ix n w _ D [.int .i64 a9, .slice b0 b1 b2] _ 13 (by omega) k0.out (HW.out.trans (a8.out.mono HW.out.size)))).mono ?_
  rintro e f0 ⟨f1, rfl, n4, n5, f2, c5⟩
  have c6 := hid (a8.out.trans (c5.mono a8.out.size))
  have h2 := hid (e3.out.trans (c5.mono e3.out.size))
  have k2 := hid (b8.out.below c5 b8.out.lt)
  obtain ⟨n6, _, _⟩ := k2.out.facts
  have n7 : f0.cell? ⟨a2, a3 + a0 * 3, none⟩ = some (.int .i64 b9) := ((HW.out.trans (c6.out.mono HW.out.size)).cell (p := ⟨a2, a3 + a0 * 3, none⟩) b3).trans g9.out
  have n8 : f0.cell? ⟨a2, a3 + a0 * 3 + 1, none⟩ = some (.int .i64 a9) := ((HW.out.trans (c6.out.mono HW.out.size)).cell (p := ⟨a2, a3 + a0 * 3 + 1, none⟩) b3).trans h0.out
  have n9 : f0.cell? ⟨a2, a3 + a0 * 3 + 2, none⟩ = some (.slice b0 b1 b2) := ((HW.out.trans (c6.out.mono HW.out.size)).cell (p := ⟨a2, a3 + a0 * 3 + 2, none⟩) b3).trans h1.out
  clear c5
  rcases Nat.lt_or_ge 12 f1 with o0 | h3
  ·clear f2
   go_wp2
   go_ret
   exact KP.no c6.out
  have h3 : f1 ≤ 12 := h3
  have HT1 := hid (Nat.le_trans (f2 (by omega)) (show 50 * f1 ≤ 600 by omega))
  clear f2
  have h4 : Hid (∀ j, j < a0 + 1 → (e2 j).length ≤ 623) := fun j hj => by
   rcases Nat.lt_or_ge j a0 with h | h
   ·exact g7.out j h
   ·obtain rfl : j = a0 := by omega
    first | rw [k1.out, g8.out] | rw [g8.out]
    have q0 := j9.out.int_len
    have q1 := HT1.out
    exact st2_le (by omega)
  go_wp2
  go_roundw
  case rel => first | exact ⟨a0 + 1, by omega, by go_num, h4, h2⟩ | ((repeat apply Exists.intro); exact ⟨⟨a0 + 1, by omega, by go_num, h4, h2⟩, rfl⟩)
  case measure => simp [intOf]; omega
 obtain rfl : a0 = a6 := by omega
 have HF1 := hid g7.out
 obtain ⟨k3, f3, k4, o1, k5, h5, h6⟩ := j3.out.unlist
 subst k4
 unfold maxLen at k5
 have k6 := hid h5
 have k7 := hid h6
 clear h5 h6
 go_wp2
 go_loopw [33] (fun iv wr => ∃ (i : Nat), i ≤ a7 ∧ iv = .int .i64 i ∧ Hid (∀ j, j < i → (f3 j).length ≤ 234) ∧ Hid (Below b7.heap.size b7 wr)) (fun iv _ => a7 - (intOf iv).toNat)
 case atStart => exact ⟨0, by omega, rfl, (fun j hj => absurd hj (by omega)), Below.refl _ _⟩
 obtain ⟨a1, o2, rfl, h7, f4⟩ := hrel
 obtain ⟨f5, hwr⟩ : ∃ w : World, w = wr := ⟨_, rfl⟩
 subst hwr
 have f6 := f4.out
 have c0 := hid (a8.out.trans (f6.mono a8.out.size))
 have k8 := hid (b8.out.below f6 b8.out.lt)
 obtain ⟨o3, _, _⟩ := k8.out.facts
 clear f6
 by_cases c7 : a1 < a7
 ·obtain ⟨a4, a5, hAx, _, f7, c8⟩ := k6.out (by omega)
  subst hAx
  have f8 := k7.out a1 c7
  obtain ⟨o4, b5⟩ : ∃ u, k3 a1 = u := ⟨_, rfl⟩
  rw [b5] at f8
  have c9 : Shape.sz atomS = 3 := sz_atom
  obtain ⟨o5, f9⟩ : ∃ t, f3 a1 = t := ⟨_, rfl⟩
  rw [f9] at f8
  have h8 := hid f9
  clear f9
  obtain ⟨_, g0, o6, _, o7, _, rfl, rfl, g1, o8, _, o9, _, rfl, rfl, g2, rfl, rfl⟩ := f8
  injection g0 with g0 _
  obtain ⟨d0, d1, b6, d2, rfl⟩ := ty_lin g1.ty
  obtain ⟨d3, rfl⟩ := ty_int g2.ty
  subst g0
  have k9 := hid g1
  clear g1
  have l0 := hid g2
  clear g2
  have l1 := hid b5
  have l2 : Hid (w.cell? ⟨a4, a5 + a1 * 3, none⟩ = some (.int .i64 d0)) := by
   have h9 := c8 a1 c7 0 (.int .i64 d0) (by rw [b5]; rfl)
   rw [c9] at h9
   show w.cell? ⟨a4, a5 + a1 * 3, none⟩ = some (.int .i64 d0)
   simpa using h9
  have p0 : f5.cell? ⟨a4, a5 + a1 * 3, none⟩ = some (.int .i64 d0) := ((HW.out.trans (c0.out.mono HW.out.size)).cell (p := ⟨a4, a5 + a1 * 3, none⟩) f7).trans l2.out
  have l3 : Hid (w.cell? ⟨a4, a5 + a1 * 3 + 1, none⟩ = some (.slice d1 b6 d2)) := by
   have h9 := c8 a1 c7 1 (.slice d1 b6 d2) (by rw [b5]; rfl)
   rw [c9] at h9
   show w.cell? ⟨a4, a5 + a1 * 3 + 1, none⟩ = some (.slice d1 b6 d2)
   exact h9
  have p1 : f5.cell? ⟨a4, a5 + a1 * 3 + 1, none⟩ = some (.slice d1 b6 d2) := ((HW.out.trans (c0.out.mono HW.out.size)).cell (p := ⟨a4, a5 + a1 * 3 + 1, none⟩) f7).trans l3.out
  have l4 : Hid (w.cell? ⟨a4, a5 + a1 * 3 + 2, none⟩ = some (.int .i64 d3)) := by
   have h9 := c8 a1 c7 2 (.int .i64 d3) (by rw [b5]; rfl)
   rw [c9] at h9
   show w.cell? ⟨a4, a5 + a1 * 3 + 2, none⟩ = some (.int .i64 d3)
   exact h9
  have p2 : f5.cell? ⟨a4, a5 + a1 * 3 + 2, none⟩ = some (.int .i64 d3) := ((HW.out.trans (c0.out.mono HW.out.size)).cell (p := ⟨a4, a5 + a1 * 3 + 2, none⟩) f7).trans l4.out
  clear c8 b5 c9
  rcases Nat.lt_or_ge 4 b6 with p3 | j0
  ·go_wp2
   go_ret
   exact KP.no c0.out
  have j0 : b6 ≤ 4 := j0
  have j1 : Hid (∀ j, j < a1 + 1 → (f3 j).length ≤ 234) := fun j hj => by
   rcases Nat.lt_or_ge j a1 with h | h
   ·exact h7.out j h
   ·obtain rfl : j = a1 := by omega
    first | rw [l1.out, h8.out] | rw [h8.out]
    have q0 := l0.out.int_len
    have q1 := lin_len k9.out (n := 4) (fun z A k c e => by injection e with _ e; injection e with e _; injection e with _ e _; omega)
    exact st2_le (by omega)
  go_wp2
  go_roundw
  case rel => first | exact ⟨a1 + 1, by omega, by go_num, j1, f4⟩ | ((repeat apply Exists.intro); exact ⟨⟨a1 + 1, by omega, by go_num, j1, f4⟩, rfl⟩)
  case measure => simp [intOf]; omega
 obtain rfl : a1 = a7 := by omega
 have HF2 := hid h7.out
 go_wp2
 go_ret
 exact KP.yes (by
  have q1 := par_len_le (show a0 ≤ 4 by omega) HF1.out
  have q2 := par_len_le (show a1 ≤ 4 by omega) HF2.out
  exact st2_le (by omega)) c0.out
set_option maxHeartbeats 4000000 in
set_option maxRecDepth 100000 in
theorem kFlow_any (n : Nat) (w W : World) (D : Nat → Prop) (v : List Value) (t : List UInt8)  (h : Rep w D (flowS n) v [t]) (hW : Below w.heap.size w W) :
 Calls Tryz.prog 14 #[.agg v.toArray, .int .i64 10] W (KP (t.length ≤ 14040) W) := by
 have HW := hid hW
 clear hW
 have HB0 := hid (Below.refl W.heap.size W)
 obtain ⟨_, e3, p1, _, p2, _, rfl, rfl, e4, p3, _, p4, _, rfl, rfl, e5, p5, _, p6, _, rfl, rfl, e6, rfl, rfl⟩ := h
 injection e3 with e3 _
 obtain ⟨e7, a5, e8, rfl⟩ := ty_list e4.ty
 obtain ⟨e9, a6, f0, rfl⟩ := ty_list e5.ty
 obtain ⟨f1, a7, f2, rfl⟩ := ty_list e6.ty
 subst e3
 have m1 := hid e4
 clear e4
 have m2 := hid e5
 clear e5
 have m3 := hid e6
 clear e6
 show Calls Tryz.prog 14 #[.agg #[.slice e7 a5 e8, .slice e9 a6 f0, .slice f1 a7 f2], .int .i64 10] W _
 go_enter Tryz.func14, Tryz.ntmps14
 go_upto_region 1 with (fail)
 obtain ⟨C, hC⟩ : ∃ C, C = W.alloc (.cells #[.slice e7 a5 e8, .slice e9 a6 f0, .slice f1 a7 f2] 29) := ⟨_, rfl⟩
 have hbC : Below W.heap.size W C := by rw [hC]; exact (Below.refl _ _).alloc (Nat.le_refl _) _
 have b9 := hid (HB0.out.trans (hbC.mono HB0.out.size))
 have f3 : Hid (Bk C W.heap.size 29 #[.slice e7 a5 e8, .slice e9 a6 f0, .slice f1 a7 f2]) := by rw [hC]; exact Bk.new _ _ _
 obtain ⟨p7, _, _⟩ := f3.out.facts
 rw [← hC]
 clear hC hbC
 rcases Nat.lt_or_ge 10 a5 with p8 | h7
 ·go_wp2
  go_ret
  exact KP.no b9.out
 have h7 : a5 ≤ 10 := h7
 rcases Nat.lt_or_ge 10 a6 with p9 | h8
 ·go_wp2
  go_ret
  exact KP.no b9.out
 have h8 : a6 ≤ 10 := h8
 rcases Nat.lt_or_ge 10 a7 with q4 | j0
 ·go_wp2
  go_ret
  exact KP.no b9.out
 have j0 : a7 ≤ 10 := j0
 obtain ⟨m4, f4, m5, q5, m6, j1, j2⟩ := m1.out.unlist
 subst m5
 unfold maxLen at m6
 have m7 := hid j1
 have m8 := hid j2
 clear j1 j2
 go_wp2
 go_loopw [30] (fun iv wr => ∃ (i : Nat), i ≤ a5 ∧ iv = .int .i64 i ∧ Hid (∀ j, j < i → (f4 j).length ≤ 266) ∧ Hid (Below C.heap.size C wr)) (fun iv _ => a5 - (intOf iv).toNat)
 case atStart => exact ⟨0, by omega, rfl, (fun j hj => absurd hj (by omega)), Below.refl _ _⟩
 obtain ⟨a3, q6, rfl, j3, f5⟩ := hrel
 obtain ⟨f6, hwr⟩ : ∃ w : World, w = wr := ⟨_, rfl⟩
 subst hwr
 have f7 := f5.out
 have c8 := hid (b9.out.trans (f7.mono b9.out.size))
 have f8 := hid (f3.out.below f7 f3.out.lt)
 obtain ⟨q7, _, _⟩ := f8.out.facts
 clear f7
 by_cases j4 : a3 < a5
 ·obtain ⟨c9, d0, hAx, _, m9, j5⟩ := m7.out (by omega)
  subst hAx
  have c0 := m8.out a3 j4
  obtain ⟨q8, d1⟩ : ∃ u, m4 a3 = u := ⟨_, rfl⟩
  rw [d1] at c0
  have j6 : Shape.sz (.list .int) = 1 := rfl
  obtain ⟨q9, f9⟩ : ∃ t, f4 a3 = t := ⟨_, rfl⟩
  rw [f9] at c0
  have j7 := hid f9
  clear f9
  obtain ⟨d2, b7, d3, rfl⟩ := ty_list c0.ty
  have n0 := hid c0
  clear c0
  have n1 := hid d1
  have n2 : Hid (w.cell? ⟨c9, d0 + a3, none⟩ = some (.slice d2 b7 d3)) := by
   have h9 := j5 a3 j4 0 (.slice d2 b7 d3) (by rw [d1]; rfl)
   rw [j6] at h9
   show w.cell? ⟨c9, d0 + a3, none⟩ = some (.slice d2 b7 d3)
   simpa using h9
  have r0 : f6.cell? ⟨c9, d0 + a3, none⟩ = some (.slice d2 b7 d3) := ((HW.out.trans (c8.out.mono HW.out.size)).cell (p := ⟨c9, d0 + a3, none⟩) m9).trans n2.out
  clear j5 d1 j6
  rcases Nat.lt_or_ge 12 b7 with r1 | j8
  ·go_wp2
   go_ret
   exact KP.no c8.out
  have j8 : b7 ≤ 12 := j8
  have j9 : Hid (∀ j, j < a3 + 1 → (f4 j).length ≤ 266) := fun j hj => by
   rcases Nat.lt_or_ge j a3 with h | h
   ·exact j3.out j h
   ·obtain rfl : j = a3 := by omega
    first | rw [n1.out, j7.out] | rw [j7.out]
    have q := n0.out.list_len (n := 12) (by assumption) (M := 21) fun v t h => h.int_len
    omega
  go_wp2
  go_roundw
  case rel => first | exact ⟨a3 + 1, by omega, by go_num, j9, f5⟩ | ((repeat apply Exists.intro); exact ⟨⟨a3 + 1, by omega, by go_num, j9, f5⟩, rfl⟩)
  case measure => simp [intOf]; omega
 obtain rfl : a3 = a5 := by omega
 have HF1 := hid j3.out
 obtain ⟨n3, g0, n4, r2, n5, k0, k1⟩ := m2.out.unlist
 subst n4
 unfold maxLen at n5
 have n6 := hid k0
 have n7 := hid k1
 clear k0 k1
 go_wp2
 go_loopw [44] (fun iv wr => ∃ (i : Nat), i ≤ a6 ∧ iv = .int .i64 i ∧ Hid (∀ j, j < i → (g0 j).length ≤ 266) ∧ Hid (Below f6.heap.size f6 wr)) (fun iv _ => a6 - (intOf iv).toNat)
 case atStart => exact ⟨0, by omega, rfl, (fun j hj => absurd hj (by omega)), Below.refl _ _⟩
 obtain ⟨a4, r3, rfl, k2, g1⟩ := hrel
 obtain ⟨g2, hwr⟩ : ∃ w : World, w = wr := ⟨_, rfl⟩
 subst hwr
 have g3 := g1.out
 have d4 := hid (c8.out.trans (g3.mono c8.out.size))
 have g4 := hid (f8.out.below g3 f8.out.lt)
 obtain ⟨r4, _, _⟩ := g4.out.facts
 clear g3
 by_cases k3 : a4 < a6
 ·obtain ⟨d5, d6, hAx, _, n8, k4⟩ := n6.out (by omega)
  subst hAx
  have c1 := n7.out a4 k3
  obtain ⟨r5, d7⟩ : ∃ u, n3 a4 = u := ⟨_, rfl⟩
  rw [d7] at c1
  have k5 : Shape.sz (.list .int) = 1 := rfl
  obtain ⟨r6, g5⟩ : ∃ t, g0 a4 = t := ⟨_, rfl⟩
  rw [g5] at c1
  have k6 := hid g5
  clear g5
  obtain ⟨d8, b8, d9, rfl⟩ := ty_list c1.ty
  have n9 := hid c1
  clear c1
  have o0 := hid d7
  have o1 : Hid (w.cell? ⟨d5, d6 + a4, none⟩ = some (.slice d8 b8 d9)) := by
   have h9 := k4 a4 k3 0 (.slice d8 b8 d9) (by rw [d7]; rfl)
   rw [k5] at h9
   show w.cell? ⟨d5, d6 + a4, none⟩ = some (.slice d8 b8 d9)
   simpa using h9
  have r7 : g2.cell? ⟨d5, d6 + a4, none⟩ = some (.slice d8 b8 d9) := ((HW.out.trans (d4.out.mono HW.out.size)).cell (p := ⟨d5, d6 + a4, none⟩) n8).trans o1.out
  clear k4 d7 k5
  rcases Nat.lt_or_ge 12 b8 with r8 | k7
  ·go_wp2
   go_ret
   exact KP.no d4.out
  have k7 : b8 ≤ 12 := k7
  have k8 : Hid (∀ j, j < a4 + 1 → (g0 j).length ≤ 266) := fun j hj => by
   rcases Nat.lt_or_ge j a4 with h | h
   ·exact k2.out j h
   ·obtain rfl : j = a4 := by omega
    first | rw [o0.out, k6.out] | rw [k6.out]
    have q := n9.out.list_len (n := 12) (by assumption) (M := 21) fun v t h => h.int_len
    omega
  go_wp2
  go_roundw
  case rel => first | exact ⟨a4 + 1, by omega, by go_num, k8, g1⟩ | ((repeat apply Exists.intro); exact ⟨⟨a4 + 1, by omega, by go_num, k8, g1⟩, rfl⟩)
  case measure => simp [intOf]; omega
 obtain rfl : a4 = a6 := by omega
 have HF2 := hid k2.out
 obtain ⟨o2, g6, o3, r9, o4, k9, l0⟩ := m3.out.unlist
 subst o3
 unfold maxLen at o4
 have o5 := hid k9
 have o6 := hid l0
 clear k9 l0
 go_wp2
 go_loopw [58] (fun iv wr => ∃ (i : Nat), i ≤ a7 ∧ iv = .int .i64 i ∧ Hid (∀ j, j < i → (g6 j).length ≤ 868) ∧ Hid (Below g2.heap.size g2 wr)) (fun iv _ => a7 - (intOf iv).toNat)
 case atStart => exact ⟨0, by omega, rfl, (fun j hj => absurd hj (by omega)), Below.refl _ _⟩
 obtain ⟨a0, s0, rfl, l1, g7⟩ := hrel
 obtain ⟨e0, hwr⟩ : ∃ w : World, w = wr := ⟨_, rfl⟩
 subst hwr
 have g8 := g7.out
 have a8 := hid (d4.out.trans (g8.mono d4.out.size))
 have g9 := hid (g4.out.below g8 g4.out.lt)
 obtain ⟨s1, _, _⟩ := g9.out.facts
 clear g8
 by_cases c2 : a0 < a7
 ·obtain ⟨a1, a2, hAx, _, a9, c3⟩ := o5.out (by omega)
  subst hAx
  have h0 := o6.out a0 c2
  obtain ⟨s2, b0⟩ : ∃ u, o2 a0 = u := ⟨_, rfl⟩
  rw [b0] at h0
  have c4 : Shape.sz (storeS n) = 4 := sz_store
  obtain ⟨s3, h1⟩ : ∃ t, g6 a0 = t := ⟨_, rfl⟩
  rw [h1] at h0
  have l2 := hid h1
  clear h1
  obtain ⟨_, h2, s4, _, s5, _, rfl, rfl, h3, s6, _, s7, _, rfl, rfl, h4, rfl, rfl⟩ := h0
  injection h2 with h2 _
  obtain ⟨b1, b2, b3, b4, b5, rfl⟩ := ty_typ h3.ty
  obtain ⟨c5, b6, c6, rfl⟩ := ty_list h4.ty
  subst h2
  have o7 := hid h3
  clear h3
  have o8 := hid h4
  clear h4
  have o9 := hid b0
  have l3 : Hid (w.cell? ⟨a1, a2 + a0 * 4, none⟩ = some (.int .i64 b1)) := by
   have h9 := c3 a0 c2 0 (.int .i64 b1) (by rw [b0]; rfl)
   rw [c4] at h9
   show w.cell? ⟨a1, a2 + a0 * 4, none⟩ = some (.int .i64 b1)
   simpa using h9
  have s8 : e0.cell? ⟨a1, a2 + a0 * 4, none⟩ = some (.int .i64 b1) := ((HW.out.trans (a8.out.mono HW.out.size)).cell (p := ⟨a1, a2 + a0 * 4, none⟩) a9).trans l3.out
  have l4 : Hid (w.cell? ⟨a1, a2 + a0 * 4 + 1, none⟩ = some (.int .i64 b2)) := by
   have h9 := c3 a0 c2 1 (.int .i64 b2) (by rw [b0]; rfl)
   rw [c4] at h9
   show w.cell? ⟨a1, a2 + a0 * 4 + 1, none⟩ = some (.int .i64 b2)
   exact h9
  have s9 : e0.cell? ⟨a1, a2 + a0 * 4 + 1, none⟩ = some (.int .i64 b2) := ((HW.out.trans (a8.out.mono HW.out.size)).cell (p := ⟨a1, a2 + a0 * 4 + 1, none⟩) a9).trans l4.out
  have l5 : Hid (w.cell? ⟨a1, a2 + a0 * 4 + 2, none⟩ = some (.slice b3 b4 b5)) := by
   have h9 := c3 a0 c2 2 (.slice b3 b4 b5) (by rw [b0]; rfl)
   rw [c4] at h9
   show w.cell? ⟨a1, a2 + a0 * 4 + 2, none⟩ = some (.slice b3 b4 b5)
   exact h9
  have t0 : e0.cell? ⟨a1, a2 + a0 * 4 + 2, none⟩ = some (.slice b3 b4 b5) := ((HW.out.trans (a8.out.mono HW.out.size)).cell (p := ⟨a1, a2 + a0 * 4 + 2, none⟩) a9).trans l5.out
  have l6 : Hid (w.cell? ⟨a1, a2 + a0 * 4 + 3, none⟩ = some (.slice c5 b6 c6)) := by
   have h9 := c3 a0 c2 3 (.slice c5 b6 c6) (by rw [b0]; rfl)
   rw [c4] at h9
   show w.cell? ⟨a1, a2 + a0 * 4 + 3, none⟩ = some (.slice c5 b6 c6)
   exact h9
  have t1 : e0.cell? ⟨a1, a2 + a0 * 4 + 3, none⟩ = some (.slice c5 b6 c6) := ((HW.out.trans (a8.out.mono HW.out.size)).cell (p := ⟨a1, a2 + a0 * 4 + 3, none⟩) a9).trans l6.out
  clear c3 b0 c4
  rcases Nat.lt_or_ge 12 b6 with t2 | l7
  ·go_wp2
   go_ret
   exact KP.no a8.out
  have l7 : b6 ≤ 12 := l7
  go_wp2_with fail
  refine ((show Calls _ _ #[.agg #[.int .i64 b1, .int .i64 b2, .slice b3 b4 b5], _] _ _ from kTypeSize_ix n w _ D [.int .i64 b1, .int .i64 b2, .slice b3 b4 b5] _ 13 (by omega) o7.out (HW.out.trans (a8.out.mono HW.out.size)))).mono ?_
  rintro e e1 ⟨h5, rfl, t3, t4, h6, e2⟩
  have c7 := hid (a8.out.trans (e2.mono a8.out.size))
  have l8 := hid (g7.out.trans (e2.mono g7.out.size))
  have p0 := hid (g9.out.below e2 g9.out.lt)
  obtain ⟨t5, _, _⟩ := p0.out.facts
  have t6 : e1.cell? ⟨a1, a2 + a0 * 4, none⟩ = some (.int .i64 b1) := ((HW.out.trans (c7.out.mono HW.out.size)).cell (p := ⟨a1, a2 + a0 * 4, none⟩) a9).trans l3.out
  have t7 : e1.cell? ⟨a1, a2 + a0 * 4 + 1, none⟩ = some (.int .i64 b2) := ((HW.out.trans (c7.out.mono HW.out.size)).cell (p := ⟨a1, a2 + a0 * 4 + 1, none⟩) a9).trans l4.out
  have t8 : e1.cell? ⟨a1, a2 + a0 * 4 + 2, none⟩ = some (.slice b3 b4 b5) := ((HW.out.trans (c7.out.mono HW.out.size)).cell (p := ⟨a1, a2 + a0 * 4 + 2, none⟩) a9).trans l5.out
  have t9 : e1.cell? ⟨a1, a2 + a0 * 4 + 3, none⟩ = some (.slice c5 b6 c6) := ((HW.out.trans (c7.out.mono HW.out.size)).cell (p := ⟨a1, a2 + a0 * 4 + 3, none⟩) a9).trans l6.out
  clear e2
  rcases Nat.lt_or_ge 12 h5 with v0 | l9
  ·clear h6
   go_wp2
   go_ret
   exact KP.no c7.out
  have l9 : h5 ≤ 12 := l9
  have HT1 := hid (Nat.le_trans (h6 (by omega)) (show 50 * h5 ≤ 600 by omega))
  clear h6
  have m0 : Hid (∀ j, j < a0 + 1 → (g6 j).length ≤ 868) := fun j hj => by
   rcases Nat.lt_or_ge j a0 with h | h
   ·exact l1.out j h
   ·obtain rfl : j = a0 := by omega
    first | rw [o9.out, l2.out] | rw [l2.out]
    have q0 := o8.out.list_len (n := 12) (by assumption) (M := 21) fun v t h => h.int_len
    have q1 := HT1.out
    exact st2_le (by omega)
  go_wp2
  go_roundw
  case rel => first | exact ⟨a0 + 1, by omega, by go_num, m0, l8⟩ | ((repeat apply Exists.intro); exact ⟨⟨a0 + 1, by omega, by go_num, m0, l8⟩, rfl⟩)
  case measure => simp [intOf]; omega
 obtain rfl : a0 = a7 := by omega
 have HF3 := hid l1.out
 go_wp2
 go_ret
 exact KP.yes (by
  have q1 := par_len_le (show a3 ≤ 10 by omega) HF1.out
  have q2 := par_len_le (show a4 ≤ 10 by omega) HF2.out
  have q3 := par_len_le (show a0 ≤ 10 by omega) HF3.out
  exact st3_le (by omega)) a8.out
end Go.Proofs.YtpbdkkoanedimaaGreatDoor
