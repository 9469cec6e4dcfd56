/-
 Which certificates are looked at (printed by kgen.py).
-/
import Derived.Test.YtpbdkkoanedimaaGreatDoorHKf
import Derived.Test.YtpbdkkoanedimaaGreatDoorHKb
namespace Go.Proofs.YtpbdkkoanedimaaGreatDoor
open Go.Lib (hid)
open Go.RowKit AC
set_option linter.unusedVariables false
set_option linter.unusedSimpArgs false
section
variable {w : World} {D : Nat → Prop}
theorem Rep.re5 {s1 s2 s3 s4 s5 : Shape} {l1 l2 l3 l4 l5 : List Value} {t1 t2 t3 t4 t5 : List UInt8} (h1 : Rep w D s1 l1 [t1]) (h2 : Rep w D s2 l2 [t2]) (h3 : Rep w D s3 l3 [t3]) (h4 : Rep w D s4 l4 [t4]) (h5 : Rep w D s5 l5 [t5]) : Rep w D (.st (.and s1 (.and s2 (.and s3 (.and s4 (.and s5 .fin)))))) (l1 ++ (l2 ++ (l3 ++ (l4 ++ (l5 ++ []))))) [par (fun i => [t1, t2, t3, t4, t5].getD i []) 5] :=
 ⟨[t1, t2, t3, t4, t5], rfl, l1, _, t1, _, rfl, rfl, h1, l2, _, t2, _, rfl, rfl, h2, l3, _, t3, _, rfl, rfl, h3, l4, _, t4, _, rfl, rfl, h4, l5, [], t5, [], rfl, rfl, h5, rfl, rfl⟩
theorem ax_len {z0 z1 z4 : Int} {A A' : Option Addr} {k c k' c' : Nat} {z2 : Int} {t : List UInt8} (h : Rep w D axS [.int .i64 z0, .int .i64 z1, .slice A k c, .int .i64 z2, .slice A' k' c', .int .i64 z4] [t]) (hk : k ≤ 4) (hk' : k' ≤ 4) : t.length ≤ 467 := by
 obtain ⟨_, ht, l0, m0, t0, _, e0, rfl, r0, l1, m1, t1, _, e1, rfl, r1, l2, m2, t2, _, e2, rfl, r2, l3, m3, t3, _, e3, rfl, r3, rfl, rfl⟩ := h
 injection ht with ht _
 subst ht
 obtain ⟨y0, rfl⟩ := ty_int r0.ty
 obtain ⟨y1, y2, y3, y4, rfl⟩ := ty_lin r1.ty
 obtain ⟨y5, y6, y7, y8, rfl⟩ := ty_lin r2.ty
 obtain ⟨y9, rfl⟩ := ty_int r3.ty
 subst e3
 subst e2
 subst e1
 simp only [List.cons_append, List.nil_append, List.append_nil, List.cons.injEq, Value.slice.injEq, Value.int.injEq, true_and, and_true] at e0
 have q0 := r0.int_len
 have q3 := r3.int_len
 have q1 := lin_len r1 (n := 4) (fun z A k c e => by injection e with _ e; injection e with e _; injection e with _ e _; omega)
 have q2 := lin_len r2 (n := 4) (fun z A k c e => by injection e with _ e; injection e with e _; injection e with _ e _; omega)
 exact st4_le (by omega)
end
set_option maxHeartbeats 4000000 in
set_option maxRecDepth 100000 in
theorem kPoly_any (n : Nat) (w W : World) (D : Nat → Prop) (A : Option Addr) (k c : Nat) (t : List UInt8) (m : Nat) (hm : m ≤ 1000) (h : Rep w D (.list (termB n)) [.slice A k c] [t]) (hW : Below w.heap.size w W) :
 Calls Tryz.prog 15 #[.slice A k c, .int .i64 m] W (KP (Rep w D (.list (termS n)) [.slice A k c] [t] ∧ t.length ≤ 2 + m * (3504 + 1)) W) := by
 have HW := hid hW
 clear hW
 have HB0 := hid (Below.refl W.heap.size W)
 have HR0 := hid h
 clear h
 obtain ⟨c8, c4, f5, f6, e5, e6, e7⟩ := HR0.out.unlist
 subst f5
 unfold maxLen at e5
 have e8 := hid e6
 have f7 := hid e7
 clear e6 e7
 by_cases hkm : k ≤ m
 ·have hdm : decide (m < k) = false := decide_eq_false (by omega)
  go_enter Tryz.func15, Tryz.ntmps15
  go_wp2
  go_loopw [12] (fun iv wr => ∃ (i : Nat), i ≤ k ∧ iv = .int .i64 i ∧ Hid (∀ j, j < i → Rep w D (termS n) (c8 j) [c4 j] ∧ (c4 j).length ≤ 3504) ∧ Hid (Below W.heap.size W wr)) (fun iv _ => k - (intOf iv).toNat)
  case atStart => exact ⟨0, by omega, rfl, (fun j hj => absurd hj (by omega)), Below.refl _ _⟩
  obtain ⟨a0, g0, rfl, c9, d0⟩ := hrel
  obtain ⟨c5, hwr⟩ : ∃ w : World, w = wr := ⟨_, rfl⟩
  subst hwr
  have e9 := d0.out
  have a5 := hid (HB0.out.trans (e9.mono HB0.out.size))
  clear e9
  by_cases b3 : a0 < k
  ·obtain ⟨a1, a2, hAx, _, a3, b4⟩ := e8.out (by omega)
   subst hAx
   have d1 := f7.out a0 b3
   obtain ⟨g1, a6⟩ : ∃ u, c8 a0 = u := ⟨_, rfl⟩
   rw [a6] at d1
   have b5 : Shape.sz (termB n) = 5 := szB_term
   obtain ⟨g2, d2⟩ : ∃ t, c4 a0 = t := ⟨_, rfl⟩
   rw [d2] at d1
   have f0 := hid d2
   clear d2
   obtain ⟨_, d3, g3, _, g4, _, rfl, rfl, d4, g5, _, g6, _, rfl, rfl, d5, rfl, rfl⟩ := d1
   injection d3 with d3 _
   obtain ⟨b6, b7, b8, b9, c0, c1, c2, rfl⟩ := ty_big d4.ty
   obtain ⟨a7, a8, a9, b0, b1, b2, rfl⟩ := ty_mono d5.ty
   subst d3
   have f8 := hid d4
   clear d4
   have f1 := hid d5
   clear d5
   have f9 := hid a6
   have d6 : Hid (w.cell? ⟨a1, a2 + a0 * 5, none⟩ = some (.bool b6)) := by
    have h9 := b4 a0 b3 0 (.bool b6) (by rw [a6]; rfl)
    rw [b5] at h9
    show w.cell? ⟨a1, a2 + a0 * 5, none⟩ = some (.bool b6)
    simpa using h9
   have g7 : c5.cell? ⟨a1, a2 + a0 * 5, none⟩ = some (.bool b6) := ((HW.out.trans (a5.out.mono HW.out.size)).cell (p := ⟨a1, a2 + a0 * 5, none⟩) a3).trans d6.out
   have d7 : Hid (w.cell? ⟨a1, a2 + a0 * 5 + 1, none⟩ = some (.slice b7 b8 b9)) := by
    have h9 := b4 a0 b3 1 (.slice b7 b8 b9) (by rw [a6]; rfl)
    rw [b5] at h9
    show w.cell? ⟨a1, a2 + a0 * 5 + 1, none⟩ = some (.slice b7 b8 b9)
    exact h9
   have g8 : c5.cell? ⟨a1, a2 + a0 * 5 + 1, none⟩ = some (.slice b7 b8 b9) := ((HW.out.trans (a5.out.mono HW.out.size)).cell (p := ⟨a1, a2 + a0 * 5 + 1, none⟩) a3).trans d7.out
   have d8 : Hid (w.cell? ⟨a1, a2 + a0 * 5 + 2, none⟩ = some (.slice c0 c1 c2)) := by
    have h9 := b4 a0 b3 2 (.slice c0 c1 c2) (by rw [a6]; rfl)
    rw [b5] at h9
    show w.cell? ⟨a1, a2 + a0 * 5 + 2, none⟩ = some (.slice c0 c1 c2)
    exact h9
   have g9 : c5.cell? ⟨a1, a2 + a0 * 5 + 2, none⟩ = some (.slice c0 c1 c2) := ((HW.out.trans (a5.out.mono HW.out.size)).cell (p := ⟨a1, a2 + a0 * 5 + 2, none⟩) a3).trans d8.out
   have d9 : Hid (w.cell? ⟨a1, a2 + a0 * 5 + 3, none⟩ = some (.slice a7 a8 a9)) := by
    have h9 := b4 a0 b3 3 (.slice a7 a8 a9) (by rw [a6]; rfl)
    rw [b5] at h9
    show w.cell? ⟨a1, a2 + a0 * 5 + 3, none⟩ = some (.slice a7 a8 a9)
    exact h9
   have h0 : c5.cell? ⟨a1, a2 + a0 * 5 + 3, none⟩ = some (.slice a7 a8 a9) := ((HW.out.trans (a5.out.mono HW.out.size)).cell (p := ⟨a1, a2 + a0 * 5 + 3, none⟩) a3).trans d9.out
   have e0 : Hid (w.cell? ⟨a1, a2 + a0 * 5 + 4, none⟩ = some (.slice b0 b1 b2)) := by
    have h9 := b4 a0 b3 4 (.slice b0 b1 b2) (by rw [a6]; rfl)
    rw [b5] at h9
    show w.cell? ⟨a1, a2 + a0 * 5 + 4, none⟩ = some (.slice b0 b1 b2)
    exact h9
   have h1 : c5.cell? ⟨a1, a2 + a0 * 5 + 4, none⟩ = some (.slice b0 b1 b2) := ((HW.out.trans (a5.out.mono HW.out.size)).cell (p := ⟨a1, a2 + a0 * 5 + 4, none⟩) a3).trans e0.out
   clear b4 a6 b5
   go_wp2_with fail
   refine (kR_any w _ D _ _ _ _ _ _ _ _ f8.out).mono ?_
   rintro e c6 ⟨bb, rfl, e1, e2⟩
   have a4 := hid (a5.out.trans (e2.mono a5.out.size))
   have f2 := hid (d0.out.trans (e2.mono d0.out.size))
   have h2 : c6.cell? ⟨a1, a2 + a0 * 5, none⟩ = some (.bool b6) := ((HW.out.trans (a4.out.mono HW.out.size)).cell (p := ⟨a1, a2 + a0 * 5, none⟩) a3).trans d6.out
   have h3 : c6.cell? ⟨a1, a2 + a0 * 5 + 1, none⟩ = some (.slice b7 b8 b9) := ((HW.out.trans (a4.out.mono HW.out.size)).cell (p := ⟨a1, a2 + a0 * 5 + 1, none⟩) a3).trans d7.out
   have h4 : c6.cell? ⟨a1, a2 + a0 * 5 + 2, none⟩ = some (.slice c0 c1 c2) := ((HW.out.trans (a4.out.mono HW.out.size)).cell (p := ⟨a1, a2 + a0 * 5 + 2, none⟩) a3).trans d8.out
   have h5 : c6.cell? ⟨a1, a2 + a0 * 5 + 3, none⟩ = some (.slice a7 a8 a9) := ((HW.out.trans (a4.out.mono HW.out.size)).cell (p := ⟨a1, a2 + a0 * 5 + 3, none⟩) a3).trans d9.out
   have h6 : c6.cell? ⟨a1, a2 + a0 * 5 + 4, none⟩ = some (.slice b0 b1 b2) := ((HW.out.trans (a4.out.mono HW.out.size)).cell (p := ⟨a1, a2 + a0 * 5 + 4, none⟩) a3).trans e0.out
   clear e2
   rcases bb with _ | _
   ·clear e1
    go_wp2
    go_ret
    exact KP.no a4.out
   have HT1 := hid (e1 rfl)
   clear e1
   go_wp2_with fail
   refine ((show Calls _ _ #[.agg #[.slice a7 a8 a9, .slice b0 b1 b2]] _ _ from kMono_any n w _ D [.slice a7 a8 a9, .slice b0 b1 b2] _ f1.out (HW.out.trans (a4.out.mono HW.out.size)))).mono ?_
   rintro e c7 ⟨bb, rfl, e3, e4⟩
   have c3 := hid (a4.out.trans (e4.mono a4.out.size))
   have f3 := hid (f2.out.trans (e4.mono f2.out.size))
   have h7 : c7.cell? ⟨a1, a2 + a0 * 5, none⟩ = some (.bool b6) := ((HW.out.trans (c3.out.mono HW.out.size)).cell (p := ⟨a1, a2 + a0 * 5, none⟩) a3).trans d6.out
   have h8 : c7.cell? ⟨a1, a2 + a0 * 5 + 1, none⟩ = some (.slice b7 b8 b9) := ((HW.out.trans (c3.out.mono HW.out.size)).cell (p := ⟨a1, a2 + a0 * 5 + 1, none⟩) a3).trans d7.out
   have j0 : c7.cell? ⟨a1, a2 + a0 * 5 + 2, none⟩ = some (.slice c0 c1 c2) := ((HW.out.trans (c3.out.mono HW.out.size)).cell (p := ⟨a1, a2 + a0 * 5 + 2, none⟩) a3).trans d8.out
   have j1 : c7.cell? ⟨a1, a2 + a0 * 5 + 3, none⟩ = some (.slice a7 a8 a9) := ((HW.out.trans (c3.out.mono HW.out.size)).cell (p := ⟨a1, a2 + a0 * 5 + 3, none⟩) a3).trans d9.out
   have j2 : c7.cell? ⟨a1, a2 + a0 * 5 + 4, none⟩ = some (.slice b0 b1 b2) := ((HW.out.trans (c3.out.mono HW.out.size)).cell (p := ⟨a1, a2 + a0 * 5 + 4, none⟩) a3).trans e0.out
   clear e4
   rcases bb with _ | _
   ·clear e3
    go_wp2
    go_ret
    exact KP.no c3.out
   have HT2 := hid (e3 rfl)
   clear e3
   have f4 : Hid (∀ j, j < a0 + 1 → Rep w D (termS n) (c8 j) [c4 j] ∧ (c4 j).length ≤ 3504) := fun j hj => by
    rcases Nat.lt_or_ge j a0 with h | h
    ·exact c9.out j h
    ·obtain rfl : j = a0 := by omega
     first | rw [f9.out, f0.out] | rw [f0.out]
     have q1 := HT1.out.2
     have q2 := HT2.out
     exact ⟨Rep.re2 HT1.out.1 f1.out, st2_le (by omega)⟩
   go_wp2
   go_roundw
   case rel => first | exact ⟨a0 + 1, by omega, by go_num, f4, f3⟩ | ((repeat apply Exists.intro); exact ⟨⟨a0 + 1, by omega, by go_num, f4, f3⟩, rfl⟩)
   case measure => simp [intOf]; omega
  obtain rfl : a0 = k := by omega
  go_wp2
  go_ret
  exact KP.yes (⟨Rep.relist (sz_term.trans szB_term.symm) f6 e5 e8.out (fun j hj => (c9.out j hj).1), par_len_le hkm fun j hj => (c9.out j hj).2⟩) a5.out
 ·have hkm' : m < k := by omega
  go_enter Tryz.func15, Tryz.ntmps15
  go_wp2
  go_ret
  exact KP.no HB0.out
set_option maxHeartbeats 4000000 in
set_option maxRecDepth 100000 in
theorem kProof_any (n : Nat) (w W : World) (D : Nat → Prop) (A : Option Addr) (k c : Nat) (t : List UInt8)  (h : Rep w D (.list (axuB n)) [.slice A k c] [t]) (hW : Below w.heap.size w W) :
 Calls Tryz.prog 19 #[.slice A k c, .int .i64 3] W (KP (Rep w D (.list (axuS n)) [.slice A k c] [t] ∧ t.length ≤ 2 + 3 * (5394 + 1)) W) := by
 have HW := hid hW
 clear hW
 have HB0 := hid (Below.refl W.heap.size W)
 have HR0 := hid h
 clear h
 obtain ⟨e1, d1, h8, j0, g1, g2, g3⟩ := HR0.out.unlist
 subst h8
 unfold maxLen at g1
 have g4 := hid g2
 have j1 := hid g3
 clear g2 g3
 by_cases hkm : k ≤ 3
 ·have hdm : decide (3 < k) = false := decide_eq_false (by omega)
  go_enter Tryz.func19, Tryz.ntmps19
  go_wp2
  go_loopw [13] (fun iv wr => ∃ (i : Nat), i ≤ k ∧ iv = .int .i64 i ∧ Hid (∀ j, j < i → Rep w D (axuS n) (e1 j) [d1 j] ∧ (d1 j).length ≤ 5394) ∧ Hid (Below W.heap.size W wr)) (fun iv _ => k - (intOf iv).toNat)
  case atStart => exact ⟨0, by omega, rfl, (fun j hj => absurd hj (by omega)), Below.refl _ _⟩
  obtain ⟨a0, l1, rfl, e2, e3⟩ := hrel
  obtain ⟨a3, hwr⟩ : ∃ w : World, w = wr := ⟨_, rfl⟩
  subst hwr
  have g5 := e3.out
  have a4 := hid (HB0.out.trans (g5.mono HB0.out.size))
  clear g5
  by_cases a6 : a0 < k
  ·obtain ⟨a1, a2, hAx, _, a9, a7⟩ := g4.out (by omega)
   subst hAx
   have e4 := j1.out a0 a6
   obtain ⟨l2, a5⟩ : ∃ u, e1 a0 = u := ⟨_, rfl⟩
   rw [a5] at e4
   have a8 : Shape.sz (axuB n) = 13 := szB_axiomUse
   obtain ⟨l3, e5⟩ : ∃ t, d1 a0 = t := ⟨_, rfl⟩
   rw [e5] at e4
   have g6 := hid e5
   clear e5
   obtain ⟨_, e6, l4, _, l5, _, rfl, rfl, e7, l6, _, l7, _, rfl, rfl, e8, l8, _, l9, _, rfl, rfl, e9, m0, _, m1, _, rfl, rfl, f0, m2, _, m3, _, rfl, rfl, f1, rfl, rfl⟩ := e4
   injection e6 with e6 _
   obtain ⟨b6, z529q1_0n, z529q1_1A, z529q1_1k, z529q1_1c, z529q2_0n, z529q2_1A, z529q2_1k, z529q2_1c, b7, rfl⟩ := ty_axiom e7.ty
   obtain ⟨b8, b9, c0, c1, c2, c3, c4, rfl⟩ := ty_big e8.ty
   obtain ⟨b0, b1, b2, b3, b4, b5, rfl⟩ := ty_mono e9.ty
   obtain ⟨c5, c6, c7, rfl⟩ := ty_list f0.ty
   obtain ⟨c8, c9, d0, rfl⟩ := ty_list f1.ty
   subst e6
   have g7 := hid e7
   clear e7
   have j2 := hid e8
   clear e8
   have g8 := hid e9
   clear e9
   have j3 := hid f0
   clear f0
   have j4 := hid f1
   clear f1
   have j5 := hid a5
   have j6 : Hid (w.cell? ⟨a1, a2 + a0 * 13, none⟩ = some (.int .i64 b6)) := by
    have h9 := a7 a0 a6 0 (.int .i64 b6) (by rw [a5]; rfl)
    rw [a8] at h9
    show w.cell? ⟨a1, a2 + a0 * 13, none⟩ = some (.int .i64 b6)
    simpa using h9
   have m4 : a3.cell? ⟨a1, a2 + a0 * 13, none⟩ = some (.int .i64 b6) := ((HW.out.trans (a4.out.mono HW.out.size)).cell (p := ⟨a1, a2 + a0 * 13, none⟩) a9).trans j6.out
   have j7 : Hid (w.cell? ⟨a1, a2 + a0 * 13 + 1, none⟩ = some (.int .i64 z529q1_0n)) := by
    have h9 := a7 a0 a6 1 (.int .i64 z529q1_0n) (by rw [a5]; rfl)
    rw [a8] at h9
    show w.cell? ⟨a1, a2 + a0 * 13 + 1, none⟩ = some (.int .i64 z529q1_0n)
    exact h9
   have m5 : a3.cell? ⟨a1, a2 + a0 * 13 + 1, none⟩ = some (.int .i64 z529q1_0n) := ((HW.out.trans (a4.out.mono HW.out.size)).cell (p := ⟨a1, a2 + a0 * 13 + 1, none⟩) a9).trans j7.out
   have j8 : Hid (w.cell? ⟨a1, a2 + a0 * 13 + 2, none⟩ = some (.slice z529q1_1A z529q1_1k z529q1_1c)) := by
    have h9 := a7 a0 a6 2 (.slice z529q1_1A z529q1_1k z529q1_1c) (by rw [a5]; rfl)
    rw [a8] at h9
    show w.cell? ⟨a1, a2 + a0 * 13 + 2, none⟩ = some (.slice z529q1_1A z529q1_1k z529q1_1c)
    exact h9
   have m6 : a3.cell? ⟨a1, a2 + a0 * 13 + 2, none⟩ = some (.slice z529q1_1A z529q1_1k z529q1_1c) := ((HW.out.trans (a4.out.mono HW.out.size)).cell (p := ⟨a1, a2 + a0 * 13 + 2, none⟩) a9).trans j8.out
   have j9 : Hid (w.cell? ⟨a1, a2 + a0 * 13 + 3, none⟩ = some (.int .i64 z529q2_0n)) := by
    have h9 := a7 a0 a6 3 (.int .i64 z529q2_0n) (by rw [a5]; rfl)
    rw [a8] at h9
    show w.cell? ⟨a1, a2 + a0 * 13 + 3, none⟩ = some (.int .i64 z529q2_0n)
    exact h9
   have m7 : a3.cell? ⟨a1, a2 + a0 * 13 + 3, none⟩ = some (.int .i64 z529q2_0n) := ((HW.out.trans (a4.out.mono HW.out.size)).cell (p := ⟨a1, a2 + a0 * 13 + 3, none⟩) a9).trans j9.out
   have k0 : Hid (w.cell? ⟨a1, a2 + a0 * 13 + 4, none⟩ = some (.slice z529q2_1A z529q2_1k z529q2_1c)) := by
    have h9 := a7 a0 a6 4 (.slice z529q2_1A z529q2_1k z529q2_1c) (by rw [a5]; rfl)
    rw [a8] at h9
    show w.cell? ⟨a1, a2 + a0 * 13 + 4, none⟩ = some (.slice z529q2_1A z529q2_1k z529q2_1c)
    exact h9
   have m8 : a3.cell? ⟨a1, a2 + a0 * 13 + 4, none⟩ = some (.slice z529q2_1A z529q2_1k z529q2_1c) := ((HW.out.trans (a4.out.mono HW.out.size)).cell (p := ⟨a1, a2 + a0 * 13 + 4, none⟩) a9).trans k0.out
   have k1 : Hid (w.cell? ⟨a1, a2 + a0 * 13 + 5, none⟩ = some (.int .i64 b7)) := by
    have h9 := a7 a0 a6 5 (.int .i64 b7) (by rw [a5]; rfl)
    rw [a8] at h9
    show w.cell? ⟨a1, a2 + a0 * 13 + 5, none⟩ = some (.int .i64 b7)
    exact h9
   have m9 : a3.cell? ⟨a1, a2 + a0 * 13 + 5, none⟩ = some (.int .i64 b7) := ((HW.out.trans (a4.out.mono HW.out.size)).cell (p := ⟨a1, a2 + a0 * 13 + 5, none⟩) a9).trans k1.out
   have k2 : Hid (w.cell? ⟨a1, a2 + a0 * 13 + 6, none⟩ = some (.bool b8)) := by
    have h9 := a7 a0 a6 6 (.bool b8) (by rw [a5]; rfl)
    rw [a8] at h9
    show w.cell? ⟨a1, a2 + a0 * 13 + 6, none⟩ = some (.bool b8)
    exact h9
   have n0 : a3.cell? ⟨a1, a2 + a0 * 13 + 6, none⟩ = some (.bool b8) := ((HW.out.trans (a4.out.mono HW.out.size)).cell (p := ⟨a1, a2 + a0 * 13 + 6, none⟩) a9).trans k2.out
   have k3 : Hid (w.cell? ⟨a1, a2 + a0 * 13 + 7, none⟩ = some (.slice b9 c0 c1)) := by
    have h9 := a7 a0 a6 7 (.slice b9 c0 c1) (by rw [a5]; rfl)
    rw [a8] at h9
    show w.cell? ⟨a1, a2 + a0 * 13 + 7, none⟩ = some (.slice b9 c0 c1)
    exact h9
   have n1 : a3.cell? ⟨a1, a2 + a0 * 13 + 7, none⟩ = some (.slice b9 c0 c1) := ((HW.out.trans (a4.out.mono HW.out.size)).cell (p := ⟨a1, a2 + a0 * 13 + 7, none⟩) a9).trans k3.out
   have k4 : Hid (w.cell? ⟨a1, a2 + a0 * 13 + 8, none⟩ = some (.slice c2 c3 c4)) := by
    have h9 := a7 a0 a6 8 (.slice c2 c3 c4) (by rw [a5]; rfl)
    rw [a8] at h9
    show w.cell? ⟨a1, a2 + a0 * 13 + 8, none⟩ = some (.slice c2 c3 c4)
    exact h9
   have n2 : a3.cell? ⟨a1, a2 + a0 * 13 + 8, none⟩ = some (.slice c2 c3 c4) := ((HW.out.trans (a4.out.mono HW.out.size)).cell (p := ⟨a1, a2 + a0 * 13 + 8, none⟩) a9).trans k4.out
   have k5 : Hid (w.cell? ⟨a1, a2 + a0 * 13 + 9, none⟩ = some (.slice b0 b1 b2)) := by
    have h9 := a7 a0 a6 9 (.slice b0 b1 b2) (by rw [a5]; rfl)
    rw [a8] at h9
    show w.cell? ⟨a1, a2 + a0 * 13 + 9, none⟩ = some (.slice b0 b1 b2)
    exact h9
   have n3 : a3.cell? ⟨a1, a2 + a0 * 13 + 9, none⟩ = some (.slice b0 b1 b2) := ((HW.out.trans (a4.out.mono HW.out.size)).cell (p := ⟨a1, a2 + a0 * 13 + 9, none⟩) a9).trans k5.out
   have k6 : Hid (w.cell? ⟨a1, a2 + a0 * 13 + 10, none⟩ = some (.slice b3 b4 b5)) := by
    have h9 := a7 a0 a6 10 (.slice b3 b4 b5) (by rw [a5]; rfl)
    rw [a8] at h9
    show w.cell? ⟨a1, a2 + a0 * 13 + 10, none⟩ = some (.slice b3 b4 b5)
    exact h9
   have n4 : a3.cell? ⟨a1, a2 + a0 * 13 + 10, none⟩ = some (.slice b3 b4 b5) := ((HW.out.trans (a4.out.mono HW.out.size)).cell (p := ⟨a1, a2 + a0 * 13 + 10, none⟩) a9).trans k6.out
   have k7 : Hid (w.cell? ⟨a1, a2 + a0 * 13 + 11, none⟩ = some (.slice c5 c6 c7)) := by
    have h9 := a7 a0 a6 11 (.slice c5 c6 c7) (by rw [a5]; rfl)
    rw [a8] at h9
    show w.cell? ⟨a1, a2 + a0 * 13 + 11, none⟩ = some (.slice c5 c6 c7)
    exact h9
   have n5 : a3.cell? ⟨a1, a2 + a0 * 13 + 11, none⟩ = some (.slice c5 c6 c7) := ((HW.out.trans (a4.out.mono HW.out.size)).cell (p := ⟨a1, a2 + a0 * 13 + 11, none⟩) a9).trans k7.out
   have k8 : Hid (w.cell? ⟨a1, a2 + a0 * 13 + 12, none⟩ = some (.slice c8 c9 d0)) := by
    have h9 := a7 a0 a6 12 (.slice c8 c9 d0) (by rw [a5]; rfl)
    rw [a8] at h9
    show w.cell? ⟨a1, a2 + a0 * 13 + 12, none⟩ = some (.slice c8 c9 d0)
    exact h9
   have n6 : a3.cell? ⟨a1, a2 + a0 * 13 + 12, none⟩ = some (.slice c8 c9 d0) := ((HW.out.trans (a4.out.mono HW.out.size)).cell (p := ⟨a1, a2 + a0 * 13 + 12, none⟩) a9).trans k8.out
   clear a7 a5 a8
   go_upto_region 7 with (fail)
   obtain ⟨g9, d2⟩ : ∃ W, W = a3.alloc (.cells #[.int .i64 b6, .int .i64 z529q1_0n, .slice z529q1_1A z529q1_1k z529q1_1c, .int .i64 z529q2_0n, .slice z529q2_1A z529q2_1k z529q2_1c, .int .i64 b7, .bool b8, .slice b9 c0 c1, .slice c2 c3 c4, .slice b0 b1 b2, .slice b3 b4 b5, .slice c5 c6 c7, .slice c8 c9 d0] 136) := ⟨_, rfl⟩
   have f2 : Below a3.heap.size a3 g9 := by rw [d2]; exact (Below.refl _ _).alloc (Nat.le_refl _) _
   have d3 := hid (a4.out.trans (f2.mono a4.out.size))
   have h0 := hid (e3.out.trans (f2.mono e3.out.size))
   have f3 : Hid (Bk g9 a3.heap.size 136 #[.int .i64 b6, .int .i64 z529q1_0n, .slice z529q1_1A z529q1_1k z529q1_1c, .int .i64 z529q2_0n, .slice z529q2_1A z529q2_1k z529q2_1c, .int .i64 b7, .bool b8, .slice b9 c0 c1, .slice c2 c3 c4, .slice b0 b1 b2, .slice b3 b4 b5, .slice c5 c6 c7, .slice c8 c9 d0]) := by rw [d2]; exact Bk.new _ _ _
   obtain ⟨n7, _, _⟩ := f3.out.facts
   rw [← d2]
   clear d2 f2
   rcases Nat.lt_or_ge 4 z529q1_1k with n8 | h1
   ·go_wp2
    go_ret
    exact KP.no d3.out
   have h1 : z529q1_1k ≤ 4 := h1
   rcases Nat.lt_or_ge 4 z529q2_1k with n9 | h2
   ·go_wp2
    go_ret
    exact KP.no d3.out
   have h2 : z529q2_1k ≤ 4 := h2
   go_wp2_with fail
   refine (kR_any w _ D _ _ _ _ _ _ _ _ j2.out).mono ?_
   rintro e o0 ⟨bb, rfl, f4, d4⟩
   have d5 := hid (d3.out.trans (d4.mono d3.out.size))
   have h3 := hid (h0.out.trans (d4.mono h0.out.size))
   have f5 := hid (f3.out.below d4 f3.out.lt)
   obtain ⟨o1, _, _⟩ := f5.out.facts
   clear d4
   rcases bb with _ | _
   ·clear f4
    go_wp2
    go_ret
    exact KP.no d5.out
   have HT1 := hid (f4 rfl)
   clear f4
   go_wp2_with fail
   refine ((show Calls _ _ #[.agg #[.slice b0 b1 b2, .slice b3 b4 b5]] _ _ from kMono_any n w _ D [.slice b0 b1 b2, .slice b3 b4 b5] _ g8.out (HW.out.trans (d5.out.mono HW.out.size)))).mono ?_
   rintro e o2 ⟨bb, rfl, f6, d6⟩
   have d7 := hid (d5.out.trans (d6.mono d5.out.size))
   have h4 := hid (h3.out.trans (d6.mono h3.out.size))
   have f7 := hid (f5.out.below d6 f5.out.lt)
   obtain ⟨o3, _, _⟩ := f7.out.facts
   clear d6
   rcases bb with _ | _
   ·clear f6
    go_wp2
    go_ret
    exact KP.no d7.out
   have HT2 := hid (f6 rfl)
   clear f6
   go_wp2_with fail
   refine (kRs_any n w _ D _ _ _ _ 12 (by omega) j3.out (HW.out.trans (d7.out.mono HW.out.size))).mono ?_
   rintro e o4 ⟨bb, rfl, f8, d8⟩
   have d9 := hid (d7.out.trans (d8.mono d7.out.size))
   have h5 := hid (h4.out.trans (d8.mono h4.out.size))
   have f9 := hid (f7.out.below d8 f7.out.lt)
   obtain ⟨o5, _, _⟩ := f9.out.facts
   clear d8
   rcases bb with _ | _
   ·clear f8
    go_wp2
    go_ret
    exact KP.no d9.out
   have HT3 := hid (f8 rfl)
   clear f8
   go_wp2_with fail
   refine (kRs_any n w _ D _ _ _ _ 12 (by omega) j4.out (HW.out.trans (d9.out.mono HW.out.size))).mono ?_
   rintro e o6 ⟨bb, rfl, g0, e0⟩
   have k9 := hid (d9.out.trans (e0.mono d9.out.size))
   have h6 := hid (h5.out.trans (e0.mono h5.out.size))
   have l0 := hid (f9.out.below e0 f9.out.lt)
   obtain ⟨o7, _, _⟩ := l0.out.facts
   clear e0
   rcases bb with _ | _
   ·clear g0
    go_wp2
    go_ret
    exact KP.no k9.out
   have HT4 := hid (g0 rfl)
   clear g0
   have h7 : Hid (∀ j, j < a0 + 1 → Rep w D (axuS n) (e1 j) [d1 j] ∧ (d1 j).length ≤ 5394) := fun j hj => by
    rcases Nat.lt_or_ge j a0 with h | h
    ·exact e2.out j h
    ·obtain rfl : j = a0 := by omega
     first | rw [j5.out, g6.out] | rw [g6.out]
     have q0 := ax_len g7.out (by assumption) (by assumption)
     have q1 := HT1.out.2
     have q2 := HT2.out
     have q3 := HT3.out.2
     have q4 := HT4.out.2
     exact ⟨Rep.re5 g7.out HT1.out.1 g8.out HT3.out.1 HT4.out.1, st5_le (by omega)⟩
   go_wp2
   go_roundw
   case rel => first | exact ⟨a0 + 1, by omega, by go_num, h7, h6⟩ | ((repeat apply Exists.intro); exact ⟨⟨a0 + 1, by omega, by go_num, h7, h6⟩, rfl⟩)
   case measure => simp [intOf]; omega
  obtain rfl : a0 = k := by omega
  go_wp2
  go_ret
  exact KP.yes (⟨Rep.relist (sz_axiomUse.trans szB_axiomUse.symm) j0 g1 g4.out (fun j hj => (e2.out j hj).1), par_len_le hkm fun j hj => (e2.out j hj).2⟩) a4.out
 ·have hkm' : 3 < k := by omega
  go_enter Tryz.func19, Tryz.ntmps19
  go_wp2
  go_ret
  exact KP.no HB0.out
end Go.Proofs.YtpbdkkoanedimaaGreatDoor
