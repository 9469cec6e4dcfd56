/-
 Which certificates are looked at (printed by kgen.py).
-/
import Derived.Test.YtpbdkkoanedimaaGreatDoorHKg
namespace Go.Proofs.YtpbdkkoanedimaaGreatDoor
open Go.Lib (hid)
open Go.RowKit AC
set_option linter.unusedVariables false
set_option linter.unusedSimpArgs false
section
variable {w : World} {D : Nat → Prop}
theorem Rep.re6 {s1 s2 s3 s4 s5 s6 : Shape} {l1 l2 l3 l4 l5 l6 : List Value} {t1 t2 t3 t4 t5 t6 : List UInt8} (h1 : Rep w D s1 l1 [t1]) (h2 : Rep w D s2 l2 [t2]) (h3 : Rep w D s3 l3 [t3]) (h4 : Rep w D s4 l4 [t4]) (h5 : Rep w D s5 l5 [t5]) (h6 : Rep w D s6 l6 [t6]) : Rep w D (.st (.and s1 (.and s2 (.and s3 (.and s4 (.and s5 (.and s6 .fin))))))) (l1 ++ (l2 ++ (l3 ++ (l4 ++ (l5 ++ (l6 ++ [])))))) [par (fun i => [t1, t2, t3, t4, t5, t6].getD i []) 6] :=
 ⟨[t1, t2, t3, t4, t5, t6], rfl, l1, _, t1, _, rfl, rfl, h1, l2, _, t2, _, rfl, rfl, h2, l3, _, t3, _, rfl, rfl, h3, l4, _, t4, _, rfl, rfl, h4, l5, _, t5, _, rfl, rfl, h5, l6, _, t6, _, rfl, rfl, h6, rfl, rfl⟩
theorem Rep.re11 {s1 s2 s3 s4 s5 s6 s7 s8 s9 s10 s11 : Shape} {l1 l2 l3 l4 l5 l6 l7 l8 l9 l10 l11 : List Value} {t1 t2 t3 t4 t5 t6 t7 t8 t9 t10 t11 : List UInt8} (h1 : Rep w D s1 l1 [t1]) (h2 : Rep w D s2 l2 [t2]) (h3 : Rep w D s3 l3 [t3]) (h4 : Rep w D s4 l4 [t4]) (h5 : Rep w D s5 l5 [t5]) (h6 : Rep w D s6 l6 [t6]) (h7 : Rep w D s7 l7 [t7]) (h8 : Rep w D s8 l8 [t8]) (h9 : Rep w D s9 l9 [t9]) (h10 : Rep w D s10 l10 [t10]) (h11 : Rep w D s11 l11 [t11]) : Rep w D (.st (.and s1 (.and s2 (.and s3 (.and s4 (.and s5 (.and s6 (.and s7 (.and s8 (.and s9 (.and s10 (.and s11 .fin)))))))))))) (l1 ++ (l2 ++ (l3 ++ (l4 ++ (l5 ++ (l6 ++ (l7 ++ (l8 ++ (l9 ++ (l10 ++ (l11 ++ []))))))))))) [par (fun i => [t1, t2, t3, t4, t5, t6, t7, t8, t9, t10, t11].getD i []) 11] :=
 ⟨[t1, t2, t3, t4, t5, t6, t7, t8, t9, t10, t11], rfl, l1, _, t1, _, rfl, rfl, h1, l2, _, t2, _, rfl, rfl, h2, l3, _, t3, _, rfl, rfl, h3, l4, _, t4, _, rfl, rfl, h4, l5, _, t5, _, rfl, rfl, h5, l6, _, t6, _, rfl, rfl, h6, l7, _, t7, _, rfl, rfl, h7, l8, _, t8, _, rfl, rfl, h8, l9, _, t9, _, rfl, rfl, h9, l10, _, t10, _, rfl, rfl, h10, l11, _, t11, _, rfl, rfl, h11, rfl, rfl⟩
theorem st6_le {t1 t2 t3 t4 t5 t6 : List UInt8} {N : Nat} (h : t1.length + t2.length + t3.length + t4.length + t5.length + t6.length + 7 ≤ N) : (par (fun i => [t1, t2, t3, t4, t5, t6].getD i []) [t1, t2, t3, t4, t5, t6].length).length ≤ N := by
 have e : (par (fun i => [t1, t2, t3, t4, t5, t6].getD i []) [t1, t2, t3, t4, t5, t6].length).length = t1.length + t2.length + t3.length + t4.length + t5.length + t6.length + 7 := by simp [par, body]; omega
 rw [e]; exact h
theorem st11_le {t1 t2 t3 t4 t5 t6 t7 t8 t9 t10 t11 : List UInt8} {N : Nat} (h : t1.length + t2.length + t3.length + t4.length + t5.length + t6.length + t7.length + t8.length + t9.length + t10.length + t11.length + 12 ≤ N) : (par (fun i => [t1, t2, t3, t4, t5, t6, t7, t8, t9, t10, t11].getD i []) [t1, t2, t3, t4, t5, t6, t7, t8, t9, t10, t11].length).length ≤ N := by
 have e : (par (fun i => [t1, t2, t3, t4, t5, t6, t7, t8, t9, t10, t11].getD i []) [t1, t2, t3, t4, t5, t6, t7, t8, t9, t10, t11].length).length = t1.length + t2.length + t3.length + t4.length + t5.length + t6.length + t7.length + t8.length + t9.length + t10.length + t11.length + 12 := by simp [par, body]; omega
 rw [e]; exact h
theorem metric_len {A A' : Option Addr} {k c k' c' : Nat} {t : List UInt8} (h : Rep w D metricS [.slice A k c, .slice A' k' c'] [t]) (hk : k ≤ 40) (hk' : k' ≤ 40) : t.length ≤ 1767 := by
 obtain ⟨l1, l2, t1, t2, hv, rfl, h1, h2⟩ := h.un2
 obtain ⟨B, m, d, rfl⟩ := ty_list h1.ty
 obtain ⟨B', m', d', rfl⟩ := ty_list h2.ty
 injection hv with e1 hv
 injection hv with e2 _
 injection e1 with _ e1 _
 injection e2 with _ e2 _
 have q1 := h1.list_len (n := 40) (by omega) (M := 21) fun v t h => h.int_len
 have q2 := h2.list_len (n := 40) (by omega) (M := 21) fun v t h => h.int_len
 rw [par2_len]
 omega
end
set_option maxHeartbeats 4000000 in
set_option maxRecDepth 100000 in
theorem kept_any (n : Nat) (w W : World) (D : Nat → Prop) (v : List Value) (t : List UInt8)  (h : Rep w D (certB n) v [t]) (hW : Below w.heap.size w W) :
 Calls Tryz.prog 7 #[.agg v.toArray] W (KP (Rep w D (certS n) v [t] ∧ t.length ≤ 100000000) W) := by
 have HW := hid hW
 clear hW
 have HB0 := hid (Below.refl W.heap.size W)
 obtain ⟨_, s7, X6, _, X7, _, rfl, rfl, s8, X8, _, X9, _, rfl, rfl, s9, Y0, _, Y1, _, rfl, rfl, t0, Y2, _, Y3, _, rfl, rfl, t1, Y4, _, Y5, _, rfl, rfl, t2, Y6, _, Y7, _, rfl, rfl, t3, rfl, rfl⟩ := h
 injection s7 with s7 _
 obtain ⟨t4, rfl⟩ := ty_bool s8.ty
 obtain ⟨t5, m4, t6, t7, m5, t8, rfl⟩ := ty_metric s9.ty
 obtain ⟨t9, v0, v1, rfl⟩ := ty_list t0.ty
 obtain ⟨m6, m7, m8, m9, n0, n1, n2, n3, n4, rfl⟩ := ty_flow t1.ty
 obtain ⟨v2, c7, v3, rfl⟩ := ty_list t2.ty
 obtain ⟨v4, n5, v5, rfl⟩ := ty_list t3.ty
 subst s7
 have G0 := hid s8
 clear s8
 have G1 := hid s9
 clear s9
 have G2 := hid t0
 clear t0
 have G3 := hid t1
 clear t1
 have P4 := hid t2
 clear t2
 have G4 := hid t3
 clear t3
 show Calls Tryz.prog 7 #[.agg #[.bool t4, .slice t5 m4 t6, .slice t7 m5 t8, .slice t9 v0 v1, .slice m6 m7 m8, .slice m9 n0 n1, .slice n2 n3 n4, .slice v2 c7 v3, .slice v4 n5 v5]] W _
 go_enter Tryz.func7, Tryz.ntmps7
 go_upto_region 1 with (fail)
 obtain ⟨C, hC⟩ : ∃ C, C = W.alloc (.cells #[.bool t4, .slice t5 m4 t6, .slice t7 m5 t8, .slice t9 v0 v1, .slice m6 m7 m8, .slice m9 n0 n1, .slice n2 n3 n4, .slice v2 c7 v3, .slice v4 n5 v5] 33) := ⟨_, rfl⟩
 have hbC : Below W.heap.size W C := by rw [hC]; exact (Below.refl _ _).alloc (Nat.le_refl _) _
 have n6 := hid (HB0.out.trans (hbC.mono HB0.out.size))
 have v6 : Hid (Bk C W.heap.size 33 #[.bool t4, .slice t5 m4 t6, .slice t7 m5 t8, .slice t9 v0 v1, .slice m6 m7 m8, .slice m9 n0 n1, .slice n2 n3 n4, .slice v2 c7 v3, .slice v4 n5 v5]) := by rw [hC]; exact Bk.new _ _ _
 obtain ⟨Y8, _, _⟩ := v6.out.facts
 rw [← hC]
 clear hC hbC
 rcases Nat.lt_or_ge 4 c7 with Y9 | G5
 ·go_wp2
  go_ret
  exact KP.no n6.out
 have G5 : c7 ≤ 4 := G5
 rcases Nat.lt_or_ge 6 n5 with Z0 | G6
 ·go_wp2
  go_ret
  exact KP.no n6.out
 have G6 : n5 ≤ 6 := G6
 go_wp2_with fail
 refine (kTb_any n w _ D _ _ _ _ 4 (by omega) G2.out (HW.out.trans (n6.out.mono HW.out.size))).mono ?_
 rintro e Z1 ⟨bb, rfl, v7, v8⟩
 have p8 := hid (n6.out.trans (v8.mono n6.out.size))
 have v9 := hid (v6.out.below v8 v6.out.lt)
 obtain ⟨Z2, _, _⟩ := v9.out.facts
 clear v8
 rcases bb with _ | _
 ·clear v7
  go_wp2
  go_ret
  exact KP.no p8.out
 have HK1 := hid (v7 rfl)
 clear v7
 go_wp2_with fail
 refine ((show Calls _ _ #[.agg #[.slice m6 m7 m8, .slice m9 n0 n1, .slice n2 n3 n4], _] _ _ from kFlow_any n w _ D [.slice m6 m7 m8, .slice m9 n0 n1, .slice n2 n3 n4] _ G3.out (HW.out.trans (p8.out.mono HW.out.size)))).mono ?_
 rintro e G7 ⟨bb, rfl, w0, w1⟩
 have n7 := hid (p8.out.trans (w1.mono p8.out.size))
 have w2 := hid (v9.out.below w1 v9.out.lt)
 obtain ⟨Z3, _, _⟩ := w2.out.facts
 clear w1
 rcases bb with _ | _
 ·clear w0
  go_wp2
  go_ret
  exact KP.no n7.out
 have HK2 := hid (w0 rfl)
 clear w0
 rcases Nat.lt_or_ge 40 m4 with Z4 | G8
 ·go_wp2
  go_ret
  exact KP.no n7.out
 have G8 : m4 ≤ 40 := G8
 rcases Nat.lt_or_ge 40 m5 with Z5 | G9
 ·go_wp2
  go_ret
  exact KP.no n7.out
 have G9 : m5 ≤ 40 := G9
 obtain ⟨w3, n8, P5, P6, H0, H1, H2⟩ := P4.out.unlist
 subst P5
 unfold maxLen at H0
 have H3 := hid H1
 have P7 := hid H2
 clear H1 H2
 go_wp2
 go_loopw [52] (fun iv wr => ∃ (i : Nat), i ≤ c7 ∧ iv = .int .i64 i ∧ Hid (∀ j, j < i → Rep w D (nodeS n) (w3 j) [n8 j] ∧ (n8 j).length ≤ 190000) ∧ Hid (Below G7.heap.size G7 wr)) (fun iv _ => c7 - (intOf iv).toNat)
 case atStart => exact ⟨0, by omega, rfl, (fun j hj => absurd hj (by omega)), Below.refl _ _⟩
 obtain ⟨a0, Z6, rfl, H4, w4⟩ := hrel
 obtain ⟨b1, hwr⟩ : ∃ w : World, w = wr := ⟨_, rfl⟩
 subst hwr
 have w5 := w4.out
 have b2 := hid (n7.out.trans (w5.mono n7.out.size))
 have w6 := hid (w2.out.below w5 w2.out.lt)
 obtain ⟨Z7, _, _⟩ := w6.out.facts
 clear w5
 by_cases b4 : a0 < c7
 ·obtain ⟨a1, a2, hAx, _, c4, b5⟩ := H3.out (by omega)
  subst hAx
  have w7 := P7.out a0 b4
  obtain ⟨Z8, b3⟩ : ∃ u, w3 a0 = u := ⟨_, rfl⟩
  rw [b3] at w7
  have b6 : Shape.sz (nodeB n) = 11 := szB_node
  obtain ⟨Z9, w8⟩ : ∃ t, n8 a0 = t := ⟨_, rfl⟩
  rw [w8] at w7
  have H5 := hid w8
  clear w8
  obtain ⟨_, w9, aa0, _, aa1, _, rfl, rfl, x0, aa2, _, aa3, _, rfl, rfl, x1, aa4, _, aa5, _, rfl, rfl, x2, aa6, _, aa7, _, rfl, rfl, x3, aa8, _, aa9, _, rfl, rfl, x4, ab0, _, ab1, _, rfl, rfl, x5, ab2, _, ab3, _, rfl, rfl, x6, ab4, _, ab5, _, rfl, rfl, x7, ab6, _, ab7, _, rfl, rfl, x8, ab8, _, ab9, _, rfl, rfl, x9, ac0, _, ac1, _, rfl, rfl, y0, rfl, rfl⟩ := w7
  injection w9 with w9 _
  obtain ⟨g0, rfl⟩ := ty_int x0.ty
  obtain ⟨g1, rfl⟩ := ty_int x1.ty
  obtain ⟨g2, rfl⟩ := ty_bool x2.ty
  obtain ⟨g3, g4, g5, rfl⟩ := ty_list x3.ty
  obtain ⟨g6, g7, g8, rfl⟩ := ty_list x4.ty
  obtain ⟨g9, b7, h0, rfl⟩ := ty_list x5.ty
  obtain ⟨h1, b8, h2, rfl⟩ := ty_list x6.ty
  obtain ⟨h3, h4, h5, rfl⟩ := ty_list x7.ty
  obtain ⟨h6, d3, h7, rfl⟩ := ty_list x8.ty
  obtain ⟨h8, j0, j1, rfl⟩ := ty_list x9.ty
  obtain ⟨j2, b9, j3, rfl⟩ := ty_list y0.ty
  subst w9
  have H6 := hid x0
  clear x0
  have H7 := hid x1
  clear x1
  have H8 := hid x2
  clear x2
  have P8 := hid x3
  clear x3
  have P9 := hid x4
  clear x4
  have Q0 := hid x5
  clear x5
  have Q1 := hid x6
  clear x6
  have Q2 := hid x7
  clear x7
  have H9 := hid x8
  clear x8
  have Q3 := hid x9
  clear x9
  have Q4 := hid y0
  clear y0
  have Q5 := hid b3
  have Q6 : Hid (w.cell? ⟨a1, a2 + a0 * 11, none⟩ = some (.int .i64 g0)) := by
   have h9 := b5 a0 b4 0 (.int .i64 g0) (by rw [b3]; rfl)
   rw [b6] at h9
   show w.cell? ⟨a1, a2 + a0 * 11, none⟩ = some (.int .i64 g0)
   simpa using h9
  have ac2 : b1.cell? ⟨a1, a2 + a0 * 11, none⟩ = some (.int .i64 g0) := ((HW.out.trans (b2.out.mono HW.out.size)).cell (p := ⟨a1, a2 + a0 * 11, none⟩) c4).trans Q6.out
  have Q7 : Hid (w.cell? ⟨a1, a2 + a0 * 11 + 1, none⟩ = some (.int .i64 g1)) := by
   have h9 := b5 a0 b4 1 (.int .i64 g1) (by rw [b3]; rfl)
   rw [b6] at h9
   show w.cell? ⟨a1, a2 + a0 * 11 + 1, none⟩ = some (.int .i64 g1)
   exact h9
  have ac3 : b1.cell? ⟨a1, a2 + a0 * 11 + 1, none⟩ = some (.int .i64 g1) := ((HW.out.trans (b2.out.mono HW.out.size)).cell (p := ⟨a1, a2 + a0 * 11 + 1, none⟩) c4).trans Q7.out
  have Q8 : Hid (w.cell? ⟨a1, a2 + a0 * 11 + 2, none⟩ = some (.bool g2)) := by
   have h9 := b5 a0 b4 2 (.bool g2) (by rw [b3]; rfl)
   rw [b6] at h9
   show w.cell? ⟨a1, a2 + a0 * 11 + 2, none⟩ = some (.bool g2)
   exact h9
  have ac4 : b1.cell? ⟨a1, a2 + a0 * 11 + 2, none⟩ = some (.bool g2) := ((HW.out.trans (b2.out.mono HW.out.size)).cell (p := ⟨a1, a2 + a0 * 11 + 2, none⟩) c4).trans Q8.out
  have Q9 : Hid (w.cell? ⟨a1, a2 + a0 * 11 + 3, none⟩ = some (.slice g3 g4 g5)) := by
   have h9 := b5 a0 b4 3 (.slice g3 g4 g5) (by rw [b3]; rfl)
   rw [b6] at h9
   show w.cell? ⟨a1, a2 + a0 * 11 + 3, none⟩ = some (.slice g3 g4 g5)
   exact h9
  have ac5 : b1.cell? ⟨a1, a2 + a0 * 11 + 3, none⟩ = some (.slice g3 g4 g5) := ((HW.out.trans (b2.out.mono HW.out.size)).cell (p := ⟨a1, a2 + a0 * 11 + 3, none⟩) c4).trans Q9.out
  have R0 : Hid (w.cell? ⟨a1, a2 + a0 * 11 + 4, none⟩ = some (.slice g6 g7 g8)) := by
   have h9 := b5 a0 b4 4 (.slice g6 g7 g8) (by rw [b3]; rfl)
   rw [b6] at h9
   show w.cell? ⟨a1, a2 + a0 * 11 + 4, none⟩ = some (.slice g6 g7 g8)
   exact h9
  have ac6 : b1.cell? ⟨a1, a2 + a0 * 11 + 4, none⟩ = some (.slice g6 g7 g8) := ((HW.out.trans (b2.out.mono HW.out.size)).cell (p := ⟨a1, a2 + a0 * 11 + 4, none⟩) c4).trans R0.out
  have R1 : Hid (w.cell? ⟨a1, a2 + a0 * 11 + 5, none⟩ = some (.slice g9 b7 h0)) := by
   have h9 := b5 a0 b4 5 (.slice g9 b7 h0) (by rw [b3]; rfl)
   rw [b6] at h9
   show w.cell? ⟨a1, a2 + a0 * 11 + 5, none⟩ = some (.slice g9 b7 h0)
   exact h9
  have ac7 : b1.cell? ⟨a1, a2 + a0 * 11 + 5, none⟩ = some (.slice g9 b7 h0) := ((HW.out.trans (b2.out.mono HW.out.size)).cell (p := ⟨a1, a2 + a0 * 11 + 5, none⟩) c4).trans R1.out
  have R2 : Hid (w.cell? ⟨a1, a2 + a0 * 11 + 6, none⟩ = some (.slice h1 b8 h2)) := by
   have h9 := b5 a0 b4 6 (.slice h1 b8 h2) (by rw [b3]; rfl)
   rw [b6] at h9
   show w.cell? ⟨a1, a2 + a0 * 11 + 6, none⟩ = some (.slice h1 b8 h2)
   exact h9
  have ac8 : b1.cell? ⟨a1, a2 + a0 * 11 + 6, none⟩ = some (.slice h1 b8 h2) := ((HW.out.trans (b2.out.mono HW.out.size)).cell (p := ⟨a1, a2 + a0 * 11 + 6, none⟩) c4).trans R2.out
  have R3 : Hid (w.cell? ⟨a1, a2 + a0 * 11 + 7, none⟩ = some (.slice h3 h4 h5)) := by
   have h9 := b5 a0 b4 7 (.slice h3 h4 h5) (by rw [b3]; rfl)
   rw [b6] at h9
   show w.cell? ⟨a1, a2 + a0 * 11 + 7, none⟩ = some (.slice h3 h4 h5)
   exact h9
  have ac9 : b1.cell? ⟨a1, a2 + a0 * 11 + 7, none⟩ = some (.slice h3 h4 h5) := ((HW.out.trans (b2.out.mono HW.out.size)).cell (p := ⟨a1, a2 + a0 * 11 + 7, none⟩) c4).trans R3.out
  have R4 : Hid (w.cell? ⟨a1, a2 + a0 * 11 + 8, none⟩ = some (.slice h6 d3 h7)) := by
   have h9 := b5 a0 b4 8 (.slice h6 d3 h7) (by rw [b3]; rfl)
   rw [b6] at h9
   show w.cell? ⟨a1, a2 + a0 * 11 + 8, none⟩ = some (.slice h6 d3 h7)
   exact h9
  have ad0 : b1.cell? ⟨a1, a2 + a0 * 11 + 8, none⟩ = some (.slice h6 d3 h7) := ((HW.out.trans (b2.out.mono HW.out.size)).cell (p := ⟨a1, a2 + a0 * 11 + 8, none⟩) c4).trans R4.out
  have R5 : Hid (w.cell? ⟨a1, a2 + a0 * 11 + 9, none⟩ = some (.slice h8 j0 j1)) := by
   have h9 := b5 a0 b4 9 (.slice h8 j0 j1) (by rw [b3]; rfl)
   rw [b6] at h9
   show w.cell? ⟨a1, a2 + a0 * 11 + 9, none⟩ = some (.slice h8 j0 j1)
   exact h9
  have ad1 : b1.cell? ⟨a1, a2 + a0 * 11 + 9, none⟩ = some (.slice h8 j0 j1) := ((HW.out.trans (b2.out.mono HW.out.size)).cell (p := ⟨a1, a2 + a0 * 11 + 9, none⟩) c4).trans R5.out
  have R6 : Hid (w.cell? ⟨a1, a2 + a0 * 11 + 10, none⟩ = some (.slice j2 b9 j3)) := by
   have h9 := b5 a0 b4 10 (.slice j2 b9 j3) (by rw [b3]; rfl)
   rw [b6] at h9
   show w.cell? ⟨a1, a2 + a0 * 11 + 10, none⟩ = some (.slice j2 b9 j3)
   exact h9
  have ad2 : b1.cell? ⟨a1, a2 + a0 * 11 + 10, none⟩ = some (.slice j2 b9 j3) := ((HW.out.trans (b2.out.mono HW.out.size)).cell (p := ⟨a1, a2 + a0 * 11 + 10, none⟩) c4).trans R6.out
  clear b5 b3 b6
  go_upto_region 6 with (fail)
  obtain ⟨I0, p9⟩ : ∃ W, W = b1.alloc (.cells #[.int .i64 g0, .int .i64 g1, .bool g2, .slice g3 g4 g5, .slice g6 g7 g8, .slice g9 b7 h0, .slice h1 b8 h2, .slice h3 h4 h5, .slice h6 d3 h7, .slice h8 j0 j1, .slice j2 b9 j3] 55) := ⟨_, rfl⟩
  have r0 : Below b1.heap.size b1 I0 := by rw [p9]; exact (Below.refl _ _).alloc (Nat.le_refl _) _
  have y1 := hid (b2.out.trans (r0.mono b2.out.size))
  have I1 := hid (w4.out.trans (r0.mono w4.out.size))
  have y2 := hid (w6.out.below r0 w6.out.lt)
  obtain ⟨ad3, _, _⟩ := y2.out.facts
  have y3 : Hid (Bk I0 b1.heap.size 55 #[.int .i64 g0, .int .i64 g1, .bool g2, .slice g3 g4 g5, .slice g6 g7 g8, .slice g9 b7 h0, .slice h1 b8 h2, .slice h3 h4 h5, .slice h6 d3 h7, .slice h8 j0 j1, .slice j2 b9 j3]) := by rw [p9]; exact Bk.new _ _ _
  obtain ⟨ad4, _, _⟩ := y3.out.facts
  rw [← p9]
  clear p9 r0
  go_wp2_with fail
  refine (kPoly_any n w _ D _ _ _ _ 4 (by omega) P8.out (HW.out.trans (y1.out.mono HW.out.size))).mono ?_
  rintro e ad5 ⟨bb, rfl, y4, n9⟩
  have r1 := hid (y1.out.trans (n9.mono y1.out.size))
  have I2 := hid (I1.out.trans (n9.mono I1.out.size))
  have y5 := hid (y2.out.below n9 y2.out.lt)
  obtain ⟨ad6, _, _⟩ := y5.out.facts
  have y6 := hid (y3.out.below n9 y3.out.lt)
  obtain ⟨ad7, _, _⟩ := y6.out.facts
  clear n9
  rcases bb with _ | _
  ·clear y4
   go_wp2
   go_ret
   exact KP.no r1.out
  have HP1 := hid (y4 rfl)
  clear y4
  go_wp2_with fail
  refine (kPoly_any n w _ D _ _ _ _ 4 (by omega) P9.out (HW.out.trans (r1.out.mono HW.out.size))).mono ?_
  rintro e ad8 ⟨bb, rfl, y7, o0⟩
  have r2 := hid (r1.out.trans (o0.mono r1.out.size))
  have I3 := hid (I2.out.trans (o0.mono I2.out.size))
  have y8 := hid (y5.out.below o0 y5.out.lt)
  obtain ⟨ad9, _, _⟩ := y8.out.facts
  have y9 := hid (y6.out.below o0 y6.out.lt)
  obtain ⟨ae0, _, _⟩ := y9.out.facts
  clear o0
  rcases bb with _ | _
  ·clear y7
   go_wp2
   go_ret
   exact KP.no r2.out
  have HP2 := hid (y7 rfl)
  clear y7
  go_wp2_with fail
  refine (kPoly_any n w _ D _ _ _ _ 4 (by omega) Q2.out (HW.out.trans (r2.out.mono HW.out.size))).mono ?_
  rintro e ae1 ⟨bb, rfl, z0, o1⟩
  have e8 := hid (r2.out.trans (o1.mono r2.out.size))
  have I4 := hid (I3.out.trans (o1.mono I3.out.size))
  have z1 := hid (y8.out.below o1 y8.out.lt)
  obtain ⟨ae2, _, _⟩ := z1.out.facts
  have z2 := hid (y9.out.below o1 y9.out.lt)
  obtain ⟨ae3, _, _⟩ := z2.out.facts
  clear o1
  rcases bb with _ | _
  ·clear z0
   go_wp2
   go_ret
   exact KP.no e8.out
  have HP3 := hid (z0 rfl)
  clear z0
  rcases Nat.lt_or_ge 6 d3 with ae4 | I5
  ·go_wp2
   go_ret
   exact KP.no e8.out
  have I5 : d3 ≤ 6 := I5
  rcases Nat.lt_or_ge 3 b8 with ae5 | I6
  ·go_wp2
   go_ret
   exact KP.no e8.out
  have I6 : b8 ≤ 3 := I6
  rcases Nat.lt_or_ge 3 b7 with ae6 | I7
  ·go_wp2
   go_ret
   exact KP.no e8.out
  have I7 : b7 ≤ 3 := I7
  go_wp2_with fail
  refine (kRs_any n w _ D _ _ _ _ 6 (by omega) Q3.out (HW.out.trans (e8.out.mono HW.out.size))).mono ?_
  rintro e I8 ⟨bb, rfl, z3, o2⟩
  have r3 := hid (e8.out.trans (o2.mono e8.out.size))
  have I9 := hid (I4.out.trans (o2.mono I4.out.size))
  have z4 := hid (z1.out.below o2 z1.out.lt)
  obtain ⟨ae7, _, _⟩ := z4.out.facts
  have z5 := hid (z2.out.below o2 z2.out.lt)
  obtain ⟨ae8, _, _⟩ := z5.out.facts
  clear o2
  rcases bb with _ | _
  ·clear z3
   go_wp2
   go_ret
   exact KP.no r3.out
  have HP4 := hid (z3 rfl)
  clear z3
  rcases Nat.lt_or_ge 4 b9 with ae9 | J0
  ·go_wp2
   go_ret
   exact KP.no r3.out
  have J0 : b9 ≤ 4 := J0
  obtain ⟨z6, o3, R7, R8, J1, J2, J3⟩ := Q1.out.unlist
  subst R7
  unfold maxLen at J1
  have J4 := hid J2
  have R9 := hid J3
  clear J2 J3
  go_wp2
  go_loopw [105] (fun iv wr => ∃ (i : Nat), i ≤ b8 ∧ iv = .int .i64 i ∧ Hid (∀ j, j < i → Rep w D (useS n) (z6 j) [o3 j] ∧ (o3 j).length ≤ 3526) ∧ Hid (Below I8.heap.size I8 wr)) (fun iv _ => b8 - (intOf iv).toNat)
  case atStart => exact ⟨0, by omega, rfl, (fun j hj => absurd hj (by omega)), Below.refl _ _⟩
  obtain ⟨a3, af0, rfl, J5, z7⟩ := hrel
  obtain ⟨c0, hwr⟩ : ∃ w : World, w = wr := ⟨_, rfl⟩
  subst hwr
  have o4 := z7.out
  have c5 := hid (r3.out.trans (o4.mono r3.out.size))
  have r4 := hid (I9.out.trans (o4.mono I9.out.size))
  have o5 := hid (z4.out.below o4 z4.out.lt)
  obtain ⟨af1, _, _⟩ := o5.out.facts
  have o6 := hid (z5.out.below o4 z5.out.lt)
  obtain ⟨af2, _, _⟩ := o6.out.facts
  clear o4
  by_cases e9 : a3 < b8
  ·obtain ⟨a6, a7, hAx, _, j4, f0⟩ := J4.out (by omega)
   subst hAx
   have z8 := R9.out a3 e9
   obtain ⟨af3, c8⟩ : ∃ u, z6 a3 = u := ⟨_, rfl⟩
   rw [c8] at z8
   have f1 : Shape.sz (useB n) = 6 := szB_part
   obtain ⟨af4, z9⟩ : ∃ t, o3 a3 = t := ⟨_, rfl⟩
   rw [z9] at z8
   have J6 := hid z9
   clear z9
   obtain ⟨_, A0, af5, _, af6, _, rfl, rfl, A1, af7, _, af8, _, rfl, rfl, A2, af9, _, ag0, _, rfl, rfl, A3, rfl, rfl⟩ := z8
   injection A0 with A0 _
   obtain ⟨j5, rfl⟩ := ty_int A1.ty
   obtain ⟨j6, j7, j8, j9, k0, k1, k2, rfl⟩ := ty_big A2.ty
   obtain ⟨d4, d5, d6, d7, d8, d9, rfl⟩ := ty_mono A3.ty
   subst A0
   have J7 := hid A1
   clear A1
   have S0 := hid A2
   clear A2
   have J8 := hid A3
   clear A3
   have S1 := hid c8
   have S2 : Hid (w.cell? ⟨a6, a7 + a3 * 6, none⟩ = some (.int .i64 j5)) := by
    have h9 := f0 a3 e9 0 (.int .i64 j5) (by rw [c8]; rfl)
    rw [f1] at h9
    show w.cell? ⟨a6, a7 + a3 * 6, none⟩ = some (.int .i64 j5)
    simpa using h9
   have ag1 : c0.cell? ⟨a6, a7 + a3 * 6, none⟩ = some (.int .i64 j5) := ((HW.out.trans (c5.out.mono HW.out.size)).cell (p := ⟨a6, a7 + a3 * 6, none⟩) j4).trans S2.out
   have S3 : Hid (w.cell? ⟨a6, a7 + a3 * 6 + 1, none⟩ = some (.bool j6)) := by
    have h9 := f0 a3 e9 1 (.bool j6) (by rw [c8]; rfl)
    rw [f1] at h9
    show w.cell? ⟨a6, a7 + a3 * 6 + 1, none⟩ = some (.bool j6)
    exact h9
   have ag2 : c0.cell? ⟨a6, a7 + a3 * 6 + 1, none⟩ = some (.bool j6) := ((HW.out.trans (c5.out.mono HW.out.size)).cell (p := ⟨a6, a7 + a3 * 6 + 1, none⟩) j4).trans S3.out
   have S4 : Hid (w.cell? ⟨a6, a7 + a3 * 6 + 2, none⟩ = some (.slice j7 j8 j9)) := by
    have h9 := f0 a3 e9 2 (.slice j7 j8 j9) (by rw [c8]; rfl)
    rw [f1] at h9
    show w.cell? ⟨a6, a7 + a3 * 6 + 2, none⟩ = some (.slice j7 j8 j9)
    exact h9
   have ag3 : c0.cell? ⟨a6, a7 + a3 * 6 + 2, none⟩ = some (.slice j7 j8 j9) := ((HW.out.trans (c5.out.mono HW.out.size)).cell (p := ⟨a6, a7 + a3 * 6 + 2, none⟩) j4).trans S4.out
   have S5 : Hid (w.cell? ⟨a6, a7 + a3 * 6 + 3, none⟩ = some (.slice k0 k1 k2)) := by
    have h9 := f0 a3 e9 3 (.slice k0 k1 k2) (by rw [c8]; rfl)
    rw [f1] at h9
    show w.cell? ⟨a6, a7 + a3 * 6 + 3, none⟩ = some (.slice k0 k1 k2)
    exact h9
   have ag4 : c0.cell? ⟨a6, a7 + a3 * 6 + 3, none⟩ = some (.slice k0 k1 k2) := ((HW.out.trans (c5.out.mono HW.out.size)).cell (p := ⟨a6, a7 + a3 * 6 + 3, none⟩) j4).trans S5.out
   have S6 : Hid (w.cell? ⟨a6, a7 + a3 * 6 + 4, none⟩ = some (.slice d4 d5 d6)) := by
    have h9 := f0 a3 e9 4 (.slice d4 d5 d6) (by rw [c8]; rfl)
    rw [f1] at h9
    show w.cell? ⟨a6, a7 + a3 * 6 + 4, none⟩ = some (.slice d4 d5 d6)
    exact h9
   have ag5 : c0.cell? ⟨a6, a7 + a3 * 6 + 4, none⟩ = some (.slice d4 d5 d6) := ((HW.out.trans (c5.out.mono HW.out.size)).cell (p := ⟨a6, a7 + a3 * 6 + 4, none⟩) j4).trans S6.out
   have S7 : Hid (w.cell? ⟨a6, a7 + a3 * 6 + 5, none⟩ = some (.slice d7 d8 d9)) := by
    have h9 := f0 a3 e9 5 (.slice d7 d8 d9) (by rw [c8]; rfl)
    rw [f1] at h9
    show w.cell? ⟨a6, a7 + a3 * 6 + 5, none⟩ = some (.slice d7 d8 d9)
    exact h9
   have ag6 : c0.cell? ⟨a6, a7 + a3 * 6 + 5, none⟩ = some (.slice d7 d8 d9) := ((HW.out.trans (c5.out.mono HW.out.size)).cell (p := ⟨a6, a7 + a3 * 6 + 5, none⟩) j4).trans S7.out
   clear f0 c8 f1
   go_upto_region 11 with (fail)
   obtain ⟨J9, r5⟩ : ∃ W, W = c0.alloc (.cells #[.int .i64 j5, .bool j6, .slice j7 j8 j9, .slice k0 k1 k2, .slice d4 d5 d6, .slice d7 d8 d9] 66) := ⟨_, rfl⟩
   have k3 : Below c0.heap.size c0 J9 := by rw [r5]; exact (Below.refl _ _).alloc (Nat.le_refl _) _
   have A4 := hid (c5.out.trans (k3.mono c5.out.size))
   have K0 := hid (r4.out.trans (k3.mono r4.out.size))
   have K1 := hid (z7.out.trans (k3.mono z7.out.size))
   have A5 := hid (o5.out.below k3 o5.out.lt)
   obtain ⟨ag7, _, _⟩ := A5.out.facts
   have A6 := hid (o6.out.below k3 o6.out.lt)
   obtain ⟨ag8, _, _⟩ := A6.out.facts
   have A7 : Hid (Bk J9 c0.heap.size 66 #[.int .i64 j5, .bool j6, .slice j7 j8 j9, .slice k0 k1 k2, .slice d4 d5 d6, .slice d7 d8 d9]) := by rw [r5]; exact Bk.new _ _ _
   obtain ⟨ag9, _, _⟩ := A7.out.facts
   rw [← r5]
   clear r5 k3
   go_wp2_with fail
   refine ((show Calls _ _ #[.agg #[.slice d4 d5 d6, .slice d7 d8 d9]] _ _ from kMono_any n w _ D [.slice d4 d5 d6, .slice d7 d8 d9] _ J8.out (HW.out.trans (A4.out.mono HW.out.size)))).mono ?_
   rintro e ah0 ⟨bb, rfl, A8, f2⟩
   have A9 := hid (A4.out.trans (f2.mono A4.out.size))
   have K2 := hid (K0.out.trans (f2.mono K0.out.size))
   have K3 := hid (K1.out.trans (f2.mono K1.out.size))
   have B0 := hid (A5.out.below f2 A5.out.lt)
   obtain ⟨ah1, _, _⟩ := B0.out.facts
   have B1 := hid (A6.out.below f2 A6.out.lt)
   obtain ⟨ah2, _, _⟩ := B1.out.facts
   have B2 := hid (A7.out.below f2 A7.out.lt)
   obtain ⟨ah3, _, _⟩ := B2.out.facts
   clear f2
   rcases bb with _ | _
   ·clear A8
    go_wp2
    go_ret
    exact KP.no A9.out
   have HV1 := hid (A8 rfl)
   clear A8
   go_wp2_with fail
   refine (kR_any w _ D _ _ _ _ _ _ _ _ S0.out).mono ?_
   rintro e ah4 ⟨bb, rfl, B3, f3⟩
   have S8 := hid (A9.out.trans (f3.mono A9.out.size))
   have ah5 := hid (K2.out.trans (f3.mono K2.out.size))
   have K4 := hid (K3.out.trans (f3.mono K3.out.size))
   have S9 := hid (B0.out.below f3 B0.out.lt)
   obtain ⟨ah6, _, _⟩ := S9.out.facts
   have T0 := hid (B1.out.below f3 B1.out.lt)
   obtain ⟨ah7, _, _⟩ := T0.out.facts
   have T1 := hid (B2.out.below f3 B2.out.lt)
   obtain ⟨ah8, _, _⟩ := T1.out.facts
   clear f3
   rcases bb with _ | _
   ·clear B3
    go_wp2
    go_ret
    exact KP.no S8.out
   have HV2 := hid (B3 rfl)
   clear B3
   have K5 : Hid (∀ j, j < a3 + 1 → Rep w D (useS n) (z6 j) [o3 j] ∧ (o3 j).length ≤ 3526) := fun j hj => by
    rcases Nat.lt_or_ge j a3 with h | h
    ·exact J5.out j h
    ·obtain rfl : j = a3 := by omega
     first | rw [S1.out, J6.out] | rw [J6.out]
     have q0 := J7.out.int_len
     have q1 := HV1.out
     have q2 := HV2.out.2
     exact ⟨Rep.re3 J7.out HV2.out.1 J8.out, st3_le (by omega)⟩
   go_wp2
   go_roundw
   case rel => first | exact ⟨a3 + 1, by omega, by go_num, K5, K4⟩ | ((repeat apply Exists.intro); exact ⟨⟨a3 + 1, by omega, by go_num, K5, K4⟩, rfl⟩)
   case measure => simp [intOf]; omega
  obtain rfl : a3 = b8 := by omega
  have HF1 := hid J5.out
  obtain ⟨B4, o7, T2, T3, K6, K7, K8⟩ := Q0.out.unlist
  subst T2
  unfold maxLen at K6
  have K9 := hid K7
  have T4 := hid K8
  clear K7 K8
  go_wp2
  go_loopw [123] (fun iv wr => ∃ (i : Nat), i ≤ b7 ∧ iv = .int .i64 i ∧ Hid (∀ j, j < i → Rep w D (targetS n) (B4 j) [o7 j] ∧ (o7 j).length ≤ 21125) ∧ Hid (Below c0.heap.size c0 wr)) (fun iv _ => b7 - (intOf iv).toNat)
  case atStart => exact ⟨0, by omega, rfl, (fun j hj => absurd hj (by omega)), Below.refl _ _⟩
  obtain ⟨a5, ah9, rfl, L0, B5⟩ := hrel
  obtain ⟨c9, hwr⟩ : ∃ w : World, w = wr := ⟨_, rfl⟩
  subst hwr
  have o8 := B5.out
  have f4 := hid (c5.out.trans (o8.mono c5.out.size))
  have r6 := hid (r4.out.trans (o8.mono r4.out.size))
  have o9 := hid (o5.out.below o8 o5.out.lt)
  obtain ⟨ai0, _, _⟩ := o9.out.facts
  have p0 := hid (o6.out.below o8 o6.out.lt)
  obtain ⟨ai1, _, _⟩ := p0.out.facts
  clear o8
  by_cases r7 : a5 < b7
  ·obtain ⟨c1, c2, hAx, _, B6, r8⟩ := K9.out (by omega)
   subst hAx
   have B7 := T4.out a5 r7
   obtain ⟨ai2, k4⟩ : ∃ u, B4 a5 = u := ⟨_, rfl⟩
   rw [k4] at B7
   have r9 : Shape.sz (targetB n) = 3 := szB_target
   obtain ⟨ai3, B8⟩ : ∃ t, o7 a5 = t := ⟨_, rfl⟩
   rw [B8] at B7
   have L1 := hid B8
   clear B8
   obtain ⟨_, B9, ai4, _, ai5, _, rfl, rfl, C0, ai6, _, ai7, _, rfl, rfl, C1, ai8, _, ai9, _, rfl, rfl, C2, rfl, rfl⟩ := B7
   injection B9 with B9 _
   obtain ⟨k5, rfl⟩ := ty_int C0.ty
   obtain ⟨k6, c3, k7, rfl⟩ := ty_list C1.ty
   obtain ⟨k8, k9, l0, rfl⟩ := ty_list C2.ty
   subst B9
   have L2 := hid C0
   clear C0
   have T5 := hid C1
   clear C1
   have T6 := hid C2
   clear C2
   have T7 := hid k4
   have T8 : Hid (w.cell? ⟨c1, c2 + a5 * 3, none⟩ = some (.int .i64 k5)) := by
    have h9 := r8 a5 r7 0 (.int .i64 k5) (by rw [k4]; rfl)
    rw [r9] at h9
    show w.cell? ⟨c1, c2 + a5 * 3, none⟩ = some (.int .i64 k5)
    simpa using h9
   have aj0 : c9.cell? ⟨c1, c2 + a5 * 3, none⟩ = some (.int .i64 k5) := ((HW.out.trans (f4.out.mono HW.out.size)).cell (p := ⟨c1, c2 + a5 * 3, none⟩) B6).trans T8.out
   have T9 : Hid (w.cell? ⟨c1, c2 + a5 * 3 + 1, none⟩ = some (.slice k6 c3 k7)) := by
    have h9 := r8 a5 r7 1 (.slice k6 c3 k7) (by rw [k4]; rfl)
    rw [r9] at h9
    show w.cell? ⟨c1, c2 + a5 * 3 + 1, none⟩ = some (.slice k6 c3 k7)
    exact h9
   have aj1 : c9.cell? ⟨c1, c2 + a5 * 3 + 1, none⟩ = some (.slice k6 c3 k7) := ((HW.out.trans (f4.out.mono HW.out.size)).cell (p := ⟨c1, c2 + a5 * 3 + 1, none⟩) B6).trans T9.out
   have V0 : Hid (w.cell? ⟨c1, c2 + a5 * 3 + 2, none⟩ = some (.slice k8 k9 l0)) := by
    have h9 := r8 a5 r7 2 (.slice k8 k9 l0) (by rw [k4]; rfl)
    rw [r9] at h9
    show w.cell? ⟨c1, c2 + a5 * 3 + 2, none⟩ = some (.slice k8 k9 l0)
    exact h9
   have aj2 : c9.cell? ⟨c1, c2 + a5 * 3 + 2, none⟩ = some (.slice k8 k9 l0) := ((HW.out.trans (f4.out.mono HW.out.size)).cell (p := ⟨c1, c2 + a5 * 3 + 2, none⟩) B6).trans V0.out
   clear r8 k4 r9
   go_upto_region 17 with (fail)
   obtain ⟨L3, s0⟩ : ∃ W, W = c9.alloc (.cells #[.int .i64 k5, .slice k6 c3 k7, .slice k8 k9 l0] 71) := ⟨_, rfl⟩
   have l1 : Below c9.heap.size c9 L3 := by rw [s0]; exact (Below.refl _ _).alloc (Nat.le_refl _) _
   have s1 := hid (f4.out.trans (l1.mono f4.out.size))
   have L4 := hid (r6.out.trans (l1.mono r6.out.size))
   have L5 := hid (B5.out.trans (l1.mono B5.out.size))
   have C3 := hid (o9.out.below l1 o9.out.lt)
   obtain ⟨aj3, _, _⟩ := C3.out.facts
   have C4 := hid (p0.out.below l1 p0.out.lt)
   obtain ⟨aj4, _, _⟩ := C4.out.facts
   have C5 : Hid (Bk L3 c9.heap.size 71 #[.int .i64 k5, .slice k6 c3 k7, .slice k8 k9 l0]) := by rw [s0]; exact Bk.new _ _ _
   obtain ⟨aj5, _, _⟩ := C5.out.facts
   rw [← s0]
   clear s0 l1
   rcases Nat.lt_or_ge 3 c3 with aj6 | L6
   ·go_wp2
    go_ret
    exact KP.no s1.out
   have L6 : c3 ≤ 3 := L6
   go_wp2_with fail
   refine (kPoly_any n w _ D _ _ _ _ 3 (by omega) T6.out (HW.out.trans (s1.out.mono HW.out.size))).mono ?_
   rintro e L7 ⟨bb, rfl, C6, f5⟩
   have C7 := hid (s1.out.trans (f5.mono s1.out.size))
   have L8 := hid (L4.out.trans (f5.mono L4.out.size))
   have L9 := hid (L5.out.trans (f5.mono L5.out.size))
   have C8 := hid (C3.out.below f5 C3.out.lt)
   obtain ⟨aj7, _, _⟩ := C8.out.facts
   have C9 := hid (C4.out.below f5 C4.out.lt)
   obtain ⟨aj8, _, _⟩ := C9.out.facts
   have D0 := hid (C5.out.below f5 C5.out.lt)
   obtain ⟨aj9, _, _⟩ := D0.out.facts
   clear f5
   rcases bb with _ | _
   ·clear C6
    go_wp2
    go_ret
    exact KP.no C7.out
   have HQ1 := hid (C6 rfl)
   clear C6
   obtain ⟨D1, p1, V1, V2, M0, M1, M2⟩ := T5.out.unlist
   subst V1
   unfold maxLen at M0
   have M3 := hid M1
   have V3 := hid M2
   clear M1 M2
   go_wp2
   go_loopw [140] (fun iv wr => ∃ (i : Nat), i ≤ c3 ∧ iv = .int .i64 i ∧ Hid (∀ j, j < i → Rep w D (useS n) (D1 j) [p1 j] ∧ (p1 j).length ≤ 3526) ∧ Hid (Below L7.heap.size L7 wr)) (fun iv _ => c3 - (intOf iv).toNat)
   case atStart => exact ⟨0, by omega, rfl, (fun j hj => absurd hj (by omega)), Below.refl _ _⟩
   obtain ⟨a4, ak0, rfl, M4, D2⟩ := hrel
   obtain ⟨c6, hwr⟩ : ∃ w : World, w = wr := ⟨_, rfl⟩
   subst hwr
   have f6 := D2.out
   have e0 := hid (C7.out.trans (f6.mono C7.out.size))
   have M5 := hid (L8.out.trans (f6.mono L8.out.size))
   have s2 := hid (L9.out.trans (f6.mono L9.out.size))
   have D3 := hid (C8.out.below f6 C8.out.lt)
   obtain ⟨ak1, _, _⟩ := D3.out.facts
   have D4 := hid (C9.out.below f6 C9.out.lt)
   obtain ⟨ak2, _, _⟩ := D4.out.facts
   have D5 := hid (D0.out.below f6 D0.out.lt)
   obtain ⟨ak3, _, _⟩ := D5.out.facts
   clear f6
   by_cases f7 : a4 < c3
   ·obtain ⟨a8, a9, hAx, _, l2, f8⟩ := M3.out (by omega)
    subst hAx
    have D6 := V3.out a4 f7
    obtain ⟨ak4, d0⟩ : ∃ u, D1 a4 = u := ⟨_, rfl⟩
    rw [d0] at D6
    have f9 : Shape.sz (useB n) = 6 := szB_use
    obtain ⟨ak5, D7⟩ : ∃ t, p1 a4 = t := ⟨_, rfl⟩
    rw [D7] at D6
    have M6 := hid D7
    clear D7
    obtain ⟨_, D8, ak6, _, ak7, _, rfl, rfl, D9, ak8, _, ak9, _, rfl, rfl, E0, al0, _, al1, _, rfl, rfl, E1, rfl, rfl⟩ := D6
    injection D8 with D8 _
    obtain ⟨l3, rfl⟩ := ty_int D9.ty
    obtain ⟨l4, l5, l6, l7, l8, l9, m0, rfl⟩ := ty_big E0.ty
    obtain ⟨e1, e2, e3, e4, e5, e6, rfl⟩ := ty_mono E1.ty
    subst D8
    have M7 := hid D9
    clear D9
    have V4 := hid E0
    clear E0
    have M8 := hid E1
    clear E1
    have V5 := hid d0
    have V6 : Hid (w.cell? ⟨a8, a9 + a4 * 6, none⟩ = some (.int .i64 l3)) := by
     have h9 := f8 a4 f7 0 (.int .i64 l3) (by rw [d0]; rfl)
     rw [f9] at h9
     show w.cell? ⟨a8, a9 + a4 * 6, none⟩ = some (.int .i64 l3)
     simpa using h9
    have al2 : c6.cell? ⟨a8, a9 + a4 * 6, none⟩ = some (.int .i64 l3) := ((HW.out.trans (e0.out.mono HW.out.size)).cell (p := ⟨a8, a9 + a4 * 6, none⟩) l2).trans V6.out
    have V7 : Hid (w.cell? ⟨a8, a9 + a4 * 6 + 1, none⟩ = some (.bool l4)) := by
     have h9 := f8 a4 f7 1 (.bool l4) (by rw [d0]; rfl)
     rw [f9] at h9
     show w.cell? ⟨a8, a9 + a4 * 6 + 1, none⟩ = some (.bool l4)
     exact h9
    have al3 : c6.cell? ⟨a8, a9 + a4 * 6 + 1, none⟩ = some (.bool l4) := ((HW.out.trans (e0.out.mono HW.out.size)).cell (p := ⟨a8, a9 + a4 * 6 + 1, none⟩) l2).trans V7.out
    have V8 : Hid (w.cell? ⟨a8, a9 + a4 * 6 + 2, none⟩ = some (.slice l5 l6 l7)) := by
     have h9 := f8 a4 f7 2 (.slice l5 l6 l7) (by rw [d0]; rfl)
     rw [f9] at h9
     show w.cell? ⟨a8, a9 + a4 * 6 + 2, none⟩ = some (.slice l5 l6 l7)
     exact h9
    have al4 : c6.cell? ⟨a8, a9 + a4 * 6 + 2, none⟩ = some (.slice l5 l6 l7) := ((HW.out.trans (e0.out.mono HW.out.size)).cell (p := ⟨a8, a9 + a4 * 6 + 2, none⟩) l2).trans V8.out
    have V9 : Hid (w.cell? ⟨a8, a9 + a4 * 6 + 3, none⟩ = some (.slice l8 l9 m0)) := by
     have h9 := f8 a4 f7 3 (.slice l8 l9 m0) (by rw [d0]; rfl)
     rw [f9] at h9
     show w.cell? ⟨a8, a9 + a4 * 6 + 3, none⟩ = some (.slice l8 l9 m0)
     exact h9
    have al5 : c6.cell? ⟨a8, a9 + a4 * 6 + 3, none⟩ = some (.slice l8 l9 m0) := ((HW.out.trans (e0.out.mono HW.out.size)).cell (p := ⟨a8, a9 + a4 * 6 + 3, none⟩) l2).trans V9.out
    have W0 : Hid (w.cell? ⟨a8, a9 + a4 * 6 + 4, none⟩ = some (.slice e1 e2 e3)) := by
     have h9 := f8 a4 f7 4 (.slice e1 e2 e3) (by rw [d0]; rfl)
     rw [f9] at h9
     show w.cell? ⟨a8, a9 + a4 * 6 + 4, none⟩ = some (.slice e1 e2 e3)
     exact h9
    have al6 : c6.cell? ⟨a8, a9 + a4 * 6 + 4, none⟩ = some (.slice e1 e2 e3) := ((HW.out.trans (e0.out.mono HW.out.size)).cell (p := ⟨a8, a9 + a4 * 6 + 4, none⟩) l2).trans W0.out
    have W1 : Hid (w.cell? ⟨a8, a9 + a4 * 6 + 5, none⟩ = some (.slice e4 e5 e6)) := by
     have h9 := f8 a4 f7 5 (.slice e4 e5 e6) (by rw [d0]; rfl)
     rw [f9] at h9
     show w.cell? ⟨a8, a9 + a4 * 6 + 5, none⟩ = some (.slice e4 e5 e6)
     exact h9
    have al7 : c6.cell? ⟨a8, a9 + a4 * 6 + 5, none⟩ = some (.slice e4 e5 e6) := ((HW.out.trans (e0.out.mono HW.out.size)).cell (p := ⟨a8, a9 + a4 * 6 + 5, none⟩) l2).trans W1.out
    clear f8 d0 f9
    go_upto_region 22 with (fail)
    obtain ⟨M9, s3⟩ : ∃ W, W = c6.alloc (.cells #[.int .i64 l3, .bool l4, .slice l5 l6 l7, .slice l8 l9 m0, .slice e1 e2 e3, .slice e4 e5 e6] 73) := ⟨_, rfl⟩
    have e7 : Below c6.heap.size c6 M9 := by rw [s3]; exact (Below.refl _ _).alloc (Nat.le_refl _) _
    have E2 := hid (e0.out.trans (e7.mono e0.out.size))
    have N0 := hid (M5.out.trans (e7.mono M5.out.size))
    have N1 := hid (s2.out.trans (e7.mono s2.out.size))
    have N2 := hid (D2.out.trans (e7.mono D2.out.size))
    have E3 := hid (D3.out.below e7 D3.out.lt)
    obtain ⟨al8, _, _⟩ := E3.out.facts
    have E4 := hid (D4.out.below e7 D4.out.lt)
    obtain ⟨al9, _, _⟩ := E4.out.facts
    have E5 := hid (D5.out.below e7 D5.out.lt)
    obtain ⟨am0, _, _⟩ := E5.out.facts
    have E6 : Hid (Bk M9 c6.heap.size 73 #[.int .i64 l3, .bool l4, .slice l5 l6 l7, .slice l8 l9 m0, .slice e1 e2 e3, .slice e4 e5 e6]) := by rw [s3]; exact Bk.new _ _ _
    obtain ⟨am1, _, _⟩ := E6.out.facts
    rw [← s3]
    clear s3 e7
    go_wp2_with fail
    refine ((show Calls _ _ #[.agg #[.slice e1 e2 e3, .slice e4 e5 e6]] _ _ from kMono_any n w _ D [.slice e1 e2 e3, .slice e4 e5 e6] _ M8.out (HW.out.trans (E2.out.mono HW.out.size)))).mono ?_
    rintro e am2 ⟨bb, rfl, E7, d1⟩
    have E8 := hid (E2.out.trans (d1.mono E2.out.size))
    have N3 := hid (N0.out.trans (d1.mono N0.out.size))
    have N4 := hid (N1.out.trans (d1.mono N1.out.size))
    have N5 := hid (N2.out.trans (d1.mono N2.out.size))
    have E9 := hid (E3.out.below d1 E3.out.lt)
    obtain ⟨am3, _, _⟩ := E9.out.facts
    have F0 := hid (E4.out.below d1 E4.out.lt)
    obtain ⟨am4, _, _⟩ := F0.out.facts
    have F1 := hid (E5.out.below d1 E5.out.lt)
    obtain ⟨am5, _, _⟩ := F1.out.facts
    have F2 := hid (E6.out.below d1 E6.out.lt)
    obtain ⟨am6, _, _⟩ := F2.out.facts
    clear d1
    rcases bb with _ | _
    ·clear E7
     go_wp2
     go_ret
     exact KP.no E8.out
    have HU1 := hid (E7 rfl)
    clear E7
    go_wp2_with fail
    refine (kR_any w _ D _ _ _ _ _ _ _ _ V4.out).mono ?_
    rintro e am7 ⟨bb, rfl, F3, d2⟩
    have W2 := hid (E8.out.trans (d2.mono E8.out.size))
    have am8 := hid (N3.out.trans (d2.mono N3.out.size))
    have am9 := hid (N4.out.trans (d2.mono N4.out.size))
    have N6 := hid (N5.out.trans (d2.mono N5.out.size))
    have W3 := hid (E9.out.below d2 E9.out.lt)
    obtain ⟨an0, _, _⟩ := W3.out.facts
    have W4 := hid (F0.out.below d2 F0.out.lt)
    obtain ⟨an1, _, _⟩ := W4.out.facts
    have W5 := hid (F1.out.below d2 F1.out.lt)
    obtain ⟨an2, _, _⟩ := W5.out.facts
    have W6 := hid (F2.out.below d2 F2.out.lt)
    obtain ⟨an3, _, _⟩ := W6.out.facts
    clear d2
    rcases bb with _ | _
    ·clear F3
     go_wp2
     go_ret
     exact KP.no W2.out
    have HU2 := hid (F3 rfl)
    clear F3
    have N7 : Hid (∀ j, j < a4 + 1 → Rep w D (useS n) (D1 j) [p1 j] ∧ (p1 j).length ≤ 3526) := fun j hj => by
     rcases Nat.lt_or_ge j a4 with h | h
     ·exact M4.out j h
     ·obtain rfl : j = a4 := by omega
      first | rw [V5.out, M6.out] | rw [M6.out]
      have q0 := M7.out.int_len
      have q1 := HU1.out
      have q2 := HU2.out.2
      exact ⟨Rep.re3 M7.out HU2.out.1 M8.out, st3_le (by omega)⟩
    go_wp2
    go_roundw
    case rel => first | exact ⟨a4 + 1, by omega, by go_num, N7, N6⟩ | ((repeat apply Exists.intro); exact ⟨⟨a4 + 1, by omega, by go_num, N7, N6⟩, rfl⟩)
    case measure => simp [intOf]; omega
   obtain rfl : a4 = c3 := by omega
   have HQ2 := hid M4.out
   have N8 : Hid (∀ j, j < a5 + 1 → Rep w D (targetS n) (B4 j) [o7 j] ∧ (o7 j).length ≤ 21125) := fun j hj => by
    rcases Nat.lt_or_ge j a5 with h | h
    ·exact L0.out j h
    ·obtain rfl : j = a5 := by omega
     first | rw [T7.out, L1.out] | rw [L1.out]
     have q0 := L2.out.int_len
     have q1 := HQ1.out.2
     have q2 := par_len_le (show a4 ≤ 3 by omega) (fun j hj => (HQ2.out j hj).2)
     exact ⟨Rep.re3 L2.out (Rep.relist (sz_use.trans szB_use.symm) V2 M0 M3.out (fun j hj => (HQ2.out j hj).1)) HQ1.out.1, st3_le (by omega)⟩
   go_wp2
   go_roundw
   case rel => first | exact ⟨a5 + 1, by omega, by go_num, N8, s2⟩ | ((repeat apply Exists.intro); exact ⟨⟨a5 + 1, by omega, by go_num, N8, s2⟩, rfl⟩)
   case measure => simp [intOf]; omega
  obtain rfl : a5 = b7 := by omega
  have HF2 := hid L0.out
  obtain ⟨F4, p2, W7, W8, N9, O0, O1⟩ := Q4.out.unlist
  subst W7
  unfold maxLen at N9
  have O2 := hid O0
  have W9 := hid O1
  clear O0 O1
  go_wp2
  go_loopw [159] (fun iv wr => ∃ (i : Nat), i ≤ b9 ∧ iv = .int .i64 i ∧ Hid (∀ j, j < i → Rep w D (.list (axuS n)) (F4 j) [p2 j] ∧ (p2 j).length ≤ 16187) ∧ Hid (Below c9.heap.size c9 wr)) (fun iv _ => b9 - (intOf iv).toNat)
  case atStart => exact ⟨0, by omega, rfl, (fun j hj => absurd hj (by omega)), Below.refl _ _⟩
  obtain ⟨b0, an4, rfl, O3, F5⟩ := hrel
  obtain ⟨X0, hwr⟩ : ∃ w : World, w = wr := ⟨_, rfl⟩
  subst hwr
  have p3 := F5.out
  have s4 := hid (f4.out.trans (p3.mono f4.out.size))
  have s5 := hid (r6.out.trans (p3.mono r6.out.size))
  have F6 := hid (o9.out.below p3 o9.out.lt)
  obtain ⟨an5, _, _⟩ := F6.out.facts
  have F7 := hid (p0.out.below p3 p0.out.lt)
  obtain ⟨an6, _, _⟩ := F7.out.facts
  clear p3
  by_cases O4 : b0 < b9
  ·obtain ⟨m1, m2, hAx, _, O5, O6⟩ := O2.out (by omega)
   subst hAx
   have p4 := W9.out b0 O4
   obtain ⟨an7, s6⟩ : ∃ u, F4 b0 = u := ⟨_, rfl⟩
   rw [s6] at p4
   have O7 : Shape.sz (.list (axuB n)) = 1 := rfl
   obtain ⟨an8, F8⟩ : ∃ t, p2 b0 = t := ⟨_, rfl⟩
   rw [F8] at p4
   have O8 := hid F8
   clear F8
   obtain ⟨p5, p6, p7, rfl⟩ := ty_list p4.ty
   have X1 := hid p4
   clear p4
   have X2 := hid s6
   have O9 : Hid (w.cell? ⟨m1, m2 + b0, none⟩ = some (.slice p5 p6 p7)) := by
    have h9 := O6 b0 O4 0 (.slice p5 p6 p7) (by rw [s6]; rfl)
    rw [O7] at h9
    show w.cell? ⟨m1, m2 + b0, none⟩ = some (.slice p5 p6 p7)
    simpa using h9
   have an9 : X0.cell? ⟨m1, m2 + b0, none⟩ = some (.slice p5 p6 p7) := ((HW.out.trans (s4.out.mono HW.out.size)).cell (p := ⟨m1, m2 + b0, none⟩) O5).trans O9.out
   clear O6 s6 O7
   go_wp2_with fail
   refine (kProof_any n w _ D _ _ _ _ X1.out (HW.out.trans (s4.out.mono HW.out.size))).mono ?_
   rintro e X3 ⟨bb, rfl, F9, m3⟩
   have P0 := hid (s4.out.trans (m3.mono s4.out.size))
   have ao0 := hid (s5.out.trans (m3.mono s5.out.size))
   have P1 := hid (F5.out.trans (m3.mono F5.out.size))
   have X4 := hid (F6.out.below m3 F6.out.lt)
   obtain ⟨ao1, _, _⟩ := X4.out.facts
   have X5 := hid (F7.out.below m3 F7.out.lt)
   obtain ⟨ao2, _, _⟩ := X5.out.facts
   have ao3 : X3.cell? ⟨m1, m2 + b0, none⟩ = some (.slice p5 p6 p7) := ((HW.out.trans (P0.out.mono HW.out.size)).cell (p := ⟨m1, m2 + b0, none⟩) O5).trans O9.out
   clear m3
   rcases bb with _ | _
   ·clear F9
    go_wp2
    go_ret
    exact KP.no P0.out
   have HS1 := hid (F9 rfl)
   clear F9
   have P2 : Hid (∀ j, j < b0 + 1 → Rep w D (.list (axuS n)) (F4 j) [p2 j] ∧ (p2 j).length ≤ 16187) := fun j hj => by
    rcases Nat.lt_or_ge j b0 with h | h
    ·exact O3.out j h
    ·obtain rfl : j = b0 := by omega
     first | rw [X2.out, O8.out] | rw [O8.out]
     have q := HS1.out.2
     exact ⟨HS1.out.1, by omega⟩
   go_wp2
   go_roundw
   case rel => first | exact ⟨b0 + 1, by omega, by go_num, P2, P1⟩ | ((repeat apply Exists.intro); exact ⟨⟨b0 + 1, by omega, by go_num, P2, P1⟩, rfl⟩)
   case measure => simp [intOf]; omega
  obtain rfl : b0 = b9 := by omega
  have HF3 := hid O3.out
  have P3 : Hid (∀ j, j < a0 + 1 → Rep w D (nodeS n) (w3 j) [n8 j] ∧ (n8 j).length ≤ 190000) := fun j hj => by
   rcases Nat.lt_or_ge j a0 with h | h
   ·exact H4.out j h
   ·obtain rfl : j = a0 := by omega
    first | rw [Q5.out, H5.out] | rw [H5.out]
    have q0 := H6.out.int_len
    have q1 := H7.out.int_len
    have q2 := H8.out.bool_len
    have q3 := HP1.out.2
    have q4 := HP2.out.2
    have q7 := HP3.out.2
    have q9 := HP4.out.2
    have q8 := H9.out.list_len (n := 6) (by assumption) (M := 21) fun v t h => h.int_len
    have q6 := par_len_le (show a3 ≤ 3 by omega) (fun j hj => (HF1.out j hj).2)
    have q5 := par_len_le (show a5 ≤ 3 by omega) (fun j hj => (HF2.out j hj).2)
    have qa := par_len_le (show b0 ≤ 4 by omega) (fun j hj => (HF3.out j hj).2)
    exact ⟨Rep.re11 H6.out H7.out H8.out HP1.out.1 HP2.out.1 (Rep.relist (sz_target.trans szB_target.symm) T3 K6 K9.out (fun j hj => (HF2.out j hj).1)) (Rep.relist (sz_use.trans szB_use.symm) R8 J1 J4.out (fun j hj => (HF1.out j hj).1)) HP3.out.1 H9.out HP4.out.1 (Rep.relist rfl W8 N9 O2.out (fun j hj => (HF3.out j hj).1)), st11_le (by omega)⟩
  go_wp2
  go_roundw
  case rel => first | exact ⟨a0 + 1, by omega, by go_num, P3, s5⟩ | ((repeat apply Exists.intro); exact ⟨⟨a0 + 1, by omega, by go_num, P3, s5⟩, rfl⟩)
  case measure => simp [intOf]; omega
 obtain rfl : a0 = c7 := by omega
 have HK3 := hid H4.out
 go_wp2
 go_ret
 exact KP.yes (by
  have q0 := G0.out.bool_len
  have q1 := metric_len G1.out (by assumption) (by assumption)
  have q2 := HK1.out
  have q3 := HK2.out
  have q4 := par_len_le (show a0 ≤ 4 by omega) (fun j hj => (HK3.out j hj).2)
  have q5 := G4.out.list_len (n := 6) (by assumption) (M := 45) fun v t h => linTerm_len h
  exact ⟨Rep.re6 G0.out G1.out G2.out G3.out (Rep.relist (sz_node.trans szB_node.symm) P6 H0 H3.out (fun j hj => (HK3.out j hj).1)) G4.out, st6_le (by omega)⟩) b2.out
end Go.Proofs.YtpbdkkoanedimaaGreatDoor
