/-
  The walk of the law's sanity check.
-/
import Derived.Test.YtdbiedpdibjdlaaGreatMRefL
import Derived.Test.YtdbiedpdibjdlaaGreatMGuard
namespace Go.Proofs.YtdbiedpdibjdlaaGreat
open Go.RowKit AC
set_option linter.unusedVariables false
set_option linter.unusedSimpArgs false

def f4 : Nat → Int := fun i => if i = 0 then 0 else if i = 1 then 1 else if i = 2 then 3 else 6
def r4 : Nat → Rat := fun i => mkRat (f4 i) 1
theorem cut_r4 : cutQ (fun j => dif r4 j 0) 4 = 3 := by decide +kernel
theorem dif_r4 : cmpQ (dif r4 2 0) (mkRat 1 1) = 0 := by decide +kernel
theorem above_r4 : ∀ j, j < 3 → (cmpQ (evalQ r4 (j : Nat) 2) (r4 j) < 0 ↔ j = 2) := by decide +kernel
theorem f4_ok : ∀ i, i < 4 → 0 ≤ f4 i ∧ f4 i ≤ 1000000 := by decide

theorem four_cells (w : World) (t : TypeId) : ∀ i, i < 4 → ∃ b off, some (⟨w.heap.size, 0, none⟩ : Addr) = some ⟨b, off, none⟩ ∧ b < (w.alloc (.cells #[.int .i64 0, .int .i64 1, .int .i64 3, .int .i64 6] t)).heap.size ∧ (w.alloc (.cells #[.int .i64 0, .int .i64 1, .int .i64 3, .int .i64 6] t)).cell? ⟨b, off + i, none⟩ = some (.int .i64 (f4 i)) := by
  intro i hi
  refine ⟨w.heap.size, 0, rfl, by simp, ?_⟩
  rw [World.cell?_alloc_at _ _ _ _ rfl]
  rcases i with _ | _ | _ | _ | i
  · rfl
  · rfl
  · rfl
  · rfl
  · omega
theorem two_cells (w : World) (t : TypeId) : ∀ i, i < 2 → ∃ b off, some (⟨w.heap.size, 0, none⟩ : Addr) = some ⟨b, off, none⟩ ∧ b < (w.alloc (.cells #[.int .i64 0, .int .i64 1] t)).heap.size ∧ (w.alloc (.cells #[.int .i64 0, .int .i64 1] t)).cell? ⟨b, off + i, none⟩ = some (.int .i64 (f4 i)) := by
  intro i hi
  refine ⟨w.heap.size, 0, rfl, by simp, ?_⟩
  rw [World.cell?_alloc_at _ _ _ _ rfl]
  rcases i with _ | _ | i
  · rfl
  · rfl
  · omega
theorem three_cells (w : World) (t : TypeId) : ∀ i, i < 3 → ∃ b off, some (⟨w.heap.size, 0, none⟩ : Addr) = some ⟨b, off, none⟩ ∧ b < (w.alloc (.cells #[.int .i64 0, .int .i64 1, .int .i64 3] t)).heap.size ∧ (w.alloc (.cells #[.int .i64 0, .int .i64 1, .int .i64 3] t)).cell? ⟨b, off + i, none⟩ = some (.int .i64 (f4 i)) := by
  intro i hi
  refine ⟨w.heap.size, 0, rfl, by simp, ?_⟩
  rw [World.cell?_alloc_at _ _ _ _ rfl]
  rcases i with _ | _ | _ | i
  · rfl
  · rfl
  · rfl
  · omega

theorem above_two {w w' : World} {e : Ending} (h : AboveR w 2 3 r4 r4 e w') : e = .returned (.tuple #[.int .i64 2, .bool true]) ∧ Below w.heap.size w w' := by
  obtain ⟨i, t, rfl, h1, h2, h3⟩ := h
  cases t with
  | false => have := h2 2 (by simp); have h4 := (above_r4 2 (by omega)).2 rfl; omega
  | true =>
    obtain ⟨h4, h5⟩ := h1 rfl
    have := (above_r4 i h4).1 h5
    subst this
    exact ⟨rfl, h3⟩

set_option maxRecDepth 100000 in
set_option maxHeartbeats 2000000 in
theorem sane_any (w : World) : Calls Tryz.prog 4 #[] w (fun e w' => e = .returned (.bool true) ∧ Below w.heap.size w w') := by
  have HC0 := Lib.hid dif_r4
  go_enter Tryz.func4, Tryz.ntmps4
  go_wp2_with fail
  refine (lrats_any _ _ 4 4 f4 f4_ok (Nat.le_refl _) (by omega) (four_cells w _)).mono ?_
  rintro e w1 ⟨v1, rfl, hr1, hb1⟩
  have hbw1 := (bel1 w _).trans (hb1.mono (by simp))
  have HR1 : Hid (RatsV w1 (w.heap.size + 1) v1 4 4 r4) := by have := hr1; simp only [World.size_alloc] at this; exact this
  clear hr1 hb1
  go_wp2_with fail
  refine (Fit_yes _ _ _ 4 4 r4 2 HR1.out (by omega) (by decide) (by rw [cut_r4]; decide)).mono ?_
  rintro e w2 ⟨v2, rfl, hr2, hb2⟩
  rw [cut_r4] at hr2
  have hbw2 := hbw1.trans (hb2.mono hbw1.size)
  have HR2 := Lib.hid (hr2.lowr (Nat.zero_le _))
  obtain ⟨Ap, cp, rfl, _, _⟩ := hr2.form
  clear hr2 hb2 HR1
  go_wp2_with fail
  refine (lrats_any _ _ 4 4 f4 f4_ok (Nat.le_refl _) (by omega) (four_cells w2 _)).mono ?_
  rintro e w3 ⟨v3, rfl, hr3, hb3⟩
  have hb23 := (bel1 w2 _).trans (hb3.mono (by simp))
  have HR3 : Hid (RatsV w3 (w2.heap.size + 1) v3 4 4 r4) := by have := hr3; simp only [World.size_alloc] at this; exact this
  clear hr3 hb3
  go_wp2_with fail
  refine (Fit_no _ _ _ 4 4 r4 1 HR3.out (by omega) (by decide) (by rw [cut_r4]; decide)).mono ?_
  rintro e w4 ⟨rfl, hb4⟩
  have hb24 := hb23.trans (hb4.mono hb23.size)
  clear HR3 hb4 hb23
  go_wp2_with fail
  refine (lrats_any _ _ 2 2 f4 (fun i hi => f4_ok i (by omega)) (Nat.le_refl _) (by omega) (two_cells w4 _)).mono ?_
  rintro e w5 ⟨v5, rfl, hr5, hb5⟩
  have hb25 := hb24.trans ((bel1 w4 _).mono hb24.size |>.trans (hb5.mono (by have := hb24.size; simp; omega)))
  have HR5 : Hid (RatsV w5 (w4.heap.size + 1) v5 2 4 r4) := by have := hr5; simp only [World.size_alloc] at this; exact this
  clear hr5 hb5
  go_wp2_with fail
  refine (lrats_any _ _ 3 3 f4 (fun i hi => f4_ok i (by omega)) (Nat.le_refl _) (by omega) (three_cells w5 _)).mono ?_
  rintro e w6 ⟨v6, rfl, hr6, hb6⟩
  have hb56 := (bel1 w5 _).trans (hb6.mono (by simp))
  have hb26 := hb25.trans (hb56.mono hb25.size)
  have HR6 : Hid (RatsV w6 (w5.heap.size + 1) v6 3 4 r4) := by have := hr6; simp only [World.size_alloc] at this; exact this
  have HR56 := Lib.hid (HR5.out.below hb56)
  clear hr6 hb6 HR5 hb25
  go_wp2_with fail
  refine (Above_any _ _ _ _ _ 2 3 4 4 r4 r4 HR56.out HR6.out (by omega) (by omega) (by omega) (by omega)).mono ?_
  intro e W hab
  obtain ⟨rfl, hb7⟩ := above_two hab
  have hb2W := hb26.trans (hb7.mono hb26.size)
  have hbW := hbw2.trans (hb2W.mono hbw2.size)
  have HP := Lib.hid (HR2.out.below hb2W)
  obtain ⟨bp, op, s, An, kn, cn, Ad, kd, cd, rfl, _, hbb, g1, g2, g3, g4, _, _⟩ := HP.out.elem (i := 2) (by omega)
  have HE : Hid (RatV W 0 (.agg #[.bool s, .slice An kn cn, .slice Ad kd cd]) 1000 (dif r4 2 0)) := RatVP.toV (RatVP.more g4.toP (by decide))
  clear g4 hab HR56 HR6 HR2 hb24 hb26 hb7 hbw1 hbw2 hb2W hb56 HP
  go_upto_region 4 with (fail)
  refine wp_region_facts (by kernel_rfl) (by kernel_rfl) [27, 28, 29, 30, 31, 32, 33, 34, 35, 36, 37, 38, 39, 40, 41, 42, 43, 44, 45, 46, 47, 48, 49, 50, 51] 3 (by kernel_rfl) (fun io v x => match io with
    | 0 => v = .bool true
    | 1 => v = .bool true
    | 2 => v = .bool false
    | 3 => v = .bool true
    | 4 => v = .bool true
    | 5 => v = .bool true
    | 6 => v = .slice (some ⟨bp, op, none⟩) 3 cp
    | 7 => v = .int .i64 3
    | 8 => v = .bool true
    | 9 => v = .bool true
    | 10 => v = .bool true
    | 11 => v = .slice (some ⟨bp, op, none⟩) 3 cp
    | 12 => v = .pointer (some ⟨bp, op + 2 * 3, none⟩)
    | 13 => v = .agg #[.bool s, .slice An kn cn, .slice Ad kd cd]
    | 14 => RatR x W.heap.size v (mkRat 1 1)
    | 15 => v = .int .i64 0
    | 16 => v = .bool true
    | 17 => v = .bool true
    | 18 => v = .bool true
    | 19 => v = .int .i64 2
    | 20 => v = .bool true
    | 21 => v = .bool true
    | 22 => v = .bool true
    | 23 => v = .bool true
    | _ => v = .bool true) ?_ ?_ ?_
  · intro io v x x' hio h hb
    rcases io with _ | _ | _ | _ | _ | _ | _ | _ | _ | _ | _ | _ | _ | _ | _ | _ | _ | _ | _ | _ | _ | _ | _ | _ | io
    · exact h
    · exact h
    · exact h
    · exact h
    · exact h
    · exact h
    · exact h
    · exact h
    · exact h
    · exact h
    · exact h
    · exact h
    · exact h
    · exact h
    · exact RatR.below h hb
    · exact h
    · exact h
    · exact h
    · exact h
    · exact h
    · exact h
    · exact h
    · exact h
    · exact h
    · exact h
  · intro io oo S x ho hio hbx hdep
    rcases io with _ | _ | _ | _ | _ | _ | _ | _ | _ | _ | _ | _ | _ | _ | _ | _ | _ | _ | _ | _ | _ | _ | _ | _ | _ | io
    · cases ho
      refine opOk_plain rfl rfl fun KK hKK => ?_
      have HK := Lib.hid hKK
      clear hKK hdep hio
      simp only [putAll, Act.put, List.setIfInBounds_toArray, List.set_cons_succ, List.set_cons_zero, List.getD_cons_zero, List.getD_cons_succ, Nat.zero_add, Nat.reduceAdd] at HK ⊢
      go_wp2
      exact HK.out _ _ ⟨_, rfl, rfl, Below.refl _ _⟩
    · cases ho
      have h0 : S 0 = .bool true := hdep 0 (by kernel_rfl) (by decide)
      refine opOk_plain rfl rfl fun KK hKK => ?_
      have HK := Lib.hid hKK
      clear hKK hdep hio
      simp only [putAll, Act.put, List.setIfInBounds_toArray, List.set_cons_succ, List.set_cons_zero, List.getD_cons_zero, List.getD_cons_succ, Nat.zero_add, Nat.reduceAdd] at HK ⊢
      generalize S 0 = t0 at *
      subst h0
      go_wp2
      exact HK.out _ _ ⟨_, rfl, rfl, Below.refl _ _⟩
    · cases ho
      have h1 : S 1 = .bool true := hdep 1 (by kernel_rfl) (by decide)
      refine opOk_guarded rfl rfl 28 (by kernel_rfl) (by simp only [putAll, Act.put, List.setIfInBounds_toArray, List.set_cons_succ, List.set_cons_zero, List.getD_cons_zero, List.getD_cons_succ, Nat.zero_add, Nat.reduceAdd, h1, List.getElem?_toArray, List.getElem?_cons_succ, List.getElem?_cons_zero]) fun KK hKK => ?_
      have HK := Lib.hid hKK
      clear hKK hdep hio
      simp only [putAll, Act.put, List.setIfInBounds_toArray, List.set_cons_succ, List.set_cons_zero, List.getD_cons_zero, List.getD_cons_succ, Nat.zero_add, Nat.reduceAdd] at HK ⊢
      generalize S 1 = t1 at *
      subst h1
      go_wp2
      exact HK.out _ _ ⟨_, rfl, rfl, Below.refl _ _⟩
    · cases ho
      have h1 : S 1 = .bool true := hdep 1 (by kernel_rfl) (by decide)
      have h2 : S 2 = .bool false := hdep 2 (by kernel_rfl) (by decide)
      refine opOk_guarded rfl rfl 28 (by kernel_rfl) (by simp only [putAll, Act.put, List.setIfInBounds_toArray, List.set_cons_succ, List.set_cons_zero, List.getD_cons_zero, List.getD_cons_succ, Nat.zero_add, Nat.reduceAdd, h1, List.getElem?_toArray, List.getElem?_cons_succ, List.getElem?_cons_zero]) fun KK hKK => ?_
      have HK := Lib.hid hKK
      clear hKK hdep hio
      simp only [putAll, Act.put, List.setIfInBounds_toArray, List.set_cons_succ, List.set_cons_zero, List.getD_cons_zero, List.getD_cons_succ, Nat.zero_add, Nat.reduceAdd] at HK ⊢
      generalize S 1 = t1 at *
      subst h1
      generalize S 2 = t2 at *
      subst h2
      go_wp2
      exact HK.out _ _ ⟨_, rfl, rfl, Below.refl _ _⟩
    · cases ho
      have h1 : S 1 = .bool true := hdep 1 (by kernel_rfl) (by decide)
      have h3 : S 3 = .bool true := hdep 3 (by kernel_rfl) (by decide)
      refine opOk_plain rfl rfl fun KK hKK => ?_
      have HK := Lib.hid hKK
      clear hKK hdep hio
      simp only [putAll, Act.put, List.setIfInBounds_toArray, List.set_cons_succ, List.set_cons_zero, List.getD_cons_zero, List.getD_cons_succ, Nat.zero_add, Nat.reduceAdd] at HK ⊢
      generalize S 1 = t1 at *
      subst h1
      generalize S 3 = t3 at *
      subst h3
      go_wp2
      exact HK.out _ _ ⟨_, rfl, rfl, Below.refl _ _⟩
    · cases ho
      have h4 : S 4 = .bool true := hdep 4 (by kernel_rfl) (by decide)
      refine opOk_plain rfl rfl fun KK hKK => ?_
      have HK := Lib.hid hKK
      clear hKK hdep hio
      simp only [putAll, Act.put, List.setIfInBounds_toArray, List.set_cons_succ, List.set_cons_zero, List.getD_cons_zero, List.getD_cons_succ, Nat.zero_add, Nat.reduceAdd] at HK ⊢
      generalize S 4 = t4 at *
      subst h4
      go_wp2
      exact HK.out _ _ ⟨_, rfl, rfl, Below.refl _ _⟩
    · cases ho
      have h5 : S 5 = .bool true := hdep 5 (by kernel_rfl) (by decide)
      refine opOk_guarded rfl rfl 32 (by kernel_rfl) (by simp only [putAll, Act.put, List.setIfInBounds_toArray, List.set_cons_succ, List.set_cons_zero, List.getD_cons_zero, List.getD_cons_succ, Nat.zero_add, Nat.reduceAdd, h5, List.getElem?_toArray, List.getElem?_cons_succ, List.getElem?_cons_zero]) fun KK hKK => ?_
      have HK := Lib.hid hKK
      clear hKK hdep hio
      simp only [putAll, Act.put, List.setIfInBounds_toArray, List.set_cons_succ, List.set_cons_zero, List.getD_cons_zero, List.getD_cons_succ, Nat.zero_add, Nat.reduceAdd] at HK ⊢
      generalize S 5 = t5 at *
      subst h5
      go_wp2
      exact HK.out _ _ ⟨_, rfl, rfl, Below.refl _ _⟩
    · cases ho
      have h5 : S 5 = .bool true := hdep 5 (by kernel_rfl) (by decide)
      have h6 : S 6 = .slice (some ⟨bp, op, none⟩) 3 cp := hdep 6 (by kernel_rfl) (by decide)
      refine opOk_guarded rfl rfl 32 (by kernel_rfl) (by simp only [putAll, Act.put, List.setIfInBounds_toArray, List.set_cons_succ, List.set_cons_zero, List.getD_cons_zero, List.getD_cons_succ, Nat.zero_add, Nat.reduceAdd, h5, List.getElem?_toArray, List.getElem?_cons_succ, List.getElem?_cons_zero]) fun KK hKK => ?_
      have HK := Lib.hid hKK
      clear hKK hdep hio
      simp only [putAll, Act.put, List.setIfInBounds_toArray, List.set_cons_succ, List.set_cons_zero, List.getD_cons_zero, List.getD_cons_succ, Nat.zero_add, Nat.reduceAdd] at HK ⊢
      generalize S 5 = t5 at *
      subst h5
      generalize S 6 = t6 at *
      subst h6
      go_wp2
      exact HK.out _ _ ⟨_, rfl, rfl, Below.refl _ _⟩
    · cases ho
      have h5 : S 5 = .bool true := hdep 5 (by kernel_rfl) (by decide)
      have h7 : S 7 = .int .i64 3 := hdep 7 (by kernel_rfl) (by decide)
      refine opOk_guarded rfl rfl 32 (by kernel_rfl) (by simp only [putAll, Act.put, List.setIfInBounds_toArray, List.set_cons_succ, List.set_cons_zero, List.getD_cons_zero, List.getD_cons_succ, Nat.zero_add, Nat.reduceAdd, h5, List.getElem?_toArray, List.getElem?_cons_succ, List.getElem?_cons_zero]) fun KK hKK => ?_
      have HK := Lib.hid hKK
      clear hKK hdep hio
      simp only [putAll, Act.put, List.setIfInBounds_toArray, List.set_cons_succ, List.set_cons_zero, List.getD_cons_zero, List.getD_cons_succ, Nat.zero_add, Nat.reduceAdd] at HK ⊢
      generalize S 5 = t5 at *
      subst h5
      generalize S 7 = t7 at *
      subst h7
      go_wp2
      exact HK.out _ _ ⟨_, rfl, rfl, Below.refl _ _⟩
    · cases ho
      have h5 : S 5 = .bool true := hdep 5 (by kernel_rfl) (by decide)
      have h8 : S 8 = .bool true := hdep 8 (by kernel_rfl) (by decide)
      refine opOk_plain rfl rfl fun KK hKK => ?_
      have HK := Lib.hid hKK
      clear hKK hdep hio
      simp only [putAll, Act.put, List.setIfInBounds_toArray, List.set_cons_succ, List.set_cons_zero, List.getD_cons_zero, List.getD_cons_succ, Nat.zero_add, Nat.reduceAdd] at HK ⊢
      generalize S 5 = t5 at *
      subst h5
      generalize S 8 = t8 at *
      subst h8
      go_wp2
      exact HK.out _ _ ⟨_, rfl, rfl, Below.refl _ _⟩
    · cases ho
      have h9 : S 9 = .bool true := hdep 9 (by kernel_rfl) (by decide)
      refine opOk_plain rfl rfl fun KK hKK => ?_
      have HK := Lib.hid hKK
      clear hKK hdep hio
      simp only [putAll, Act.put, List.setIfInBounds_toArray, List.set_cons_succ, List.set_cons_zero, List.getD_cons_zero, List.getD_cons_succ, Nat.zero_add, Nat.reduceAdd] at HK ⊢
      generalize S 9 = t9 at *
      subst h9
      go_wp2
      exact HK.out _ _ ⟨_, rfl, rfl, Below.refl _ _⟩
    · cases ho
      have h10 : S 10 = .bool true := hdep 10 (by kernel_rfl) (by decide)
      refine opOk_guarded rfl rfl 37 (by kernel_rfl) (by simp only [putAll, Act.put, List.setIfInBounds_toArray, List.set_cons_succ, List.set_cons_zero, List.getD_cons_zero, List.getD_cons_succ, Nat.zero_add, Nat.reduceAdd, h10, List.getElem?_toArray, List.getElem?_cons_succ, List.getElem?_cons_zero]) fun KK hKK => ?_
      have HK := Lib.hid hKK
      clear hKK hdep hio
      simp only [putAll, Act.put, List.setIfInBounds_toArray, List.set_cons_succ, List.set_cons_zero, List.getD_cons_zero, List.getD_cons_succ, Nat.zero_add, Nat.reduceAdd] at HK ⊢
      generalize S 10 = t10 at *
      subst h10
      go_wp2
      exact HK.out _ _ ⟨_, rfl, rfl, Below.refl _ _⟩
    · cases ho
      have h10 : S 10 = .bool true := hdep 10 (by kernel_rfl) (by decide)
      have h11 : S 11 = .slice (some ⟨bp, op, none⟩) 3 cp := hdep 11 (by kernel_rfl) (by decide)
      refine opOk_guarded rfl rfl 37 (by kernel_rfl) (by simp only [putAll, Act.put, List.setIfInBounds_toArray, List.set_cons_succ, List.set_cons_zero, List.getD_cons_zero, List.getD_cons_succ, Nat.zero_add, Nat.reduceAdd, h10, List.getElem?_toArray, List.getElem?_cons_succ, List.getElem?_cons_zero]) fun KK hKK => ?_
      have HK := Lib.hid hKK
      clear hKK hdep hio
      simp only [putAll, Act.put, List.setIfInBounds_toArray, List.set_cons_succ, List.set_cons_zero, List.getD_cons_zero, List.getD_cons_succ, Nat.zero_add, Nat.reduceAdd] at HK ⊢
      generalize S 10 = t10 at *
      subst h10
      generalize S 11 = t11 at *
      subst h11
      go_wp2
      exact HK.out _ _ ⟨_, rfl, rfl, Below.refl _ _⟩
    · cases ho
      have h10 : S 10 = .bool true := hdep 10 (by kernel_rfl) (by decide)
      have h12 : S 12 = .pointer (some ⟨bp, op + 2 * 3, none⟩) := hdep 12 (by kernel_rfl) (by decide)
      have c1 := (hbx.cell (p := ⟨bp, op + 2 * 3, none⟩) hbb).trans g1
      have c2 := (hbx.cell (p := ⟨bp, op + 2 * 3 + 1, none⟩) hbb).trans g2
      have c3 := (hbx.cell (p := ⟨bp, op + 2 * 3 + 2, none⟩) hbb).trans g3
      refine opOk_guarded rfl rfl 37 (by kernel_rfl) (by simp only [putAll, Act.put, List.setIfInBounds_toArray, List.set_cons_succ, List.set_cons_zero, List.getD_cons_zero, List.getD_cons_succ, Nat.zero_add, Nat.reduceAdd, h10, List.getElem?_toArray, List.getElem?_cons_succ, List.getElem?_cons_zero]) fun KK hKK => ?_
      have HK := Lib.hid hKK
      clear hKK hdep hio
      simp only [putAll, Act.put, List.setIfInBounds_toArray, List.set_cons_succ, List.set_cons_zero, List.getD_cons_zero, List.getD_cons_succ, Nat.zero_add, Nat.reduceAdd] at HK ⊢
      generalize S 10 = t10 at *
      subst h10
      generalize S 12 = t12 at *
      subst h12
      go_wp2
      exact HK.out _ _ ⟨_, rfl, rfl, Below.refl _ _⟩
    · cases ho
      have h10 : S 10 = .bool true := hdep 10 (by kernel_rfl) (by decide)
      refine opOk_guarded rfl rfl 37 (by kernel_rfl) (by simp only [putAll, Act.put, List.setIfInBounds_toArray, List.set_cons_succ, List.set_cons_zero, List.getD_cons_zero, List.getD_cons_succ, Nat.zero_add, Nat.reduceAdd, h10, List.getElem?_toArray, List.getElem?_cons_succ, List.getElem?_cons_zero]) fun KK hKK => ?_
      have HK := Lib.hid hKK
      clear hKK hdep hio
      simp only [putAll, Act.put, List.setIfInBounds_toArray, List.set_cons_succ, List.set_cons_zero, List.getD_cons_zero, List.getD_cons_succ, Nat.zero_add, Nat.reduceAdd] at HK ⊢
      generalize S 10 = t10 at *
      subst h10
      go_wp2_with fail
      refine (rFromInt_any _ 1 (by omega) (by omega)).mono ?_
      rintro e xN ⟨vN, rfl, hrN, hbN⟩
      exact HK.out _ _ ⟨_, rfl, RatR.lower hrN hbx.size, hbN⟩
    · cases ho
      have h10 : S 10 = .bool true := hdep 10 (by kernel_rfl) (by decide)
      have h13 : S 13 = .agg #[.bool s, .slice An kn cn, .slice Ad kd cd] := hdep 13 (by kernel_rfl) (by decide)
      have h14 : RatR x W.heap.size (S 14) (mkRat 1 1) := hdep 14 (by kernel_rfl) (by decide)
      have H14 := Lib.hid h14
      clear h14
      refine opOk_guarded rfl rfl 37 (by kernel_rfl) (by simp only [putAll, Act.put, List.setIfInBounds_toArray, List.set_cons_succ, List.set_cons_zero, List.getD_cons_zero, List.getD_cons_succ, Nat.zero_add, Nat.reduceAdd, h10, List.getElem?_toArray, List.getElem?_cons_succ, List.getElem?_cons_zero]) fun KK hKK => ?_
      have HK := Lib.hid hKK
      clear hKK hdep hio
      simp only [putAll, Act.put, List.setIfInBounds_toArray, List.set_cons_succ, List.set_cons_zero, List.getD_cons_zero, List.getD_cons_succ, Nat.zero_add, Nat.reduceAdd] at HK ⊢
      generalize S 10 = t10 at *
      subst h10
      generalize S 13 = t13 at *
      subst h13
      go_wp2_with fail
      refine (rCmp_any _ 0 W.heap.size _ _ 1000 4 (dif r4 2 0) (mkRat 1 1) (HE.out.below hbx) (RatR.toV H14.out (by have := sz_small 1 1 (by omega) (by omega) (by omega); omega)) (by omega)).mono ?_
      rintro e xN ⟨rfl, hbN⟩
      exact HK.out _ _ ⟨_, rfl, (by rw [HC0.out]), hbN⟩
    · cases ho
      have h10 : S 10 = .bool true := hdep 10 (by kernel_rfl) (by decide)
      have h15 : S 15 = .int .i64 0 := hdep 15 (by kernel_rfl) (by decide)
      refine opOk_guarded rfl rfl 37 (by kernel_rfl) (by simp only [putAll, Act.put, List.setIfInBounds_toArray, List.set_cons_succ, List.set_cons_zero, List.getD_cons_zero, List.getD_cons_succ, Nat.zero_add, Nat.reduceAdd, h10, List.getElem?_toArray, List.getElem?_cons_succ, List.getElem?_cons_zero]) fun KK hKK => ?_
      have HK := Lib.hid hKK
      clear hKK hdep hio
      simp only [putAll, Act.put, List.setIfInBounds_toArray, List.set_cons_succ, List.set_cons_zero, List.getD_cons_zero, List.getD_cons_succ, Nat.zero_add, Nat.reduceAdd] at HK ⊢
      generalize S 10 = t10 at *
      subst h10
      generalize S 15 = t15 at *
      subst h15
      go_wp2
      exact HK.out _ _ ⟨_, rfl, rfl, Below.refl _ _⟩
    · cases ho
      have h10 : S 10 = .bool true := hdep 10 (by kernel_rfl) (by decide)
      have h16 : S 16 = .bool true := hdep 16 (by kernel_rfl) (by decide)
      refine opOk_plain rfl rfl fun KK hKK => ?_
      have HK := Lib.hid hKK
      clear hKK hdep hio
      simp only [putAll, Act.put, List.setIfInBounds_toArray, List.set_cons_succ, List.set_cons_zero, List.getD_cons_zero, List.getD_cons_succ, Nat.zero_add, Nat.reduceAdd] at HK ⊢
      generalize S 10 = t10 at *
      subst h10
      generalize S 16 = t16 at *
      subst h16
      go_wp2
      exact HK.out _ _ ⟨_, rfl, rfl, Below.refl _ _⟩
    · cases ho
      have h17 : S 17 = .bool true := hdep 17 (by kernel_rfl) (by decide)
      refine opOk_plain rfl rfl fun KK hKK => ?_
      have HK := Lib.hid hKK
      clear hKK hdep hio
      simp only [putAll, Act.put, List.setIfInBounds_toArray, List.set_cons_succ, List.set_cons_zero, List.getD_cons_zero, List.getD_cons_succ, Nat.zero_add, Nat.reduceAdd] at HK ⊢
      generalize S 17 = t17 at *
      subst h17
      go_wp2
      exact HK.out _ _ ⟨_, rfl, rfl, Below.refl _ _⟩
    · cases ho
      have h18 : S 18 = .bool true := hdep 18 (by kernel_rfl) (by decide)
      refine opOk_guarded rfl rfl 45 (by kernel_rfl) (by simp only [putAll, Act.put, List.setIfInBounds_toArray, List.set_cons_succ, List.set_cons_zero, List.getD_cons_zero, List.getD_cons_succ, Nat.zero_add, Nat.reduceAdd, h18, List.getElem?_toArray, List.getElem?_cons_succ, List.getElem?_cons_zero]) fun KK hKK => ?_
      have HK := Lib.hid hKK
      clear hKK hdep hio
      simp only [putAll, Act.put, List.setIfInBounds_toArray, List.set_cons_succ, List.set_cons_zero, List.getD_cons_zero, List.getD_cons_succ, Nat.zero_add, Nat.reduceAdd] at HK ⊢
      generalize S 18 = t18 at *
      subst h18
      go_wp2
      exact HK.out _ _ ⟨_, rfl, rfl, Below.refl _ _⟩
    · cases ho
      have h18 : S 18 = .bool true := hdep 18 (by kernel_rfl) (by decide)
      have h19 : S 19 = .int .i64 2 := hdep 19 (by kernel_rfl) (by decide)
      refine opOk_guarded rfl rfl 45 (by kernel_rfl) (by simp only [putAll, Act.put, List.setIfInBounds_toArray, List.set_cons_succ, List.set_cons_zero, List.getD_cons_zero, List.getD_cons_succ, Nat.zero_add, Nat.reduceAdd, h18, List.getElem?_toArray, List.getElem?_cons_succ, List.getElem?_cons_zero]) fun KK hKK => ?_
      have HK := Lib.hid hKK
      clear hKK hdep hio
      simp only [putAll, Act.put, List.setIfInBounds_toArray, List.set_cons_succ, List.set_cons_zero, List.getD_cons_zero, List.getD_cons_succ, Nat.zero_add, Nat.reduceAdd] at HK ⊢
      generalize S 18 = t18 at *
      subst h18
      generalize S 19 = t19 at *
      subst h19
      go_wp2
      exact HK.out _ _ ⟨_, rfl, rfl, Below.refl _ _⟩
    · cases ho
      have h18 : S 18 = .bool true := hdep 18 (by kernel_rfl) (by decide)
      have h20 : S 20 = .bool true := hdep 20 (by kernel_rfl) (by decide)
      refine opOk_plain rfl rfl fun KK hKK => ?_
      have HK := Lib.hid hKK
      clear hKK hdep hio
      simp only [putAll, Act.put, List.setIfInBounds_toArray, List.set_cons_succ, List.set_cons_zero, List.getD_cons_zero, List.getD_cons_succ, Nat.zero_add, Nat.reduceAdd] at HK ⊢
      generalize S 18 = t18 at *
      subst h18
      generalize S 20 = t20 at *
      subst h20
      go_wp2
      exact HK.out _ _ ⟨_, rfl, rfl, Below.refl _ _⟩
    · cases ho
      have h21 : S 21 = .bool true := hdep 21 (by kernel_rfl) (by decide)
      refine opOk_plain rfl rfl fun KK hKK => ?_
      have HK := Lib.hid hKK
      clear hKK hdep hio
      simp only [putAll, Act.put, List.setIfInBounds_toArray, List.set_cons_succ, List.set_cons_zero, List.getD_cons_zero, List.getD_cons_succ, Nat.zero_add, Nat.reduceAdd] at HK ⊢
      generalize S 21 = t21 at *
      subst h21
      go_wp2
      exact HK.out _ _ ⟨_, rfl, rfl, Below.refl _ _⟩
    · cases ho
      have h22 : S 22 = .bool true := hdep 22 (by kernel_rfl) (by decide)
      refine opOk_guarded rfl rfl 49 (by kernel_rfl) (by simp only [putAll, Act.put, List.setIfInBounds_toArray, List.set_cons_succ, List.set_cons_zero, List.getD_cons_zero, List.getD_cons_succ, Nat.zero_add, Nat.reduceAdd, h22, List.getElem?_toArray, List.getElem?_cons_succ, List.getElem?_cons_zero]) fun KK hKK => ?_
      have HK := Lib.hid hKK
      clear hKK hdep hio
      simp only [putAll, Act.put, List.setIfInBounds_toArray, List.set_cons_succ, List.set_cons_zero, List.getD_cons_zero, List.getD_cons_succ, Nat.zero_add, Nat.reduceAdd] at HK ⊢
      generalize S 22 = t22 at *
      subst h22
      go_wp2
      exact HK.out _ _ ⟨_, rfl, rfl, Below.refl _ _⟩
    · cases ho
      have h22 : S 22 = .bool true := hdep 22 (by kernel_rfl) (by decide)
      have h23 : S 23 = .bool true := hdep 23 (by kernel_rfl) (by decide)
      refine opOk_plain rfl rfl fun KK hKK => ?_
      have HK := Lib.hid hKK
      clear hKK hdep hio
      simp only [putAll, Act.put, List.setIfInBounds_toArray, List.set_cons_succ, List.set_cons_zero, List.getD_cons_zero, List.getD_cons_succ, Nat.zero_add, Nat.reduceAdd] at HK ⊢
      generalize S 22 = t22 at *
      subst h22
      generalize S 23 = t23 at *
      subst h23
      go_wp2
      exact HK.out _ _ ⟨_, rfl, rfl, Below.refl _ _⟩
    · exact absurd hio (by simp)
  · intro S x hbx hF
    have g0 : S 0 = .bool true := hF 0 (by decide)
    have g1 : S 1 = .bool true := hF 1 (by decide)
    have g2 : S 2 = .bool false := hF 2 (by decide)
    have g3 : S 3 = .bool true := hF 3 (by decide)
    have g4 : S 4 = .bool true := hF 4 (by decide)
    have g5 : S 5 = .bool true := hF 5 (by decide)
    have g6 : S 6 = .slice (some ⟨bp, op, none⟩) 3 cp := hF 6 (by decide)
    have g7 : S 7 = .int .i64 3 := hF 7 (by decide)
    have g8 : S 8 = .bool true := hF 8 (by decide)
    have g9 : S 9 = .bool true := hF 9 (by decide)
    have g10 : S 10 = .bool true := hF 10 (by decide)
    have g11 : S 11 = .slice (some ⟨bp, op, none⟩) 3 cp := hF 11 (by decide)
    have g12 : S 12 = .pointer (some ⟨bp, op + 2 * 3, none⟩) := hF 12 (by decide)
    have g13 : S 13 = .agg #[.bool s, .slice An kn cn, .slice Ad kd cd] := hF 13 (by decide)
    have g14 : RatR x W.heap.size (S 14) (mkRat 1 1) := hF 14 (by decide)
    have g15 : S 15 = .int .i64 0 := hF 15 (by decide)
    have g16 : S 16 = .bool true := hF 16 (by decide)
    have g17 : S 17 = .bool true := hF 17 (by decide)
    have g18 : S 18 = .bool true := hF 18 (by decide)
    have g19 : S 19 = .int .i64 2 := hF 19 (by decide)
    have g20 : S 20 = .bool true := hF 20 (by decide)
    have g21 : S 21 = .bool true := hF 21 (by decide)
    have g22 : S 22 = .bool true := hF 22 (by decide)
    have g23 : S 23 = .bool true := hF 23 (by decide)
    have g24 : S 24 = .bool true := hF 24 (by decide)
    clear hF
    simp only [putAll, Act.put, List.setIfInBounds_toArray, List.set_cons_succ, List.set_cons_zero, List.getD_cons_zero, List.getD_cons_succ, Nat.zero_add, Nat.reduceAdd, List.length_cons, List.length_nil, List.drop_succ_cons, List.drop_zero]
    generalize S 0 = t0 at *
    subst g0
    generalize S 1 = t1 at *
    subst g1
    generalize S 2 = t2 at *
    subst g2
    generalize S 3 = t3 at *
    subst g3
    generalize S 4 = t4 at *
    subst g4
    generalize S 5 = t5 at *
    subst g5
    generalize S 6 = t6 at *
    subst g6
    generalize S 7 = t7 at *
    subst g7
    generalize S 8 = t8 at *
    subst g8
    generalize S 9 = t9 at *
    subst g9
    generalize S 10 = t10 at *
    subst g10
    generalize S 11 = t11 at *
    subst g11
    generalize S 12 = t12 at *
    subst g12
    generalize S 13 = t13 at *
    subst g13
    generalize S 14 = t14 at *
    generalize S 15 = t15 at *
    subst g15
    generalize S 16 = t16 at *
    subst g16
    generalize S 17 = t17 at *
    subst g17
    generalize S 18 = t18 at *
    subst g18
    generalize S 19 = t19 at *
    subst g19
    generalize S 20 = t20 at *
    subst g20
    generalize S 21 = t21 at *
    subst g21
    generalize S 22 = t22 at *
    subst g22
    generalize S 23 = t23 at *
    subst g23
    generalize S 24 = t24 at *
    subst g24
    clear g14
    go_wp2
    go_ret
    exact ⟨rfl, hbW.trans (hbx.mono hbW.size)⟩

end Go.Proofs.YtdbiedpdibjdlaaGreat

