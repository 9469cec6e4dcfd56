/-
  The walks of the reference's build (joined), Canonical, Neg, FromInt, Sign.
-/
import Derived.Test.YtafhbipafbchcaaRefI
namespace Go.Proofs.Ytafhbipafbchcaa
open Go.RowKit AC
set_option linter.unusedVariables false
set_option linter.unusedSimpArgs false

theorem build_any (w : World) (lo lo' : Nat) (neg : Bool) (v v' : Value) (kn kd : Nat) (fn fd : Nat → Nat) (hn : Limbs w lo v kn fn) (hd : Limbs w lo' v' kd fd) (hkn : kn ≤ 4000000000) (hkd : kd ≤ 4000000000) (q : Rat) (hq : q = mkRat (sg neg (vs fn kn)) (vs fd kd)) :
    Calls Try.prog 25 #[.bool neg, v, v'] w (RetQ w q) := by
  by_cases h0 : vs fn kn = 0 ∨ vs fd kd = 0
  · refine (build_zero w lo lo' neg v v' kn kd fn fd hn hd hkn hkd _ _ rfl rfl h0).mono ?_
    rintro e w' ⟨v2, rfl, h, hb⟩
    refine ⟨v2, rfl, ?_, hb⟩
    subst hq
    rcases h0 with h0 | h0
    · rw [h0]; exact RatR.ofZero h
    · rw [h0, Rat.mkRat_zero]; exact h
  · refine (build_pos w lo lo' neg v v' kn kd fn fd hn hd hkn hkd _ _ rfl rfl (fun h => h0 (.inl h)) (fun h => h0 (.inr h))).mono ?_
    rintro e w' ⟨v2, rfl, h, hb⟩
    refine ⟨v2, rfl, ?_, hb⟩
    subst hq
    exact RatR.ofLow (fun h => h0 (.inr h)) (fun h => h0 (.inl h)) h

/-- The parts of a number that comes in. -/
theorem RatV.parts {w : World} {lo : Nat} {v : Value} {K : Nat} {q : Rat} (h : RatV w lo v K q) :
    ∃ s A k c A' k' c' fn fd, v = .agg #[.bool s, .slice A k c, .slice A' k' c'] ∧ Limbs w lo (.slice A k c) k fn ∧ Limbs w lo (.slice A' k' c') k' fd ∧ k ≤ K ∧ k' ≤ K ∧ q = mkRat (sg s (vs fn k)) (vs fd k') := by
  obtain ⟨neg, kn, kd, fn, fd, vn, vd, rfl, h1, h2, h3, h4, h5⟩ := h
  obtain ⟨A, c, rfl⟩ := h1.len
  obtain ⟨A', c', rfl⟩ := h2.len
  exact ⟨neg, A, kn, c, A', kd, c', fn, fd, rfl, h1, h2, h3, h4, h5⟩

set_option maxHeartbeats 1000000 in
theorem rCanonical_any (w : World) (lo : Nat) (v : Value) (K : Nat) (q : Rat) (hv : RatV w lo v K q) (hK : K ≤ 4000000000) :
    Calls Try.prog 35 #[v] w (RetQ w q) := by
  obtain ⟨s, A, k, c, A', k', c', fn, fd, rfl, hn, hd, hkn, hkd, hq⟩ := hv.parts
  have HN := Lib.hid hn
  have HD := Lib.hid hd
  have HQ := Lib.hid hq
  clear hv hn hd hq
  go_enter Try.func35, Try.ntmps35
  go_wp2_with fail
  refine (build_any _ lo lo s _ _ k k' fn fd (HN.out.below (bel2 w _ _)) (HD.out.below (bel2 w _ _)) (by omega) (by omega) q HQ.out).mono ?_
  rintro e w1 ⟨v1, rfl, hr1, hb1⟩
  have hbw1 := (bel2 w _ _).trans (hb1.mono (by simp; omega))
  have hR1 := (Bk.new _ 29 _).below hb1 (by simp)
  simp only [World.size_alloc] at hR1 hr1
  have HR1 := Lib.hid hr1
  obtain ⟨A2, c2, A3, c3, rfl, _, _⟩ := FracR.form hr1
  obtain ⟨hcR, hfR, hz2⟩ := hR1.facts
  clear hr1 hb1
  go_wp2
  exact bodyPost_ret (v := .agg #[.bool (decide (q.num < 0)), .slice A2 (dl q.num.natAbs) c2, .slice A3 (dl q.den) c3]) (by simp [results, Try.results35, go_sem, hcR]) rfl
    ⟨_, rfl, RatR.lower (rat_set3 HR1.out (by omega) _ _ _) (by omega), below_set3 hbw1 (by omega) _ _ _⟩

set_option maxHeartbeats 1000000 in
theorem rNeg_any (w : World) (lo : Nat) (v : Value) (K : Nat) (q : Rat) (hv : RatV w lo v K q) (hK : K ≤ 4000000000) :
    Calls Try.prog 37 #[v] w (RetQ w (-q)) := by
  obtain ⟨s, A, k, c, A', k', c', fn, fd, rfl, hn, hd, hkn, hkd, hq⟩ := hv.parts
  have HN := Lib.hid hn
  have HD := Lib.hid hd
  obtain ⟨q', hq'⟩ : ∃ q', Hid (q' = -q) := ⟨_, rfl⟩
  have HQ : Hid (q' = mkRat (sg (!s) (vs fn k)) (vs fd k')) := by
    show _ = _
    rw [hq'.out, sg_not, ← Rat.neg_mkRat, ← hq]
  rw [← hq'.out]
  clear hv hn hd hq hq'
  go_enter Try.func37, Try.ntmps37
  go_wp2_with fail
  refine (build_any _ lo lo (!s) _ _ k k' fn fd (HN.out.below (bel2 w _ _)) (HD.out.below (bel2 w _ _)) (by omega) (by omega) q' HQ.out).mono ?_
  rintro e w1 ⟨v1, rfl, hr1, hb1⟩
  have hbw1 := (bel2 w _ _).trans (hb1.mono (by simp; omega))
  have hR1 := (Bk.new _ 29 _).below hb1 (by simp)
  simp only [World.size_alloc] at hR1 hr1
  have HR1 := Lib.hid hr1
  obtain ⟨A2, c2, A3, c3, rfl, _, _⟩ := FracR.form hr1
  obtain ⟨hcR, hfR, hz2⟩ := hR1.facts
  clear hr1 hb1
  go_wp2
  exact bodyPost_ret (v := .agg #[.bool (decide (q'.num < 0)), .slice A2 (dl q'.num.natAbs) c2, .slice A3 (dl q'.den) c3]) (by simp [results, Try.results37, go_sem, hcR]) rfl
    ⟨_, rfl, RatR.lower (rat_set3 HR1.out (by omega) _ _ _) (by omega), below_set3 hbw1 (by omega) _ _ _⟩

theorem cut_sign {q : Rat} : q.num.natAbs = 0 → sgnQ q = 0 := by
  intro h; unfold sgnQ; rw [Int.natAbs_eq_zero.1 h]; rfl

set_option maxHeartbeats 1000000 in
theorem rSign_any (w : World) (lo : Nat) (v : Value) (K : Nat) (q : Rat) (hv : RatV w lo v K q) (hK : K ≤ 4000000000) :
    Calls Try.prog 20 #[v] w (fun e w' => e = .returned (.int .i64 (sgnQ q)) ∧ Below w.heap.size w w') := by
  have HV := Lib.hid hv
  obtain ⟨s, A, k, c, A', k', c', rfl⟩ := hv.form
  clear hv
  go_enter Try.func20, Try.ntmps20
  go_wp2_with fail
  refine (rCanonical_any _ lo _ K q (HV.out.below (bel1 w _)) hK).mono ?_
  rintro e w1 ⟨v1, rfl, hr1, hb1⟩
  have hbw1 := (bel1 w _).trans (hb1.mono (by simp))
  have hR1 := (Bk.new _ 29 _).below hb1 (by simp)
  obtain ⟨A2, c2, A3, c3, rfl, _, _⟩ := FracR.form hr1
  obtain ⟨hcR, hfR, hz2⟩ := hR1.facts
  have hgo : ∀ z, sgnQ q = z → ∀ w', Below w.heap.size w w' → (Ending.returned (.int .i64 z) = .returned (.int .i64 (sgnQ q)) ∧ Below w.heap.size w w') := by
    rintro z rfl w' hb; exact ⟨rfl, hb⟩
  have HGO := Lib.hid hgo
  clear hr1 hb1 hgo
  by_cases h0 : q.num.natAbs = 0
  · have hs := Lib.hid (cut_sign h0)
    have hl : ((dl q.num.natAbs : Nat) : Int) = 0 := by rw [h0, dl_zero]; rfl
    have hl' : (((dl q.num.natAbs : Nat) : Int) == 0) = true := by rw [hl]; rfl
    clear h0 hl
    go_wp2
    go_ret
    exact HGO.out _ hs.out _ (below_set3 hbw1 (Nat.le_refl _) _ _ _)
  · have hl' : (((dl q.num.natAbs : Nat) : Int) == 0) = false := by
      rw [beq_eq_false_iff_ne]
      have := mt dl_eq_zero.1 h0
      omega
    by_cases hneg : q.num < 0
    · have hs : Hid (sgnQ q = -1) := by show _ = _; unfold sgnQ; exact Int.sign_eq_neg_one_of_neg hneg
      have hd : decide (q.num < 0) = true := by simpa using hneg
      clear h0
      rw [hd] at *
      go_wp2
      go_ret
      exact HGO.out _ hs.out _ (below_set3 hbw1 (Nat.le_refl _) _ _ _)
    · have hs : Hid (sgnQ q = 1) := by show _ = _; unfold sgnQ; exact Int.sign_eq_one_of_pos (by omega)
      have hd : decide (q.num < 0) = false := by simpa using hneg
      clear h0
      rw [hd] at *
      go_wp2
      go_ret
      exact HGO.out _ hs.out _ (below_set3 hbw1 (Nat.le_refl _) _ _ _)

set_option maxHeartbeats 1000000 in
theorem rFromInt_any (w : World) (x : Int) (h1 : -9223372036854775808 ≤ x) (h2 : x ≤ 9223372036854775807) :
    Calls Try.prog 13 #[.int .i64 x] w (RetQ w (mkRat x 1)) := by
  have hdl : Hid (dl x.natAbs ≤ 3) := by
    show dl x.natAbs ≤ 3
    apply dl_le
    have h3 : B ^ 3 = 1000000000000000000000000000 := by decide
    omega
  obtain ⟨q, hq⟩ : ∃ q, Hid (q = mkRat x 1) := ⟨_, rfl⟩
  rw [← hq.out]
  have h1v : Hid (vs (dg 1) 1 = 1) := by show _ = _; rw [vs_dg]; decide
  have HQ : Hid (q = mkRat (sg (decide (x < 0)) (vs (dg x.natAbs) (dl x.natAbs))) (vs (dg 1) 1)) := by
    show _ = _
    rw [hq.out, vs_dl, h1v.out]
    congr 1
    unfold sg
    by_cases h : x < 0
    · simp [h]; omega
    · simp [h]; omega
  by_cases h0 : x < 0
  · have hd : decide (x < 0) = true := by simpa using h0
    rw [hd] at HQ
    clear hd
    go_enter Try.func13, Try.ntmps13
    go_wp2_with fail
    rw [show (-(x + 1) + 1) = ((x.natAbs : Nat) : Int) by omega]
    refine (limbs_any _ x.natAbs (by omega)).mono ?_
    rintro e w1 ⟨v1, rfl, hn1, hb1⟩
    have hR1 := Lib.hid ((Bk.new w 29 _).below hb1 (by simp))
    have HN1 := Lib.hid hn1
    obtain ⟨A, c, rfl⟩ := Limbs.len hn1
    have hz1 : w.heap.size < w1.heap.size := hR1.out.lt
    have hbw1 := (bel1 w _).trans (hb1.mono (by simp))
    clear hn1 hb1
    go_wp2_with fail
    refine (build_any _ (w.heap.size + 1) (w.heap.size + 1) true _ _ (dl x.natAbs) 1 (dg x.natAbs) (dg 1) ?_ ?_ (by have := hdl.out; omega) (by omega) q HQ.out).mono ?_
    · exact Limbs.lower (Limbs.alloc HN1.out _) (by simp)
    · have := NatR.oneNew w1 (w.heap.size + 1) 49 (by omega); unfold NatR at this; rw [dl_one] at this; exact this
    rintro e w2 ⟨v2, rfl, hr2, hb2⟩
    have HR2 := Lib.hid hr2
    obtain ⟨A2, c2, A3, c3, rfl, h3, h4⟩ := FracR.form hr2
    obtain ⟨hcR, hfR, hz2⟩ := ((hR1.out.alloc _).below hb2 (by simp; omega)).facts
    have hbw2 := (hbw1.alloc (by omega) _).trans (hb2.mono (by simp; omega))
    clear h3 h4 hr2 hb2
    go_wp2
    exact bodyPost_ret (v := .agg #[.bool (decide (q.num < 0)), .slice A2 (dl q.num.natAbs) c2, .slice A3 (dl q.den) c3]) (by simp [results, Try.results13, go_sem, hcR]) rfl
      ⟨_, rfl, RatR.lower (rat_set3 HR2.out (by simp; omega) _ _ _) (by simp; omega), below_set3 hbw2 (by omega) _ _ _⟩
  · have hd : decide (x < 0) = false := by simpa using h0
    rw [hd] at HQ
    clear hd
    obtain ⟨n, rfl⟩ : ∃ n : Nat, x = n := ⟨x.toNat, by omega⟩
    rw [Int.natAbs_natCast] at HQ hdl
    go_enter Try.func13, Try.ntmps13
    go_wp2_with fail
    refine (limbs_any _ n (by omega)).mono ?_
    rintro e w1 ⟨v1, rfl, hn1, hb1⟩
    have hR1 := Lib.hid ((Bk.new w 29 _).below hb1 (by simp))
    have HN1 := Lib.hid hn1
    obtain ⟨A, c, rfl⟩ := Limbs.len hn1
    have hz1 : w.heap.size < w1.heap.size := hR1.out.lt
    have hbw1 := (bel1 w _).trans (hb1.mono (by simp))
    clear hn1 hb1
    go_wp2_with fail
    refine (build_any _ (w.heap.size + 1) (w.heap.size + 1) false _ _ (dl n) 1 (dg n) (dg 1) ?_ ?_ (by have := hdl.out; omega) (by omega) q HQ.out).mono ?_
    · exact Limbs.lower (Limbs.alloc HN1.out _) (by simp)
    · have := NatR.oneNew w1 (w.heap.size + 1) 49 (by omega); unfold NatR at this; rw [dl_one] at this; exact this
    rintro e w2 ⟨v2, rfl, hr2, hb2⟩
    have HR2 := Lib.hid hr2
    obtain ⟨A2, c2, A3, c3, rfl, h3, h4⟩ := FracR.form hr2
    obtain ⟨hcR, hfR, hz2⟩ := ((hR1.out.alloc _).below hb2 (by simp; omega)).facts
    have hbw2 := (hbw1.alloc (by omega) _).trans (hb2.mono (by simp; omega))
    clear h3 h4 hr2 hb2
    go_wp2
    exact bodyPost_ret (v := .agg #[.bool (decide (q.num < 0)), .slice A2 (dl q.num.natAbs) c2, .slice A3 (dl q.den) c3]) (by simp [results, Try.results13, go_sem, hcR]) rfl
      ⟨_, rfl, RatR.lower (rat_set3 HR2.out (by simp; omega) _ _ _) (by simp; omega), below_set3 hbw2 (by omega) _ _ _⟩

end Go.Proofs.Ytafhbipafbchcaa
