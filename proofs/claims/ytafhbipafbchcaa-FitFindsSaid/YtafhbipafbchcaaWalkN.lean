/-
  The walks of rational's FromInt, Small and plus.
-/
import Derived.Test.YtafhbipafbchcaaWalkM
import Derived.Test.YtafhbipafbchcaaMemB
namespace Go.Proofs.Ytafhbipafbchcaa
open Go.RowKit AC
set_option linter.unusedVariables false
set_option linter.unusedSimpArgs false

theorem bel1 (w : World) (o : Obj) : Below w.heap.size w (w.alloc o) := (Below.refl _ _).alloc (Nat.le_refl _) o

theorem rat_set3 {w : World} {lo : Nat} {v : Value} {q : Rat} (h : RatR w lo v q) {g : Nat} (hg : g < lo) (x y z : Value) :
    RatR (((w.setCell ⟨g, 0, none⟩ x).setCell ⟨g, 1, none⟩ y).setCell ⟨g, 2, none⟩ z) lo v q := by
  obtain ⟨vn, vd, rfl, h1, h2⟩ := h
  exact ⟨vn, vd, rfl, limbs_set3 h1 hg x y z, limbs_set3 h2 hg x y z⟩
theorem frac_set3 {w : World} {lo : Nat} {v : Value} {neg : Bool} {n d : Nat} (h : FracR w lo v neg n d) {g : Nat} (hg : g < lo) (x y z : Value) :
    FracR (((w.setCell ⟨g, 0, none⟩ x).setCell ⟨g, 1, none⟩ y).setCell ⟨g, 2, none⟩ z) lo v neg n d := by
  obtain ⟨vn, vd, rfl, h1, h2⟩ := h
  exact ⟨vn, vd, rfl, limbs_set3 h1 hg x y z, limbs_set3 h2 hg x y z⟩

set_option maxHeartbeats 1000000 in
theorem fromInt_any (w : World) (x : Int) (h1 : -9223372036854775808 ≤ x) (h2 : x ≤ 9223372036854775807) :
    Calls Try.prog 16 #[.int .i64 x] w (Ret fun v2 w' => RatR w' w.heap.size v2 (mkRat x 1) ∧ Below w.heap.size w w') := by
  have hsg : Hid (sg (decide (x < 0)) x.natAbs = x) := by
    show _ = _
    unfold sg
    by_cases h : x < 0
    · simp [h]; omega
    · simp [h]; omega
  have hdl : Hid (dl x.natAbs ≤ 3) := by
    show dl x.natAbs ≤ 3
    apply dl_le
    have h3 : B ^ 3 = 1000000000000000000000000000 := by decide
    omega
  go_enter Try.func16, Try.ntmps16
  go_wp2_with fail
  refine (magnitude_any _ x h1 h2).mono ?_
  rintro e w1 ⟨v1, rfl, hn1, hb1⟩
  have hR1 := Lib.hid ((Bk.new w 29 _).below hb1 (by simp))
  have HN1 := Lib.hid hn1
  obtain ⟨A, c, rfl⟩ := Limbs.len hn1
  have hz1 : w.heap.size < w1.heap.size := hR1.out.lt
  have hbw1 := (bel1 w _).trans (hb1.mono (by simp))
  clear hn1 hb1
  go_wp2_with fail
  refine (store_any _ (w.heap.size + 1) _ _ x.natAbs 1 (by simp; omega) ⟨_, _, rfl, ?_, ?_⟩ (by decide) (by have := hdl.out; omega) (by rw [dl_one]; omega)).mono ?_
  · exact Limbs.lower (Limbs.alloc HN1.out _) (by simp)
  · exact NatR.oneNew _ _ _ (by omega)
  rintro e w2 ⟨v2, rfl, hr2, hb2⟩
  rw [hsg.out] at hr2
  obtain ⟨q, hq⟩ : ∃ q, Hid (q = mkRat x 1) := ⟨_, rfl⟩
  rw [← hq.out] at hr2
  have HR2 := Lib.hid hr2
  obtain ⟨A2, c2, A3, c3, rfl, h3, h4⟩ := FracR.form hr2
  obtain ⟨hcR, hfR, hz2⟩ := ((hR1.out.alloc _).below hb2 (by simp; omega)).facts
  have hbw2 := (hbw1.alloc (by omega) _).trans (hb2.mono (by simp; omega))
  clear h3 h4 hr2 hb2
  go_wp2
  exact bodyPost_ret (v := .agg #[.bool (decide (q.num < 0)), .slice A2 (dl q.num.natAbs) c2, .slice A3 (dl q.den) c3]) (by simp [results, Try.results16, go_sem, hcR]) rfl
    ⟨_, rfl, by rw [← hq.out]; exact RatR.lower (rat_set3 HR2.out (by omega) _ _ _) (by omega), below_set3 hbw2 (Nat.le_refl _) _ _ _⟩

end Go.Proofs.Ytafhbipafbchcaa
