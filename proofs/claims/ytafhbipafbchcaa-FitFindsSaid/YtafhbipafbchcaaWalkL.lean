/-
  The walks of rational's fractions: store, sign, magnitude, FromInt, Small.
-/
import Derived.Test.YtafhbipafbchcaaWalkK
import Derived.Test.YtafhbipafbchcaaRat
namespace Go.Proofs.Ytafhbipafbchcaa
open Go.RowKit AC
set_option linter.unusedVariables false
set_option linter.unusedSimpArgs false

/-- A struct that holds the number q in its canonical form. -/
def RatR (w : World) (lo : Nat) (v : Value) (q : Rat) : Prop := FracR w lo v (decide (q.num < 0)) q.num.natAbs q.den
theorem RatR.below {w w' : World} {lo : Nat} {v : Value} {q : Rat} (h : RatR w lo v q) (hb : Below w.heap.size w w') : RatR w' lo v q := FracR.below h hb
theorem RatR.lower {w : World} {lo lo' : Nat} {v : Value} {q : Rat} (h : RatR w lo v q) (hl : lo' ≤ lo) : RatR w lo' v q := FracR.lower h hl

theorem RatR.ofLow {w : World} {lo : Nat} {v : Value} {neg : Bool} {n d : Nat} (hd : d ≠ 0) (hn : n ≠ 0) (h : FracR w lo v neg (n / Nat.gcd n d) (d / Nat.gcd n d)) : RatR w lo v (mkRat (sg neg n) d) := by
  unfold RatR
  rw [mk_neg neg n d hd hn, mk_natAbs neg n d hd, mk_den neg n d hd]
  exact h
theorem RatR.ofZero {w : World} {lo : Nat} {v : Value} {neg : Bool} {d : Nat} (h : FracR w lo v false 0 1) : RatR w lo v (mkRat (sg neg 0) d) := by
  rw [sg_zero, Rat.zero_mkRat]; exact h

theorem lowest_any (w : World) (lo : Nat) (v : Value) (neg : Bool) (n d : Nat) (hlo : lo ≤ w.heap.size) (hv : FracR w lo v neg n d) (hd : d ≠ 0) (hk : dl n ≤ 4294967296) (hk' : dl d ≤ 4294967296) :
    Calls Try.prog 44 #[v] w (Ret fun v2 w' => (v2 = v ∧ (∀ W l, FracR W l v neg n d → RatR W l v (mkRat (sg neg n) d)) ∨ RatR w' w.heap.size v2 (mkRat (sg neg n) d)) ∧ Below w.heap.size w w') := by
  by_cases hn : n = 0
  · subst hn
    refine (lowest_zero w lo v neg d hv).mono ?_
    rintro e w' ⟨v2, rfl, h, hb⟩
    exact ⟨v2, rfl, .inr (RatR.ofZero h), hb⟩
  · by_cases h1 : d = 1
    · subst h1
      refine (lowest_one w lo v neg n hv hn).mono ?_
      rintro e w' ⟨v2, rfl, rfl, hb⟩
      exact ⟨_, rfl, .inl ⟨rfl, fun W l h => RatR.ofLow hd hn (by rw [Nat.gcd_one_right, Nat.div_one, Nat.div_one]; exact h)⟩, hb⟩
    · refine (lowest_more w lo v neg n d hlo hv hn h1 hk hk').mono ?_
      rintro e w' ⟨v2, rfl, h, hb⟩
      rcases h with ⟨rfl, hg⟩ | h
      · exact ⟨_, rfl, .inl ⟨rfl, fun W l h => RatR.ofLow hd hn (by rw [hg, Nat.div_one, Nat.div_one]; exact h)⟩, hb⟩
      · exact ⟨v2, rfl, .inr (RatR.ofLow hd hn h), hb⟩

/-- The form of such a struct. -/
theorem FracR.form {w : World} {lo : Nat} {v : Value} {neg : Bool} {n d : Nat} (h : FracR w lo v neg n d) :
    ∃ A c A' c', v = .agg #[.bool neg, .slice A (dl n) c, .slice A' (dl d) c'] ∧ NatR w lo (.slice A (dl n) c) n ∧ NatR w lo (.slice A' (dl d) c') d := by
  obtain ⟨vn, vd, rfl, h1, h2⟩ := h
  obtain ⟨A, c, rfl⟩ := Limbs.len h1
  obtain ⟨A', c', rfl⟩ := Limbs.len h2
  exact ⟨A, c, A', c', rfl, h1, h2⟩

set_option maxHeartbeats 1000000 in
theorem store_any (w : World) (lo : Nat) (v : Value) (neg : Bool) (n d : Nat) (hlo : lo ≤ w.heap.size) (hv : FracR w lo v neg n d) (hd : d ≠ 0) (hk : dl n ≤ 4294967296) (hk' : dl d ≤ 4294967296) :
    Calls Try.prog 30 #[v] w (Ret fun v2 w' => RatR w' lo v2 (mkRat (sg neg n) d) ∧ Below w.heap.size w w') := by
  have HV := Lib.hid hv
  obtain ⟨A, c, A', c', rfl, h1, h2⟩ := hv.form
  clear h1 h2 hv
  go_enter Try.func30, Try.ntmps30
  go_wp2_with fail
  refine (lowest_any _ lo _ neg n d (by simp; omega) (HV.out.below (bel2 w _ _)) hd hk hk').mono ?_
  rintro e w2 ⟨v2, rfl, hr2, hb2⟩
  obtain ⟨hc2, hf2⟩ := bcell hb2
  have hz2 : w.heap.size + 1 < w2.heap.size := by have := hb2.size; simp at this; omega
  have hz2' : w.heap.size < w2.heap.size := by omega
  have hbw2 := (bel2 w _ _).trans (hb2.mono (by simp; omega))
  obtain ⟨q, hq⟩ : ∃ q, Hid (q = mkRat (sg neg n) d) := ⟨_, rfl⟩
  rw [← hq.out] at hr2
  have hdone : ∃ A2 c2 A3 c3, v2 = .agg #[.bool (decide (q.num < 0)), .slice A2 (dl q.num.natAbs) c2, .slice A3 (dl q.den) c3] ∧
      ∀ (a b c : Value) (o : Obj), RatR (World.alloc (((w2.setCell ⟨w.heap.size + 1, 0, none⟩ a).setCell ⟨w.heap.size + 1, 1, none⟩ b).setCell ⟨w.heap.size + 1, 2, none⟩ c) o) lo v2 q := by
    rcases hr2 with ⟨rfl, h⟩ | h
    · have h0 := h w lo HV.out
      obtain ⟨A2, c2, A3, c3, e, _, _⟩ := FracR.form h0
      refine ⟨A2, c2, A3, c3, e, fun a b c o => ?_⟩
      exact h0.below ((((hbw2.setCell (by simp) a).setCell (by simp) b).setCell (by simp) c).alloc (by simp [World.setCell]; omega) o)
    · obtain ⟨A2, c2, A3, c3, e, _, _⟩ := FracR.form h
      refine ⟨A2, c2, A3, c3, e, fun a b c o => ?_⟩
      obtain ⟨vn, vd, hvv, h1, h2⟩ := h
      exact ⟨vn, vd, hvv, ((((Limbs.setCell h1 (by simp) a).setCell (by simp) b).setCell (by simp) c).alloc o).lower (by simp; omega), ((((Limbs.setCell h2 (by simp) a).setCell (by simp) b).setCell (by simp) c).alloc o).lower (by simp; omega)⟩
  obtain ⟨A2, c2, A3, c3, rfl, hdone⟩ := hdone
  have HD := Lib.hid hdone
  clear hdone hr2 hb2
  go_wp2
  refine bodyPost_ret (v := .agg #[.bool (decide (q.num < 0)), .slice A2 (dl q.num.natAbs) c2, .slice A3 (dl q.den) c3]) (by simp [results, Try.results30, go_sem, hc2, hz2]) rfl ⟨_, rfl, ?_, ?_⟩
  · rw [← hq.out]; exact HD.out _ _ _ _
  · exact (((hbw2.setCell (by simp) _).setCell (by simp) _).setCell (by simp) _).alloc (by simp [World.setCell]; omega) _

end Go.Proofs.Ytafhbipafbchcaa
