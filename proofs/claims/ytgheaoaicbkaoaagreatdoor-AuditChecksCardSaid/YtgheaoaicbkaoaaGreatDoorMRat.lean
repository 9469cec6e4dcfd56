/-
  Plain facts about rational numbers and their sizes.
-/
import Derived.Test.YtgheaoaicbkaoaaGreatDoorMNum
import Derived.Test.YtgheaoaicbkaoaaGreatDoorMWalkJ
import Derived.Deep.RegionHeld3
namespace AC
set_option linter.unusedVariables false
set_option linter.unusedSimpArgs false

/-- The integer with a sign and a magnitude. -/
def sg (neg : Bool) (n : Nat) : Int := if neg then -(n : Int) else (n : Int)
theorem sg_natAbs (neg : Bool) (n : Nat) : (sg neg n).natAbs = n := by cases neg <;> simp [sg]
theorem sg_zero (neg : Bool) : sg neg 0 = 0 := by cases neg <;> simp [sg]
theorem sg_not (neg : Bool) (n : Nat) : sg (!neg) n = -sg neg n := by cases neg <;> simp [sg]

theorem mk_den (neg : Bool) (n d : Nat) (hd : d ≠ 0) : (mkRat (sg neg n) d).den = d / Nat.gcd n d := by
  rw [Rat.den_mkRat, if_neg hd, sg_natAbs, Nat.gcd_comm]

theorem mk_num (neg : Bool) (n d : Nat) (hd : d ≠ 0) : (mkRat (sg neg n) d).num = sg neg (n / Nat.gcd n d) := by
  rw [Rat.num_mkRat, if_neg hd, sg_natAbs, Nat.gcd_comm]
  cases neg
  · simp [sg]
  · simp only [sg, if_true]
    rw [Int.neg_ediv_of_dvd (Int.natCast_dvd_natCast.2 (Nat.gcd_dvd_left n d))]
    simp

theorem mk_natAbs (neg : Bool) (n d : Nat) (hd : d ≠ 0) : (mkRat (sg neg n) d).num.natAbs = n / Nat.gcd n d := by
  rw [mk_num neg n d hd, sg_natAbs]

theorem low_pos {n d : Nat} (hn : n ≠ 0) : n / Nat.gcd n d ≠ 0 := by
  have h1 : 0 < Nat.gcd n d := Nat.gcd_pos_of_pos_left d (Nat.pos_of_ne_zero hn)
  have h2 : Nat.gcd n d ≤ n := Nat.gcd_le_left d (Nat.pos_of_ne_zero hn)
  have := Nat.div_pos h2 h1
  omega

theorem mk_neg (neg : Bool) (n d : Nat) (hd : d ≠ 0) (hn : n ≠ 0) : decide ((mkRat (sg neg n) d).num < 0) = neg := by
  rw [mk_num neg n d hd]
  have := low_pos (d := d) hn
  generalize n / Nat.gcd n d = m at *
  cases neg
  · simp [sg]
  · simp [sg]; omega

/-- How many digits the two parts of a number have at most. -/
def sz (q : Rat) : Nat := max (dl q.num.natAbs) (dl q.den)

theorem sz_mk (x : Int) (d k : Nat) (h1 : dl x.natAbs ≤ k) (h2 : dl d ≤ k) (hk : 1 ≤ k) : sz (mkRat x d) ≤ k := by
  unfold sz
  rw [Rat.num_mkRat, Rat.den_mkRat]
  by_cases hd : d = 0
  · subst hd
    have : dl 1 = 1 := dl_unique (k := 0) (by decide) (by decide)
    simp [dl_zero, this]; omega
  · rw [if_neg hd, if_neg hd]
    apply Nat.max_le.2
    constructor
    · refine Nat.le_trans (dl_mono ?_) h1
      have : (x / ((Nat.gcd d x.natAbs : Nat) : Int)).natAbs ≤ x.natAbs := by
        have hdv : ((Nat.gcd d x.natAbs : Nat) : Int) ∣ x := Int.ofNat_dvd_left.2 (Nat.gcd_dvd_right _ _)
        rw [Int.natAbs_ediv_of_dvd hdv]
        exact Nat.div_le_self _ _
      exact this
    · exact Nat.le_trans (dl_mono (Nat.div_le_self _ _)) h2

theorem sz_ge_one (q : Rat) : 1 ≤ sz q := by
  have h : dl q.den ≠ 0 := fun e => q.den_nz (dl_eq_zero.1 e)
  unfold sz
  omega

theorem dl_natAbs_mul (x y : Int) : dl (x * y).natAbs ≤ dl x.natAbs + dl y.natAbs := by rw [Int.natAbs_mul]; exact dl_mul_le _ _

theorem sz_add (a b : Rat) : sz (a + b) ≤ sz a + sz b + 1 := by
  rw [Rat.add_def']
  have h1 : dl a.num.natAbs ≤ sz a := Nat.le_max_left _ _
  have h2 : dl a.den ≤ sz a := Nat.le_max_right _ _
  have h3 : dl b.num.natAbs ≤ sz b := Nat.le_max_left _ _
  have h4 : dl b.den ≤ sz b := Nat.le_max_right _ _
  refine sz_mk _ _ _ ?_ ?_ (by omega)
  · have h5 : (a.num * b.den + b.num * a.den).natAbs ≤ (a.num * b.den).natAbs + (b.num * a.den).natAbs := Int.natAbs_add_le _ _
    refine Nat.le_trans (dl_mono h5) (Nat.le_trans (dl_add_le _ _) ?_)
    have h6 := dl_natAbs_mul a.num b.den
    have h7 := dl_natAbs_mul b.num a.den
    simp only [Int.natAbs_natCast] at h6 h7
    omega
  · have := dl_mul_le a.den b.den
    omega

theorem sz_mul (a b : Rat) : sz (a * b) ≤ sz a + sz b := by
  rw [Rat.mul_def']
  have h1 : dl a.num.natAbs ≤ sz a := Nat.le_max_left _ _
  have h2 : dl a.den ≤ sz a := Nat.le_max_right _ _
  have h3 : dl b.num.natAbs ≤ sz b := Nat.le_max_left _ _
  have h4 : dl b.den ≤ sz b := Nat.le_max_right _ _
  have h5 := sz_ge_one a
  refine sz_mk _ _ _ ?_ ?_ (by omega)
  · have := dl_natAbs_mul a.num b.num; omega
  · have := dl_mul_le a.den b.den; omega

theorem sz_neg (a : Rat) : sz (-a) = sz a := by
  unfold sz; simp

theorem sz_sub (a b : Rat) : sz (a - b) ≤ sz a + sz b + 1 := by
  rw [Rat.sub_eq_add_neg]
  have := sz_add a (-b)
  rw [sz_neg] at this
  exact this

end AC

/-
  The walks of rational's fractions: store, sign, magnitude, FromInt, Small.
-/
namespace Go.Proofs.YtgheaoaicbkaoaaGreatDoor
open Go.RowKit AC
set_option linter.unusedVariables false
set_option linter.unusedSimpArgs false

/-- A struct that holds the number q in its canonical form. -/
def RatR (w : World) (lo : Nat) (v : Value) (q : Rat) : Prop := FracR w lo v (decide (q.num < 0)) q.num.natAbs q.den
theorem RatR.below {w w' : World} {lo : Nat} {v : Value} {q : Rat} (h : RatR w lo v q) (hb : Below w.heap.size w w') : RatR w' lo v q := FracR.below h hb
theorem RatR.lower {w : World} {lo lo' : Nat} {v : Value} {q : Rat} (h : RatR w lo v q) (hl : lo' ≤ lo) : RatR w lo' v q := FracR.lower h hl

theorem RatR.ofLow {w : World} {lo : Nat} {v : Value} {neg : Bool} {n d : Nat} (hd : d ≠ 0) (hn : n ≠ 0) (h : FracR w lo v neg (n / Nat.gcd n d) (d / Nat.gcd n d)) : RatR w lo v (mkRat (sg neg n) d) := by
  unfold RatR
  rw [mk_neg neg n d hd hn, mk_natAbs neg n d hd, mk_den neg n d hd]
  exact h
theorem RatR.ofZero {w : World} {lo : Nat} {v : Value} {neg : Bool} {d : Nat} (h : FracR w lo v false 0 1) : RatR w lo v (mkRat (sg neg 0) d) := by
  rw [sg_zero, Rat.zero_mkRat]; exact h

theorem lowest_any (w : World) (lo : Nat) (v : Value) (neg : Bool) (n d : Nat) (hlo : lo ≤ w.heap.size) (hv : FracR w lo v neg n d) (hd : d ≠ 0) (hk : dl n ≤ 4294967296) (hk' : dl d ≤ 4294967296) :
    Calls Tryz.prog 64 #[v] w (Ret fun v2 w' => (v2 = v ∧ (∀ W l, FracR W l v neg n d → RatR W l v (mkRat (sg neg n) d)) ∨ RatR w' w.heap.size v2 (mkRat (sg neg n) d)) ∧ Below w.heap.size w w') := by
  by_cases hn : n = 0
  · subst hn
    refine (lowest_zero w lo v neg d hv).mono ?_
    rintro e w' ⟨v2, rfl, h, hb⟩
    exact ⟨v2, rfl, .inr (RatR.ofZero h), hb⟩
  · by_cases h1 : d = 1
    · subst h1
      refine (lowest_one w lo v neg n hv hn).mono ?_
      rintro e w' ⟨v2, rfl, rfl, hb⟩
      exact ⟨_, rfl, .inl ⟨rfl, fun W l h => RatR.ofLow hd hn (by rw [Nat.gcd_one_right, Nat.div_one, Nat.div_one]; exact h)⟩, hb⟩
    · refine (lowest_more w lo v neg n d hlo hv hn h1 hk hk').mono ?_
      rintro e w' ⟨v2, rfl, h, hb⟩
      rcases h with ⟨rfl, hg⟩ | h
      · exact ⟨_, rfl, .inl ⟨rfl, fun W l h => RatR.ofLow hd hn (by rw [hg, Nat.div_one, Nat.div_one]; exact h)⟩, hb⟩
      · exact ⟨v2, rfl, .inr (RatR.ofLow hd hn h), hb⟩

/-- The form of such a struct. -/
theorem FracR.form {w : World} {lo : Nat} {v : Value} {neg : Bool} {n d : Nat} (h : FracR w lo v neg n d) :
    ∃ A c A' c', v = .agg #[.bool neg, .slice A (dl n) c, .slice A' (dl d) c'] ∧ NatR w lo (.slice A (dl n) c) n ∧ NatR w lo (.slice A' (dl d) c') d := by
  obtain ⟨vn, vd, rfl, h1, h2⟩ := h
  obtain ⟨A, c, rfl⟩ := Limbs.len h1
  obtain ⟨A', c', rfl⟩ := Limbs.len h2
  exact ⟨A, c, A', c', rfl, h1, h2⟩

set_option maxHeartbeats 1000000 in
theorem store_any (w : World) (lo : Nat) (v : Value) (neg : Bool) (n d : Nat) (hlo : lo ≤ w.heap.size) (hv : FracR w lo v neg n d) (hd : d ≠ 0) (hk : dl n ≤ 4294967296) (hk' : dl d ≤ 4294967296) :
    Calls Tryz.prog 30 #[v] w (Ret fun v2 w' => RatR w' lo v2 (mkRat (sg neg n) d) ∧ Below w.heap.size w w') := by
  have HV := Lib.hid hv
  obtain ⟨A, c, A', c', rfl, h1, h2⟩ := hv.form
  clear h1 h2 hv
  go_enter Tryz.func30, Tryz.ntmps30
  go_wp2_with fail
  refine (lowest_any _ lo _ neg n d (by simp; omega) (HV.out.below (bel2 w _ _)) hd hk hk').mono ?_
  rintro e w2 ⟨v2, rfl, hr2, hb2⟩
  obtain ⟨hc2, hf2⟩ := bcell hb2
  have hz2 : w.heap.size + 1 < w2.heap.size := by have := hb2.size; simp at this; omega
  have hz2' : w.heap.size < w2.heap.size := by omega
  have hbw2 := (bel2 w _ _).trans (hb2.mono (by simp; omega))
  obtain ⟨q, hq⟩ : ∃ q, Hid (q = mkRat (sg neg n) d) := ⟨_, rfl⟩
  rw [← hq.out] at hr2
  have hdone : ∃ A2 c2 A3 c3, v2 = .agg #[.bool (decide (q.num < 0)), .slice A2 (dl q.num.natAbs) c2, .slice A3 (dl q.den) c3] ∧
      ∀ (a b c : Value) (o : Obj), RatR (World.alloc (((w2.setCell ⟨w.heap.size + 1, 0, none⟩ a).setCell ⟨w.heap.size + 1, 1, none⟩ b).setCell ⟨w.heap.size + 1, 2, none⟩ c) o) lo v2 q := by
    rcases hr2 with ⟨rfl, h⟩ | h
    · have h0 := h w lo HV.out
      obtain ⟨A2, c2, A3, c3, e, _, _⟩ := FracR.form h0
      refine ⟨A2, c2, A3, c3, e, fun a b c o => ?_⟩
      exact h0.below ((((hbw2.setCell (by simp) a).setCell (by simp) b).setCell (by simp) c).alloc (by simp [World.setCell]; omega) o)
    · obtain ⟨A2, c2, A3, c3, e, _, _⟩ := FracR.form h
      refine ⟨A2, c2, A3, c3, e, fun a b c o => ?_⟩
      obtain ⟨vn, vd, hvv, h1, h2⟩ := h
      exact ⟨vn, vd, hvv, ((((Limbs.setCell h1 (by simp) a).setCell (by simp) b).setCell (by simp) c).alloc o).lower (by simp; omega), ((((Limbs.setCell h2 (by simp) a).setCell (by simp) b).setCell (by simp) c).alloc o).lower (by simp; omega)⟩
  obtain ⟨A2, c2, A3, c3, rfl, hdone⟩ := hdone
  have HD := Lib.hid hdone
  clear hdone hr2 hb2
  go_wp2
  refine bodyPost_ret (v := .agg #[.bool (decide (q.num < 0)), .slice A2 (dl q.num.natAbs) c2, .slice A3 (dl q.den) c3]) (by simp [results, Tryz.results30, go_sem, hc2, hz2]) rfl ⟨_, rfl, ?_, ?_⟩
  · rw [← hq.out]; exact HD.out _ _ _ _
  · exact (((hbw2.setCell (by simp) _).setCell (by simp) _).setCell (by simp) _).alloc (by simp [World.setCell]; omega) _

end Go.Proofs.YtgheaoaicbkaoaaGreatDoor

/-
  The walks of rational's load and sign.
-/
namespace Go.Proofs.YtgheaoaicbkaoaaGreatDoor
open Go.RowKit AC
set_option linter.unusedVariables false
set_option linter.unusedSimpArgs false

/-- A struct of a sign and two lists of limbs, at most K each, that denotes the number q. -/
def RatV (w : World) (lo : Nat) (v : Value) (K : Nat) (q : Rat) : Prop :=
  ∃ (neg : Bool) (kn kd : Nat) (fn fd : Nat → Nat) (vn vd : Value), v = .agg #[.bool neg, vn, vd] ∧ Limbs w lo vn kn fn ∧ Limbs w lo vd kd fd ∧ kn ≤ K ∧ kd ≤ K ∧ q = mkRat (sg neg (vs fn kn)) (vs fd kd)

theorem RatV.below {w w' : World} {lo : Nat} {v : Value} {K : Nat} {q : Rat} (h : RatV w lo v K q) (hb : Below w.heap.size w w') : RatV w' lo v K q := by
  obtain ⟨neg, kn, kd, fn, fd, vn, vd, rfl, h1, h2, h3, h4, h5⟩ := h
  exact ⟨neg, kn, kd, fn, fd, vn, vd, rfl, h1.below hb, h2.below hb, h3, h4, h5⟩
theorem RatV.lower {w : World} {lo lo' : Nat} {v : Value} {K : Nat} {q : Rat} (h : RatV w lo v K q) (hl : lo' ≤ lo) : RatV w lo' v K q := by
  obtain ⟨neg, kn, kd, fn, fd, vn, vd, rfl, h1, h2, h3, h4, h5⟩ := h
  exact ⟨neg, kn, kd, fn, fd, vn, vd, rfl, h1.lower hl, h2.lower hl, h3, h4, h5⟩

theorem sg_ofParts (q : Rat) : sg (decide (q.num < 0)) q.num.natAbs = q.num := by
  unfold sg
  by_cases h : q.num < 0
  · simp [h]; omega
  · simp [h]; omega
theorem mk_parts (q : Rat) : mkRat (sg (decide (q.num < 0)) q.num.natAbs) q.den = q := by rw [sg_ofParts]; exact Rat.mkRat_self q
theorem RatR.toV {w : World} {lo : Nat} {v : Value} {q : Rat} (h : RatR w lo v q) {K : Nat} (hK : sz q ≤ K) : RatV w lo v K q := by
  obtain ⟨vn, vd, rfl, h1, h2⟩ := h
  refine ⟨_, _, _, _, _, vn, vd, rfl, h1, h2, ?_, ?_, ?_⟩
  · exact Nat.le_trans (Nat.le_max_left _ _) hK
  · exact Nat.le_trans (Nat.le_max_right _ _) hK
  · rw [vs_dl, vs_dl, mk_parts]

theorem dl_limbs {f : Nat → Nat} {k : Nat} (h : ∀ i, i < k → f i < 4294967296) : dl (vs f k) ≤ k + 1 := by
  apply dl_le
  have h1 := carry_small f k h k (Nat.le_refl _)
  rw [Nat.pow_succ, Nat.mul_comm, ← Nat.div_lt_iff_lt_mul (Bp_pos k)]
  exact Nat.lt_of_le_of_lt h1 (by decide)

theorem RatV.size {w : World} {lo : Nat} {v : Value} {K : Nat} {q : Rat} (h : RatV w lo v K q) : sz q ≤ K + 1 := by
  obtain ⟨neg, kn, kd, fn, fd, vn, vd, rfl, h1, h2, h3, h4, h5⟩ := h
  rw [h5]
  refine sz_mk _ _ _ ?_ ?_ (by omega)
  · rw [sg_natAbs]; have := dl_limbs h1.1; omega
  · have := dl_limbs h2.1; omega

/-- What load gives: a fraction in new memory. -/
def LoadR (w : World) (K : Nat) (q : Rat) (v2 : Value) (w' : World) : Prop :=
  ∃ neg n d, FracR w' w.heap.size v2 neg n d ∧ d ≠ 0 ∧ dl n ≤ K + 1 ∧ dl d ≤ K + 1 ∧ q = mkRat (sg neg n) d ∧ Below w.heap.size w w'

set_option maxHeartbeats 2000000 in
theorem load_any (w : World) (lo : Nat) (v : Value) (K : Nat) (q : Rat) (hv : RatV w lo v K q) (hK : K ≤ 4294967290) :
    Calls Tryz.prog 25 #[v] w (Ret (LoadR w K q)) := by
  obtain ⟨neg, kn, kd, fn, fd, vn, vd, rfl, h1, h2, h3, h4, h5⟩ := hv
  have H1 := Lib.hid h1
  have H2 := Lib.hid h2
  have H5 := Lib.hid h5
  obtain ⟨A, c, rfl⟩ := h1.len
  obtain ⟨A', c', rfl⟩ := h2.len
  clear h1 h2 h5
  go_enter Tryz.func25, Tryz.ntmps25
  go_wp2
  go_region_held3 (fun w' => w'.cell? ⟨w.heap.size, 1, none⟩ = some (.slice A kn c) ∧ w'.cell? ⟨w.heap.size, 2, none⟩ = some (.slice A' kd c')) (go_keep)
    (first
      | (go_at_call_of 61 (Value.slice A kn c); refine (normal_any _ lo _ kn fn (by exact (H1.out.alloc _).alloc _) (by omega)).mono ?_; rintro e w1 ⟨v1, rfl, hn1, hb1⟩; have hbw1 := (bel2 w _ _).drew.trans (hb1.mono (by simp; omega)); have hz1 : w.heap.size + 1 < w1.heap.size := (by have := hb1.size; simp at this; omega); have hz1' : w.heap.size < w1.heap.size := (by omega); obtain ⟨hc1, hf1⟩ := bcell hb1; have hcA : w1.cell? ⟨w.heap.size, 1, none⟩ = some (.slice A kn c) := (hb1.cell (p := ⟨w.heap.size, 1, none⟩) (by simp; omega)).trans (by simp [go_sem]); have hcB : w1.cell? ⟨w.heap.size, 2, none⟩ = some (.slice A' kd c') := (hb1.cell (p := ⟨w.heap.size, 2, none⟩) (by simp; omega)).trans (by simp [go_sem]))
      | (go_at_call_of 61 (Value.slice A' kd c'); refine (normal_any _ lo _ kd fd (by exact H2.out.below hbw1) (by omega)).mono ?_; rintro e w2 ⟨v2, rfl, hn2, hb2⟩; have hcA2 : w2.cell? ⟨w.heap.size, 1, none⟩ = some (.slice A kn c) := (hb2.cell (p := ⟨w.heap.size, 1, none⟩) (by simp; omega)).trans hcA; have hcB2 : w2.cell? ⟨w.heap.size, 2, none⟩ = some (.slice A' kd c') := (hb2.cell (p := ⟨w.heap.size, 2, none⟩) (by simp; omega)).trans hcB))
  have hz2 : w.heap.size + 1 < w2.heap.size := by have := hb2.size; omega
  have hz2' : w.heap.size < w2.heap.size := by omega
  have hbw2 := hbw1.trans (hb2.mono (by omega))
  have hc2 : ∀ b o, b < w.heap.size + 2 → w2.cell? ⟨b, o, none⟩ = w1.cell? ⟨b, o, none⟩ := fun b o h => hb2.cell (p := ⟨b, o, none⟩) (by simp; omega)
  have hf2 : ∀ b o, b < w.heap.size + 2 → w2.frozen? ⟨b, o, none⟩ = w1.frozen? ⟨b, o, none⟩ := fun b o h => hb2.frozen (p := ⟨b, o, none⟩) (by simp; omega)
  have HN1 := Lib.hid (hn1.below hb2)
  have HN2 := Lib.hid hn2
  obtain ⟨N, hN⟩ : ∃ N, Hid (N = vs fn kn) := ⟨_, rfl⟩
  obtain ⟨D, hD⟩ : ∃ D, Hid (D = vs fd kd) := ⟨_, rfl⟩
  rw [← hN.out] at HN1 hn1
  rw [← hD.out] at HN2 hn2
  have hszN : Hid (dl N ≤ K + 1) := by show dl N ≤ K + 1; rw [hN.out]; have := dl_limbs H1.out.1; omega
  have hszD : Hid (dl D ≤ K + 1) := by show dl D ≤ K + 1; rw [hD.out]; have := dl_limbs H2.out.1; omega
  obtain ⟨A1, c1, rfl⟩ := Limbs.len hn1
  obtain ⟨A2, c2, rfl⟩ := Limbs.len hn2
  clear hn1 hn2 hb1 hb2
  have hval : Hid (q = mkRat (sg neg N) D) := by rw [hN.out, hD.out]; exact H5
  have hfin := fun (a b c : Value) => ((hbw2.setCell (p := ⟨w.heap.size + 1, 0, none⟩) (by simp) a).setCell (p := ⟨w.heap.size + 1, 1, none⟩) (by simp) b).setCell (p := ⟨w.heap.size + 1, 2, none⟩) (by simp) c
  have HFIN := Lib.hid hfin
  have hone := fun (a b c : Value) => NatR.oneNew (((w2.setCell ⟨w.heap.size + 1, 0, none⟩ a).setCell ⟨w.heap.size + 1, 1, none⟩ b).setCell ⟨w.heap.size + 1, 2, none⟩ c) w.heap.size 120 (by simp [World.setCell]; omega)
  have hsz : ∀ a b c : Value, (((w2.setCell ⟨w.heap.size + 1, 0, none⟩ a).setCell ⟨w.heap.size + 1, 1, none⟩ b).setCell ⟨w.heap.size + 1, 2, none⟩ c).heap.size = w2.heap.size := fun a b c => by simp [World.setCell]
  simp only [hsz] at hone
  have HONE := Lib.hid hone
  clear hone hsz hfin
  by_cases h0 : N = 0
  · have hq0 : Hid (q = mkRat (sg false 0) 1) := by
      show _ = _
      rw [hval.out, h0, sg_zero, sg_zero, Rat.zero_mkRat, Rat.zero_mkRat]
    have hd0 : (((dl N : Nat) : Int) == 0) = true := by rw [h0, dl_zero]; rfl
    clear h0
    go_wp2
    exact bodyPost_ret (v := .agg #[.bool false, .slice none 0 0, .slice (some ⟨w2.heap.size, 0, none⟩) 1 1]) (by simp [results, Tryz.results25, go_sem, hc2, hc1, hz2]) rfl
      ⟨_, rfl, false, 0, 1, ⟨_, _, rfl, NatR.zero _ _, HONE.out _ _ _⟩, by omega, by rw [dl_zero]; omega, by rw [dl_one]; omega, hq0.out, (HFIN.out _ _ _).alloc (by simp [World.setCell]; omega) _⟩
  · have hd0 : (((dl N : Nat) : Int) == 0) = false := by
      rw [beq_eq_false_iff_ne]; have := mt dl_eq_zero.1 h0; omega
    by_cases h1 : D = 0
    · have hq0 : Hid (q = mkRat (sg false 0) 1) := by
        show _ = _
        rw [hval.out, h1, sg_zero, Rat.mkRat_zero, Rat.zero_mkRat]
      have hd1 : (((dl D : Nat) : Int) == 0) = true := by rw [h1, dl_zero]; rfl
      clear h0 h1
      go_wp2
      exact bodyPost_ret (v := .agg #[.bool false, .slice none 0 0, .slice (some ⟨w2.heap.size, 0, none⟩) 1 1]) (by simp [results, Tryz.results25, go_sem, hc2, hc1, hz2]) rfl
        ⟨_, rfl, false, 0, 1, ⟨_, _, rfl, NatR.zero _ _, HONE.out _ _ _⟩, by omega, by rw [dl_zero]; omega, by rw [dl_one]; omega, hq0.out, (HFIN.out _ _ _).alloc (by simp [World.setCell]; omega) _⟩
    · have hd1 : (((dl D : Nat) : Int) == 0) = false := by
        rw [beq_eq_false_iff_ne]; have := mt dl_eq_zero.1 h1; omega
      clear h0
      go_wp2
      refine bodyPost_ret (v := .agg #[.bool neg, .slice A1 (dl N) c1, .slice A2 (dl D) c2]) (by simp [results, Tryz.results25, go_sem, hc2, hc1, hz2]) rfl
        ⟨_, rfl, neg, N, D, ⟨_, _, rfl, ?_, ?_⟩, h1, hszN.out, hszD.out, hval.out, HFIN.out _ _ _⟩
      · exact (((Limbs.setCell HN1.out (by simp) _).setCell (by simp) _).setCell (by simp) _).lower (by simp; omega)
      · exact (((Limbs.setCell HN2.out (by simp; omega) _).setCell (by simp; omega) _).setCell (by simp; omega) _).lower (by omega)

/-- What sign returns. -/
def signI (neg : Bool) (n : Nat) : Int := if n = 0 then 0 else if neg then -1 else 1

set_option maxHeartbeats 1000000 in
theorem usign_any (w : World) (lo : Nat) (v : Value) (neg : Bool) (n d : Nat) (hv : FracR w lo v neg n d) :
    Calls Tryz.prog 26 #[v] w (fun e w' => e = .returned (.int .i64 (signI neg n)) ∧ Below w.heap.size w w') := by
  obtain ⟨A, c, A', c', rfl, h1, h2⟩ := hv.form
  clear h1 h2 hv
  by_cases h0 : n = 0
  · have hs : Hid (signI neg n = 0) := by unfold signI; rw [if_pos h0]; rfl
    have hd0 : (((dl n : Nat) : Int) == 0) = true := by rw [h0, dl_zero]; rfl
    clear h0
    go_enter Tryz.func26, Tryz.ntmps26
    go_wp2
    go_ret
    exact ⟨by rw [hs.out]; rfl, (Below.refl _ _).alloc (Nat.le_refl _) _⟩
  · have hd0 : (((dl n : Nat) : Int) == 0) = false := by
      rw [beq_eq_false_iff_ne]; have := mt dl_eq_zero.1 h0; omega
    cases neg
    · have hs : Hid (signI false n = 1) := by unfold signI; rw [if_neg h0]; rfl
      clear h0
      go_enter Tryz.func26, Tryz.ntmps26
      go_wp2
      go_ret
      exact ⟨by rw [hs.out]; rfl, (Below.refl _ _).alloc (Nat.le_refl _) _⟩
    · have hs : Hid (signI true n = -1) := by unfold signI; rw [if_neg h0]; rfl
      clear h0
      go_enter Tryz.func26, Tryz.ntmps26
      go_wp2
      go_ret
      exact ⟨by rw [hs.out]; rfl, (Below.refl _ _).alloc (Nat.le_refl _) _⟩

set_option maxHeartbeats 1000000 in
theorem magnitude_any (w : World) (x : Int) (h1 : -9223372036854775808 ≤ x) (h2 : x ≤ 9223372036854775807) :
    Calls Tryz.prog 29 #[.int .i64 x] w (Ret fun v2 w' => NatR w' w.heap.size v2 x.natAbs ∧ Below w.heap.size w w') := by
  by_cases h0 : x < 0
  · go_enter Tryz.func29, Tryz.ntmps29
    go_wp2_with fail
    rw [show IntKind.u64.wrap (-IntKind.u64.wrap x) = ((x.natAbs : Nat) : Int) by rw [IntKind.wrap_u64, IntKind.wrap_u64]; omega]
    refine (fromWord_any _ x.natAbs (by omega)).mono ?_
    rintro e w1 ⟨v1, rfl, hn1, hb1⟩
    go_wp2
    go_ret
    exact ⟨v1, rfl, hn1, hb1⟩
  · obtain ⟨n, rfl⟩ : ∃ n : Nat, x = n := ⟨x.toNat, by omega⟩
    go_enter Tryz.func29, Tryz.ntmps29
    go_wp2_with fail
    refine (fromWord_any _ n (by omega)).mono ?_
    rintro e w1 ⟨v1, rfl, hn1, hb1⟩
    go_wp2
    go_ret
    exact ⟨v1, rfl, by rw [Int.natAbs_natCast]; exact hn1, hb1⟩

end Go.Proofs.YtgheaoaicbkaoaaGreatDoor

