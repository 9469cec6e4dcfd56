/-
  Plain facts about rational numbers and their sizes.
-/
import Derived.Test.YtafhbipafbchcaaNum
namespace AC
set_option linter.unusedVariables false
set_option linter.unusedSimpArgs false

/-- The integer with a sign and a magnitude. -/
def sg (neg : Bool) (n : Nat) : Int := if neg then -(n : Int) else (n : Int)
theorem sg_natAbs (neg : Bool) (n : Nat) : (sg neg n).natAbs = n := by cases neg <;> simp [sg]
theorem sg_zero (neg : Bool) : sg neg 0 = 0 := by cases neg <;> simp [sg]
theorem sg_not (neg : Bool) (n : Nat) : sg (!neg) n = -sg neg n := by cases neg <;> simp [sg]

theorem mk_den (neg : Bool) (n d : Nat) (hd : d ≠ 0) : (mkRat (sg neg n) d).den = d / Nat.gcd n d := by
  rw [Rat.den_mkRat, if_neg hd, sg_natAbs, Nat.gcd_comm]

theorem mk_num (neg : Bool) (n d : Nat) (hd : d ≠ 0) : (mkRat (sg neg n) d).num = sg neg (n / Nat.gcd n d) := by
  rw [Rat.num_mkRat, if_neg hd, sg_natAbs, Nat.gcd_comm]
  cases neg
  · simp [sg]
  · simp only [sg, if_true]
    rw [Int.neg_ediv_of_dvd (Int.natCast_dvd_natCast.2 (Nat.gcd_dvd_left n d))]
    simp

theorem mk_natAbs (neg : Bool) (n d : Nat) (hd : d ≠ 0) : (mkRat (sg neg n) d).num.natAbs = n / Nat.gcd n d := by
  rw [mk_num neg n d hd, sg_natAbs]

theorem low_pos {n d : Nat} (hn : n ≠ 0) : n / Nat.gcd n d ≠ 0 := by
  have h1 : 0 < Nat.gcd n d := Nat.gcd_pos_of_pos_left d (Nat.pos_of_ne_zero hn)
  have h2 : Nat.gcd n d ≤ n := Nat.gcd_le_left d (Nat.pos_of_ne_zero hn)
  have := Nat.div_pos h2 h1
  omega

theorem mk_neg (neg : Bool) (n d : Nat) (hd : d ≠ 0) (hn : n ≠ 0) : decide ((mkRat (sg neg n) d).num < 0) = neg := by
  rw [mk_num neg n d hd]
  have := low_pos (d := d) hn
  generalize n / Nat.gcd n d = m at *
  cases neg
  · simp [sg]
  · simp [sg]; omega

/-- How many digits the two parts of a number have at most. -/
def sz (q : Rat) : Nat := max (dl q.num.natAbs) (dl q.den)

theorem sz_mk (x : Int) (d k : Nat) (h1 : dl x.natAbs ≤ k) (h2 : dl d ≤ k) (hk : 1 ≤ k) : sz (mkRat x d) ≤ k := by
  unfold sz
  rw [Rat.num_mkRat, Rat.den_mkRat]
  by_cases hd : d = 0
  · subst hd
    have : dl 1 = 1 := dl_unique (k := 0) (by decide) (by decide)
    simp [dl_zero, this]; omega
  · rw [if_neg hd, if_neg hd]
    apply Nat.max_le.2
    constructor
    · refine Nat.le_trans (dl_mono ?_) h1
      have : (x / ((Nat.gcd d x.natAbs : Nat) : Int)).natAbs ≤ x.natAbs := by
        have hdv : ((Nat.gcd d x.natAbs : Nat) : Int) ∣ x := Int.ofNat_dvd_left.2 (Nat.gcd_dvd_right _ _)
        rw [Int.natAbs_ediv_of_dvd hdv]
        exact Nat.div_le_self _ _
      exact this
    · exact Nat.le_trans (dl_mono (Nat.div_le_self _ _)) h2

theorem sz_ge_one (q : Rat) : 1 ≤ sz q := by
  have h : dl q.den ≠ 0 := fun e => q.den_nz (dl_eq_zero.1 e)
  unfold sz
  omega

theorem dl_natAbs_mul (x y : Int) : dl (x * y).natAbs ≤ dl x.natAbs + dl y.natAbs := by rw [Int.natAbs_mul]; exact dl_mul_le _ _

theorem sz_add (a b : Rat) : sz (a + b) ≤ sz a + sz b + 1 := by
  rw [Rat.add_def']
  have h1 : dl a.num.natAbs ≤ sz a := Nat.le_max_left _ _
  have h2 : dl a.den ≤ sz a := Nat.le_max_right _ _
  have h3 : dl b.num.natAbs ≤ sz b := Nat.le_max_left _ _
  have h4 : dl b.den ≤ sz b := Nat.le_max_right _ _
  refine sz_mk _ _ _ ?_ ?_ (by omega)
  · have h5 : (a.num * b.den + b.num * a.den).natAbs ≤ (a.num * b.den).natAbs + (b.num * a.den).natAbs := Int.natAbs_add_le _ _
    refine Nat.le_trans (dl_mono h5) (Nat.le_trans (dl_add_le _ _) ?_)
    have h6 := dl_natAbs_mul a.num b.den
    have h7 := dl_natAbs_mul b.num a.den
    simp only [Int.natAbs_natCast] at h6 h7
    omega
  · have := dl_mul_le a.den b.den
    omega

theorem sz_mul (a b : Rat) : sz (a * b) ≤ sz a + sz b := by
  rw [Rat.mul_def']
  have h1 : dl a.num.natAbs ≤ sz a := Nat.le_max_left _ _
  have h2 : dl a.den ≤ sz a := Nat.le_max_right _ _
  have h3 : dl b.num.natAbs ≤ sz b := Nat.le_max_left _ _
  have h4 : dl b.den ≤ sz b := Nat.le_max_right _ _
  have h5 := sz_ge_one a
  refine sz_mk _ _ _ ?_ ?_ (by omega)
  · have := dl_natAbs_mul a.num b.num; omega
  · have := dl_mul_le a.den b.den; omega

theorem sz_neg (a : Rat) : sz (-a) = sz a := by
  unfold sz; simp

theorem sz_sub (a b : Rat) : sz (a - b) ≤ sz a + sz b + 1 := by
  rw [Rat.sub_eq_add_neg]
  have := sz_add a (-b)
  rw [sz_neg] at this
  exact this

end AC
