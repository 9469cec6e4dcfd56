/-
  Plain facts about digits to the base 10^9: no program in sight.
-/
namespace AC
set_option linter.unusedVariables false
set_option linter.unusedSimpArgs false

def B : Nat := 1000000000
theorem B_eq : B = 1000000000 := rfl
theorem B_pos : 0 < B := by decide
theorem Bp_pos (k : Nat) : 0 < B ^ k := Nat.pow_pos B_pos

/-- The number with k digits f 0, f 1, .. (any digits). -/
def vs (f : Nat → Nat) : Nat → Nat
  | 0 => 0
  | n + 1 => vs f n + f n * B ^ n

/-- Digit i of n. -/
def dg (n i : Nat) : Nat := n / B ^ i % B

/-- How many digits n has. -/
def dl (n : Nat) : Nat := if h : n = 0 then 0 else dl (n / B) + 1
termination_by n
decreasing_by exact Nat.div_lt_self (Nat.pos_of_ne_zero h) (by decide)

theorem dg_lt (n i : Nat) : dg n i < B := Nat.mod_lt _ B_pos

theorem vs_congr {f g : Nat → Nat} {k : Nat} (h : ∀ i, i < k → f i = g i) : vs f k = vs g k := by
  induction k with
  | zero => rfl
  | succ k ih => simp only [vs]; rw [ih (fun i hi => h i (by omega)), h k (by omega)]

theorem vs_lt {f : Nat → Nat} {k : Nat} (h : ∀ i, i < k → f i < B) : vs f k < B ^ k := by
  induction k with
  | zero => simp [vs]
  | succ k ih =>
    have h1 := ih (fun i hi => h i (by omega))
    have h2 : f k + 1 ≤ B := h k (by omega)
    have h3 : (f k + 1) * B ^ k ≤ B * B ^ k := Nat.mul_le_mul_right _ h2
    simp only [vs]
    rw [Nat.pow_succ, Nat.mul_comm (B ^ k) B]
    rw [Nat.add_mul, Nat.one_mul] at h3
    omega

theorem mod_pow_succ (n k : Nat) : n % B ^ (k + 1) = n % B ^ k + dg n k * B ^ k := by
  unfold dg
  rw [Nat.pow_succ, Nat.mod_mul, Nat.mul_comm (B ^ k)]

theorem vs_dg (n k : Nat) : vs (dg n) k = n % B ^ k := by
  induction k with
  | zero => simp [vs, Nat.mod_one]
  | succ k ih => rw [vs, ih, mod_pow_succ]

theorem vs_div (f : Nat → Nat) (k : Nat) : vs f (k + 1) / B ^ k = f k + vs f k / B ^ k := by
  rw [vs, Nat.add_mul_div_right _ _ (Bp_pos k), Nat.add_comm]

theorem div_pow_succ (n k : Nat) : n / B ^ (k + 1) = n / B ^ k / B := by
  rw [Nat.pow_succ, Nat.div_div_eq_div_mul]

theorem vs_div_succ (f : Nat → Nat) (k : Nat) : vs f (k + 1) / B ^ (k + 1) = (f k + vs f k / B ^ k) / B := by
  rw [div_pow_succ, vs_div]

/-- Digit i of a sum depends on the digits up to i alone. -/
theorem dg_vs_low (f : Nat → Nat) {i k : Nat} (h : i < k) : dg (vs f k) i = dg (vs f (i + 1)) i := by
  induction k with
  | zero => omega
  | succ k ih =>
    rcases Nat.lt_or_ge i k with hk | hk
    · rw [← ih hk]
      unfold dg
      rw [vs]
      obtain ⟨d, rfl⟩ : ∃ d, k = i + 1 + d := ⟨k - (i + 1), by omega⟩
      have e : f (i + 1 + d) * B ^ (i + 1 + d) = f (i + 1 + d) * B ^ d * B * B ^ i := by
        rw [Nat.pow_add, Nat.pow_succ]; simp only [Nat.mul_comm, Nat.mul_left_comm, Nat.mul_assoc]
      rw [e, Nat.add_mul_div_right _ _ (Bp_pos i), Nat.add_mul_mod_self_right]
    · obtain rfl : i = k := by omega
      rfl

theorem dg_vs_any (f : Nat → Nat) {i k : Nat} (h : i < k) : dg (vs f k) i = (f i + vs f i / B ^ i) % B := by
  rw [dg_vs_low f h]; unfold dg; rw [vs_div]

theorem dg_vs {f : Nat → Nat} {i k : Nat} (hf : ∀ j, j < k → f j < B) (h : i < k) : dg (vs f k) i = f i := by
  rw [dg_vs_any f h, Nat.div_eq_of_lt (vs_lt (fun j hj => hf j (by omega))), Nat.add_zero, Nat.mod_eq_of_lt (hf i h)]

theorem dl_zero : dl 0 = 0 := by rw [dl]; simp
theorem dl_pos {n : Nat} (h : n ≠ 0) : dl n = dl (n / B) + 1 := by rw [dl]; simp [h]

theorem dl_le {n k : Nat} (h : n < B ^ k) : dl n ≤ k := by
  induction k generalizing n with
  | zero => have : n = 0 := by simpa using h
            subst this; rw [dl_zero]; exact Nat.le_refl _
  | succ k ih =>
    by_cases h0 : n = 0
    · subst h0; rw [dl_zero]; omega
    · rw [dl_pos h0]
      have : n / B < B ^ k := by
        rw [Nat.div_lt_iff_lt_mul B_pos, ← Nat.pow_succ]; exact h
      have := ih this
      omega

theorem lt_dl (n : Nat) : n < B ^ (dl n) := by
  induction n using Nat.strongRecOn with
  | ind n ih =>
    by_cases h0 : n = 0
    · subst h0; rw [dl_zero]; decide
    · rw [dl_pos h0, Nat.pow_succ]
      have := ih (n / B) (Nat.div_lt_self (Nat.pos_of_ne_zero h0) (by decide))
      rwa [Nat.div_lt_iff_lt_mul B_pos] at this

theorem dl_gt {n k : Nat} (h : B ^ k ≤ n) : k < dl n := by
  rcases Nat.lt_or_ge k (dl n) with h1 | h1
  · exact h1
  · have h2 := lt_dl n
    have h3 : B ^ (dl n) ≤ B ^ k := Nat.pow_le_pow_right B_pos h1
    omega

theorem dl_eq_zero {n : Nat} : dl n = 0 ↔ n = 0 := by
  constructor
  · intro h; have := lt_dl n; rw [h] at this; simpa using this
  · rintro rfl; exact dl_zero

theorem dl_unique {n k : Nat} (h1 : n < B ^ (k + 1)) (h2 : B ^ k ≤ n) : dl n = k + 1 := by
  have := dl_le h1; have := dl_gt h2; omega

theorem pow_le_of_dl {n : Nat} (h : n ≠ 0) : B ^ (dl n - 1) ≤ n := by
  rcases Nat.lt_or_ge n (B ^ (dl n - 1)) with h1 | h1
  · have := dl_le h1
    have h2 : dl n ≠ 0 := fun e => h (dl_eq_zero.1 e)
    omega
  · exact h1

theorem dg_top {n : Nat} (h : n ≠ 0) : dg n (dl n - 1) ≠ 0 := by
  have h1 := pow_le_of_dl h
  have h2 := lt_dl n
  have h3 : dl n ≠ 0 := fun e => h (dl_eq_zero.1 e)
  obtain ⟨d, hd⟩ : ∃ d, dl n = d + 1 := ⟨dl n - 1, by omega⟩
  rw [hd] at h1 h2 ⊢
  simp only [Nat.add_sub_cancel] at h1 ⊢
  unfold dg
  have h4 : n / B ^ d < B := by
    rw [Nat.div_lt_iff_lt_mul (Bp_pos d), Nat.mul_comm, ← Nat.pow_succ]; exact h2
  rw [Nat.mod_eq_of_lt h4]
  have := (Nat.le_div_iff_mul_le (k := B ^ d) (x := 1) (y := n) (Bp_pos d)).2 (by omega)
  omega

theorem dg_far {n i : Nat} (h : n < B ^ i) : dg n i = 0 := by
  unfold dg; rw [Nat.div_eq_of_lt h]; exact Nat.zero_mod _

theorem dg_beyond {n i : Nat} (h : dl n ≤ i) : dg n i = 0 :=
  dg_far (Nat.lt_of_lt_of_le (lt_dl n) (Nat.pow_le_pow_right B_pos h))

theorem dl_mono {n m : Nat} (h : n ≤ m) : dl n ≤ dl m := dl_le (Nat.lt_of_le_of_lt h (lt_dl m))

theorem vs_dl (n : Nat) : vs (dg n) (dl n) = n := by rw [vs_dg, Nat.mod_eq_of_lt (lt_dl n)]

theorem dl_vs {f : Nat → Nat} {k : Nat} (hf : ∀ j, j < k → f j < B) (h : k = 0 ∨ f (k - 1) ≠ 0) : dl (vs f k) = k := by
  rcases k with _ | k
  · exact dl_zero
  · have h1 : f k ≠ 0 := by simpa using h
    refine dl_unique (vs_lt hf) ?_
    rw [vs]
    have : 1 * B ^ k ≤ f k * B ^ k := Nat.mul_le_mul_right _ (by omega)
    omega

theorem dl_of_digits {n k : Nat} (h : n < B ^ k) (ht : k = 0 ∨ dg n (k - 1) ≠ 0) : dl n = k := by
  have h1 := dl_le h
  rcases Nat.lt_or_ge (dl n) k with h2 | h2
  · exact absurd (dg_beyond (n := n) (i := k - 1) (by omega)) (by rcases ht with ht | ht; omega; exact ht)
  · omega

theorem dl_mul_le (a b : Nat) : dl (a * b) ≤ dl a + dl b := by
  apply dl_le
  rw [Nat.pow_add]
  have h1 := lt_dl a
  have h2 := lt_dl b
  rcases Nat.eq_zero_or_pos a with h0 | h0
  · subst h0; rw [Nat.zero_mul]; exact Nat.mul_pos (Bp_pos _) (Bp_pos _)
  · exact Nat.mul_lt_mul_of_lt_of_le h1 (Nat.le_of_lt h2) (Bp_pos _)

theorem dl_add_le (a b : Nat) : dl (a + b) ≤ max (dl a) (dl b) + 1 := by
  apply dl_le
  have h1 := Nat.lt_of_lt_of_le (lt_dl a) (Nat.pow_le_pow_right B_pos (Nat.le_max_left (dl a) (dl b)))
  have h2 := Nat.lt_of_lt_of_le (lt_dl b) (Nat.pow_le_pow_right B_pos (Nat.le_max_right (dl a) (dl b)))
  rw [Nat.pow_succ]
  have h3 : B ^ max (dl a) (dl b) * 2 ≤ B ^ max (dl a) (dl b) * B := Nat.mul_le_mul_left _ (by decide)
  omega

/-- Less by length: fewer digits, a smaller number. -/
theorem lt_of_dl_lt {a b : Nat} (h : dl a < dl b) : a < b := by
  rcases Nat.lt_or_ge a b with h1 | h1
  · exact h1
  · have := dl_mono h1; omega

end AC
