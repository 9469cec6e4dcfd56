/-
  Plain facts for the long division: the guess of a digit.
-/
import Derived.Test.YtafhbipafbchcaaNum
namespace AC
set_option linter.unusedVariables false
set_option linter.unusedSimpArgs false

/-- The guess is never below the digit: the first guess. -/
theorem knuth_first {U V head top next u2 vl ul P q : Nat} (hV : V = (top * B + next) * P + vl) (hU : U = (head * B + u2) * P + ul) (hul : ul < P) (hu2 : u2 < B) (hq : q * V ≤ U) : q * top ≤ head := by
  rcases Nat.lt_or_ge head (q * top) with h | h
  · exfalso
    have h1 : q * (top * B * P) ≤ q * V := Nat.mul_le_mul_left q (by rw [hV, Nat.add_mul]; omega)
    have h2 : (head + 1) * (B * P) ≤ q * top * (B * P) := Nat.mul_le_mul_right _ h
    have h3 : q * (top * B * P) = q * top * (B * P) := by simp only [Nat.mul_assoc]
    have h4 : (u2 + 1) * P ≤ B * P := Nat.mul_le_mul_right _ hu2
    have h5 : (head * B + u2) * P = head * (B * P) + u2 * P := by rw [Nat.add_mul, Nat.mul_assoc]
    rw [Nat.add_mul, Nat.one_mul] at h2 h4
    omega
  · exact h

/-- A guess that is found too great is above the digit. -/
theorem knuth_less {U V head top next u2 vl ul P q g r : Nat} (hV : V = (top * B + next) * P + vl) (hU : U = (head * B + u2) * P + ul) (hul : ul < P) (hh : head = g * top + r)
    (hg : r * B + u2 < g * next) (hq : q * V ≤ U) : q < g := by
  rcases Nat.lt_or_ge q g with h | h
  · exact h
  · exfalso
    have h1 : g * ((top * B + next) * P) ≤ q * V := Nat.mul_le_mul h (by rw [hV]; omega)
    have h2 : g * ((top * B + next) * P) = (g * top * B + g * next) * P := by rw [← Nat.mul_assoc, Nat.mul_add, Nat.mul_assoc]
    have h3 : head * B + u2 + 1 ≤ g * top * B + g * next := by
      have : head * B = g * top * B + r * B := by rw [hh, Nat.add_mul]
      omega
    have h4 : (head * B + u2 + 1) * P ≤ (g * top * B + g * next) * P := Nat.mul_le_mul_right _ h3
    rw [Nat.add_mul, Nat.one_mul] at h4
    omega

/-- A guess that is not found too great is at most one above the digit. -/
theorem knuth_near {U V head top next u2 vl ul P g r : Nat} (hV : V = (top * B + next) * P + vl) (hvl : vl < P) (hnext : next < B) (hU : U = (head * B + u2) * P + ul) (hh : head = g * top + r)
    (htop : 0 < top) (hgB : g < B) (hend : B ≤ r ∨ g * next ≤ r * B + u2) : (g - 1) * V ≤ U := by
  rcases Nat.eq_zero_or_pos g with h0 | h0
  · subst h0; simp
  obtain ⟨k, rfl⟩ : ∃ k, g = k + 1 := ⟨g - 1, by omega⟩
  simp only [Nat.add_sub_cancel]
  rcases hend with h | h
  · have h1 : V ≤ (top + 1) * (B * P) := by
      have h2 : (next + 1) * P ≤ B * P := Nat.mul_le_mul_right _ hnext
      rw [Nat.add_mul, Nat.one_mul] at h2
      have h3 : (top * B + next) * P = top * (B * P) + next * P := by rw [Nat.add_mul, Nat.mul_assoc]
      rw [Nat.add_mul, Nat.one_mul]
      omega
    have h2 : k * V ≤ k * ((top + 1) * (B * P)) := Nat.mul_le_mul_left _ h1
    have h3 : k * ((top + 1) * (B * P)) = (k * top + k) * (B * P) := by rw [← Nat.mul_assoc, Nat.mul_add, Nat.mul_one]
    have h4 : (k * top + k) * (B * P) ≤ head * (B * P) := by
      apply Nat.mul_le_mul_right
      rw [hh, Nat.add_mul]
      omega
    have h5 : (head * B + u2) * P = head * (B * P) + u2 * P := by rw [Nat.add_mul, Nat.mul_assoc]
    omega
  · have h1 : V ≤ (top * B + next + 1) * P := by rw [Nat.add_mul (top * B + next), Nat.one_mul]; omega
    have h2 : k * V ≤ k * ((top * B + next + 1) * P) := Nat.mul_le_mul_left _ h1
    have h3 : k * ((top * B + next + 1) * P) = (k * (top * B + next) + k) * P := by rw [← Nat.mul_assoc, Nat.mul_add k (top * B + next), Nat.mul_one]
    have h4 : k * (top * B + next) + k ≤ head * B + u2 := by
      have e1 : head * B = (k + 1) * top * B + r * B := by rw [hh, Nat.add_mul]
      have e2 : (k + 1) * (top * B + next) = (k + 1) * top * B + (k + 1) * next := by rw [Nat.mul_add, Nat.mul_assoc]
      have e3 : (k + 1) * (top * B + next) = k * (top * B + next) + (top * B + next) := by rw [Nat.add_mul, Nat.one_mul]
      have e4 : 1 * B ≤ top * B := Nat.mul_le_mul_right _ htop
      omega
    have h5 : (k * (top * B + next) + k) * P ≤ (head * B + u2) * P := Nat.mul_le_mul_right _ h4
    omega

/-- A guess of B and more leaves a small rest. -/
theorem knuth_rest {U V head top next u2 vl ul P g r : Nat} (hV : V = (top * B + next) * P + vl) (hvl : vl < P) (hnext : next < B) (hU : U = (head * B + u2) * P + ul) (hh : head = g * top + r)
    (hUV : U < V * B) (hr : B ≤ r) : g < B := by
  rcases Nat.lt_or_ge g B with h | h
  · exact h
  · exfalso
    have h1 : B * top ≤ g * top := Nat.mul_le_mul_right _ h
    have h2 : (B * top + B) * (B * P) ≤ head * (B * P) := Nat.mul_le_mul_right _ (by omega)
    have h3 : V * B ≤ (top + 1) * (B * P) * B := by
      apply Nat.mul_le_mul_right
      have h2 : (next + 1) * P ≤ B * P := Nat.mul_le_mul_right _ hnext
      rw [Nat.add_mul, Nat.one_mul] at h2
      have h3 : (top * B + next) * P = top * (B * P) + next * P := by rw [Nat.add_mul, Nat.mul_assoc]
      rw [Nat.add_mul, Nat.one_mul]
      omega
    have h4 : (top + 1) * (B * P) * B = (B * top + B) * (B * P) := by
      have : B * top + B = (top + 1) * B := by rw [Nat.add_mul, Nat.one_mul, Nat.mul_comm]
      rw [this]
      simp only [Nat.mul_comm, Nat.mul_left_comm, Nat.mul_assoc]
    have h5 : (head * B + u2) * P = head * (B * P) + u2 * P := by rw [Nat.add_mul, Nat.mul_assoc]
    omega

/-- The split of a number at its two highest digits. -/
theorem top_two (V m : Nat) (h : V < B ^ (m + 2)) : V = (dg V (m + 1) * B + dg V m) * B ^ m + V % B ^ m := by
  have h1 := mod_pow_succ V (m + 1)
  have h2 := mod_pow_succ V m
  rw [Nat.mod_eq_of_lt h] at h1
  have h3 : dg V (m + 1) * B ^ (m + 1) = dg V (m + 1) * B * B ^ m := by rw [Nat.pow_succ, Nat.mul_comm (B ^ m) B, Nat.mul_assoc]
  rw [Nat.add_mul]
  omega

theorem vs_top_three (f : Nat → Nat) (m : Nat) : vs f (m + 3) = ((f (m + 2) * B + f (m + 1)) * B + f m) * B ^ m + vs f m := by
  simp only [vs]
  have e1 : f (m + 1) * B ^ (m + 1) = f (m + 1) * B * B ^ m := by rw [Nat.pow_succ, Nat.mul_comm (B ^ m) B, Nat.mul_assoc]
  have e2 : f (m + 2) * B ^ (m + 2) = f (m + 2) * B * B * B ^ m := by
    rw [Nat.pow_succ, Nat.pow_succ]; simp only [Nat.mul_comm, Nat.mul_left_comm, Nat.mul_assoc]
  rw [e1, e2]
  simp only [Nat.add_mul]
  omega

end AC
