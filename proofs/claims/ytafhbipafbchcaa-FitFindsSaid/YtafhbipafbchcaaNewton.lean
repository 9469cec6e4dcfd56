/-
  The plain law of fitting: Newton's formula of forward differences.
-/
import Derived.Test.YtafhbipafbchcaaWalkW
namespace Go.Proofs.Ytafhbipafbchcaa
open AC
set_option linter.unusedVariables false
set_option linter.unusedSimpArgs false

theorem mkRat_div (x : Int) (d : Nat) : mkRat x d = (x : Rat) / (d : Rat) := by
  rw [Rat.mkRat_eq_div]
theorem fall_up (n : Int) : ∀ k : Nat, fall (n + 1) (k + 1) = fall n k * mkRat (n + 1) (k + 1)
  | 0 => by simp [fall]
  | k + 1 => by
    rw [fall, fall_up n k]
    conv => rhs; rw [fall]
    simp only [mkRat_div]
    have h1 : ((k + 1 : Nat) : Rat) ≠ 0 := by
      rw [show (0 : Rat) = ((0 : Nat) : Rat) from rfl]
      exact fun h => by have := Rat.natCast_inj.1 h; omega
    have h2 : ((k + 1 + 1 : Nat) : Rat) ≠ 0 := by
      rw [show (0 : Rat) = ((0 : Nat) : Rat) from rfl]
      exact fun h => by have := Rat.natCast_inj.1 h; omega
    have e : (n + 1 - ((k + 1 : Nat) : Int)) = n - k := by omega
    rw [e]
    generalize ((k + 1 : Nat) : Rat) = a at *
    generalize ((k + 1 + 1 : Nat) : Rat) = b at *
    grind
theorem fall_pascal (n : Int) (k : Nat) : fall (n + 1) (k + 1) = fall n (k + 1) + fall n k := by
  rw [fall_up, fall]
  simp only [mkRat_div]
  have h1 : ((k + 1 : Nat) : Rat) ≠ 0 := by
    rw [show (0 : Rat) = ((0 : Nat) : Rat) from rfl]
    exact fun h => by have := Rat.natCast_inj.1 h; omega
  have e : ((n + 1 : Int) : Rat) = ((n - (k : Int) : Int) : Rat) + ((k + 1 : Nat) : Rat) := by
    rw [show (((k + 1 : Nat) : Rat)) = (((k + 1 : Nat) : Int) : Rat) from rfl, ← Rat.intCast_add]
    congr 1
    omega
  rw [e]
  generalize ((k + 1 : Nat) : Rat) = a at *
  grind

theorem evalQ_up (p : Nat → Rat) (n : Int) : ∀ k : Nat, evalQ p (n + 1) (k + 1) = evalQ p n (k + 1) + evalQ (fun i => p (i + 1)) n k
  | 0 => by simp [evalQ, fall]; grind
  | k + 1 => by
    rw [evalQ, evalQ_up p n k, fall_pascal]
    conv => rhs; rw [evalQ, evalQ]
    conv => rhs; arg 2; rw [evalQ]
    conv => lhs; arg 1; arg 1; rw [evalQ]
    grind
theorem evalQ_at0 (p : Nat → Rat) : ∀ k : Nat, evalQ p 0 (k + 1) = p 0
  | 0 => by simp [evalQ, fall]; grind
  | k + 1 => by rw [evalQ, evalQ_at0 p k, fall_zero (n := 0) (i := 0) (k := k + 1) rfl (by omega)]; grind

/-- Newton's formula. -/
theorem newton (r : Nat → Rat) : ∀ (i a b k : Nat), i < k → evalQ (fun j => dif r (a + j) b) (i : Nat) k = dif r a (b + i)
  | 0, a, b, k, h => by
    obtain ⟨k, rfl⟩ : ∃ m, k = m + 1 := ⟨k - 1, by omega⟩
    rw [show (((0 : Nat) : Int)) = 0 from rfl, evalQ_at0]; rfl
  | i + 1, a, b, k, h => by
    obtain ⟨k, rfl⟩ : ∃ m, k = m + 1 := ⟨k - 1, by omega⟩
    rw [show (((i + 1 : Nat) : Int)) = (i : Int) + 1 from by omega, evalQ_up, newton r i a b (k + 1) (by omega)]
    have e := newton r i (a + 1) b k (by omega)
    have e2 : (fun i => dif r (a + (i + 1)) b) = fun j => dif r (a + 1 + j) b := by
      funext j; rw [show a + (j + 1) = a + 1 + j from by omega]
    rw [e2, e, dif, ← Nat.add_assoc]
    grind

theorem evalQ_cut (p : Nat → Rat) (n : Int) : ∀ k : Nat, evalQ p n (cutQ p k) = evalQ p n k
  | 0 => rfl
  | k + 1 => by
    unfold cutQ
    by_cases h : p k = 0
    · rw [if_pos h, evalQ_cut p n k, evalQ, h]; grind
    · rw [if_neg h]

theorem fit_through (r : Nat → Rat) (k i : Nat) (h : i < k) : evalQ (fun j => dif r j 0) (i : Nat) (cutQ (fun j => dif r j 0) k) = r i := by
  rw [evalQ_cut]
  have := newton r i 0 0 k h
  simp only [Nat.zero_add] at this
  rw [this]; rfl

theorem dif_eval (p : Nat → Rat) (k : Nat) : ∀ (j b : Nat), dif (fun i => evalQ p (i : Nat) k) j b = evalQ (fun i => p (i + j)) (b : Nat) (k - j)
  | 0, b => rfl
  | j + 1, b => by
    rw [dif, dif_eval p k j (b + 1), dif_eval p k j b]
    rcases Nat.lt_or_ge j k with h | h
    · obtain ⟨m, hm⟩ : ∃ m, k - j = m + 1 := ⟨k - j - 1, by omega⟩
      rw [hm, show (((b + 1 : Nat) : Int)) = (b : Int) + 1 from by omega, evalQ_up, show k - (j + 1) = m from by omega]
      have e2 : (fun i => p (i + 1 + j)) = fun i => p (i + (j + 1)) := by
        funext i; rw [show i + 1 + j = i + (j + 1) from by omega]
      simp only [e2]
      grind
    · rw [show k - j = 0 from by omega, show k - (j + 1) = 0 from by omega]
      simp only [evalQ]; grind

theorem dif_finds (p : Nat → Rat) (k j : Nat) : dif (fun i => evalQ p (i : Nat) k) j 0 = if j < k then p j else 0 := by
  rw [dif_eval]
  split
  · rename_i h
    obtain ⟨m, hm⟩ : ∃ m, k - j = m + 1 := ⟨k - j - 1, by omega⟩
    rw [hm, show (((0 : Nat) : Int)) = 0 from rfl, evalQ_at0, Nat.zero_add]
  · rename_i h
    rw [show k - j = 0 from by omega]; rfl

theorem cutQ_congr {p q : Nat → Rat} : ∀ {k : Nat}, (∀ i, i < k → p i = q i) → cutQ p k = cutQ q k
  | 0, _ => rfl
  | k + 1, h => by unfold cutQ; rw [h k (by omega), cutQ_congr (k := k) fun i hi => h i (by omega)]
theorem cutQ_zeros {p : Nat → Rat} {k : Nat} : ∀ {m : Nat}, (∀ i, k ≤ i → p i = 0) → cutQ p (k + m) = cutQ p k
  | 0, _ => rfl
  | m + 1, h => by rw [← Nat.add_assoc]; unfold cutQ; rw [if_pos (h _ (by omega)), cutQ_zeros h, cutQ.eq_def]
theorem cut_finds (p : Nat → Rat) (k m : Nat) : cutQ (fun j => dif (fun i => evalQ p (i : Nat) k) j 0) (k + m) = cutQ p k := by
  rw [cutQ_zeros (fun i hi => by rw [dif_finds, if_neg (by omega)])]
  exact cutQ_congr fun i hi => by rw [dif_finds, if_pos hi]

end Go.Proofs.Ytafhbipafbchcaa
