/-
  Plain facts about digits to the base 10^9: no program in sight.
-/
import Derived.WalkKit
import Derived.Deep.OwnRows
import Derived.Deep.Draws
namespace AC
set_option linter.unusedVariables false
set_option linter.unusedSimpArgs false

theorem gq {α : Type} : (∀ (l : List α) (i : Nat), l.toArray[i]? = l[i]?) ∧ (∀ (a : α) (l : List α), (a :: l)[0]? = some a) ∧ (∀ (a : α) (l : List α) (i : Nat), (a :: l)[i + 1]? = l[i]?) :=
  ⟨fun _ _ => List.getElem?_toArray, fun _ _ => rfl, fun _ _ _ => List.getElem?_cons_succ⟩
theorem gf {α : Type} : (∀ (a : List α) (l : List (List α)), (a :: l).flatten = a ++ l.flatten) ∧ (([] : List (List α)).flatten = []) ∧ (∀ l : List α, l ++ [] = l) ∧ (∀ (a : α) (l m : List α), (a :: l) ++ m = a :: (l ++ m)) ∧ (∀ l : List α, [] ++ l = l) :=
  ⟨fun _ _ => rfl, rfl, List.append_nil, fun _ _ _ => rfl, fun _ => rfl⟩

def B : Nat := 1000000000
theorem B_eq : B = 1000000000 := rfl
theorem B_pos : 0 < B := by decide
theorem Bp_pos (k : Nat) : 0 < B ^ k := Nat.pow_pos B_pos

/-- The number with k digits f 0, f 1, .. (any digits). -/
def vs (f : Nat → Nat) : Nat → Nat
  | 0 => 0
  | n + 1 => vs f n + f n * B ^ n

/-- Digit i of n. -/
def dg (n i : Nat) : Nat := n / B ^ i % B

/-- How many digits n has. -/
def dl (n : Nat) : Nat := if h : n = 0 then 0 else dl (n / B) + 1
termination_by n
decreasing_by exact Nat.div_lt_self (Nat.pos_of_ne_zero h) (by decide)

theorem dg_lt (n i : Nat) : dg n i < B := Nat.mod_lt _ B_pos

theorem vs_congr {f g : Nat → Nat} {k : Nat} (h : ∀ i, i < k → f i = g i) : vs f k = vs g k := by
  induction k with
  | zero => rfl
  | succ k ih => simp only [vs]; rw [ih (fun i hi => h i (by omega)), h k (by omega)]

theorem vs_lt {f : Nat → Nat} {k : Nat} (h : ∀ i, i < k → f i < B) : vs f k < B ^ k := by
  induction k with
  | zero => simp [vs]
  | succ k ih =>
    have h1 := ih (fun i hi => h i (by omega))
    have h2 : f k + 1 ≤ B := h k (by omega)
    have h3 : (f k + 1) * B ^ k ≤ B * B ^ k := Nat.mul_le_mul_right _ h2
    simp only [vs]
    rw [Nat.pow_succ, Nat.mul_comm (B ^ k) B]
    rw [Nat.add_mul, Nat.one_mul] at h3
    omega

theorem mod_pow_succ (n k : Nat) : n % B ^ (k + 1) = n % B ^ k + dg n k * B ^ k := by
  unfold dg
  rw [Nat.pow_succ, Nat.mod_mul, Nat.mul_comm (B ^ k)]

theorem vs_dg (n k : Nat) : vs (dg n) k = n % B ^ k := by
  induction k with
  | zero => simp [vs, Nat.mod_one]
  | succ k ih => rw [vs, ih, mod_pow_succ]

theorem vs_div (f : Nat → Nat) (k : Nat) : vs f (k + 1) / B ^ k = f k + vs f k / B ^ k := by
  rw [vs, Nat.add_mul_div_right _ _ (Bp_pos k), Nat.add_comm]

theorem div_pow_succ (n k : Nat) : n / B ^ (k + 1) = n / B ^ k / B := by
  rw [Nat.pow_succ, Nat.div_div_eq_div_mul]

theorem vs_div_succ (f : Nat → Nat) (k : Nat) : vs f (k + 1) / B ^ (k + 1) = (f k + vs f k / B ^ k) / B := by
  rw [div_pow_succ, vs_div]

/-- Digit i of a sum depends on the digits up to i alone. -/
theorem dg_vs_low (f : Nat → Nat) {i k : Nat} (h : i < k) : dg (vs f k) i = dg (vs f (i + 1)) i := by
  induction k with
  | zero => omega
  | succ k ih =>
    rcases Nat.lt_or_ge i k with hk | hk
    · rw [← ih hk]
      unfold dg
      rw [vs]
      obtain ⟨d, rfl⟩ : ∃ d, k = i + 1 + d := ⟨k - (i + 1), by omega⟩
      have e : f (i + 1 + d) * B ^ (i + 1 + d) = f (i + 1 + d) * B ^ d * B * B ^ i := by
        rw [Nat.pow_add, Nat.pow_succ]; simp only [Nat.mul_comm, Nat.mul_left_comm, Nat.mul_assoc]
      rw [e, Nat.add_mul_div_right _ _ (Bp_pos i), Nat.add_mul_mod_self_right]
    · obtain rfl : i = k := by omega
      rfl

theorem dg_vs_any (f : Nat → Nat) {i k : Nat} (h : i < k) : dg (vs f k) i = (f i + vs f i / B ^ i) % B := by
  rw [dg_vs_low f h]; unfold dg; rw [vs_div]

theorem dg_vs {f : Nat → Nat} {i k : Nat} (hf : ∀ j, j < k → f j < B) (h : i < k) : dg (vs f k) i = f i := by
  rw [dg_vs_any f h, Nat.div_eq_of_lt (vs_lt (fun j hj => hf j (by omega))), Nat.add_zero, Nat.mod_eq_of_lt (hf i h)]

theorem dl_zero : dl 0 = 0 := by rw [dl]; simp
theorem dl_pos {n : Nat} (h : n ≠ 0) : dl n = dl (n / B) + 1 := by rw [dl]; simp [h]

theorem dl_le {n k : Nat} (h : n < B ^ k) : dl n ≤ k := by
  induction k generalizing n with
  | zero => have : n = 0 := by simpa using h
            subst this; rw [dl_zero]; exact Nat.le_refl _
  | succ k ih =>
    by_cases h0 : n = 0
    · subst h0; rw [dl_zero]; omega
    · rw [dl_pos h0]
      have : n / B < B ^ k := by
        rw [Nat.div_lt_iff_lt_mul B_pos, ← Nat.pow_succ]; exact h
      have := ih this
      omega

theorem lt_dl (n : Nat) : n < B ^ (dl n) := by
  induction n using Nat.strongRecOn with
  | ind n ih =>
    by_cases h0 : n = 0
    · subst h0; rw [dl_zero]; decide
    · rw [dl_pos h0, Nat.pow_succ]
      have := ih (n / B) (Nat.div_lt_self (Nat.pos_of_ne_zero h0) (by decide))
      rwa [Nat.div_lt_iff_lt_mul B_pos] at this

theorem dl_gt {n k : Nat} (h : B ^ k ≤ n) : k < dl n := by
  rcases Nat.lt_or_ge k (dl n) with h1 | h1
  · exact h1
  · have h2 := lt_dl n
    have h3 : B ^ (dl n) ≤ B ^ k := Nat.pow_le_pow_right B_pos h1
    omega

theorem dl_eq_zero {n : Nat} : dl n = 0 ↔ n = 0 := by
  constructor
  · intro h; have := lt_dl n; rw [h] at this; simpa using this
  · rintro rfl; exact dl_zero

theorem dl_unique {n k : Nat} (h1 : n < B ^ (k + 1)) (h2 : B ^ k ≤ n) : dl n = k + 1 := by
  have := dl_le h1; have := dl_gt h2; omega

theorem pow_le_of_dl {n : Nat} (h : n ≠ 0) : B ^ (dl n - 1) ≤ n := by
  rcases Nat.lt_or_ge n (B ^ (dl n - 1)) with h1 | h1
  · have := dl_le h1
    have h2 : dl n ≠ 0 := fun e => h (dl_eq_zero.1 e)
    omega
  · exact h1

theorem dg_top {n : Nat} (h : n ≠ 0) : dg n (dl n - 1) ≠ 0 := by
  have h1 := pow_le_of_dl h
  have h2 := lt_dl n
  have h3 : dl n ≠ 0 := fun e => h (dl_eq_zero.1 e)
  obtain ⟨d, hd⟩ : ∃ d, dl n = d + 1 := ⟨dl n - 1, by omega⟩
  rw [hd] at h1 h2 ⊢
  simp only [Nat.add_sub_cancel] at h1 ⊢
  unfold dg
  have h4 : n / B ^ d < B := by
    rw [Nat.div_lt_iff_lt_mul (Bp_pos d), Nat.mul_comm, ← Nat.pow_succ]; exact h2
  rw [Nat.mod_eq_of_lt h4]
  have := (Nat.le_div_iff_mul_le (k := B ^ d) (x := 1) (y := n) (Bp_pos d)).2 (by omega)
  omega

theorem dg_far {n i : Nat} (h : n < B ^ i) : dg n i = 0 := by
  unfold dg; rw [Nat.div_eq_of_lt h]; exact Nat.zero_mod _

theorem dg_beyond {n i : Nat} (h : dl n ≤ i) : dg n i = 0 :=
  dg_far (Nat.lt_of_lt_of_le (lt_dl n) (Nat.pow_le_pow_right B_pos h))

theorem dl_mono {n m : Nat} (h : n ≤ m) : dl n ≤ dl m := dl_le (Nat.lt_of_le_of_lt h (lt_dl m))

theorem vs_dl (n : Nat) : vs (dg n) (dl n) = n := by rw [vs_dg, Nat.mod_eq_of_lt (lt_dl n)]

theorem dl_vs {f : Nat → Nat} {k : Nat} (hf : ∀ j, j < k → f j < B) (h : k = 0 ∨ f (k - 1) ≠ 0) : dl (vs f k) = k := by
  rcases k with _ | k
  · exact dl_zero
  · have h1 : f k ≠ 0 := by simpa using h
    refine dl_unique (vs_lt hf) ?_
    rw [vs]
    have : 1 * B ^ k ≤ f k * B ^ k := Nat.mul_le_mul_right _ (by omega)
    omega

theorem dl_of_digits {n k : Nat} (h : n < B ^ k) (ht : k = 0 ∨ dg n (k - 1) ≠ 0) : dl n = k := by
  have h1 := dl_le h
  rcases Nat.lt_or_ge (dl n) k with h2 | h2
  · exact absurd (dg_beyond (n := n) (i := k - 1) (by omega)) (by rcases ht with ht | ht; omega; exact ht)
  · omega

theorem dl_mul_le (a b : Nat) : dl (a * b) ≤ dl a + dl b := by
  apply dl_le
  rw [Nat.pow_add]
  have h1 := lt_dl a
  have h2 := lt_dl b
  rcases Nat.eq_zero_or_pos a with h0 | h0
  · subst h0; rw [Nat.zero_mul]; exact Nat.mul_pos (Bp_pos _) (Bp_pos _)
  · exact Nat.mul_lt_mul_of_lt_of_le h1 (Nat.le_of_lt h2) (Bp_pos _)

theorem dl_add_le (a b : Nat) : dl (a + b) ≤ max (dl a) (dl b) + 1 := by
  apply dl_le
  have h1 := Nat.lt_of_lt_of_le (lt_dl a) (Nat.pow_le_pow_right B_pos (Nat.le_max_left (dl a) (dl b)))
  have h2 := Nat.lt_of_lt_of_le (lt_dl b) (Nat.pow_le_pow_right B_pos (Nat.le_max_right (dl a) (dl b)))
  rw [Nat.pow_succ]
  have h3 : B ^ max (dl a) (dl b) * 2 ≤ B ^ max (dl a) (dl b) * B := Nat.mul_le_mul_left _ (by decide)
  omega

/-- Less by length: fewer digits, a smaller number. -/
theorem lt_of_dl_lt {a b : Nat} (h : dl a < dl b) : a < b := by
  rcases Nat.lt_or_ge a b with h1 | h1
  · exact h1
  · have := dl_mono h1; omega

end AC

/-
  Words for memory: a slice of uint32 that reads as digits, kept over what the calls do.
-/
namespace AC
open Go Go.RowKit
set_option linter.unusedVariables false
set_option linter.unusedSimpArgs false

/-- The slice value v holds k numbers f 0, f 1, ..; its block is one from lo on. -/
def Limbs (w : World) (lo : Nat) (v : Value) (k : Nat) (f : Nat → Nat) : Prop :=
  (∀ i, i < k → f i < 4294967296) ∧ ∃ A c, v = .slice A k c ∧ k ≤ c ∧ c ≤ maxLen ∧
    (0 < k → ∃ b off, A = some ⟨b, off, none⟩ ∧ lo ≤ b ∧ b < w.heap.size ∧ ∀ i, i < k → w.cell? ⟨b, off + i, none⟩ = some (.int .u32 ((f i : Nat) : Int)))

/-- The slice value v holds the digits of n. -/
def NatR (w : World) (lo : Nat) (v : Value) (n : Nat) : Prop := Limbs w lo v (dl n) (dg n)

section
variable {w w' : World} {lo lo' : Nat} {v : Value} {k n : Nat} {f g : Nat → Nat}
theorem Limbs.keep (h : Limbs w lo v k f) (hs : w.heap.size ≤ w'.heap.size) (hk : ∀ b, lo ≤ b → b < w.heap.size → w'.heap[b]? = w.heap[b]?) : Limbs w' lo v k f := by
  obtain ⟨h1, A, c, rfl, h2, h3, h4⟩ := h
  refine ⟨h1, A, c, rfl, h2, h3, fun h0 => ?_⟩
  obtain ⟨b, off, rfl, h5, h6, h7⟩ := h4 h0
  exact ⟨b, off, rfl, h5, by omega, fun i hi => (World.cell?_of_block (a := ⟨b, off + i, none⟩) (hk b h5 h6)).trans (h7 i hi)⟩
theorem Limbs.below (h : Limbs w lo v k f) (hb : Below w.heap.size w w') : Limbs w' lo v k f := h.keep hb.size fun b _ hb' => hb.block b hb'
theorem Limbs.grown (h : Limbs w lo v k f) {r : Option Nat} (hg : w.grownBy w' r) (hr : ∀ g, r = some g → g < lo) : Limbs w' lo v k f :=
  h.keep hg.size fun b hl hb => hg.block b hb fun e => by have := hr b e.symm; omega
theorem Limbs.lower (h : Limbs w lo v k f) (hl : lo' ≤ lo) : Limbs w lo' v k f := by
  obtain ⟨h1, A, c, rfl, h2, h3, h4⟩ := h
  refine ⟨h1, A, c, rfl, h2, h3, fun h0 => ?_⟩
  obtain ⟨b, off, rfl, h5, h6, h7⟩ := h4 h0
  exact ⟨b, off, rfl, by omega, h6, h7⟩
theorem Limbs.congr (h : Limbs w lo v k f) (e : ∀ i, i < k → f i = g i) : Limbs w lo v k g := by
  obtain ⟨h1, A, c, rfl, h2, h3, h4⟩ := h
  refine ⟨fun i hi => by rw [← e i hi]; exact h1 i hi, A, c, rfl, h2, h3, fun h0 => ?_⟩
  obtain ⟨b, off, rfl, h5, h6, h7⟩ := h4 h0
  exact ⟨b, off, rfl, h5, h6, fun i hi => by rw [← e i hi]; exact h7 i hi⟩
theorem Limbs.drew (h : Limbs w lo v k f) : Limbs w.drew lo v k f := h
theorem Limbs.drewN (h : Limbs w lo v k f) (m : Nat) : Limbs (w.drewN m) lo v k f := h
theorem Limbs.alloc (h : Limbs w lo v k f) (o : Obj) : Limbs (w.alloc o) lo v k f :=
  h.keep (by simp) fun b _ hb => Below.heap_alloc w o b hb
theorem Limbs.setCell (h : Limbs w lo v k f) {p : Addr} (hp : p.block < lo) (u : Value) : Limbs (w.setCell p u) lo v k f :=
  h.keep (by simp [World.setCell]) fun b hl _ => Below.heap_setCell w p u b (by omega)
theorem Limbs.nil (w : World) (lo : Nat) (f : Nat → Nat) : Limbs w lo (.slice none 0 0) 0 f :=
  ⟨fun i hi => absurd hi (by omega), none, 0, rfl, Nat.le_refl _, Nat.zero_le _, fun h => absurd h (by omega)⟩
theorem Limbs.len (h : Limbs w lo v k f) : ∃ A c, v = .slice A k c := by
  obtain ⟨_, A, c, rfl, _⟩ := h
  exact ⟨A, c, rfl⟩
theorem Limbs.short (h : Limbs w lo v k f) : k ≤ 9223372036854775807 := by
  obtain ⟨_, A, c, rfl, h2, h3, _⟩ := h
  unfold maxLen at h3
  omega

theorem NatR.below (h : NatR w lo v n) (hb : Below w.heap.size w w') : NatR w' lo v n := Limbs.below h hb
theorem NatR.lower (h : NatR w lo v n) (hl : lo' ≤ lo) : NatR w lo' v n := Limbs.lower h hl
theorem NatR.drew (h : NatR w lo v n) : NatR w.drew lo v n := h
theorem NatR.drewN (h : NatR w lo v n) (m : Nat) : NatR (w.drewN m) lo v n := h
theorem NatR.alloc (h : NatR w lo v n) (o : Obj) : NatR (w.alloc o) lo v n := Limbs.alloc h o
theorem NatR.grown (h : NatR w lo v n) {r : Option Nat} (hg : w.grownBy w' r) (hr : ∀ g, r = some g → g < lo) : NatR w' lo v n := Limbs.grown h hg hr
theorem NatR.zero (w : World) (lo : Nat) : NatR w lo (.slice none 0 0) 0 := by
  unfold NatR; rw [dl_zero]; exact Limbs.nil _ _ _
theorem NatR.of (h : Limbs w lo v k (dg n)) (e : dl n = k) : NatR w lo v n := by unfold NatR; rw [e]; exact h
end

/-- k cells of uint32. -/
def row (f : Nat → Nat) (k : Nat) : List Value := (List.range k).map fun i => Value.int .u32 ((f i : Nat) : Int)
theorem row_length (f : Nat → Nat) (k : Nat) : (row f k).length = k := by simp [row]
theorem row_zero (f : Nat → Nat) : row f 0 = [] := rfl
theorem row_succ (f : Nat → Nat) (k : Nat) : row f (k + 1) = row f k ++ [.int .u32 ((f k : Nat) : Int)] := by simp [row, List.range_succ]
theorem row_at (f : Nat → Nat) {k i : Nat} (h : i < k) : (row f k)[i]? = some (.int .u32 ((f i : Nat) : Int)) := by simp [row, h]
theorem row_congr {f g : Nat → Nat} {k : Nat} (h : ∀ i, i < k → f i = g i) : row f k = row g k := by
  unfold row
  apply List.map_congr_left
  intro i hi
  rw [h i (List.mem_range.1 hi)]

/-- An owned row of digits. -/
def Own (w : World) (base : Nat) (e : TypeId) (v : Value) (k : Nat) (f : Nat → Nat) : Prop :=
  w.ownsRow base e 1 v k (row f k)

section
variable {w w' : World} {base : Nat} {e : TypeId} {v : Value} {k : Nat} {f g : Nat → Nat}
theorem Own.limbs (h : Own w base e v k f) (hf : ∀ i, i < k → f i < 4294967296) : Limbs w base v k f := by
  refine ⟨hf, ?_⟩
  have hl := h.lt
  have hc := fun b (hb : v.ownBlock = some b) => h.cells hb
  rcases h.2 with ⟨rfl, rfl⟩ | ⟨b, cap, cur, rfl, hb, hh, hkc, hcm, _, _⟩
  · exact ⟨none, 0, rfl, Nat.le_refl _, Nat.zero_le _, fun h => absurd h (by omega)⟩
  · refine ⟨_, cap, rfl, hkc, hcm, fun _ => ⟨b, 0, rfl, hb, (hl b rfl).2, fun i hi => ?_⟩⟩
    have := hc b rfl i _ (row_at f hi)
    rw [Addr.add_lit] at this
    exact this
theorem Own.congr (h : Own w base e v k f) (e' : ∀ i, i < k → f i = g i) : Own w base e v k g := by
  unfold Own; rw [← row_congr e']; exact h
theorem Own.alloc (h : Own w base e v k f) (o : Obj) : Own (w.alloc o) base e v k f := World.ownsRow.alloc h o
theorem Own.drew (h : Own w base e v k f) : Own w.drew base e v k f := h
theorem Own.drewN (h : Own w base e v k f) (m : Nat) : Own (w.drewN m) base e v k f := h
end

theorem Own.below {w0 w w' : World} {base : Nat} {e : TypeId} {v : Value} {k : Nat} {f : Nat → Nat} (h : Own w base e v k f) (hb : Below base w0 w) (hB : base ≤ w.heap.size) (hg : w.grownBy w' v.ownBlock) : Below base w0 w' :=
  hb.grown hg hB fun g hgv => (World.ownsRow.lt h g hgv).1

/-- 'append(out, x)': the law of the guide at one uint32; the element lies in the block that was laid last. -/
theorem wpList_push {P : Program} (wr : World) {z : Int} {ops : Array Oper} {rest : List Oper} {o : Oper} {a : Act} {Q : Exit → Act → World → Prop} (hgd : o.guard = none) (s x : Operand) (t : TypeId)
    (ho : o.op = .call { callee := .builtin .append, args := #[s, x], argTypes := #[t, t] })
    (base : Nat) (e : TypeId) (ht : P.underlying t = some (.slice e)) (hinfo : (P.info? e).map (fun i => (i.zero, i.size, i.bytes)) = some (some (.int .u32 0), 1, 4))
    (v : Value) (k : Nat) (f : Nat → Nat) (hs : a.eval s = v) (hown : Own wr base e v k f)
    (hx : a.eval x = .slice (some ⟨wr.heap.size, 0, none⟩) 1 1) (w0 : World) (hb : Below base w0 wr) (hbase : base ≤ wr.heap.size) (hk : k ≤ 4294967296000) (hz : z = ((f k : Nat) : Int))
    (h : ∀ v' w', Own w' base e v' (k + 1) f → Below base w0 w' → wpList P ops Q rest (a.put o.dst v') w') : wpList P ops Q (o :: rest) a (wr.alloc (.cells #[.int .u32 z] e)) := by
  obtain ⟨i, hi, hzz⟩ := Option.map_eq_some_iff.1 hinfo
  simp only [Prod.mk.injEq] at hzz
  obtain ⟨hz0, hs1, hb4⟩ := hzz
  subst hz
  refine wpList_append_own _ hgd s x t ho base e i (.int .u32 0) 1 4 ht hi hz0 hs1 hb4 rfl (by omega) v k (row f k) hs (World.ownsRow.alloc hown _) ⟨wr.heap.size, 0, none⟩ 1 1 [.int .u32 ((f k : Nat) : Int)] hx rfl ?_ ?_ (by unfold maxLen; omega) (by omega) (by simp; omega) ?_
  · intro j u hu
    rcases j with _ | j
    · simp at hu; subst hu; rw [Addr.add_lit, World.cell?_alloc_at _ _ _ _ rfl]; rfl
    · simp at hu
  · intro u hu; simp at hu; subst hu; rfl
  · intro v' w' hown' hg _
    refine h v' w' ?_ ?_
    · unfold Own
      rw [row_succ]
      exact hown'
    · exact (Own.alloc hown _).below (hb.alloc hbase _) (by simp; omega) hg

/-- 'append([]uint32(nil), x...)': a copy. -/
theorem wpList_copyNew {P : Program} (w : World) {ops : Array Oper} {rest : List Oper} {o : Oper} {a : Act} {Q : Exit → Act → World → Prop} (hgd : o.guard = none) (s x : Operand) (t : TypeId)
    (ho : o.op = .call { callee := .builtin .append, args := #[s, x], argTypes := #[t, t] })
    (base : Nat) (e : TypeId) (ht : P.underlying t = some (.slice e)) (hinfo : (P.info? e).map (fun i => (i.zero, i.size, i.bytes)) = some (some (.int .u32 0), 1, 4))
    (hs : a.eval s = .slice none 0 0) (A : Option Addr) (k c : Nat) (f : Nat → Nat) (hx : a.eval x = .slice A k c) (lo : Nat) (hl : Limbs w lo (.slice A k c) k f)
    (w0 : World) (hb : Below base w0 w) (hbase : base ≤ w.heap.size) (hk : k ≤ 4294967296000)
    (h : ∀ v' w', Own w' base e v' k f → Below base w0 w' → wpList P ops Q rest (a.put o.dst v') w') : wpList P ops Q (o :: rest) a w := by
  obtain ⟨i, hi, hzz⟩ := Option.map_eq_some_iff.1 hinfo
  simp only [Prod.mk.injEq] at hzz
  obtain ⟨hz0, hs1, hb4⟩ := hzz
  obtain ⟨_, A', c', hv, _, _, hcell⟩ := hl
  injection hv with hA _ hc
  subst hA
  subst hc
  cases A with
  | none =>
    have hk0 : k = 0 := by
      rcases Nat.eq_zero_or_pos k with h0 | h0
      · exact h0
      · obtain ⟨b, off, hA, _⟩ := hcell h0
        cases hA
    subst hk0
    refine wpList_plain hgd fun K hK => ?_
    have hrun : (Builtin.append_ #[t, t] o.type #[.slice none 0 0, .slice none 0 c]).run P w = .ok (.slice none 0 0) w := by
      simp [Builtin.append_, run_underlying ht, Go.sizeOf, typeInfo, hi, Builtin.lenOf, Builtin.firstCells]
    unfold Oper.wp
    simp only [execOp, ho, resolve, invoke, builtin, Sem.run_bind, Sem.run_pure, Result.andThen_ok, List.map_toArray, List.map_cons, List.map_nil, hs, hx, hrun]
    exact hK _ _ (h _ _ (World.ownsRow_nil _ _ _ _) hb)
  | some ad =>
    refine wpList_append_own w hgd s x t ho base e i (.int .u32 0) 1 4 ht hi hz0 hs1 hb4 rfl (by omega) (.slice none 0 0) 0 [] hs (World.ownsRow_nil _ _ _ _) ad k c (row f k) hx (by rw [row_length, Nat.mul_one]) ?_ ?_ (by unfold maxLen; omega) (by omega) hbase ?_
    · intro j u hu
      have hj : j < k := by
        rcases Nat.lt_or_ge j k with h1 | h1
        · exact h1
        · rw [List.getElem?_eq_none (by rw [row_length]; exact h1)] at hu; cases hu
      rw [row_at f hj] at hu
      obtain ⟨b, off, hA, _, _, hc⟩ := hcell (by omega)
      injection hA with hA
      subst hA
      rw [Addr.add_lit, hc j hj]
      exact hu
    · intro u hu
      obtain ⟨_, _, rfl⟩ := List.mem_map.1 hu
      rfl
    · intro v' w' hown' hg _
      refine h v' w' ?_ (hb.grown hg hbase (by simp [Value.ownBlock]))
      have : (0 + k) = k := by omega
      rw [this, List.nil_append] at hown'
      exact hown'

/-- 'make([]uint32, 0, n)'. -/
theorem wpList_mk0 {P : Program} (w : World) {ops : Array Oper} {rest : List Oper} {o : Oper} {a : Act} {Q : Exit → Act → World → Prop}
    (hg : o.guard = none) (l c : Operand) (t : TypeId) (hop : o.op = Op.makeSlice t l c)
    (base : Nat) (e : TypeId) (ht : P.underlying t = some (.slice e)) (hinfo : (P.info? e).map (fun i => (i.zero, i.size, i.bytes)) = some (some (.int .u32 0), 1, 4))
    (kl kc : IntKind) (C : Int) (n : Nat) (hl : a.eval l = .int kl 0) (hc : a.eval c = .int kc C) (hC : C = (n : Int)) (hn : n ≤ 4294967296000) (hbase : base ≤ w.heap.size)
    (hK : ∀ v w', (∀ f, Own w' base e v 0 f) → w.grownBy w' none → wpList P ops Q rest (a.put o.dst v) w') :
    wpList P ops Q (o :: rest) a w := by
  obtain ⟨i, hi, hzz⟩ := Option.map_eq_some_iff.1 hinfo
  simp only [Prod.mk.injEq] at hzz
  obtain ⟨hz0, hs1, hb4⟩ := hzz
  refine wpList_make_own w hg l c t hop base e i (.int .u32 0) 1 ht hi hz0 hs1 kl kc C n hl hc hC (by rw [hb4]; omega) (by unfold maxLen; omega) hbase ?_
  intro w' hown hgr
  exact hK _ w' (fun f => hown) hgr

/-- A row of n numbers that the call owns: block b holds f 0, f 1, .. -/
def RowU (w : World) (b : Nat) (e : TypeId) (n : Nat) (f : Nat → Nat) : Prop := w.rowIs b e n (fun i => .int .u32 ((f i : Nat) : Int))
def upd (f : Nat → Nat) (i z : Nat) : Nat → Nat := fun j => if j = i then z else f j
theorem upd_same (f : Nat → Nat) (i z : Nat) : upd f i z i = z := by simp [upd]
theorem upd_other (f : Nat → Nat) {i j : Nat} (z : Nat) (h : j ≠ i) : upd f i z j = f j := by simp [upd, h]
theorem vs_upd (f : Nat → Nat) {i k : Nat} (z : Nat) (h : k ≤ i) : vs (upd f i z) k = vs f k := vs_congr fun j hj => upd_other f z (by omega)
section
variable {w w' : World} {b : Nat} {e : TypeId} {n : Nat} {f g : Nat → Nat}
theorem RowU.cell (h : RowU w b e n f) {i : Nat} (hi : i < n) : w.cell? ⟨b, i, none⟩ = some (.int .u32 ((f i : Nat) : Int)) := World.rowIs.cell h hi
theorem RowU.frozen (h : RowU w b e n f) (i : Nat) : w.frozen? ⟨b, i, none⟩ = false := World.rowIs.frozen h i
theorem RowU.lt (h : RowU w b e n f) : b < w.heap.size := World.rowIs.lt h
theorem RowU.congr (h : RowU w b e n f) (hc : ∀ i, i < n → f i = g i) : RowU w b e n g := World.rowIs.congr h fun i hi => by rw [hc i hi]
theorem RowU.set (h : RowU w b e n f) (i : Nat) {x : Int} {z : Nat} (hx : x = (z : Int)) : RowU (w.setCell ⟨b, i, none⟩ (.int .u32 x)) b e n (upd f i z) := by
  subst hx
  refine World.rowIs.congr (World.rowIs.set h i (.int .u32 (z : Int))) fun j _ => ?_
  by_cases hj : j = i
  · subst hj; simp [upd]
  · simp [upd, hj]
theorem RowU.drewN (h : RowU w b e n f) (m : Nat) : RowU (w.drewN m) b e n f := h
theorem RowU.of_block (h : RowU w b e n f) (hb : w'.heap[b]? = w.heap[b]?) : RowU w' b e n f := World.rowIs.of_block h hb
theorem RowU.below (h : RowU w b e n f) (hb : Below w.heap.size w w') : RowU w' b e n f := h.of_block (hb.block b h.lt)
theorem RowU.setOther (h : RowU w b e n f) {p : Addr} (hp : b ≠ p.block) (u : Value) : RowU (w.setCell p u) b e n f := h.of_block (Below.heap_setCell w p u b hp)
theorem RowU.grown (h : RowU w b e n f) {g' : Nat} (hg : w.grownBy w' (some g')) (hne : b ≠ g') : RowU w' b e n f := h.of_block (hg.block b h.lt (fun e => hne (by injection e)))
theorem RowU.part (h : RowU w b e n f) {lo k : Nat} (hl : lo ≤ b) (hk : k ≤ n) (hn : n ≤ 4294967296000) (hf : ∀ i, i < k → f i < 4294967296) : Limbs w lo (.slice (some ⟨b, 0, none⟩) k n) k f :=
  ⟨hf, _, n, rfl, hk, by unfold maxLen; omega, fun _ => ⟨b, 0, rfl, hl, h.lt, fun i hi => by rw [Nat.zero_add]; exact h.cell (by omega)⟩⟩
theorem RowU.limbs (h : RowU w b e n f) {lo : Nat} (hl : lo ≤ b) (hn : n ≤ 4294967296000) (hf : ∀ i, i < n → f i < 4294967296) : Limbs w lo (.slice (some ⟨b, 0, none⟩) n n) n f :=
  ⟨hf, _, n, rfl, Nat.le_refl _, by unfold maxLen; omega, fun _ => ⟨b, 0, rfl, hl, h.lt, fun i hi => by rw [Nat.zero_add]; exact h.cell hi⟩⟩
end

/-- 'make([]uint32, n)'. -/
theorem wpList_mkn {P : Program} (w : World) {ops : Array Oper} {rest : List Oper} {o : Oper} {a : Act} {Q : Exit → Act → World → Prop}
    (hg : o.guard = none) (l c : Operand) (t : TypeId) (hop : o.op = Op.makeSlice t l c)
    (base : Nat) (e : TypeId) (ht : P.underlying t = some (.slice e)) (hinfo : (P.info? e).map (fun i => (i.zero, i.size, i.bytes)) = some (some (.int .u32 0), 1, 4))
    (kl kc : IntKind) (L C : Int) (n : Nat) (hl : a.eval l = .int kl L) (hc : a.eval c = .int kc C) (hL : L = (n : Int)) (hC : C = (n : Int)) (hn : n ≤ 4294967296000)
    (w0 : World) (hb : Below base w0 w) (hbase : base ≤ w.heap.size)
    (hK : ∀ b w', base ≤ b → w.heap.size ≤ b → RowU w' b e n (fun _ => 0) → Below base w0 w' → Below w.heap.size w w' → wpList P ops Q rest (a.put o.dst (.slice (some ⟨b, 0, none⟩) n n)) w') :
    wpList P ops Q (o :: rest) a w := by
  obtain ⟨i, hi, hzz⟩ := Option.map_eq_some_iff.1 hinfo
  simp only [Prod.mk.injEq] at hzz
  obtain ⟨hz0, hs1, hb4⟩ := hzz
  subst hL
  subst hC
  refine wpList_make_row w hg l c t hop e i (.int .u32 0) ht hi hz0 hs1 rfl kl kc n hl hc (by rw [hb4]; omega) (by omega) ?_
  exact hK _ _ hbase (Nat.le_refl _) (World.rowIs_made w (.int .u32 0) n e) (hb.alloc hbase _) ((Below.refl _ _).alloc (Nat.le_refl _) _)

end AC
namespace Go
open Go.RowKit AC
theorem World.grownBy.drewN {a w : World} {r : Option Nat} (h : a.grownBy w r) (n : Nat) : a.grownBy (w.drewN n) r := ⟨h.os, h.tape, h.output, h.size, h.block⟩
theorem World.grownBy.setAt {a w : World} {g : Nat} (h : a.grownBy w (some g)) (i : Nat) (u : Value) : a.grownBy (w.setCell ⟨g, i, none⟩ u) (some g) :=
  ⟨h.os, h.tape, h.output, by simpa [World.setCell] using h.size, fun k hk hne => (Below.heap_setCell w ⟨g, i, none⟩ u k (by rintro rfl; exact hne rfl)).trans (h.block k hk hne)⟩
theorem World.grownBy.then {a b c : World} {r : Option Nat} (h : a.grownBy b r) (k : b.grownBy c r) : a.grownBy c r :=
  ⟨k.os.trans h.os, k.tape.trans h.tape, k.output.trans h.output, Nat.le_trans h.size k.size, fun i hi hne => (k.block i (Nat.lt_of_lt_of_le hi h.size) hne).trans (h.block i hi hne)⟩
theorem World.grownBy.ofBelow {a w : World} (h : Below a.heap.size a w) (r : Option Nat) : a.grownBy w r := ⟨h.os, h.tape, h.output, h.size, fun i hi _ => h.block i hi⟩
theorem World.grownBy.belowOf {a w : World} {g B : Nat} (h : a.grownBy w (some g)) (hg : B ≤ g) (hB : B ≤ a.heap.size) : Below B a w :=
  ⟨h.os, h.tape, h.output, h.size, fun k hk => h.block k (by omega) (fun e => by injection e; omega)⟩
end Go
namespace Go.RowKit
theorem Below.drewN {b : Nat} {a w : World} (h : Below b a w) (n : Nat) : Below b a (w.drewN n) := ⟨h.os, h.tape, h.output, h.size, h.block⟩
end Go.RowKit
namespace AC
open Go Go.RowKit


/-- Only draws lie between two worlds. -/
def Qt (w w' : World) : Prop := ∃ q, w' = w.drewN q
theorem Qt.refl (w : World) : Qt w w := ⟨0, rfl⟩
theorem Qt.drewN {w w' : World} (h : Qt w w') (n : Nat) : Qt w (w'.drewN n) := by
  obtain ⟨q, rfl⟩ := h
  exact ⟨q + n, World.drewN_drewN _ _ _⟩
theorem Qt.drew {w w' : World} (h : Qt w w') : Qt w w'.drew := h.drewN 1
theorem Qt.of (w : World) (n : Nat) : Qt w (w.drewN n) := ⟨n, rfl⟩
theorem Qt.trans {a b c : World} (h : Qt a b) (k : Qt b c) : Qt a c := by
  obtain ⟨q, rfl⟩ := k
  exact h.drewN q
theorem Qt.below {w w' : World} (h : Qt w w') (b : Nat) : Below b w w' := by
  obtain ⟨q, rfl⟩ := h
  exact ⟨rfl, rfl, rfl, Nat.le_refl _, fun _ _ => rfl⟩

end AC

