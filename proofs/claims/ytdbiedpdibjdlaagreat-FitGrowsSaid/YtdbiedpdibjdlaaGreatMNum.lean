/-
  Plain facts about digits to the base 10^9: no program in sight.
-/
namespace AC
set_option linter.unusedVariables false
set_option linter.unusedSimpArgs false

theorem gq {α : Type} : (∀ (l : List α) (i : Nat), l.toArray[i]? = l[i]?) ∧ (∀ (a : α) (l : List α), (a :: l)[0]? = some a) ∧ (∀ (a : α) (l : List α) (i : Nat), (a :: l)[i + 1]? = l[i]?) :=
  ⟨fun _ _ => List.getElem?_toArray, fun _ _ => rfl, fun _ _ _ => List.getElem?_cons_succ⟩
theorem gf {α : Type} : (∀ (a : List α) (l : List (List α)), (a :: l).flatten = a ++ l.flatten) ∧ (([] : List (List α)).flatten = []) ∧ (∀ l : List α, l ++ [] = l) ∧ (∀ (a : α) (l m : List α), (a :: l) ++ m = a :: (l ++ m)) ∧ (∀ l : List α, [] ++ l = l) :=
  ⟨fun _ _ => rfl, rfl, List.append_nil, fun _ _ _ => rfl, fun _ => rfl⟩

def B : Nat := 1000000000
theorem B_eq : B = 1000000000 := rfl
theorem B_pos : 0 < B := by decide
theorem Bp_pos (k : Nat) : 0 < B ^ k := Nat.pow_pos B_pos

/-- The number with k digits f 0, f 1, .. (any digits). -/
def vs (f : Nat → Nat) : Nat → Nat
  | 0 => 0
  | n + 1 => vs f n + f n * B ^ n

/-- Digit i of n. -/
def dg (n i : Nat) : Nat := n / B ^ i % B

/-- How many digits n has. -/
def dl (n : Nat) : Nat := if h : n = 0 then 0 else dl (n / B) + 1
termination_by n
decreasing_by exact Nat.div_lt_self (Nat.pos_of_ne_zero h) (by decide)

theorem dg_lt (n i : Nat) : dg n i < B := Nat.mod_lt _ B_pos

theorem vs_congr {f g : Nat → Nat} {k : Nat} (h : ∀ i, i < k → f i = g i) : vs f k = vs g k := by
  induction k with
  | zero => rfl
  | succ k ih => simp only [vs]; rw [ih (fun i hi => h i (by omega)), h k (by omega)]

theorem vs_lt {f : Nat → Nat} {k : Nat} (h : ∀ i, i < k → f i < B) : vs f k < B ^ k := by
  induction k with
  | zero => simp [vs]
  | succ k ih =>
    have h1 := ih (fun i hi => h i (by omega))
    have h2 : f k + 1 ≤ B := h k (by omega)
    have h3 : (f k + 1) * B ^ k ≤ B * B ^ k := Nat.mul_le_mul_right _ h2
    simp only [vs]
    rw [Nat.pow_succ, Nat.mul_comm (B ^ k) B]
    rw [Nat.add_mul, Nat.one_mul] at h3
    omega

theorem mod_pow_succ (n k : Nat) : n % B ^ (k + 1) = n % B ^ k + dg n k * B ^ k := by
  unfold dg
  rw [Nat.pow_succ, Nat.mod_mul, Nat.mul_comm (B ^ k)]

theorem vs_dg (n k : Nat) : vs (dg n) k = n % B ^ k := by
  induction k with
  | zero => simp [vs, Nat.mod_one]
  | succ k ih => rw [vs, ih, mod_pow_succ]

theorem vs_div (f : Nat → Nat) (k : Nat) : vs f (k + 1) / B ^ k = f k + vs f k / B ^ k := by
  rw [vs, Nat.add_mul_div_right _ _ (Bp_pos k), Nat.add_comm]

theorem div_pow_succ (n k : Nat) : n / B ^ (k + 1) = n / B ^ k / B := by
  rw [Nat.pow_succ, Nat.div_div_eq_div_mul]

theorem vs_div_succ (f : Nat → Nat) (k : Nat) : vs f (k + 1) / B ^ (k + 1) = (f k + vs f k / B ^ k) / B := by
  rw [div_pow_succ, vs_div]

/-- Digit i of a sum depends on the digits up to i alone. -/
theorem dg_vs_low (f : Nat → Nat) {i k : Nat} (h : i < k) : dg (vs f k) i = dg (vs f (i + 1)) i := by
  induction k with
  | zero => omega
  | succ k ih =>
    rcases Nat.lt_or_ge i k with hk | hk
    · rw [← ih hk]
      unfold dg
      rw [vs]
      obtain ⟨d, rfl⟩ : ∃ d, k = i + 1 + d := ⟨k - (i + 1), by omega⟩
      have e : f (i + 1 + d) * B ^ (i + 1 + d) = f (i + 1 + d) * B ^ d * B * B ^ i := by
        rw [Nat.pow_add, Nat.pow_succ]; simp only [Nat.mul_comm, Nat.mul_left_comm, Nat.mul_assoc]
      rw [e, Nat.add_mul_div_right _ _ (Bp_pos i), Nat.add_mul_mod_self_right]
    · obtain rfl : i = k := by omega
      rfl

theorem dg_vs_any (f : Nat → Nat) {i k : Nat} (h : i < k) : dg (vs f k) i = (f i + vs f i / B ^ i) % B := by
  rw [dg_vs_low f h]; unfold dg; rw [vs_div]

theorem dg_vs {f : Nat → Nat} {i k : Nat} (hf : ∀ j, j < k → f j < B) (h : i < k) : dg (vs f k) i = f i := by
  rw [dg_vs_any f h, Nat.div_eq_of_lt (vs_lt (fun j hj => hf j (by omega))), Nat.add_zero, Nat.mod_eq_of_lt (hf i h)]

theorem dl_zero : dl 0 = 0 := by rw [dl]; simp
theorem dl_pos {n : Nat} (h : n ≠ 0) : dl n = dl (n / B) + 1 := by rw [dl]; simp [h]

theorem dl_le {n k : Nat} (h : n < B ^ k) : dl n ≤ k := by
  induction k generalizing n with
  | zero => have : n = 0 := by simpa using h
            subst this; rw [dl_zero]; exact Nat.le_refl _
  | succ k ih =>
    by_cases h0 : n = 0
    · subst h0; rw [dl_zero]; omega
    · rw [dl_pos h0]
      have : n / B < B ^ k := by
        rw [Nat.div_lt_iff_lt_mul B_pos, ← Nat.pow_succ]; exact h
      have := ih this
      omega

theorem lt_dl (n : Nat) : n < B ^ (dl n) := by
  induction n using Nat.strongRecOn with
  | ind n ih =>
    by_cases h0 : n = 0
    · subst h0; rw [dl_zero]; decide
    · rw [dl_pos h0, Nat.pow_succ]
      have := ih (n / B) (Nat.div_lt_self (Nat.pos_of_ne_zero h0) (by decide))
      rwa [Nat.div_lt_iff_lt_mul B_pos] at this

theorem dl_gt {n k : Nat} (h : B ^ k ≤ n) : k < dl n := by
  rcases Nat.lt_or_ge k (dl n) with h1 | h1
  · exact h1
  · have h2 := lt_dl n
    have h3 : B ^ (dl n) ≤ B ^ k := Nat.pow_le_pow_right B_pos h1
    omega

theorem dl_eq_zero {n : Nat} : dl n = 0 ↔ n = 0 := by
  constructor
  · intro h; have := lt_dl n; rw [h] at this; simpa using this
  · rintro rfl; exact dl_zero

theorem dl_unique {n k : Nat} (h1 : n < B ^ (k + 1)) (h2 : B ^ k ≤ n) : dl n = k + 1 := by
  have := dl_le h1; have := dl_gt h2; omega

theorem pow_le_of_dl {n : Nat} (h : n ≠ 0) : B ^ (dl n - 1) ≤ n := by
  rcases Nat.lt_or_ge n (B ^ (dl n - 1)) with h1 | h1
  · have := dl_le h1
    have h2 : dl n ≠ 0 := fun e => h (dl_eq_zero.1 e)
    omega
  · exact h1

theorem dg_top {n : Nat} (h : n ≠ 0) : dg n (dl n - 1) ≠ 0 := by
  have h1 := pow_le_of_dl h
  have h2 := lt_dl n
  have h3 : dl n ≠ 0 := fun e => h (dl_eq_zero.1 e)
  obtain ⟨d, hd⟩ : ∃ d, dl n = d + 1 := ⟨dl n - 1, by omega⟩
  rw [hd] at h1 h2 ⊢
  simp only [Nat.add_sub_cancel] at h1 ⊢
  unfold dg
  have h4 : n / B ^ d < B := by
    rw [Nat.div_lt_iff_lt_mul (Bp_pos d), Nat.mul_comm, ← Nat.pow_succ]; exact h2
  rw [Nat.mod_eq_of_lt h4]
  have := (Nat.le_div_iff_mul_le (k := B ^ d) (x := 1) (y := n) (Bp_pos d)).2 (by omega)
  omega

theorem dg_far {n i : Nat} (h : n < B ^ i) : dg n i = 0 := by
  unfold dg; rw [Nat.div_eq_of_lt h]; exact Nat.zero_mod _

theorem dg_beyond {n i : Nat} (h : dl n ≤ i) : dg n i = 0 :=
  dg_far (Nat.lt_of_lt_of_le (lt_dl n) (Nat.pow_le_pow_right B_pos h))

theorem dl_mono {n m : Nat} (h : n ≤ m) : dl n ≤ dl m := dl_le (Nat.lt_of_le_of_lt h (lt_dl m))

theorem vs_dl (n : Nat) : vs (dg n) (dl n) = n := by rw [vs_dg, Nat.mod_eq_of_lt (lt_dl n)]

theorem dl_vs {f : Nat → Nat} {k : Nat} (hf : ∀ j, j < k → f j < B) (h : k = 0 ∨ f (k - 1) ≠ 0) : dl (vs f k) = k := by
  rcases k with _ | k
  · exact dl_zero
  · have h1 : f k ≠ 0 := by simpa using h
    refine dl_unique (vs_lt hf) ?_
    rw [vs]
    have : 1 * B ^ k ≤ f k * B ^ k := Nat.mul_le_mul_right _ (by omega)
    omega

theorem dl_of_digits {n k : Nat} (h : n < B ^ k) (ht : k = 0 ∨ dg n (k - 1) ≠ 0) : dl n = k := by
  have h1 := dl_le h
  rcases Nat.lt_or_ge (dl n) k with h2 | h2
  · exact absurd (dg_beyond (n := n) (i := k - 1) (by omega)) (by rcases ht with ht | ht; omega; exact ht)
  · omega

theorem dl_mul_le (a b : Nat) : dl (a * b) ≤ dl a + dl b := by
  apply dl_le
  rw [Nat.pow_add]
  have h1 := lt_dl a
  have h2 := lt_dl b
  rcases Nat.eq_zero_or_pos a with h0 | h0
  · subst h0; rw [Nat.zero_mul]; exact Nat.mul_pos (Bp_pos _) (Bp_pos _)
  · exact Nat.mul_lt_mul_of_lt_of_le h1 (Nat.le_of_lt h2) (Bp_pos _)

theorem dl_add_le (a b : Nat) : dl (a + b) ≤ max (dl a) (dl b) + 1 := by
  apply dl_le
  have h1 := Nat.lt_of_lt_of_le (lt_dl a) (Nat.pow_le_pow_right B_pos (Nat.le_max_left (dl a) (dl b)))
  have h2 := Nat.lt_of_lt_of_le (lt_dl b) (Nat.pow_le_pow_right B_pos (Nat.le_max_right (dl a) (dl b)))
  rw [Nat.pow_succ]
  have h3 : B ^ max (dl a) (dl b) * 2 ≤ B ^ max (dl a) (dl b) * B := Nat.mul_le_mul_left _ (by decide)
  omega

/-- Less by length: fewer digits, a smaller number. -/
theorem lt_of_dl_lt {a b : Nat} (h : dl a < dl b) : a < b := by
  rcases Nat.lt_or_ge a b with h1 | h1
  · exact h1
  · have := dl_mono h1; omega

end AC

/-
  Trees (types and values), data types, and what the program's functions reckon of them: plain.
-/
namespace AC
set_option linter.unusedVariables false
set_option linter.unusedSimpArgs false

/-- A type or a value: kind, number, and what is below. -/
inductive Tr where
  | n (k m : Int) (kids : List Tr)
def Tr.k : Tr → Int | .n k _ _ => k
def Tr.m : Tr → Int | .n _ m _ => m
def Tr.kids : Tr → List Tr | .n _ _ l => l

mutual
def Tr.size : Tr → Nat | .n _ _ l => 1 + sizes l
def sizes : List Tr → Nat | [] => 0 | t :: l => t.size + sizes l
end
theorem Tr.size_pos (t : Tr) : 0 < t.size := by cases t; rw [Tr.size]; omega

/-- A constructor: its name and the types of its arguments; a data type: its name, how many parameters, its constructors. -/
structure CoD where
  name : List UInt8
  args : List Tr
structure DaD where
  name : List UInt8
  vars : Int
  cons : List CoD

/-! ### Subst -/
mutual
def copy : Tr → Tr | .n k m l => .n k m (copies l)
def copies : List Tr → List Tr | [] => [] | t :: l => copy t :: copies l
end
mutual
theorem copy_eq : ∀ t, copy t = t | .n k m l => by rw [copy, copies_eq l]
theorem copies_eq : ∀ l, copies l = l | [] => rfl | t :: l => by rw [copies, copy_eq t, copies_eq l]
end
/-- A type with others in the place of its variables (4: a variable). -/
def Tr.isVar (t : Tr) (n : Nat) : Bool := t.k == 4 && decide (0 ≤ t.m) && decide (t.m < n)
mutual
def subst (as : List Tr) : Tr → Tr
  | .n k m l => if (k == 4 && decide (0 ≤ m) && decide (m < as.length)) then as.getD m.toNat (.n 0 0 []) else .n k m (substs as l)
def substs (as : List Tr) : List Tr → List Tr
  | [] => []
  | t :: l => subst as t :: substs as l
end
mutual
/-- The number of nodes behind Subst, or some number above 200. -/
def subSize (ss : List Nat) : Tr → Nat
  | .n k m l => if (k == 4 && decide (0 ≤ m) && decide (m < ss.length)) then ss.getD m.toNat 0 else subSizes ss 1 l
def subSizes (ss : List Nat) (n : Nat) : List Tr → Nat
  | [] => n
  | t :: l => if 200 < n + subSize ss t then n + subSize ss t else subSizes ss (n + subSize ss t) l
end
/-- The argument types of constructor c of a data type (5). -/
def fieldsD (D : List DaD) (t : Tr) (c : Int) : Option (List Tr) :=
  if t.k = 5 ∧ 0 ≤ t.m ∧ t.m < D.length then
    match D[t.m.toNat]? with
    | none => none
    | some d =>
      if (t.kids.length : Int) = d.vars ∧ 0 ≤ c ∧ c < d.cons.length then
        match d.cons[c.toNat]? with
        | none => none
        | some e => if e.args.all (fun a => decide (subSize (t.kids.map Tr.size) a ≤ 200)) then some (e.args.map (subst t.kids)) else none
      else none
  else none

/-! ### Valid types -/
/-- How many arguments a type may have: least and greatest; none: no valid head. -/
def headD (D : List DaD) (vars k m : Int) : Option (Int × Int) :=
  if k = 1 ∨ k = 2 ∨ k = 3 then (if m = 0 then some (0, 0) else none)
  else if k = 4 then (if 0 ≤ m ∧ m < vars then some (0, 0) else none)
  else if k = 5 then (if 0 ≤ m ∧ m < D.length then (D[m.toNat]?).map fun d => (d.vars, d.vars) else none)
  else if k = 6 then (if m = 0 then some (2, 6) else none)
  else if k = 7 ∨ k = 8 then (if m = 0 then some (1, 1) else none)
  else if k = 9 then (if m = 0 then some (1, 7) else none)
  else none
mutual
/-- What is left of the nodes behind a valid type; none: not valid. -/
def validT (D : List DaD) (vars : Int) (left : Nat) : Tr → Option Nat
  | .n k m l =>
    match left with
    | 0 => none
    | left + 1 =>
      match headD D vars k m with
      | none => none
      | some (lo, hi) => if lo ≤ l.length ∧ (l.length : Int) ≤ hi then validTs D vars left l else none
def validTs (D : List DaD) (vars : Int) (left : Nat) : List Tr → Option Nat
  | [] => some left
  | t :: l => match validT D vars left t with
    | none => none
    | some r => validTs D vars r l
end

/-! ### Values of a type -/
mutual
def hasT (D : List DaD) : Tr → Tr → Bool
  | .n k m l, t =>
    if t.k = 1 then k == 3 && decide (-1099511627776 ≤ m) && decide (m ≤ 1099511627776) && l.isEmpty
    else if t.k = 2 then k == 2 && (m == 0 || m == 1) && l.isEmpty
    else if t.k = 3 then k == 1 && m == 0 && l.isEmpty
    else if t.k = 6 then k == 4 && m == 0 && hasAll D l t.kids
    else if t.k = 5 then
      if k = 5 ∧ 0 ≤ m ∧ m < 8 then
        match fieldsD D t m with
        | none => false
        | some fs => hasAll D l fs
      else false
    else if t.k = 7 then k == 6 && m == 0 && decide (l.length ≤ 4096) && hasEach D l (t.kids.getD 0 (.n 0 0 []))
    else if t.k = 8 then k == 7 && m == 0 && hasAll D l t.kids
    else if t.k = 9 then k == 8 && decide (0 ≤ m) && decide (m < 64) && l.isEmpty
    else false
def hasAll (D : List DaD) : List Tr → List Tr → Bool
  | [], [] => true
  | v :: l, t :: ts => hasT D v t && hasAll D l ts
  | _, _ => false
def hasEach (D : List DaD) : List Tr → Tr → Bool
  | [], _ => true
  | v :: l, t => hasT D v t && hasEach D l t
end

end AC

/-
  A chain of more steps is a chain on a chain, and has the type: plain.
-/
namespace AC
set_option linter.unusedVariables false
set_option linter.unusedSimpArgs false

/-- The fields of a constructor: the value at the recursive places (true), the payload at the others. -/
def buildK : List Bool → List Tr → Tr → List Tr
  | [], _, _ => []
  | true :: fl, ps, v => v :: buildK fl ps v
  | false :: fl, ps, v => ps.getD 0 (.n 0 0 []) :: buildK fl (ps.drop 1) v
/-- n steps on a value. -/
def chainV (fl : List Bool) (con : Int) (ps : List Tr) : Nat → Tr → Tr
  | 0, v => v
  | n + 1, v => .n 5 con (buildK fl ps (chainV fl con ps n v))
theorem chainV_add (fl : List Bool) (con : Int) (ps : List Tr) (n m : Nat) (v : Tr) : chainV fl con ps m (chainV fl con ps n v) = chainV fl con ps (n + m) v := by
  induction m with
  | zero => rfl
  | succ m ih => rw [chainV, ih]; rfl
/-- The payload has the types of the places that are not recursive. -/
def payOk (D : List DaD) : List Bool → List Tr → List Tr → Bool
  | [], [], [] => true
  | true :: fl, ps, _ :: fs => payOk D fl ps fs
  | false :: fl, p :: ps, f :: fs => hasT D p f && payOk D fl ps fs
  | _, _, _ => false
/-- The recursive places have the type itself. -/
def recOk (t : Tr) : List Bool → List Tr → Prop
  | [], [] => True
  | true :: fl, f :: fs => f = t ∧ recOk t fl fs
  | false :: fl, _ :: fs => recOk t fl fs
  | _, _ => False
theorem hasAll_build (D : List DaD) (t v : Tr) (hv : hasT D v t = true) : ∀ (fl : List Bool) (ps fs : List Tr), payOk D fl ps fs = true → recOk t fl fs → hasAll D (buildK fl ps v) fs = true
  | [], ps, fs, hp, hr => by
    cases fs with
    | nil => cases ps with
      | nil => rfl
      | cons p ps => simp [payOk] at hp
    | cons f fs => cases hr
  | true :: fl, ps, fs, hp, hr => by
    cases fs with
    | nil => cases hr
    | cons f fs =>
      obtain ⟨rfl, hr⟩ := hr
      rw [payOk] at hp
      rw [buildK, hasAll, hv, hasAll_build D f v hv fl ps fs hp hr]
      rfl
  | false :: fl, ps, fs, hp, hr => by
    cases fs with
    | nil => cases hr
    | cons f fs =>
      cases ps with
      | nil => simp [payOk] at hp
      | cons p ps =>
        rw [payOk, Bool.and_eq_true] at hp
        rw [buildK, hasAll, List.getD_cons_zero, hp.1, List.drop_succ_cons, List.drop_zero, hasAll_build D t v hv fl ps fs hp.2 hr]
        rfl
theorem hasT_chain (D : List DaD) (t : Tr) (con : Int) (fl : List Bool) (ps fs : List Tr) (ht : t.k = 5) (h0 : 0 ≤ con) (h8 : con < 8) (hf : fieldsD D t con = some fs) (hp : payOk D fl ps fs = true) (hr : recOk t fl fs) :
    ∀ (n : Nat) (v : Tr), hasT D v t = true → hasT D (chainV fl con ps n v) t = true
  | 0, v, hv => hv
  | n + 1, v, hv => by
    have ih := hasT_chain D t con fl ps fs ht h0 h8 hf hp hr n v hv
    rw [chainV, hasT, ht]
    simp only [show ¬ (5 : Int) = 1 from by decide, show ¬ (5 : Int) = 2 from by decide, show ¬ (5 : Int) = 3 from by decide, show ¬ (5 : Int) = 6 from by decide, if_false, if_true]
    rw [if_pos ⟨trivial, h0, h8⟩, hf]
    exact hasAll_build D t _ ih fl ps fs hp hr
/-- The sum of the payload's nodes, and one. -/
def stepN : List Tr → Nat
  | [] => 1
  | p :: ps => stepN ps + p.size
theorem sizes_build (v : Tr) : ∀ (fl : List Bool) (ps : List Tr), fl.count true = 1 → fl.count false = ps.length → sizes (buildK fl ps v) + 1 = v.size + stepN ps
  | fl, ps, h1, h2 => by
    have key : ∀ (fl : List Bool) (ps : List Tr), fl.count false = ps.length → sizes (buildK fl ps v) + 1 = fl.count true * v.size + stepN ps := by
      intro fl
      induction fl with
      | nil => intro ps h; cases ps with
        | nil => simp [buildK, sizes, stepN]
        | cons p ps => simp at h
      | cons b fl ih =>
        intro ps h
        cases b with
        | true =>
          have := ih ps (by simpa using h)
          rw [buildK, sizes, List.count_cons_self, Nat.succ_mul]
          omega
        | false =>
          cases ps with
          | nil => simp at h
          | cons p ps =>
            have := ih ps (by simpa using h)
            rw [buildK, sizes, stepN, List.getD_cons_zero, List.drop_succ_cons, List.drop_zero, List.count_cons_of_ne (by decide)]
            omega
    rw [key fl ps h2, h1, Nat.one_mul]
theorem size_chain (fl : List Bool) (con : Int) (ps : List Tr) (h1 : fl.count true = 1) (h2 : fl.count false = ps.length) : ∀ (n : Nat) (v : Tr), (chainV fl con ps n v).size = v.size + n * stepN ps
  | 0, v => by simp [chainV]
  | n + 1, v => by
    have ih := size_chain fl con ps h1 h2 n v
    have := sizes_build (chainV fl con ps n v) fl ps h1 h2
    rw [chainV, Tr.size, Nat.succ_mul]
    omega

/-- Is an argument of constructor of data type d (with so many parameters) recursive? -/
def varsFrom : Int → List Tr → Bool
  | _, [] => true
  | i, a :: l => a.k == 4 && a.m == i && a.kids.isEmpty && varsFrom (i + 1) l
def recD (d vars : Int) (a : Tr) : Bool := a.k == 5 && a.m == d && decide ((a.kids.length : Int) = vars) && varsFrom 0 a.kids
theorem substs_vars (as : List Tr) : ∀ (l : List Tr) (i : Nat), i + l.length = as.length → varsFrom i l = true → substs as l = as.drop i
  | [], i, h, _ => by rw [substs, List.drop_eq_nil_of_le (by simp at h; omega)]
  | a :: l, i, h, hv => by
    obtain ⟨k, m, kids⟩ := a
    simp only [varsFrom, Tr.k, Tr.m, Tr.kids, Bool.and_eq_true, beq_iff_eq] at hv
    obtain ⟨⟨⟨rfl, rfl⟩, _⟩, hl⟩ := hv
    have hi : i < as.length := by simp at h; omega
    have ih := substs_vars as l (i + 1) (by simp at h; omega) (by simpa using hl)
    have c : ((4 : Int) == 4 && decide (0 ≤ (i : Int)) && decide ((i : Int) < as.length)) = true := by simp; omega
    rw [substs, subst, if_pos c, ih, List.drop_eq_getElem_cons hi]
    simp [List.getD, List.getElem?_eq_getElem hi]
/-- A recursive argument becomes the type itself. -/
theorem subst_rec {t a : Tr} {d vars : Int} (ht : t.k = 5) (hm : t.m = d) (hl : (t.kids.length : Int) = vars) (h : recD d vars a = true) : subst t.kids a = t := by
  obtain ⟨k, m, l⟩ := a
  obtain ⟨tk, tm, ts⟩ := t
  simp only [Tr.k, Tr.m, Tr.kids] at *
  subst ht hm hl
  simp only [recD, Tr.k, Tr.m, Tr.kids, Bool.and_eq_true, beq_iff_eq, decide_eq_true_eq] at h
  obtain ⟨⟨⟨rfl, rfl⟩, h3⟩, h4⟩ := h
  have c : ((5 : Int) == 4 && decide (0 ≤ m) && decide (m < ts.length)) = false := by simp
  rw [subst, if_neg (by rw [c]; decide), substs_vars ts l 0 (by have h5 := of_decide_eq_true h3; omega) h4, List.drop_zero]
end AC

