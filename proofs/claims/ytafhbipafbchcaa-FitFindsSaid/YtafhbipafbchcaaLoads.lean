/-
  The state of a region 'f, g := load(a), load(b)', whatever the order.
-/
import Derived.Test.YtafhbipafbchcaaWalkP
import Derived.Test.YtafhbipafbchcaaRegion
namespace Go.Proofs.Ytafhbipafbchcaa
open Go.RowKit AC
set_option linter.unusedVariables false
set_option linter.unusedSimpArgs false

/-- As Limbs, the block between lo and hi. -/
def LimbsH (w : World) (lo hi : Nat) (v : Value) (k : Nat) (f : Nat → Nat) : Prop :=
  (∀ i, i < k → f i < 4294967296) ∧ ∃ A c, v = .slice A k c ∧ k ≤ c ∧ c ≤ maxLen ∧
    (0 < k → ∃ b off, A = some ⟨b, off, none⟩ ∧ lo ≤ b ∧ b < hi ∧ ∀ i, i < k → w.cell? ⟨b, off + i, none⟩ = some (.int .u32 ((f i : Nat) : Int)))
theorem LimbsH.keep {w w' : World} {lo hi : Nat} {v : Value} {k : Nat} {f : Nat → Nat} (h : LimbsH w lo hi v k f) (hk : ∀ b, lo ≤ b → b < hi → w'.heap[b]? = w.heap[b]?) : LimbsH w' lo hi v k f := by
  obtain ⟨h1, A, c, rfl, h2, h3, h4⟩ := h
  refine ⟨h1, A, c, rfl, h2, h3, fun h0 => ?_⟩
  obtain ⟨b, off, rfl, h5, h6, h7⟩ := h4 h0
  exact ⟨b, off, rfl, h5, h6, fun i hi => (World.cell?_of_block (a := ⟨b, off + i, none⟩) (hk b h5 h6)).trans (h7 i hi)⟩
theorem LimbsH.limbs {w : World} {lo hi : Nat} {v : Value} {k : Nat} {f : Nat → Nat} (h : LimbsH w lo hi v k f) (hh : hi ≤ w.heap.size) : Limbs w lo v k f := by
  obtain ⟨h1, A, c, rfl, h2, h3, h4⟩ := h
  refine ⟨h1, A, c, rfl, h2, h3, fun h0 => ?_⟩
  obtain ⟨b, off, rfl, h5, h6, h7⟩ := h4 h0
  exact ⟨b, off, rfl, h5, by omega, h7⟩

/-- A loaded fraction, its memory between lo and hi. -/
def LH (w : World) (lo hi K : Nat) (q : Rat) (v : Value) : Prop :=
  ∃ neg n d A c A' c', v = .agg #[.bool neg, .slice A (dl n) c, .slice A' (dl d) c'] ∧ LimbsH w lo hi (.slice A (dl n) c) (dl n) (dg n) ∧ LimbsH w lo hi (.slice A' (dl d) c') (dl d) (dg d) ∧
    d ≠ 0 ∧ dl n ≤ K + 1 ∧ dl d ≤ K + 1 ∧ q = mkRat (sg neg n) d
theorem LH.keep {w w' : World} {lo hi K : Nat} {q : Rat} {v : Value} (h : LH w lo hi K q v) (hk : ∀ b, lo ≤ b → b < hi → w'.heap[b]? = w.heap[b]?) : LH w' lo hi K q v := by
  obtain ⟨neg, n, d, A, c, A', c', rfl, h1, h2, h3⟩ := h
  exact ⟨neg, n, d, A, c, A', c', rfl, h1.keep hk, h2.keep hk, h3⟩
theorem LoadR.toH {w w' : World} {K : Nat} {q : Rat} {v : Value} (h : LoadR w K q v w') : LH w' w.heap.size w'.heap.size K q v ∧ Below w.heap.size w w' := by
  obtain ⟨neg, n, d, hf, h1, h2, h3, h4, h5⟩ := h
  obtain ⟨A, c, A', c', rfl, h6, h7⟩ := hf.form
  exact ⟨⟨neg, n, d, A, c, A', c', rfl, h6, h7, h1, h2, h3, h4⟩, h5⟩

def zero3 : Array Value := #[.bool false, .slice none 0 0, .slice none 0 0]

/-- What holds when the operations d of the region are done. -/
structure MI (w : World) (va vb : Value) (K K' : Nat) (q q' : Rat) (d : Nat → Bool) (f g lo1 hi1 lo2 hi2 : Nat) (s5 s6 s7 s8 s9 s10 : Value) (x : World) : Prop where
  below : Below w.heap.size w x
  c0 : d 0 = true → s7 = va
  c2 : d 2 = true → s9 = vb
  c1 : d 1 = true → w.heap.size ≤ lo1 ∧ hi1 ≤ x.heap.size ∧ LH x lo1 hi1 K q s8
  c3 : d 3 = true → w.heap.size ≤ lo2 ∧ hi2 ≤ x.heap.size ∧ LH x lo2 hi2 K' q' s10
  c4 : d 4 = true → s5 = .pointer (some ⟨f, 0, none⟩) ∧ w.heap.size ≤ f ∧ Bk x f 54 (if d 6 then s8.cells else zero3)
  c5 : d 5 = true → s6 = .pointer (some ⟨g, 0, none⟩) ∧ w.heap.size ≤ g ∧ Bk x g 54 (if d 7 then s10.cells else zero3)
  n41 : d 4 = true → d 1 = true → f < lo1 ∨ hi1 ≤ f
  n43 : d 4 = true → d 3 = true → f < lo2 ∨ hi2 ≤ f
  n51 : d 5 = true → d 1 = true → g < lo1 ∨ hi1 ≤ g
  n53 : d 5 = true → d 3 = true → g < lo2 ∨ hi2 ≤ g
  n45 : d 4 = true → d 5 = true → f ≠ g
  o6 : d 6 = true → d 1 = true ∧ d 3 = true ∧ d 4 = true ∧ d 5 = true
  o7 : d 7 = true → d 6 = true

section
variable {w : World} {va vb : Value} {K K' : Nat} {q q' : Rat} {d : Nat → Bool} {f g lo1 hi1 lo2 hi2 : Nat} {s5 s6 s7 s8 s9 s10 : Value} {x x' : World}

theorem MI.later (h : MI w va vb K K' q q' d f g lo1 hi1 lo2 hi2 s5 s6 s7 s8 s9 s10 x) (hb : Below x.heap.size x x') : MI w va vb K K' q q' d f g lo1 hi1 lo2 hi2 s5 s6 s7 s8 s9 s10 x' where
  below := h.below.trans (hb.mono h.below.size)
  c0 := h.c0
  c2 := h.c2
  c1 := fun e => ⟨(h.c1 e).1, Nat.le_trans (h.c1 e).2.1 hb.size, (h.c1 e).2.2.keep fun b _ h2 => hb.block b (Nat.lt_of_lt_of_le h2 (h.c1 e).2.1)⟩
  c3 := fun e => ⟨(h.c3 e).1, Nat.le_trans (h.c3 e).2.1 hb.size, (h.c3 e).2.2.keep fun b _ h2 => hb.block b (Nat.lt_of_lt_of_le h2 (h.c3 e).2.1)⟩
  c4 := fun e => ⟨(h.c4 e).1, (h.c4 e).2.1, (h.c4 e).2.2.below hb (h.c4 e).2.2.lt⟩
  c5 := fun e => ⟨(h.c5 e).1, (h.c5 e).2.1, (h.c5 e).2.2.below hb (h.c5 e).2.2.lt⟩
  n41 := h.n41
  n43 := h.n43
  n51 := h.n51
  n53 := h.n53
  n45 := h.n45
  o6 := h.o6
  o7 := h.o7

theorem MI.op0 (h : MI w va vb K K' q q' d f g lo1 hi1 lo2 hi2 s5 s6 s7 s8 s9 s10 x) : MI w va vb K K' q q' (fun j => d j || j == 0) f g lo1 hi1 lo2 hi2 s5 s6 va s8 s9 s10 x where
  below := h.below
  c0 := fun _ => rfl
  c2 := by simpa using h.c2
  c1 := by simpa using h.c1
  c3 := by simpa using h.c3
  c4 := by simpa using h.c4
  c5 := by simpa using h.c5
  n41 := by simpa using h.n41
  n43 := by simpa using h.n43
  n51 := by simpa using h.n51
  n53 := by simpa using h.n53
  n45 := by simpa using h.n45
  o6 := by simpa using h.o6
  o7 := by simpa using h.o7

theorem MI.op2 (h : MI w va vb K K' q q' d f g lo1 hi1 lo2 hi2 s5 s6 s7 s8 s9 s10 x) : MI w va vb K K' q q' (fun j => d j || j == 2) f g lo1 hi1 lo2 hi2 s5 s6 s7 s8 vb s10 x where
  below := h.below
  c0 := by simpa using h.c0
  c2 := fun _ => rfl
  c1 := by simpa using h.c1
  c3 := by simpa using h.c3
  c4 := by simpa using h.c4
  c5 := by simpa using h.c5
  n41 := by simpa using h.n41
  n43 := by simpa using h.n43
  n51 := by simpa using h.n51
  n53 := by simpa using h.n53
  n45 := by simpa using h.n45
  o6 := by simpa using h.o6
  o7 := by simpa using h.o7

theorem MI.op1 (h : MI w va vb K K' q q' d f g lo1 hi1 lo2 hi2 s5 s6 s7 s8 s9 s10 x) (hn : d 1 = false) {v1 : Value} (hl : LoadR x K q v1 x') :
    MI w va vb K K' q q' (fun j => d j || j == 1) f g x.heap.size x'.heap.size lo2 hi2 s5 s6 s7 v1 s9 s10 x' := by
  have h6 : d 6 = false := by
    cases e : d 6 with
    | false => rfl
    | true => have := h.o6 e; rw [hn] at this; simp at this
  obtain ⟨hh, hb⟩ := hl.toH
  have h' := h.later hb
  exact {
    below := h'.below
    c0 := by simpa using h'.c0
    c2 := by simpa using h'.c2
    c1 := fun _ => ⟨h.below.size, Nat.le_refl _, hh⟩
    c3 := by simpa using h'.c3
    c4 := by have := h'.c4; simp only [h6] at this; simpa [h6] using this
    c5 := by simpa using h'.c5
    n41 := fun e _ => .inl (h.c4 (by simpa using e)).2.2.lt
    n43 := by simpa using h'.n43
    n51 := fun e _ => .inl (h.c5 (by simpa using e)).2.2.lt
    n53 := by simpa using h'.n53
    n45 := by simpa using h'.n45
    o6 := by simp [h6]
    o7 := by intro e; have := h.o7 (by simpa using e); rw [h6] at this; cases this }

theorem MI.op3 (h : MI w va vb K K' q q' d f g lo1 hi1 lo2 hi2 s5 s6 s7 s8 s9 s10 x) (hn : d 3 = false) {v1 : Value} (hl : LoadR x K' q' v1 x') :
    MI w va vb K K' q q' (fun j => d j || j == 3) f g lo1 hi1 x.heap.size x'.heap.size s5 s6 s7 s8 s9 v1 x' := by
  have h6 : d 6 = false := by
    cases e : d 6 with
    | false => rfl
    | true => have := h.o6 e; rw [hn] at this; simp at this
  have h7 : d 7 = false := by
    cases e : d 7 with
    | false => rfl
    | true => have := h.o7 e; rw [h6] at this; cases this
  obtain ⟨hh, hb⟩ := hl.toH
  have h' := h.later hb
  exact {
    below := h'.below
    c0 := by simpa using h'.c0
    c2 := by simpa using h'.c2
    c1 := by simpa using h'.c1
    c3 := fun _ => ⟨h.below.size, Nat.le_refl _, hh⟩
    c4 := by simpa using h'.c4
    c5 := by have := h'.c5; simp only [h7] at this; simpa [h7] using this
    n41 := by simpa using h'.n41
    n43 := fun e _ => .inl (h.c4 (by simpa using e)).2.2.lt
    n51 := by simpa using h'.n51
    n53 := fun e _ => .inl (h.c5 (by simpa using e)).2.2.lt
    n45 := by simpa using h'.n45
    o6 := by simp [h6]
    o7 := by intro e; have := h.o7 (by simpa using e); rw [h6] at this; cases this }

theorem MI.op4 (h : MI w va vb K K' q q' d f g lo1 hi1 lo2 hi2 s5 s6 s7 s8 s9 s10 x) (hn : d 4 = false) :
    MI w va vb K K' q q' (fun j => d j || j == 4) x.heap.size g lo1 hi1 lo2 hi2 (.pointer (some ⟨x.heap.size, 0, none⟩)) s6 s7 s8 s9 s10 (x.alloc (.cells zero3 54)) := by
  have h6 : d 6 = false := by
    cases e : d 6 with
    | false => rfl
    | true => have := h.o6 e; rw [hn] at this; simp at this
  have h' := h.later (bel1 x (.cells zero3 54))
  exact {
    below := h'.below
    c0 := by simpa using h'.c0
    c2 := by simpa using h'.c2
    c1 := by simpa using h'.c1
    c3 := by simpa using h'.c3
    c4 := fun _ => ⟨rfl, h.below.size, by simp only [h6]; exact Bk.new _ _ _⟩
    c5 := by simpa using h'.c5
    n41 := fun _ e => .inr (h.c1 (by simpa using e)).2.1
    n43 := fun _ e => .inr (h.c3 (by simpa using e)).2.1
    n51 := by simpa using h'.n51
    n53 := by simpa using h'.n53
    n45 := fun _ e => Nat.ne_of_gt (h.c5 (by simpa using e)).2.2.lt
    o6 := by simp [h6]
    o7 := by intro e; have := h.o7 (by simpa using e); rw [h6] at this; cases this }

theorem MI.op5 (h : MI w va vb K K' q q' d f g lo1 hi1 lo2 hi2 s5 s6 s7 s8 s9 s10 x) (hn : d 5 = false) :
    MI w va vb K K' q q' (fun j => d j || j == 5) f x.heap.size lo1 hi1 lo2 hi2 s5 (.pointer (some ⟨x.heap.size, 0, none⟩)) s7 s8 s9 s10 (x.alloc (.cells zero3 54)) := by
  have h6 : d 6 = false := by
    cases e : d 6 with
    | false => rfl
    | true => have := h.o6 e; rw [hn] at this; simp at this
  have h7 : d 7 = false := by
    cases e : d 7 with
    | false => rfl
    | true => have := h.o7 e; rw [h6] at this; cases this
  have h' := h.later (bel1 x (.cells zero3 54))
  exact {
    below := h'.below
    c0 := by simpa using h'.c0
    c2 := by simpa using h'.c2
    c1 := by simpa using h'.c1
    c3 := by simpa using h'.c3
    c4 := by simpa using h'.c4
    c5 := fun _ => ⟨rfl, h.below.size, by simp only [h7]; exact Bk.new _ _ _⟩
    n41 := by simpa using h'.n41
    n43 := by simpa using h'.n43
    n51 := fun _ e => .inr (h.c1 (by simpa using e)).2.1
    n53 := fun _ e => .inr (h.c3 (by simpa using e)).2.1
    n45 := fun e _ => Nat.ne_of_lt (h.c4 (by simpa using e)).2.2.lt
    o6 := by simp [h6]
    o7 := by intro e; have := h.o7 (by simpa using e); rw [h6] at this; cases this }

theorem heap_set3 (x : World) (b' : Nat) (p y z : Value) (k : Nat) (hk : k ≠ b') : (((x.setCell ⟨b', 0, none⟩ p).setCell ⟨b', 1, none⟩ y).setCell ⟨b', 2, none⟩ z).heap[k]? = x.heap[k]? := by
  rw [Below.heap_setCell _ _ _ _ hk, Below.heap_setCell _ _ _ _ hk, Below.heap_setCell _ _ _ _ hk]
theorem size_set3 (x : World) (b' : Nat) (p y z : Value) : (((x.setCell ⟨b', 0, none⟩ p).setCell ⟨b', 1, none⟩ y).setCell ⟨b', 2, none⟩ z).heap.size = x.heap.size := by simp [World.setCell]

theorem MI.op6 (h : MI w va vb K K' q q' d f g lo1 hi1 lo2 hi2 s5 s6 s7 s8 s9 s10 x) (h4 : d 4 = true) (h5 : d 5 = true) (h1 : d 1 = true) (h3 : d 3 = true) (h6 : d 6 = false) {p y z : Value} (hs : s8 = .agg #[p, y, z]) :
    MI w va vb K K' q q' (fun j => d j || j == 6) f g lo1 hi1 lo2 hi2 s5 s6 s7 s8 s9 s10 (((x.setCell ⟨f, 0, none⟩ p).setCell ⟨f, 1, none⟩ y).setCell ⟨f, 2, none⟩ z) := by
  obtain ⟨e1, e2, e3⟩ := h.c4 h4
  obtain ⟨g1, g2, g3⟩ := h.c5 h5
  exact {
    below := below_set3 h.below (by omega) p y z
    c0 := by simpa using h.c0
    c2 := by simpa using h.c2
    c1 := fun _ => ⟨(h.c1 h1).1, by rw [size_set3]; exact (h.c1 h1).2.1, (h.c1 h1).2.2.keep fun b hb1 hb2 => heap_set3 x f p y z b (by have := h.n41 h4 h1; omega)⟩
    c3 := fun _ => ⟨(h.c3 h3).1, by rw [size_set3]; exact (h.c3 h3).2.1, (h.c3 h3).2.2.keep fun b hb1 hb2 => heap_set3 x f p y z b (by have := h.n43 h4 h3; omega)⟩
    c4 := fun _ => ⟨e1, e2, by
      rw [h6] at e3
      simp only [Bool.or_eq_true, beq_self_eq_true, or_true, if_true, hs]
      exact ((Bk.set e3 0 p).set 1 y).set 2 z⟩
    c5 := fun _ => ⟨g1, g2, (heap_set3 x f p y z g (fun e => h.n45 h4 h5 e.symm)).trans (by simpa [Bk] using g3)⟩
    n41 := by simpa using h.n41
    n43 := by simpa using h.n43
    n51 := by simpa using h.n51
    n53 := by simpa using h.n53
    n45 := by simpa using h.n45
    o6 := fun _ => by simp [h1, h3, h4, h5]
    o7 := fun _ => by simp }

theorem MI.op7 (h : MI w va vb K K' q q' d f g lo1 hi1 lo2 hi2 s5 s6 s7 s8 s9 s10 x) (h4 : d 4 = true) (h5 : d 5 = true) (h1 : d 1 = true) (h3 : d 3 = true) (h6 : d 6 = true) (h7 : d 7 = false) {p y z : Value} (hs : s10 = .agg #[p, y, z]) :
    MI w va vb K K' q q' (fun j => d j || j == 7) f g lo1 hi1 lo2 hi2 s5 s6 s7 s8 s9 s10 (((x.setCell ⟨g, 0, none⟩ p).setCell ⟨g, 1, none⟩ y).setCell ⟨g, 2, none⟩ z) := by
  obtain ⟨e1, e2, e3⟩ := h.c4 h4
  obtain ⟨g1, g2, g3⟩ := h.c5 h5
  exact {
    below := below_set3 h.below (by omega) p y z
    c0 := by simpa using h.c0
    c2 := by simpa using h.c2
    c1 := fun _ => ⟨(h.c1 h1).1, by rw [size_set3]; exact (h.c1 h1).2.1, (h.c1 h1).2.2.keep fun b hb1 hb2 => heap_set3 x g p y z b (by have := h.n51 h5 h1; omega)⟩
    c3 := fun _ => ⟨(h.c3 h3).1, by rw [size_set3]; exact (h.c3 h3).2.1, (h.c3 h3).2.2.keep fun b hb1 hb2 => heap_set3 x g p y z b (by have := h.n53 h5 h3; omega)⟩
    c4 := fun _ => ⟨e1, e2, (heap_set3 x g p y z f (h.n45 h4 h5)).trans (by simpa [Bk] using e3)⟩
    c5 := fun _ => ⟨g1, g2, by
      rw [h7] at g3
      simp only [Bool.or_eq_true, beq_self_eq_true, or_true, if_true, hs]
      exact ((Bk.set g3 0 p).set 1 y).set 2 z⟩
    n41 := by simpa using h.n41
    n43 := by simpa using h.n43
    n51 := by simpa using h.n51
    n53 := by simpa using h.n53
    n45 := by simpa using h.n45
    o6 := fun _ => by simp [h1, h3, h4, h5]
    o7 := fun _ => by simp [h6] }
end

end Go.Proofs.Ytafhbipafbchcaa
