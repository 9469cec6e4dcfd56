/-
  The state of a region 'f, g := load(a), load(b)', whatever the order.
-/
import Derived.Test.YtgheaoaicbkaoaaGreatDoorMWalkP
import Derived.Deep.DeepCutAuto
namespace Go.Proofs.YtgheaoaicbkaoaaGreatDoor
open Go.RowKit AC
set_option linter.unusedVariables false
set_option linter.unusedSimpArgs false

/-- As Limbs, the block between lo and hi. -/
def LimbsH (w : World) (lo hi : Nat) (v : Value) (k : Nat) (f : Nat → Nat) : Prop :=
  (∀ i, i < k → f i < 4294967296) ∧ ∃ A c, v = .slice A k c ∧ k ≤ c ∧ c ≤ maxLen ∧
    (0 < k → ∃ b off, A = some ⟨b, off, none⟩ ∧ lo ≤ b ∧ b < hi ∧ ∀ i, i < k → w.cell? ⟨b, off + i, none⟩ = some (.int .u32 ((f i : Nat) : Int)))
theorem LimbsH.keep {w w' : World} {lo hi : Nat} {v : Value} {k : Nat} {f : Nat → Nat} (h : LimbsH w lo hi v k f) (hk : ∀ b, lo ≤ b → b < hi → w'.heap[b]? = w.heap[b]?) : LimbsH w' lo hi v k f := by
  obtain ⟨h1, A, c, rfl, h2, h3, h4⟩ := h
  refine ⟨h1, A, c, rfl, h2, h3, fun h0 => ?_⟩
  obtain ⟨b, off, rfl, h5, h6, h7⟩ := h4 h0
  exact ⟨b, off, rfl, h5, h6, fun i hi => (World.cell?_of_block (a := ⟨b, off + i, none⟩) (hk b h5 h6)).trans (h7 i hi)⟩
theorem LimbsH.limbs {w : World} {lo hi : Nat} {v : Value} {k : Nat} {f : Nat → Nat} (h : LimbsH w lo hi v k f) (hh : hi ≤ w.heap.size) : Limbs w lo v k f := by
  obtain ⟨h1, A, c, rfl, h2, h3, h4⟩ := h
  refine ⟨h1, A, c, rfl, h2, h3, fun h0 => ?_⟩
  obtain ⟨b, off, rfl, h5, h6, h7⟩ := h4 h0
  exact ⟨b, off, rfl, h5, by omega, h7⟩

/-- A loaded fraction, its memory between lo and hi. -/
def LH (w : World) (lo hi K : Nat) (q : Rat) (v : Value) : Prop :=
  ∃ neg n d A c A' c', v = .agg #[.bool neg, .slice A (dl n) c, .slice A' (dl d) c'] ∧ LimbsH w lo hi (.slice A (dl n) c) (dl n) (dg n) ∧ LimbsH w lo hi (.slice A' (dl d) c') (dl d) (dg d) ∧
    d ≠ 0 ∧ dl n ≤ K + 1 ∧ dl d ≤ K + 1 ∧ q = mkRat (sg neg n) d
theorem LH.keep {w w' : World} {lo hi K : Nat} {q : Rat} {v : Value} (h : LH w lo hi K q v) (hk : ∀ b, lo ≤ b → b < hi → w'.heap[b]? = w.heap[b]?) : LH w' lo hi K q v := by
  obtain ⟨neg, n, d, A, c, A', c', rfl, h1, h2, h3⟩ := h
  exact ⟨neg, n, d, A, c, A', c', rfl, h1.keep hk, h2.keep hk, h3⟩
theorem LoadR.toH {w w' : World} {K : Nat} {q : Rat} {v : Value} (h : LoadR w K q v w') : LH w' w.heap.size w'.heap.size K q v ∧ Below w.heap.size w w' := by
  obtain ⟨neg, n, d, hf, h1, h2, h3, h4, h5⟩ := h
  obtain ⟨A, c, A', c', rfl, h6, h7⟩ := hf.form
  exact ⟨⟨neg, n, d, A, c, A', c', rfl, h6, h7, h1, h2, h3, h4⟩, h5⟩

def zero3 : Array Value := #[.bool false, .slice none 0 0, .slice none 0 0]

/-- What holds when the operations d of the region are done. -/
structure MI (w : World) (va vb : Value) (K K' : Nat) (q q' : Rat) (d : Nat → Bool) (f g lo1 hi1 lo2 hi2 : Nat) (s5 s6 s7 s8 s9 s10 : Value) (x : World) : Prop where
  below : Below w.heap.size w x
  c0 : d 0 = true → s7 = va
  c2 : d 2 = true → s9 = vb
  c1 : d 1 = true → w.heap.size ≤ lo1 ∧ hi1 ≤ x.heap.size ∧ LH x lo1 hi1 K q s8
  c3 : d 3 = true → w.heap.size ≤ lo2 ∧ hi2 ≤ x.heap.size ∧ LH x lo2 hi2 K' q' s10
  c4 : d 4 = true → s5 = .pointer (some ⟨f, 0, none⟩) ∧ w.heap.size ≤ f ∧ Bk x f 114 (if d 6 then s8.cells else zero3)
  c5 : d 5 = true → s6 = .pointer (some ⟨g, 0, none⟩) ∧ w.heap.size ≤ g ∧ Bk x g 114 (if d 7 then s10.cells else zero3)
  n41 : d 4 = true → d 1 = true → f < lo1 ∨ hi1 ≤ f
  n43 : d 4 = true → d 3 = true → f < lo2 ∨ hi2 ≤ f
  n51 : d 5 = true → d 1 = true → g < lo1 ∨ hi1 ≤ g
  n53 : d 5 = true → d 3 = true → g < lo2 ∨ hi2 ≤ g
  n45 : d 4 = true → d 5 = true → f ≠ g
  o6 : d 6 = true → d 1 = true ∧ d 3 = true ∧ d 4 = true ∧ d 5 = true
  o7 : d 7 = true → d 6 = true

section
variable {w : World} {va vb : Value} {K K' : Nat} {q q' : Rat} {d : Nat → Bool} {f g lo1 hi1 lo2 hi2 : Nat} {s5 s6 s7 s8 s9 s10 : Value} {x x' : World}

theorem MI.later (h : MI w va vb K K' q q' d f g lo1 hi1 lo2 hi2 s5 s6 s7 s8 s9 s10 x) (hb : Below x.heap.size x x') : MI w va vb K K' q q' d f g lo1 hi1 lo2 hi2 s5 s6 s7 s8 s9 s10 x' where
  below := h.below.trans (hb.mono h.below.size)
  c0 := h.c0
  c2 := h.c2
  c1 := fun e => ⟨(h.c1 e).1, Nat.le_trans (h.c1 e).2.1 hb.size, (h.c1 e).2.2.keep fun b _ h2 => hb.block b (Nat.lt_of_lt_of_le h2 (h.c1 e).2.1)⟩
  c3 := fun e => ⟨(h.c3 e).1, Nat.le_trans (h.c3 e).2.1 hb.size, (h.c3 e).2.2.keep fun b _ h2 => hb.block b (Nat.lt_of_lt_of_le h2 (h.c3 e).2.1)⟩
  c4 := fun e => ⟨(h.c4 e).1, (h.c4 e).2.1, (h.c4 e).2.2.below hb (h.c4 e).2.2.lt⟩
  c5 := fun e => ⟨(h.c5 e).1, (h.c5 e).2.1, (h.c5 e).2.2.below hb (h.c5 e).2.2.lt⟩
  n41 := h.n41
  n43 := h.n43
  n51 := h.n51
  n53 := h.n53
  n45 := h.n45
  o6 := h.o6
  o7 := h.o7

theorem MI.op0 (h : MI w va vb K K' q q' d f g lo1 hi1 lo2 hi2 s5 s6 s7 s8 s9 s10 x) : MI w va vb K K' q q' (fun j => d j || j == 0) f g lo1 hi1 lo2 hi2 s5 s6 va s8 s9 s10 x where
  below := h.below
  c0 := fun _ => rfl
  c2 := by simpa using h.c2
  c1 := by simpa using h.c1
  c3 := by simpa using h.c3
  c4 := by simpa using h.c4
  c5 := by simpa using h.c5
  n41 := by simpa using h.n41
  n43 := by simpa using h.n43
  n51 := by simpa using h.n51
  n53 := by simpa using h.n53
  n45 := by simpa using h.n45
  o6 := by simpa using h.o6
  o7 := by simpa using h.o7

theorem MI.op2 (h : MI w va vb K K' q q' d f g lo1 hi1 lo2 hi2 s5 s6 s7 s8 s9 s10 x) : MI w va vb K K' q q' (fun j => d j || j == 2) f g lo1 hi1 lo2 hi2 s5 s6 s7 s8 vb s10 x where
  below := h.below
  c0 := by simpa using h.c0
  c2 := fun _ => rfl
  c1 := by simpa using h.c1
  c3 := by simpa using h.c3
  c4 := by simpa using h.c4
  c5 := by simpa using h.c5
  n41 := by simpa using h.n41
  n43 := by simpa using h.n43
  n51 := by simpa using h.n51
  n53 := by simpa using h.n53
  n45 := by simpa using h.n45
  o6 := by simpa using h.o6
  o7 := by simpa using h.o7

theorem MI.op1 (h : MI w va vb K K' q q' d f g lo1 hi1 lo2 hi2 s5 s6 s7 s8 s9 s10 x) (hn : d 1 = false) {v1 : Value} (hl : LoadR x K q v1 x') :
    MI w va vb K K' q q' (fun j => d j || j == 1) f g x.heap.size x'.heap.size lo2 hi2 s5 s6 s7 v1 s9 s10 x' := by
  have h6 : d 6 = false := by
    cases e : d 6 with
    | false => rfl
    | true => have := h.o6 e; rw [hn] at this; simp at this
  obtain ⟨hh, hb⟩ := hl.toH
  have h' := h.later hb
  exact {
    below := h'.below
    c0 := by simpa using h'.c0
    c2 := by simpa using h'.c2
    c1 := fun _ => ⟨h.below.size, Nat.le_refl _, hh⟩
    c3 := by simpa using h'.c3
    c4 := by have := h'.c4; simp only [h6] at this; simpa [h6] using this
    c5 := by simpa using h'.c5
    n41 := fun e _ => .inl (h.c4 (by simpa using e)).2.2.lt
    n43 := by simpa using h'.n43
    n51 := fun e _ => .inl (h.c5 (by simpa using e)).2.2.lt
    n53 := by simpa using h'.n53
    n45 := by simpa using h'.n45
    o6 := by simp [h6]
    o7 := by intro e; have := h.o7 (by simpa using e); rw [h6] at this; cases this }

theorem MI.op3 (h : MI w va vb K K' q q' d f g lo1 hi1 lo2 hi2 s5 s6 s7 s8 s9 s10 x) (hn : d 3 = false) {v1 : Value} (hl : LoadR x K' q' v1 x') :
    MI w va vb K K' q q' (fun j => d j || j == 3) f g lo1 hi1 x.heap.size x'.heap.size s5 s6 s7 s8 s9 v1 x' := by
  have h6 : d 6 = false := by
    cases e : d 6 with
    | false => rfl
    | true => have := h.o6 e; rw [hn] at this; simp at this
  have h7 : d 7 = false := by
    cases e : d 7 with
    | false => rfl
    | true => have := h.o7 e; rw [h6] at this; cases this
  obtain ⟨hh, hb⟩ := hl.toH
  have h' := h.later hb
  exact {
    below := h'.below
    c0 := by simpa using h'.c0
    c2 := by simpa using h'.c2
    c1 := by simpa using h'.c1
    c3 := fun _ => ⟨h.below.size, Nat.le_refl _, hh⟩
    c4 := by simpa using h'.c4
    c5 := by have := h'.c5; simp only [h7] at this; simpa [h7] using this
    n41 := by simpa using h'.n41
    n43 := fun e _ => .inl (h.c4 (by simpa using e)).2.2.lt
    n51 := by simpa using h'.n51
    n53 := fun e _ => .inl (h.c5 (by simpa using e)).2.2.lt
    n45 := by simpa using h'.n45
    o6 := by simp [h6]
    o7 := by intro e; have := h.o7 (by simpa using e); rw [h6] at this; cases this }

theorem MI.op4 (h : MI w va vb K K' q q' d f g lo1 hi1 lo2 hi2 s5 s6 s7 s8 s9 s10 x) (hn : d 4 = false) :
    MI w va vb K K' q q' (fun j => d j || j == 4) x.heap.size g lo1 hi1 lo2 hi2 (.pointer (some ⟨x.heap.size, 0, none⟩)) s6 s7 s8 s9 s10 (x.alloc (.cells zero3 114)) := by
  have h6 : d 6 = false := by
    cases e : d 6 with
    | false => rfl
    | true => have := h.o6 e; rw [hn] at this; simp at this
  have h' := h.later (bel1 x (.cells zero3 114))
  exact {
    below := h'.below
    c0 := by simpa using h'.c0
    c2 := by simpa using h'.c2
    c1 := by simpa using h'.c1
    c3 := by simpa using h'.c3
    c4 := fun _ => ⟨rfl, h.below.size, by simp only [h6]; exact Bk.new _ _ _⟩
    c5 := by simpa using h'.c5
    n41 := fun _ e => .inr (h.c1 (by simpa using e)).2.1
    n43 := fun _ e => .inr (h.c3 (by simpa using e)).2.1
    n51 := by simpa using h'.n51
    n53 := by simpa using h'.n53
    n45 := fun _ e => Nat.ne_of_gt (h.c5 (by simpa using e)).2.2.lt
    o6 := by simp [h6]
    o7 := by intro e; have := h.o7 (by simpa using e); rw [h6] at this; cases this }

theorem MI.op5 (h : MI w va vb K K' q q' d f g lo1 hi1 lo2 hi2 s5 s6 s7 s8 s9 s10 x) (hn : d 5 = false) :
    MI w va vb K K' q q' (fun j => d j || j == 5) f x.heap.size lo1 hi1 lo2 hi2 s5 (.pointer (some ⟨x.heap.size, 0, none⟩)) s7 s8 s9 s10 (x.alloc (.cells zero3 114)) := by
  have h6 : d 6 = false := by
    cases e : d 6 with
    | false => rfl
    | true => have := h.o6 e; rw [hn] at this; simp at this
  have h7 : d 7 = false := by
    cases e : d 7 with
    | false => rfl
    | true => have := h.o7 e; rw [h6] at this; cases this
  have h' := h.later (bel1 x (.cells zero3 114))
  exact {
    below := h'.below
    c0 := by simpa using h'.c0
    c2 := by simpa using h'.c2
    c1 := by simpa using h'.c1
    c3 := by simpa using h'.c3
    c4 := by simpa using h'.c4
    c5 := fun _ => ⟨rfl, h.below.size, by simp only [h7]; exact Bk.new _ _ _⟩
    n41 := by simpa using h'.n41
    n43 := by simpa using h'.n43
    n51 := fun _ e => .inr (h.c1 (by simpa using e)).2.1
    n53 := fun _ e => .inr (h.c3 (by simpa using e)).2.1
    n45 := fun e _ => Nat.ne_of_lt (h.c4 (by simpa using e)).2.2.lt
    o6 := by simp [h6]
    o7 := by intro e; have := h.o7 (by simpa using e); rw [h6] at this; cases this }

theorem heap_set3 (x : World) (b' : Nat) (p y z : Value) (k : Nat) (hk : k ≠ b') : (((x.setCell ⟨b', 0, none⟩ p).setCell ⟨b', 1, none⟩ y).setCell ⟨b', 2, none⟩ z).heap[k]? = x.heap[k]? := by
  rw [Below.heap_setCell _ _ _ _ hk, Below.heap_setCell _ _ _ _ hk, Below.heap_setCell _ _ _ _ hk]
theorem size_set3 (x : World) (b' : Nat) (p y z : Value) : (((x.setCell ⟨b', 0, none⟩ p).setCell ⟨b', 1, none⟩ y).setCell ⟨b', 2, none⟩ z).heap.size = x.heap.size := by simp [World.setCell]

theorem MI.op6 (h : MI w va vb K K' q q' d f g lo1 hi1 lo2 hi2 s5 s6 s7 s8 s9 s10 x) (h4 : d 4 = true) (h5 : d 5 = true) (h1 : d 1 = true) (h3 : d 3 = true) (h6 : d 6 = false) {p y z : Value} (hs : s8 = .agg #[p, y, z]) :
    MI w va vb K K' q q' (fun j => d j || j == 6) f g lo1 hi1 lo2 hi2 s5 s6 s7 s8 s9 s10 (((x.setCell ⟨f, 0, none⟩ p).setCell ⟨f, 1, none⟩ y).setCell ⟨f, 2, none⟩ z) := by
  obtain ⟨e1, e2, e3⟩ := h.c4 h4
  obtain ⟨g1, g2, g3⟩ := h.c5 h5
  exact {
    below := below_set3 h.below (by omega) p y z
    c0 := by simpa using h.c0
    c2 := by simpa using h.c2
    c1 := fun _ => ⟨(h.c1 h1).1, by rw [size_set3]; exact (h.c1 h1).2.1, (h.c1 h1).2.2.keep fun b hb1 hb2 => heap_set3 x f p y z b (by have := h.n41 h4 h1; omega)⟩
    c3 := fun _ => ⟨(h.c3 h3).1, by rw [size_set3]; exact (h.c3 h3).2.1, (h.c3 h3).2.2.keep fun b hb1 hb2 => heap_set3 x f p y z b (by have := h.n43 h4 h3; omega)⟩
    c4 := fun _ => ⟨e1, e2, by
      rw [h6] at e3
      simp only [Bool.or_eq_true, beq_self_eq_true, or_true, if_true, hs]
      exact ((Bk.set e3 0 p).set 1 y).set 2 z⟩
    c5 := fun _ => ⟨g1, g2, (heap_set3 x f p y z g (fun e => h.n45 h4 h5 e.symm)).trans (by simpa [Bk] using g3)⟩
    n41 := by simpa using h.n41
    n43 := by simpa using h.n43
    n51 := by simpa using h.n51
    n53 := by simpa using h.n53
    n45 := by simpa using h.n45
    o6 := fun _ => by simp [h1, h3, h4, h5]
    o7 := fun _ => by simp }

theorem MI.op7 (h : MI w va vb K K' q q' d f g lo1 hi1 lo2 hi2 s5 s6 s7 s8 s9 s10 x) (h4 : d 4 = true) (h5 : d 5 = true) (h1 : d 1 = true) (h3 : d 3 = true) (h6 : d 6 = true) (h7 : d 7 = false) {p y z : Value} (hs : s10 = .agg #[p, y, z]) :
    MI w va vb K K' q q' (fun j => d j || j == 7) f g lo1 hi1 lo2 hi2 s5 s6 s7 s8 s9 s10 (((x.setCell ⟨g, 0, none⟩ p).setCell ⟨g, 1, none⟩ y).setCell ⟨g, 2, none⟩ z) := by
  obtain ⟨e1, e2, e3⟩ := h.c4 h4
  obtain ⟨g1, g2, g3⟩ := h.c5 h5
  exact {
    below := below_set3 h.below (by omega) p y z
    c0 := by simpa using h.c0
    c2 := by simpa using h.c2
    c1 := fun _ => ⟨(h.c1 h1).1, by rw [size_set3]; exact (h.c1 h1).2.1, (h.c1 h1).2.2.keep fun b hb1 hb2 => heap_set3 x g p y z b (by have := h.n51 h5 h1; omega)⟩
    c3 := fun _ => ⟨(h.c3 h3).1, by rw [size_set3]; exact (h.c3 h3).2.1, (h.c3 h3).2.2.keep fun b hb1 hb2 => heap_set3 x g p y z b (by have := h.n53 h5 h3; omega)⟩
    c4 := fun _ => ⟨e1, e2, (heap_set3 x g p y z f (h.n45 h4 h5)).trans (by simpa [Bk] using e3)⟩
    c5 := fun _ => ⟨g1, g2, by
      rw [h7] at g3
      simp only [Bool.or_eq_true, beq_self_eq_true, or_true, if_true, hs]
      exact ((Bk.set g3 0 p).set 1 y).set 2 z⟩
    n41 := by simpa using h.n41
    n43 := by simpa using h.n43
    n51 := by simpa using h.n51
    n53 := by simpa using h.n53
    n45 := by simpa using h.n45
    o6 := fun _ => by simp [h1, h3, h4, h5]
    o7 := fun _ => by simp [h6] }
end

end Go.Proofs.YtgheaoaicbkaoaaGreatDoor

/-
  The walks of rational's Mul and Cmp.
-/
namespace Go.Proofs.YtgheaoaicbkaoaaGreatDoor
open Go.RowKit AC
set_option linter.unusedVariables false
set_option linter.unusedSimpArgs false

/-- Behind the two loads. -/
def MCut (w : World) (K K' : Nat) (q q' : Rat) (x y : Value) (wx : World) : Prop :=
  ∃ f g n1s n1 d1 n2s n2 d2 A1 c1 B1 e1 A2 c2 B2 e2, x = .pointer (some ⟨f, 0, none⟩) ∧ y = .pointer (some ⟨g, 0, none⟩) ∧ w.heap.size ≤ f ∧ w.heap.size ≤ g ∧
    Bk wx f 114 #[.bool n1s, .slice A1 (dl n1) c1, .slice B1 (dl d1) e1] ∧ Bk wx g 114 #[.bool n2s, .slice A2 (dl n2) c2, .slice B2 (dl d2) e2] ∧
    NatR wx w.heap.size (.slice A1 (dl n1) c1) n1 ∧ NatR wx w.heap.size (.slice B1 (dl d1) e1) d1 ∧ NatR wx w.heap.size (.slice A2 (dl n2) c2) n2 ∧ NatR wx w.heap.size (.slice B2 (dl d2) e2) d2 ∧
    d1 ≠ 0 ∧ d2 ≠ 0 ∧ dl n1 ≤ K + 1 ∧ dl d1 ≤ K + 1 ∧ dl n2 ≤ K' + 1 ∧ dl d2 ≤ K' + 1 ∧ q = mkRat (sg n1s n1) d1 ∧ q' = mkRat (sg n2s n2) d2 ∧ Below w.heap.size w wx

theorem MI.done {w : World} {va vb : Value} {K K' : Nat} {q q' : Rat} {d : Nat → Bool} {f g lo1 hi1 lo2 hi2 : Nat} {s5 s6 s7 s8 s9 s10 : Value} {x : World}
    (h : MI w va vb K K' q q' d f g lo1 hi1 lo2 hi2 s5 s6 s7 s8 s9 s10 x) (hd : ∀ i, i < 8 → d i = true) : MCut w K K' q q' s5 s6 x := by
  obtain ⟨h11, h12, n1s, n1, d1, A1, c1, B1, e1, rfl, h13, h14, h15, h16, h17, h18⟩ := h.c1 (hd 1 (by omega))
  obtain ⟨h31, h32, n2s, n2, d2, A2, c2, B2, e2, rfl, h33, h34, h35, h36, h37, h38⟩ := h.c3 (hd 3 (by omega))
  obtain ⟨h41, h42, h43⟩ := h.c4 (hd 4 (by omega))
  obtain ⟨h51, h52, h53⟩ := h.c5 (hd 5 (by omega))
  rw [hd 6 (by omega)] at h43
  rw [hd 7 (by omega)] at h53
  exact ⟨f, g, n1s, n1, d1, n2s, n2, d2, A1, c1, B1, e1, A2, c2, B2, e2, h41, h51, h42, h52, h43, h53, (h13.limbs h12).lower h11, (h14.limbs h12).lower h11, (h33.limbs h32).lower h31, (h34.limbs h32).lower h31,
    h15, h35, h16, h17, h36, h37, h18, h38, h.below⟩

theorem sg_mul (s1 s2 : Bool) (n1 n2 : Nat) : sg (s1 != s2) (n1 * n2) = sg s1 n1 * sg s2 n2 := by
  cases s1 <;> cases s2 <;> simp [sg, Int.neg_mul, Int.mul_neg]

set_option maxHeartbeats 8000000 in
theorem mul_any' (w : World) (lo lo' : Nat) (v v' : Value) (K K' : Nat) (q q' : Rat) (hv : RatV w lo v K q) (hv' : RatV w lo' v' K' q') (hK : K + K' ≤ 4000000000) :
    Calls Tryz.prog 209 #[v, v'] w (RetQ w (q * q')) := by
  have HV := Lib.hid hv
  have HV' := Lib.hid hv'
  obtain ⟨s, A, k, c, A', k', c', rfl⟩ := hv.form
  obtain ⟨s2, A2, k2, c2, A3, k3, c3, rfl⟩ := hv'.form
  clear hv hv'
  go_enter Tryz.func209, Tryz.ntmps209
  go_upto_region 1 with (fail)
  obtain ⟨W, hW⟩ : ∃ W, W = ((w.alloc (.cells #[.bool s, .slice A k c, .slice A' k' c'] 27)).alloc (.cells #[.bool s2, .slice A2 k2 c2, .slice A3 k3 c3] 27)).alloc (.cells #[.bool false, .slice none 0 0, .slice none 0 0] 27) := ⟨_, rfl⟩
  have hbW : Below w.heap.size w W := by rw [hW]; exact bel3 _ _ _ _
  have hFW : Bk W w.heap.size 27 #[.bool s, .slice A k c, .slice A' k' c'] := by rw [hW]; exact ((Bk.new _ _ _).alloc _).alloc _
  have hGW : Bk W (w.heap.size + 1) 27 #[.bool s2, .slice A2 k2 c2, .slice A3 k3 c3] := by rw [hW]; have := (Bk.new (w.alloc (.cells #[.bool s, .slice A k c, .slice A' k' c'] 27)) 27 #[.bool s2, .slice A2 k2 c2, .slice A3 k3 c3]).alloc (.cells #[.bool false, .slice none 0 0, .slice none 0 0] 27); simpa using this
  have hRW : Bk W (w.heap.size + 1 + 1) 27 zero3 := by rw [hW]; have := Bk.new ((w.alloc (.cells #[.bool s, .slice A k c, .slice A' k' c'] 27)).alloc (.cells #[.bool s2, .slice A2 k2 c2, .slice A3 k3 c3] 27)) 27 zero3; simpa [zero3] using this
  rw [← hW]
  clear hW
  go_cut [5, 6] (fun x y wx => MCut W K K' q q' x y wx)
  case first =>
    refine wp_region_inv (by kernel_rfl) (lowOk_spec (by kernel_rfl)) (fun d a x => ∃ f g lo1 hi1 lo2 hi2 s5 s6 s7 s8 s9 s10, a = ⟨#[.agg #[.bool s, .slice A k c, .slice A' k' c'], .agg #[.bool s2, .slice A2 k2 c2, .slice A3 k3 c3], .pointer (some ⟨w.heap.size, 0, none⟩), .pointer (some ⟨w.heap.size + 1, 0, none⟩), .pointer (some ⟨w.heap.size + 1 + 1, 0, none⟩), s5, s6, s7, s8, s9, s10, undef, undef, undef, undef, undef, undef, undef, undef, undef, undef, undef, undef, undef, undef, undef, undef, undef], []⟩ ∧ MI W (.agg #[.bool s, .slice A k c, .slice A' k' c']) (.agg #[.bool s2, .slice A2 k2 c2, .slice A3 k3 c3]) K K' q q' d f g lo1 hi1 lo2 hi2 s5 s6 s7 s8 s9 s10 x) ?_ ?_ ?_
    · refine ⟨0, 0, 0, 0, 0, 0, _, _, _, _, _, _, rfl, ?_⟩
      exact { below := (Below.refl _ _).drew, c0 := by simp, c2 := by simp, c1 := by simp, c3 := by simp, c4 := by simp, c5 := by simp, n41 := by simp, n43 := by simp, n51 := by simp, n53 := by simp, n45 := by simp, o6 := by simp, o7 := by simp }
    · intro d i o a1 x ho hdi hed hI
      obtain ⟨f, g, lo1, hi1, lo2, hi2, s5, s6, s7, s8, s9, s10, rfl, hM⟩ := hI
      have hi : i < 8 := (Array.getElem?_eq_some_iff.1 ho).1
      have hcases : i = 0 ∨ i = 1 ∨ i = 2 ∨ i = 3 ∨ i = 4 ∨ i = 5 ∨ i = 6 ∨ i = 7 := by omega
      have hbx : Below w.heap.size w x := hbW.trans (hM.below.mono hbW.size)
      rcases hcases with rfl | rfl | rfl | rfl | rfl | rfl | rfl | rfl
      · cases ho
        obtain ⟨hcF, hfF, hzF⟩ := (hFW.below hM.below hFW.lt).facts
        have HM := Lib.hid hM
        clear hM hed hi hdi
        refine wpOp_plain rfl rfl fun KK hKK => ?_
        have HK := Lib.hid hKK
        clear hKK
        go_wp2
        exact HK.out _ _ ⟨f, g, lo1, hi1, lo2, hi2, s5, s6, _, s8, s9, s10, rfl, HM.out.op0⟩
      · cases ho
        have e0 := hM.c0 (hed ⟨0, .data⟩ (by simp) rfl)
        have HM := Lib.hid (hM.op1 hdi (x' := x) (v1 := undef))
        have HMM := Lib.hid hM
        subst e0
        have hdd := Lib.hid hdi
        clear hM hed hi hdi HM
        refine wpOp_plain rfl rfl fun KK hKK => ?_
        have HK := Lib.hid hKK
        clear hKK
        go_wp2_with fail
        refine (load_any _ lo _ K q (HV.out.below hbx) (by omega)).mono ?_
        rintro e x' ⟨v1, rfl, hl⟩
        exact HK.out _ _ ⟨f, g, _, _, lo2, hi2, s5, s6, _, v1, s9, s10, rfl, HMM.out.op1 hdd.out hl⟩
      · cases ho
        obtain ⟨hcG, hfG, hzG⟩ := (hGW.below hM.below hGW.lt).facts
        have HM := Lib.hid hM
        clear hM hed hi hdi
        refine wpOp_plain rfl rfl fun KK hKK => ?_
        have HK := Lib.hid hKK
        clear hKK
        go_wp2
        exact HK.out _ _ ⟨f, g, lo1, hi1, lo2, hi2, s5, s6, s7, s8, _, s10, rfl, HM.out.op2⟩
      · cases ho
        have e0 := hM.c2 (hed ⟨2, .data⟩ (by simp) rfl)
        have HMM := Lib.hid hM
        subst e0
        have hdd := Lib.hid hdi
        clear hM hed hi hdi
        refine wpOp_plain rfl rfl fun KK hKK => ?_
        have HK := Lib.hid hKK
        clear hKK
        go_wp2_with fail
        refine (load_any _ lo' _ K' q' (HV'.out.below hbx) (by omega)).mono ?_
        rintro e x' ⟨v1, rfl, hl⟩
        exact HK.out _ _ ⟨f, g, lo1, hi1, _, _, s5, s6, s7, s8, _, v1, rfl, HMM.out.op3 hdd.out hl⟩
      · cases ho
        have HM := Lib.hid (hM.op4 hdi)
        clear hM hed hi hdi
        refine wpOp_plain rfl rfl fun KK hKK => ?_
        have HK := Lib.hid hKK
        clear hKK
        go_wp2
        exact HK.out _ _ ⟨_, g, lo1, hi1, lo2, hi2, _, s6, s7, s8, s9, s10, rfl, HM.out⟩
      · cases ho
        have HM := Lib.hid (hM.op5 hdi)
        clear hM hed hi hdi
        refine wpOp_plain rfl rfl fun KK hKK => ?_
        have HK := Lib.hid hKK
        clear hKK
        go_wp2
        exact HK.out _ _ ⟨f, _, lo1, hi1, lo2, hi2, s5, _, s7, s8, s9, s10, rfl, HM.out⟩
      · cases ho
        have h4 := hed ⟨4, .data⟩ (by simp) rfl
        have h1 := hed ⟨1, .data⟩ (by simp) rfl
        have h3 := hed ⟨3, .chain⟩ (by simp) rfl
        have h5 := hed ⟨5, .phase⟩ (by simp) rfl
        obtain ⟨_, _, n1s, n1, d1, A1, cc1, B1, ee1, rfl, _⟩ := hM.c1 h1
        have HM := Lib.hid (hM.op6 h4 h5 h1 h3 hdi rfl)
        obtain ⟨rfl, hz4, hB4⟩ := hM.c4 h4
        rw [hdi] at hB4
        obtain ⟨hcf, hff, hzf⟩ := hB4.facts
        simp only [zero3] at hcf
        clear hM hed hi hdi h4 h1 h3 h5 hB4
        refine wpOp_plain rfl rfl fun KK hKK => ?_
        have HK := Lib.hid hKK
        clear hKK
        go_wp2
        exact HK.out _ _ ⟨f, g, lo1, hi1, lo2, hi2, _, s6, s7, _, s9, s10, rfl, HM.out⟩
      · cases ho
        have h6 := hed ⟨6, .chain⟩ (by simp) rfl
        obtain ⟨h1, h3, h4, h5⟩ := hM.o6 h6
        obtain ⟨_, _, n1s, n1, d1, A1, cc1, B1, ee1, rfl, _⟩ := hM.c3 h3
        have HM := Lib.hid (hM.op7 h4 h5 h1 h3 h6 hdi rfl)
        obtain ⟨rfl, hz4, hB4⟩ := hM.c5 h5
        rw [hdi] at hB4
        obtain ⟨hcf, hff, hzf⟩ := hB4.facts
        simp only [zero3] at hcf
        clear hM hed hi hdi h4 h1 h3 h5 h6 hB4
        refine wpOp_plain rfl rfl fun KK hKK => ?_
        have HK := Lib.hid hKK
        clear hKK
        go_wp2
        exact HK.out _ _ ⟨f, g, lo1, hi1, lo2, hi2, s5, _, s7, s8, s9, _, rfl, HM.out⟩
    · rintro d a1 x hd ⟨f, g, lo1, hi1, lo2, hi2, s5, s6, s7, s8, s9, s10, rfl, hM⟩
      have HM := Lib.hid (hM.done hd)
      clear hM hd
      go_wp2_with fail
      go_meet
      exact HM.out
  case rest =>
    obtain ⟨f, g, n1s, n1, d1, n2s, n2, d2, Aa, ca, Ba, ea, Ab, cb, Bb, eb, rfl, rfl, hWf, hWg, hBf, hBg, hn1, hd1, hn2, hd2, hz1, hz2, hk1, hk1', hk2, hk2', hq1, hq2, hbx⟩ := hcut
    have hfR := hRW.lt
    have hFX := Lib.hid hBf
    have hGX := Lib.hid hBg
    have hRX := Lib.hid (hRW.below hbx hRW.lt)
    obtain ⟨hcf, hff, hzf⟩ := hBf.facts
    obtain ⟨hcg, hfg, hzg⟩ := hBg.facts
    have HN1 := Lib.hid hn1
    have HD1 := Lib.hid hd1
    have HN2 := Lib.hid hn2
    have HD2 := Lib.hid hd2
    have HQ1 := Lib.hid hq1
    have HQ2 := Lib.hid hq2
    have hbw := hbW.trans (hbx.mono hbW.size)
    have hws := hbW.size
    have hwx := hbx.size
    clear hBf hBg hn1 hd1 hn2 hd2 hq1 hq2 hFW hGW hRW
    go_wp2_with fail
    go_region_held3 (fun w' => w'.cell? ⟨f, 0, none⟩ = some (.bool n1s) ∧ w'.cell? ⟨f, 1, none⟩ = some (.slice Aa (dl n1) ca) ∧ w'.cell? ⟨f, 2, none⟩ = some (.slice Ba (dl d1) ea) ∧ w'.cell? ⟨g, 0, none⟩ = some (.bool n2s) ∧ w'.cell? ⟨g, 1, none⟩ = some (.slice Ab (dl n2) cb) ∧ w'.cell? ⟨g, 2, none⟩ = some (.slice Bb (dl d2) eb)) (and_intros <;> (first | go_keep | (refine (cell_set3 _ (by omega) _ _ _ _).trans ?_; simp [*])))
      (first
        | (go_at_call_of 28 (Value.slice Aa (dl n1) ca); refine (multiply_any _ W.heap.size W.heap.size _ _ n1 n2 (by exact HN1.out.drew) (by exact HN2.out.drew) (by omega) (by omega)).mono ?_; rintro e w1 ⟨va, rfl, hna, hb1⟩; have hF1 := (hFX.out.drew.below hb1 hzf); have hG1 := (hGX.out.drew.below hb1 hzg); have hR1 := (hRX.out.drew.below hb1 hRX.out.lt); obtain ⟨hcf1, hff1, hzf1⟩ := hF1.facts; obtain ⟨hcg1, hfg1, hzg1⟩ := hG1.facts; have hzR1 := hR1.lt; have HA1 := Lib.hid hna; obtain ⟨Ap, cp, rfl⟩ := Limbs.len hna; have hbw1 := hbw.drew.trans (hb1.mono (by simp; omega)); have hzz1 := hb1.size; clear hna)
        | (go_at_call_of 28 (Value.slice Ba (dl d1) ea); refine (multiply_any _ W.heap.size W.heap.size _ _ d1 d2 (by exact HD1.out.drew.below hb1) (by exact HD2.out.drew.below hb1) (by omega) (by omega)).mono ?_; rintro e w2 ⟨vb, rfl, hnb, hb2⟩; have hF2 := (hF1.below hb2 hzf1); have hG2 := (hG1.below hb2 hzg1); have hR2 := (hR1.below hb2 hzR1); obtain ⟨hcf2, hff2, hzf2⟩ := hF2.facts; obtain ⟨hcg2, hfg2, hzg2⟩ := hG2.facts; have hzR2 := hR2.lt; have HB2 := Lib.hid hnb; have HA2 := Lib.hid (HA1.out.below hb2); obtain ⟨Bp, ep, rfl⟩ := Limbs.len hnb; have hbw2 := hbw1.trans (hb2.mono hbw1.size); have hzz2 := hb2.size; clear hnb)
        | (go_at_call 30; refine (store_any _ W.heap.size _ (n1s != n2s) (n1 * n2) (d1 * d2) (by simp at hzz1; omega) (by exact ⟨_, _, rfl, HA2.out.lower (by simp; omega), HB2.out.lower (by simp at hzz1; omega)⟩) (by exact Nat.mul_ne_zero hz1 hz2) (by have := dl_mul_le n1 n2; omega) (by have := dl_mul_le d1 d2; omega)).mono ?_; rintro e w4 ⟨v4, rfl, hr4, hb4⟩; have hbw4 := hbw2.trans (hb4.mono hbw2.size); obtain ⟨hcF4, hfF4, hzF4⟩ := (hF2.below hb4 hzf2).facts; obtain ⟨hcG4, hfG4, hzG4⟩ := (hG2.below hb4 hzg2).facts; obtain ⟨hcR4, hfR4, hzR4⟩ := (hR2.below hb4 hzR2).facts; have hqq : Hid (mkRat (sg (n1s != n2s) (n1 * n2)) (d1 * d2) = q * q') := (by show _ = _; rw [HQ1.out, HQ2.out, Rat.mkRat_mul_mkRat, sg_mul]); rw [hqq.out] at hr4; obtain ⟨q3, hq3⟩ : ∃ q3, Hid (q3 = q * q') := ⟨_, rfl⟩; rw [← hq3.out] at hr4; have HR4 := Lib.hid hr4; obtain ⟨A4, c4, A5, c5, rfl, _, _⟩ := FracR.form hr4; simp only [zero3] at hcR4; clear hr4))
    go_wp2
    exact bodyPost_ret (v := .agg #[.bool (decide (q3.num < 0)), .slice A4 (dl q3.num.natAbs) c4, .slice A5 (dl q3.den) c5]) (by simp [results, Tryz.results209, go_sem, hcR4]) rfl
      ⟨_, rfl, by rw [← hq3.out]; exact RatR.lower (rat_set3 HR4.out (by omega) _ _ _) (by omega), below_set3 hbw4 (by omega) _ _ _⟩

end Go.Proofs.YtgheaoaicbkaoaaGreatDoor

