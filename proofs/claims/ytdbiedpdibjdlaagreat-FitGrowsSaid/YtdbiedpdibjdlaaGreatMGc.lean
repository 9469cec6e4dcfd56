/-
  Trees in memory.
-/
import Derived.Test.YtdbiedpdibjdlaaGreatMNum
import Derived.Test.YtdbiedpdibjdlaaGreatMWalkA
import Derived.LoopTactic
import Derived.Shelf.Abstract
import Derived.Laws.EntriesVeiled
import Derived.ChangeAlike
import Derived.RegionTactic
import Derived.Outline
import Derived.BigRegion
import Derived.Deep.Cut
import Derived.Handy
import Derived.Deep.AppendLies
namespace Go.Proofs.YtdbiedpdibjdlaaGreat
open Go.RowKit AC
set_option linter.unusedVariables false
set_option linter.unusedSimpArgs false

/-- From w to w' the call has made new blocks, and written to blocks of S alone. -/
structure Fw (S : Nat → Prop) (w w' : World) : Prop where
  os : w'.os = w.os
  tape : w'.tape = w.tape
  output : w'.output = w.output
  size : w.heap.size ≤ w'.heap.size
  block : ∀ k, k < w.heap.size → ¬ S k → w'.heap[k]? = w.heap[k]?
section
variable {S S' : Nat → Prop} {a b c w w' : World}
theorem Fw.refl (S : Nat → Prop) (w : World) : Fw S w w := ⟨rfl, rfl, rfl, Nat.le_refl _, fun _ _ _ => rfl⟩
theorem Fw.then (h : Fw S a b) (k : Fw S' b c) (hS : ∀ x, S' x → S x ∨ a.heap.size ≤ x) : Fw S a c :=
  ⟨k.os.trans h.os, k.tape.trans h.tape, k.output.trans h.output, Nat.le_trans h.size k.size, fun i hi hn =>
    (k.block i (Nat.lt_of_lt_of_le hi h.size) (fun e => by rcases hS i e with h1 | h1; exact hn h1; omega)).trans (h.block i hi hn)⟩
theorem Fw.trans (h : Fw S a b) (k : Fw S b c) : Fw S a c := h.then k fun _ h => .inl h
theorem Fw.alloc (h : Fw S a b) (o : Obj) : Fw S a (b.alloc o) :=
  h.then (S' := fun _ => False) ⟨rfl, rfl, rfl, by simp, fun k hk _ => Below.heap_alloc _ _ _ hk⟩ (fun _ h => h.elim)
theorem Fw.setCell (h : Fw S a b) {p : Addr} (hp : S p.block ∨ a.heap.size ≤ p.block) (u : Value) : Fw S a (b.setCell p u) :=
  h.then (S' := fun x => x = p.block) ⟨rfl, rfl, rfl, by simp [World.setCell], fun k _ hk => Below.heap_setCell _ _ _ _ hk⟩ (fun x hx => by rw [hx]; exact hp)
theorem Fw.below (h : Fw S a b) (k : Below b.heap.size b c) : Fw S a c :=
  h.then (S' := fun _ => False) ⟨k.os, k.tape, k.output, k.size, fun i hi _ => k.block i hi⟩ (fun _ h => h.elim)
theorem Fw.toBelow (h : Fw S a b) {n : Nat} (hS : ∀ x, S x → n ≤ x) (hn : n ≤ a.heap.size) : Below n a b :=
  ⟨h.os, h.tape, h.output, h.size, fun i hi => h.block i (by omega) fun e => by have := hS i e; omega⟩
theorem Bk.fw {i : Nat} {t : TypeId} {cs : Array Value} (h : Bk w i t cs) (f : Fw S w w') (hi : ¬ S i) : Bk w' i t cs := (f.block i h.lt hi).trans h
end

theorem bk_two (w : World) (t : TypeId) (cs : Array Value) (x : Obj) : Bk ((w.alloc x).alloc (.cells cs t)) (w.heap.size + 1) t cs := by
  have := Bk.new (w.alloc x) t cs
  simpa using this
def rng (n : Int) : Prop := -9223372036854775808 ≤ n ∧ n ≤ 9223372036854775807
/-- The cells of a block from a place on. -/
def CellsA (w : World) (b off : Nat) (u : List Value) : Prop := ∀ (j : Nat) (x : Value), u[j]? = some x → w.cell? ⟨b, off + j, none⟩ = some x
mutual
/-- A tree's cells: kind, number, the slice of what is below, in blocks of D. -/
def TrR (w : World) (D : Nat → Prop) : Tr → List Value → Prop
  | .n k m l, v => rng k ∧ rng m ∧ ∃ (A : Option Addr) (len cap : Nat), v = [.int .i64 k, .int .i64 m, .slice A len cap] ∧ len = l.length ∧ len ≤ cap ∧ cap ≤ maxLen ∧
      (0 < len → ∃ b off, A = some ⟨b, off, none⟩ ∧ D b ∧ b < w.heap.size ∧ TrL w D b l off)
def TrL (w : World) (D : Nat → Prop) (b : Nat) : List Tr → Nat → Prop
  | [], _ => True
  | t :: l, off => (∃ v, CellsA w b off v ∧ TrR w D t v) ∧ TrL w D b l (off + 3)
end
/-- A slice of trees. -/
def TrS (w : World) (D : Nat → Prop) (l : List Tr) (A : Option Addr) (len cap : Nat) : Prop :=
  len = l.length ∧ len ≤ cap ∧ cap ≤ maxLen ∧ (0 < len → ∃ b off, A = some ⟨b, off, none⟩ ∧ D b ∧ b < w.heap.size ∧ TrL w D b l off)
theorem TrR.form {w : World} {D : Nat → Prop} {t : Tr} {v : List Value} (h : TrR w D t v) : ∃ A len cap, v = [.int .i64 t.k, .int .i64 t.m, .slice A len cap] ∧ TrS w D t.kids A len cap ∧ rng t.k ∧ rng t.m := by
  cases t with
  | n k m l =>
    rw [TrR] at h
    obtain ⟨h1, h2, A, len, cap, rfl, h3⟩ := h
    exact ⟨A, len, cap, rfl, h3, h1, h2⟩
theorem TrL.get {w : World} {D : Nat → Prop} {b : Nat} : ∀ {l : List Tr} {off i : Nat} (hi : i < l.length), TrL w D b l off → ∃ v, CellsA w b (off + i * 3) v ∧ TrR w D l[i] v
  | t :: l, off, 0, hi, h => by
    rw [TrL] at h
    simpa using h.1
  | t :: l, off, i + 1, hi, h => by
    rw [TrL] at h
    obtain ⟨v, h1, h2⟩ := TrL.get (l := l) (off := off + 3) (i := i) (by simpa using hi) h.2
    exact ⟨v, by rw [show off + (i + 1) * 3 = off + 3 + i * 3 from by omega]; exact h1, by simpa using h2⟩
/-- Element i of a slice of trees: its three cells. -/
theorem TrS.get {w : World} {D : Nat → Prop} {l : List Tr} {A : Option Addr} {len cap i : Nat} (h : TrS w D l A len cap) (hi : i < l.length) :
    ∃ b off A' len' cap', A = some ⟨b, off, none⟩ ∧ b < w.heap.size ∧ w.cell? ⟨b, off + i * 3, none⟩ = some (.int .i64 l[i].k) ∧ w.cell? ⟨b, off + i * 3 + 1, none⟩ = some (.int .i64 l[i].m) ∧ w.cell? ⟨b, off + i * 3 + 2, none⟩ = some (.slice A' len' cap') ∧
      TrR w D l[i] [.int .i64 l[i].k, .int .i64 l[i].m, .slice A' len' cap'] := by
  obtain ⟨hlen, _, _, h4⟩ := h
  obtain ⟨b, off, rfl, hD, hb, hL⟩ := h4 (by omega)
  obtain ⟨v, hc, hr⟩ := hL.get hi
  obtain ⟨A', len', cap', rfl, _⟩ := hr.form
  exact ⟨b, off, A', len', cap', rfl, hb, hc 0 _ rfl, hc 1 _ rfl, hc 2 _ rfl, hr⟩
/-- What leaves the blocks of D as they were leaves the tree. -/
def Keeps (D : Nat → Prop) (w w' : World) : Prop := w.heap.size ≤ w'.heap.size ∧ ∀ b, b < w.heap.size → D b → w'.heap[b]? = w.heap[b]?
mutual
theorem TrR.keep {w w' : World} {D : Nat → Prop} (hk : Keeps D w w') : ∀ {t : Tr} {v : List Value}, TrR w D t v → TrR w' D t v
  | .n k m l, v, h => by
    rw [TrR] at h ⊢
    obtain ⟨h1, h2, A, len, cap, h3, h4, h5, h6, h7⟩ := h
    refine ⟨h1, h2, A, len, cap, h3, h4, h5, h6, fun hp => ?_⟩
    obtain ⟨b, off, hA, hD, hb, hL⟩ := h7 hp
    exact ⟨b, off, hA, hD, Nat.lt_of_lt_of_le hb hk.1, TrL.keep hk hb hD hL⟩
theorem TrL.keep {w w' : World} {D : Nat → Prop} (hk : Keeps D w w') {b : Nat} (hb : b < w.heap.size) (hD : D b) : ∀ {l : List Tr} {off : Nat}, TrL w D b l off → TrL w' D b l off
  | [], _, _ => by rw [TrL]; trivial
  | t :: l, off, h => by
    rw [TrL] at h ⊢
    obtain ⟨⟨v, h1, h2⟩, h3⟩ := h
    exact ⟨⟨v, fun j x hx => (World.cell?_of_block (w := w) (hk.2 b hb hD)).trans (h1 j x hx), TrR.keep hk h2⟩, TrL.keep hk hb hD h3⟩
end
theorem TrS.keep {w w' : World} {D : Nat → Prop} (hk : Keeps D w w') {l : List Tr} {A : Option Addr} {len cap : Nat} (h : TrS w D l A len cap) : TrS w' D l A len cap := by
  obtain ⟨h1, h2, h3, h4⟩ := h
  refine ⟨h1, h2, h3, fun hp => ?_⟩
  obtain ⟨b, off, hA, hD, hb, hL⟩ := h4 hp
  exact ⟨b, off, hA, hD, Nat.lt_of_lt_of_le hb hk.1, TrL.keep hk hb hD hL⟩
mutual
theorem TrR.sub {w : World} {D D' : Nat → Prop} (hd : ∀ b, b < w.heap.size → D b → D' b) : ∀ {t : Tr} {v : List Value}, TrR w D t v → TrR w D' t v
  | .n k m l, v, h => by
    rw [TrR] at h ⊢
    obtain ⟨h1, h2, A, len, cap, h3, h4, h5, h6, h7⟩ := h
    refine ⟨h1, h2, A, len, cap, h3, h4, h5, h6, fun hp => ?_⟩
    obtain ⟨b, off, hA, hD, hb, hL⟩ := h7 hp
    exact ⟨b, off, hA, hd b hb hD, hb, TrL.sub hd hL⟩
theorem TrL.sub {w : World} {D D' : Nat → Prop} (hd : ∀ b, b < w.heap.size → D b → D' b) {b : Nat} : ∀ {l : List Tr} {off : Nat}, TrL w D b l off → TrL w D' b l off
  | [], _, _ => by rw [TrL]; trivial
  | t :: l, off, h => by
    rw [TrL] at h ⊢
    obtain ⟨⟨v, h1, h2⟩, h3⟩ := h
    exact ⟨⟨v, h1, TrR.sub hd h2⟩, TrL.sub hd h3⟩
end
theorem TrS.sub {w : World} {D D' : Nat → Prop} (hd : ∀ b, b < w.heap.size → D b → D' b) {l : List Tr} {A : Option Addr} {len cap : Nat} (h : TrS w D l A len cap) : TrS w D' l A len cap := by
  obtain ⟨h1, h2, h3, h4⟩ := h
  refine ⟨h1, h2, h3, fun hp => ?_⟩
  obtain ⟨b, off, hA, hD, hb, hL⟩ := h4 hp
  exact ⟨b, off, hA, hd b hb hD, hb, TrL.sub hd hL⟩
/-- One element as a slice of its own. -/
theorem TrS.one {w : World} {D : Nat → Prop} {l : List Tr} {b off len cap i : Nat} (h : TrS w D l (some ⟨b, off, none⟩) len cap) (hi : i < l.length) : TrS w D [l[i]] (some ⟨b, off + i * 3, none⟩) 1 (cap - i) := by
  obtain ⟨h1, h2, h3, h4⟩ := h
  obtain ⟨b', off', hA, hD, hb, hL⟩ := h4 (by omega)
  injection hA with hA
  injection hA with e1 e2
  subst e1; subst e2
  obtain ⟨v, hc, hr⟩ := hL.get hi
  refine ⟨rfl, by omega, by omega, fun _ => ⟨b, off + i * 3, rfl, hD, hb, ?_⟩⟩
  rw [TrL, TrL]
  exact ⟨⟨v, hc, hr⟩, trivial⟩
theorem Keeps.of {w w' : World} (h : Below w.heap.size w w') {D : Nat → Prop} : Keeps D w w' := ⟨h.size, fun b hb _ => h.block b hb⟩
theorem Keeps.fw {S : Nat → Prop} {w w' : World} {D : Nat → Prop} (h : Fw S w w') (hd : ∀ b, D b → ¬ S b) : Keeps D w w' := ⟨h.size, fun b hb hD => h.block b hb (hd b hD)⟩
theorem TrR.below {w w' : World} {D : Nat → Prop} {t : Tr} {v : List Value} (h : TrR w D t v) (hb : Below w.heap.size w w') : TrR w' D t v := h.keep (Keeps.of hb)
theorem TrS.below {w w' : World} {D : Nat → Prop} {l : List Tr} {A : Option Addr} {len cap : Nat} (h : TrS w D l A len cap) (hb : Below w.heap.size w w') : TrS w' D l A len cap := h.keep (Keeps.of hb)
theorem sizes_get : ∀ {l : List Tr} {i : Nat} (hi : i < l.length), l[i].size ≤ sizes l
  | t :: l, 0, _ => by rw [sizes]; simp
  | t :: l, i + 1, hi => by
    have := sizes_get (l := l) (i := i) (by simpa using hi)
    rw [sizes]
    simp
    omega
theorem sizes_take : ∀ {l : List Tr} {i : Nat} (hi : i < l.length), sizes (l.take (i + 1)) = sizes (l.take i) + l[i].size
  | t :: l, 0, _ => by simp [sizes]
  | t :: l, i + 1, hi => by
    have := sizes_take (l := l) (i := i) (by simpa using hi)
    rw [List.take_succ_cons, List.take_succ_cons, sizes, sizes, this]
    simp
    omega
theorem sizes_take_le : ∀ (l : List Tr) (i : Nat), sizes (l.take i) ≤ sizes l
  | [], i => by simp
  | t :: l, 0 => by simp [sizes]
  | t :: l, i + 1 => by
    have := sizes_take_le l i
    rw [List.take_succ_cons, sizes, sizes]
    omega
theorem Tr.size_eq (t : Tr) : t.size = 1 + sizes t.kids := by cases t; rw [Tr.size]; rfl
theorem sizes_len : ∀ (l : List Tr), l.length ≤ sizes l
  | [] => by simp
  | t :: l => by
    have := sizes_len l
    have := t.size_pos
    rw [sizes, List.length_cons]
    omega

end Go.Proofs.YtdbiedpdibjdlaaGreat

/-
  A growing row of trees.
-/
namespace Go.Proofs.YtdbiedpdibjdlaaGreat
open Go.RowKit AC
set_option linter.unusedVariables false
set_option linter.unusedSimpArgs false

/-- n trees' cells, one behind the other. -/
def rowT (us : Nat → List Value) (n : Nat) : List Value := (List.range n).flatMap us
theorem rowT_succ (us : Nat → List Value) (n : Nat) : rowT us (n + 1) = rowT us n ++ us n := by simp [rowT, List.range_succ, List.flatMap_append]
theorem rowT_congr {us us' : Nat → List Value} : ∀ {n : Nat}, (∀ i, i < n → us i = us' i) → rowT us n = rowT us' n
  | 0, _ => rfl
  | n + 1, h => by rw [rowT_succ, rowT_succ, rowT_congr fun i hi => h i (by omega), h n (by omega)]
theorem rowT_len {us : Nat → List Value} : ∀ {n : Nat}, (∀ i, i < n → (us i).length = 3) → (rowT us n).length = n * 3
  | 0, _ => by simp [rowT]
  | n + 1, h => by rw [rowT_succ, List.length_append, rowT_len fun i hi => h i (by omega), h n (by omega)]; omega
theorem rowT_at {us : Nat → List Value} : ∀ {n i j : Nat} {x : Value}, (∀ i, i < n → (us i).length = 3) → i < n → (us i)[j]? = some x → (rowT us n)[i * 3 + j]? = some x
  | 0, i, j, x, h, hi, _ => absurd hi (by omega)
  | n + 1, i, j, x, h, hi, hx => by
    have hj : j < 3 := by rw [← h i hi]; exact (List.getElem?_eq_some_iff.1 hx).1
    have hl := rowT_len (n := n) fun i hi => h i (by omega)
    rw [rowT_succ]
    rcases Nat.lt_or_ge i n with h1 | h1
    · rw [List.getElem?_append_left (by rw [hl]; omega)]
      exact rowT_at (fun i hi => h i (by omega)) h1 hx
    · obtain rfl : i = n := by omega
      rw [List.getElem?_append_right (by rw [hl]; omega), hl, show i * 3 + j - i * 3 = j from by omega]
      exact hx
/-- A row of the call's own that holds trees; what they point to lies in other blocks of the call's own. -/
def OwnT (base : Nat) (e : TypeId) (w : World) (lv : Value) (l : List Tr) (us : Nat → List Value) : Prop :=
  w.ownsRow base e 3 lv l.length (rowT us l.length) ∧ ∀ (i : Nat) (h : i < l.length), (us i).length = 3 ∧ TrR w (fun b => base ≤ b ∧ some b ≠ lv.ownBlock) l[i] (us i)
section
variable {base : Nat} {e : TypeId} {w w' w3 : World} {lv : Value} {l : List Tr} {us : Nat → List Value}
theorem OwnT.nil (base : Nat) (e : TypeId) (w : World) : OwnT base e w (.slice none 0 0) [] fun _ => [] := ⟨World.ownsRow_nil _ _ _ _, fun i hi => absurd hi (by simp)⟩
theorem OwnT.below (h : OwnT base e w lv l us) (hb : Below w.heap.size w w') : OwnT base e w' lv l us := by
  refine ⟨h.1.kept (row := none) ⟨hb.os, hb.tape, hb.output, hb.size, fun k hk _ => hb.block k hk⟩ ?_, fun i hi => ⟨(h.2 i hi).1, (h.2 i hi).2.below hb⟩⟩
  cases lv.ownBlock with
  | none => exact .inl rfl
  | some g => exact .inr (fun e => by cases e)
/-- One tree more. -/
theorem OwnT.next (h : OwnT base e w lv l us) {t : Tr} {v : List Value} (hv : TrR w (fun b => base ≤ b ∧ some b ≠ lv.ownBlock) t v) (hvl : v.length = 3) {g cap : Nat}
    (hown : w3.ownsRow base e 3 (.slice (some ⟨g, 0, none⟩) (l.length + 1) cap) (l.length + 1) (rowT us l.length ++ v)) (hg : (w.alloc (.cells v.toArray e)).grownBy w3 lv.ownBlock) (hgb : lv.ownBlock = some g ∨ g = w.heap.size + 1) :
    OwnT base e w3 (.slice (some ⟨g, 0, none⟩) (l.length + 1) cap) (l ++ [t]) fun i => if i = l.length then v else us i := by
  have hold : ∀ b, b < w.heap.size → some b ≠ lv.ownBlock → w3.heap[b]? = w.heap[b]? := fun b hb hne => (hg.block b (by simp; omega) hne).trans (Below.heap_alloc w _ b hb)
  have hne' : ∀ b, b < w.heap.size → some b ≠ lv.ownBlock → some b ≠ (Value.slice (some ⟨g, 0, none⟩) (l.length + 1) cap).ownBlock := by
    intro b hb hne e
    have e' : b = g := by simpa [Value.ownBlock] using e
    subst e'
    rcases hgb with h | h
    · exact hne h.symm
    · omega
  have hsz : w.heap.size ≤ w3.heap.size := by have := hg.size; simp at this; omega
  have keep : ∀ {t : Tr} {v : List Value}, TrR w (fun b => base ≤ b ∧ some b ≠ lv.ownBlock) t v → TrR w3 (fun b => base ≤ b ∧ some b ≠ (Value.slice (some ⟨g, 0, none⟩) (l.length + 1) cap).ownBlock) t v := fun h =>
    TrR.keep ⟨hsz, fun b hb hD => hold b hb (hD.2.2)⟩ (D := fun b => b < w.heap.size ∧ base ≤ b ∧ some b ≠ lv.ownBlock) (h.sub fun b hb hD => ⟨hb, hD⟩) |>.sub fun b _ hD => ⟨hD.2.1, hne' b hD.1 hD.2.2⟩
  refine ⟨?_, fun i hi => ?_⟩
  · have e1 : rowT (fun i => if i = l.length then v else us i) (l ++ [t]).length = rowT us l.length ++ v := by
      rw [List.length_append, List.length_singleton, rowT_succ, rowT_congr (us' := us) fun i hi => if_neg (by omega), if_pos rfl]
    rw [e1]
    simpa using hown
  · rw [List.length_append, List.length_singleton] at hi
    rcases Nat.lt_or_ge i l.length with h1 | h1
    · simp only [if_neg (show ¬ i = l.length from by omega)]
      rw [List.getElem_append_left h1]
      exact ⟨(h.2 i h1).1, keep (h.2 i h1).2⟩
    · obtain rfl : i = l.length := by omega
      simp only [if_true]
      rw [List.getElem_append_right (Nat.le_refl _)]
      simp only [Nat.sub_self, List.getElem_cons_zero]
      exact ⟨hvl, keep hv⟩
theorem TrL.of {b : Nat} {D : Nat → Prop} : ∀ {l : List Tr} {off : Nat}, (∀ (i : Nat) (h : i < l.length), ∃ v, CellsA w b (off + i * 3) v ∧ TrR w D l[i] v) → TrL w D b l off
  | [], _, _ => by rw [TrL]; trivial
  | t :: l, off, h => by
    rw [TrL]
    refine ⟨by obtain ⟨v, h1, h2⟩ := h 0 (by simp); exact ⟨v, by simpa using h1, h2⟩, TrL.of fun i hi => ?_⟩
    obtain ⟨v, h1, h2⟩ := h (i + 1) (by simpa using hi)
    exact ⟨v, by rw [show off + 3 + i * 3 = off + (i + 1) * 3 from by omega]; exact h1, h2⟩
/-- The row is a slice of trees. -/
theorem OwnT.done (h : OwnT base e w lv l us) : ∃ A len cap, lv = .slice A len cap ∧ TrS w (base ≤ ·) l A len cap := by
  have hc := h.1
  have hcells := fun g (hg : lv.ownBlock = some g) => hc.cells hg
  have hlts := hc.lt
  rcases hc.2 with ⟨hv, hn0⟩ | ⟨g, cap, cur, hv, hb, hgg, hnc, hcm, _⟩
  · exact ⟨none, 0, 0, hv, hn0.symm, Nat.le_refl _, by unfold maxLen; omega, fun h => absurd h (by omega)⟩
  · have hob : lv.ownBlock = some g := by rw [hv]; rfl
    refine ⟨_, _, _, hv, rfl, hnc, hcm, fun _ => ⟨g, 0, rfl, hb, (hlts g hob).2, TrL.of fun i hi => ⟨us i, fun j x hx => ?_, (h.2 i hi).2.sub fun b _ hD => hD.1⟩⟩⟩
    have := hcells g hob (i * 3 + j) x (rowT_at (fun i hi => (h.2 i hi).1) hi hx)
    rw [Addr.add_lit] at this
    simpa using this
end
end Go.Proofs.YtdbiedpdibjdlaaGreat

