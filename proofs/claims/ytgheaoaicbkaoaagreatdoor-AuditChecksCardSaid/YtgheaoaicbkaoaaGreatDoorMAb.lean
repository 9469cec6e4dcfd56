/-
  Audits: words for memory: points, and a row of open points of the call's own.
-/
import Derived.Test.YtgheaoaicbkaoaaGreatDoorMAa
import Derived.Test.YtgheaoaicbkaoaaGreatDoorMMemP
import Derived.Lib.SliceRun
namespace Go.Proofs.YtgheaoaicbkaoaaGreatDoor
open Go.RowKit AC
set_option linter.unusedVariables false
set_option linter.unusedSimpArgs false
/-- The slice v holds n points. -/
def PtsV (w : World) (lo : Nat) (v : Value) (n K : Nat) (nd kd ct : Nat → Int) (r : Nat → Rat) : Prop :=
  ∃ A c, v = .slice A n c ∧ n ≤ c ∧ c ≤ maxLen ∧ (0 < n → ∃ b off, A = some ⟨b, off, none⟩ ∧ lo ≤ b ∧ b < w.heap.size ∧
    ∀ i, i < n → ∃ s An kn cn Ad km cm, w.cell? ⟨b, off + i * 6, none⟩ = some (.int .i64 (nd i)) ∧ w.cell? ⟨b, off + i * 6 + 1, none⟩ = some (.int .i64 (kd i)) ∧ w.cell? ⟨b, off + i * 6 + 2, none⟩ = some (.int .i64 (ct i)) ∧
      w.cell? ⟨b, off + i * 6 + 3, none⟩ = some (.bool s) ∧ w.cell? ⟨b, off + i * 6 + 4, none⟩ = some (.slice An kn cn) ∧ w.cell? ⟨b, off + i * 6 + 5, none⟩ = some (.slice Ad km cm) ∧
      (-9223372036854775808 ≤ ct i ∧ ct i ≤ 9223372036854775807) ∧ RatV w lo (.agg #[.bool s, .slice An kn cn, .slice Ad km cm]) K (r i))
section
variable {w w' : World} {lo n K : Nat} {v : Value} {nd kd ct : Nat → Int} {r : Nat → Rat}
theorem PtsV.below (h : PtsV w lo v n K nd kd ct r) (hb : Below w.heap.size w w') : PtsV w' lo v n K nd kd ct r := by
  obtain ⟨A, c, rfl, h1, h2, h3⟩ := h
  refine ⟨A, c, rfl, h1, h2, fun h0 => ?_⟩
  obtain ⟨b, off, rfl, h4, h5, h6⟩ := h3 h0
  refine ⟨b, off, rfl, h4, Nat.lt_of_lt_of_le h5 hb.size, fun i hi => ?_⟩
  obtain ⟨s, An, kn, cn, Ad, km, cm, e1, e2, e3, e4, e5, e6, e7, e8⟩ := h6 i hi
  exact ⟨s, An, kn, cn, Ad, km, cm, (hb.cell (p := ⟨b, _, none⟩) h5).trans e1, (hb.cell (p := ⟨b, _, none⟩) h5).trans e2, (hb.cell (p := ⟨b, _, none⟩) h5).trans e3, (hb.cell (p := ⟨b, _, none⟩) h5).trans e4, (hb.cell (p := ⟨b, _, none⟩) h5).trans e5, (hb.cell (p := ⟨b, _, none⟩) h5).trans e6, e7, e8.below hb⟩
theorem PtsV.form (h : PtsV w lo v n K nd kd ct r) : ∃ A c, v = .slice A n c ∧ n ≤ c ∧ c ≤ 9223372036854775807 := by
  obtain ⟨A, c, e, h1, h2, _⟩ := h
  unfold maxLen at h2
  exact ⟨A, c, e, h1, by omega⟩
theorem PtsV.elem {A : Option Addr} {c : Nat} (h : PtsV w lo (.slice A n c) n K nd kd ct r) {i : Nat} (hi : i < n) :
    ∃ b off s An kn cn Ad km cm, A = some ⟨b, off, none⟩ ∧ lo ≤ b ∧ b < w.heap.size ∧ w.cell? ⟨b, off + i * 6, none⟩ = some (.int .i64 (nd i)) ∧ w.cell? ⟨b, off + i * 6 + 1, none⟩ = some (.int .i64 (kd i)) ∧ w.cell? ⟨b, off + i * 6 + 2, none⟩ = some (.int .i64 (ct i)) ∧
      w.cell? ⟨b, off + i * 6 + 3, none⟩ = some (.bool s) ∧ w.cell? ⟨b, off + i * 6 + 4, none⟩ = some (.slice An kn cn) ∧ w.cell? ⟨b, off + i * 6 + 5, none⟩ = some (.slice Ad km cm) ∧
      (-9223372036854775808 ≤ ct i ∧ ct i ≤ 9223372036854775807) ∧ RatV w lo (.agg #[.bool s, .slice An kn cn, .slice Ad km cm]) K (r i) ∧ kn ≤ 9223372036854775807 ∧ km ≤ 9223372036854775807 := by
  obtain ⟨A', c', e, _, _, h3⟩ := h
  injection e with e1 e2 e3
  subst e1
  obtain ⟨b, off, rfl, h4, h5, h6⟩ := h3 (by omega)
  obtain ⟨s, An, kn, cn, Ad, km, cm, g1, g2, g3, g4, g5, g6, g7, g8⟩ := h6 i hi
  refine ⟨b, off, s, An, kn, cn, Ad, km, cm, rfl, h4, h5, g1, g2, g3, g4, g5, g6, g7, g8, ?_⟩
  obtain ⟨neg, kn', kd', fn, fd, vn, vd, e, h2, h3, _⟩ := g8
  simp only [Value.agg.injEq, Array.mk.injEq, List.cons.injEq, and_true] at e
  obtain ⟨_, rfl, rfl⟩ := e
  have q1 := h2.short
  have q2 := h3.short
  obtain ⟨_, _, e2⟩ := h2.len
  obtain ⟨_, _, e3⟩ := h3.len
  injection e2 with _ e2 _
  injection e3 with _ e3 _
  omega
end
theorem info_open : (Tryz.prog.info? 65).map (fun i => (i.zero, i.size, i.bytes)) = some (some (.agg #[.int .i64 0, .bool false, .slice none 0 0, .slice none 0 0, .bool false, .slice none 0 0, .slice none 0 0]), 7, 120) := by kernel_rfl
theorem ownsRow_setCell {w : World} {base size n g : Nat} {e : TypeId} {v : Value} {xs : List Value} (h : w.ownsRow base e size v n xs) (hv : v.ownBlock = some g) (i : Nat) (u : Value) : (w.setCell ⟨g, i, none⟩ u).ownsRow base e size v n (xs.set i u) := by
  obtain ⟨h1, h2⟩ := h
  refine ⟨by rw [List.length_set]; exact h1, ?_⟩
  rcases h2 with ⟨rfl, _⟩ | ⟨g', cap, cur, rfl, hb, hg, h3, h4, h5, h6⟩
  · cases hv
  · have e' : g' = g := by simpa [Value.ownBlock] using hv
    subst e'
    refine .inr ⟨g', cap, _, rfl, hb, Bk.set hg i u, h3, h4, by simpa using h5, ?_⟩
    rw [Array.toList_setIfInBounds, List.take_set, h6]
/-- Place j of a row holds an open point: its node N, sum s, least t. -/
def OpAt (w : World) (D : Nat → Prop) (xs : List Value) (o K : Nat) (N : Int) (s t : Rat) : Prop :=
  ∃ b1 A1 k1 c1 A2 k2 c2 b2 A3 k3 c3 A4 k4 c4, xs[o]? = some (.int .i64 N) ∧ xs[o + 1]? = some (.bool b1) ∧ xs[o + 2]? = some (.slice A1 k1 c1) ∧ xs[o + 3]? = some (.slice A2 k2 c2) ∧ xs[o + 4]? = some (.bool b2) ∧ xs[o + 5]? = some (.slice A3 k3 c3) ∧ xs[o + 6]? = some (.slice A4 k4 c4) ∧
    RatVP w D (.agg #[.bool b1, .slice A1 k1 c1, .slice A2 k2 c2]) K s ∧ RatVP w D (.agg #[.bool b2, .slice A3 k3 c3, .slice A4 k4 c4]) K t
theorem OpAt.keep {w w' : World} {D D' : Nat → Prop} {xs xs' : List Value} {o o' K : Nat} {N : Int} {s t : Rat} (h : OpAt w D xs o K N s t) (hs : w.heap.size ≤ w'.heap.size) (hk : ∀ b, D b → b < w.heap.size → w'.heap[b]? = w.heap[b]? ∧ D' b) (hx : ∀ i, i < 7 → xs'[o' + i]? = xs[o + i]?) : OpAt w' D' xs' o' K N s t := by
  obtain ⟨b1, A1, k1, c1, A2, k2, c2, b2, A3, k3, c3, A4, k4, c4, e0, e1, e2, e3, e4, e5, e6, h1, h2⟩ := h
  exact ⟨b1, A1, k1, c1, A2, k2, c2, b2, A3, k3, c3, A4, k4, c4, (hx 0 (by omega)).trans e0, (hx 1 (by omega)).trans e1, (hx 2 (by omega)).trans e2, (hx 3 (by omega)).trans e3, (hx 4 (by omega)).trans e4, (hx 5 (by omega)).trans e5, (hx 6 (by omega)).trans e6, h1.keep hs hk, h2.keep hs hk⟩
/-- v is a row of the call's own of k open points. -/
def OwnO (w : World) (base : Nat) (v : Value) (k K : Nat) (N : Nat → Int) (s t : Nat → Rat) : Prop :=
  ∃ xs, w.ownsRow base 65 7 v k xs ∧ ∀ j, j < k → OpAt w (fun b => base ≤ b ∧ some b ≠ v.ownBlock) xs (j * 7) K (N j) (s j) (t j)
section
variable {w w' : World} {base k K : Nat} {v : Value} {N : Nat → Int} {s t : Nat → Rat}
theorem OwnO.nil (w : World) (base K : Nat) (N : Nat → Int) (s t : Nat → Rat) : OwnO w base (.slice none 0 0) 0 K N s t := ⟨[], World.ownsRow_nil _ _ _ _, fun j hj => absurd hj (by omega)⟩
theorem OwnO.keep (h : OwnO w base v k K N s t) (hs : w.heap.size ≤ w'.heap.size) (hk : ∀ b, base ≤ b → b < w.heap.size → w'.heap[b]? = w.heap[b]?) : OwnO w' base v k K N s t := by
  obtain ⟨xs, h1, h2⟩ := h
  refine ⟨xs, ⟨h1.1, ?_⟩, fun j hj => (h2 j hj).keep hs (fun b hb hlt => ⟨hk b hb.1 hlt, hb⟩) fun _ _ => rfl⟩
  rcases h1.2 with hn | ⟨g, cap, cur, rfl, hb, hgg, rest⟩
  · exact .inl hn
  · exact .inr ⟨g, cap, cur, rfl, hb, (hk g hb (Array.getElem?_eq_some_iff.1 hgg).1).trans hgg, rest⟩
theorem OwnO.below (h : OwnO w base v k K N s t) (hb : Below w.heap.size w w') : OwnO w' base v k K N s t := h.keep hb.size fun b _ hlt => hb.block b hlt
theorem OwnO.alloc (h : OwnO w base v k K N s t) (o : Obj) : OwnO (w.alloc o) base v k K N s t := h.below ((Below.refl _ _).alloc (Nat.le_refl _) o)
theorem OwnO.congr {N' : Nat → Int} {s' t' : Nat → Rat} (h : OwnO w base v k K N s t) (e : ∀ j, j < k → N j = N' j ∧ s j = s' j ∧ t j = t' j) : OwnO w base v k K N' s' t' := by
  obtain ⟨xs, h1, h2⟩ := h
  refine ⟨xs, h1, fun j hj => ?_⟩
  obtain ⟨e1, e2, e3⟩ := e j hj
  rw [← e1, ← e2, ← e3]
  exact h2 j hj
theorem OwnO.form (h : OwnO w base v k K N s t) : ∃ A c, v = .slice A k c ∧ k ≤ c ∧ c ≤ 9223372036854775807 := by
  obtain ⟨xs, h1, _⟩ := h
  rcases h1.2 with ⟨rfl, rfl⟩ | ⟨g, cap, cur, rfl, hb, hgg, h3, h4, _⟩
  · exact ⟨none, 0, rfl, Nat.le_refl _, by omega⟩
  · unfold maxLen at h4; exact ⟨_, cap, rfl, h3, by omega⟩
theorem OwnO.elem {A : Option Addr} {c : Nat} (h : OwnO w base (.slice A k c) k K N s t) {j : Nat} (hj : j < k) :
    ∃ g b1 A1 k1 c1 A2 k2 c2 b2 A3 k3 c3 A4 k4 c4, A = some ⟨g, 0, none⟩ ∧ base ≤ g ∧ g < w.heap.size ∧ w.cell? ⟨g, j * 7, none⟩ = some (.int .i64 (N j)) ∧ w.cell? ⟨g, j * 7 + 1, none⟩ = some (.bool b1) ∧ w.cell? ⟨g, j * 7 + 2, none⟩ = some (.slice A1 k1 c1) ∧ w.cell? ⟨g, j * 7 + 3, none⟩ = some (.slice A2 k2 c2) ∧
      w.cell? ⟨g, j * 7 + 4, none⟩ = some (.bool b2) ∧ w.cell? ⟨g, j * 7 + 5, none⟩ = some (.slice A3 k3 c3) ∧ w.cell? ⟨g, j * 7 + 6, none⟩ = some (.slice A4 k4 c4) ∧ (∀ o, w.frozen? ⟨g, o, none⟩ = false) ∧
      RatVP w (fun b => base ≤ b ∧ b ≠ g) (.agg #[.bool b1, .slice A1 k1 c1, .slice A2 k2 c2]) K (s j) ∧ RatVP w (fun b => base ≤ b ∧ b ≠ g) (.agg #[.bool b2, .slice A3 k3 c3, .slice A4 k4 c4]) K (t j) := by
  obtain ⟨xs, h1, h2⟩ := h
  obtain ⟨b1, A1, k1, c1, A2, k2, c2, b2, A3, k3, c3, A4, k4, c4, e0, e1, e2, e3, e4, e5, e6, h3, h4⟩ := h2 j hj
  have h1' := h1
  rcases h1.2 with ⟨e, rfl⟩ | ⟨g, cap, cur, e, hb, hgg, _⟩
  · omega
  · injection e with e5' _ _
    subst e5'
    have hc := h1'.cells (g := g) rfl
    have hd : ∀ b, (base ≤ b ∧ some b ≠ (Value.slice (some ⟨g, 0, none⟩) k c).ownBlock) → b < w.heap.size → w.heap[b]? = w.heap[b]? ∧ (base ≤ b ∧ b ≠ g) := fun b hb _ => ⟨rfl, hb.1, fun e => hb.2 (by rw [e]; rfl)⟩
    have hcell : ∀ o x, xs[o]? = some x → w.cell? ⟨g, o, none⟩ = some x := fun o x hx => by
      have := hc o x hx
      rwa [Addr.add_lit, Nat.zero_add] at this
    exact ⟨g, b1, A1, k1, c1, A2, k2, c2, b2, A3, k3, c3, A4, k4, c4, rfl, hb, (Array.getElem?_eq_some_iff.1 hgg).1, hcell _ _ e0, hcell _ _ e1, hcell _ _ e2, hcell _ _ e3, hcell _ _ e4, hcell _ _ e5, hcell _ _ e6, fun o => by simp [World.frozen?, hgg], h3.keep (Nat.le_refl _) hd, h4.keep (Nat.le_refl _) hd⟩
/-- The least of place j is set. -/
theorem OwnO.setT {g c : Nat} (h : OwnO w base (.slice (some ⟨g, 0, none⟩) k c) k K N s t) {j : Nat} (hj : j < k) {b : Bool} {A1 A2 : Option Addr} {k1 c1 k2 c2 : Nat} {q : Rat} (hr : RatVP w (fun b => base ≤ b ∧ b ≠ g) (.agg #[.bool b, .slice A1 k1 c1, .slice A2 k2 c2]) K q) :
    OwnO (((w.setCell ⟨g, j * 7 + 4, none⟩ (.bool b)).setCell ⟨g, j * 7 + 4 + 1, none⟩ (.slice A1 k1 c1)).setCell ⟨g, j * 7 + 4 + 2, none⟩ (.slice A2 k2 c2)) base (.slice (some ⟨g, 0, none⟩) k c) k K N s (fun i => if i = j then q else t i) := by
  obtain ⟨xs, h1, h2⟩ := h
  have hlen := h1.1
  refine ⟨_, ownsRow_setCell (ownsRow_setCell (ownsRow_setCell h1 rfl _ _) rfl _ _) rfl _ _, fun i hi => ?_⟩
  have hkeep : ∀ b', (base ≤ b' ∧ some b' ≠ (Value.slice (some ⟨g, 0, none⟩) k c).ownBlock) → b' < w.heap.size → (((w.setCell ⟨g, j * 7 + 4, none⟩ (.bool b)).setCell ⟨g, j * 7 + 4 + 1, none⟩ (.slice A1 k1 c1)).setCell ⟨g, j * 7 + 4 + 2, none⟩ (.slice A2 k2 c2)).heap[b']? = w.heap[b']? ∧ (base ≤ b' ∧ some b' ≠ (Value.slice (some ⟨g, 0, none⟩) k c).ownBlock) := fun b' hb' _ => ⟨heap_setAt3 _ _ _ _ _ _ _ _ _ fun e => hb'.2 (by rw [e]; rfl), hb'⟩
  have hsz : w.heap.size ≤ (((w.setCell ⟨g, j * 7 + 4, none⟩ (.bool b)).setCell ⟨g, j * 7 + 4 + 1, none⟩ (.slice A1 k1 c1)).setCell ⟨g, j * 7 + 4 + 2, none⟩ (.slice A2 k2 c2)).heap.size := by simp [World.setCell]
  by_cases hij : i = j
  · subst hij
    simp only [if_true]
    obtain ⟨b1, A1', k1', c1', A2', k2', c2', b2, A3, k3, c3, A4, k4, c4, e0, e1, e2, e3, e4, e5, e6, h3, h4⟩ := h2 i hi
    refine ⟨b1, A1', k1', c1', A2', k2', c2', b, A1, k1, c1, A2, k2, c2, ?_, ?_, ?_, ?_, ?_, ?_, ?_, h3.keep hsz hkeep, hr.keep hsz fun b' hb' hlt => hkeep b' ⟨hb'.1, fun e => hb'.2 (by simpa [Value.ownBlock] using e)⟩ hlt⟩
    · rw [List.getElem?_set_ne (by omega), List.getElem?_set_ne (by omega), List.getElem?_set_ne (by omega)]; exact e0
    · rw [List.getElem?_set_ne (by omega), List.getElem?_set_ne (by omega), List.getElem?_set_ne (by omega)]; exact e1
    · rw [List.getElem?_set_ne (by omega), List.getElem?_set_ne (by omega), List.getElem?_set_ne (by omega)]; exact e2
    · rw [List.getElem?_set_ne (by omega), List.getElem?_set_ne (by omega), List.getElem?_set_ne (by omega)]; exact e3
    · rw [List.getElem?_set_ne (by omega), List.getElem?_set_ne (by omega), List.getElem?_set_self (by omega)]
    · rw [List.getElem?_set_ne (by omega), show i * 7 + 5 = i * 7 + 4 + 1 by omega, List.getElem?_set_self (by rw [List.length_set]; omega)]
    · rw [show i * 7 + 6 = i * 7 + 4 + 2 by omega, List.getElem?_set_self (by rw [List.length_set, List.length_set]; omega)]
  · simp only [if_neg hij]
    refine (h2 i hi).keep hsz hkeep fun o ho => ?_
    rw [List.getElem?_set_ne (by omega), List.getElem?_set_ne (by omega), List.getElem?_set_ne (by omega)]
/-- 'append(opened, x)': the new element lies in the block that was laid last; its least is 0. -/
theorem wp_pushO (wr : World) {o : Oper} {a : Act} {KK : Act → World → Prop} {Q : Exit → Act → World → Prop} (sa x : Operand)
    (ho : o.op = .call { callee := .builtin .append, args := #[sa, x], argTypes := #[61, 61] })
    (base : Nat) (v : Value) (k K : Nat) (N : Nat → Int) (s t : Nat → Rat) (hs : a.eval sa = v) (hown : OwnO wr base v k K N s t)
    (sg : Bool) (An Ad : Option Addr) (kn cn kd cd lo : Nat) (hr : RatV wr lo (.agg #[.bool sg, .slice An kn cn, .slice Ad kd cd]) K (s k)) (ht0 : t k = 0) (hlo : base ≤ lo) (hfar : ∀ g, v.ownBlock = some g → g < lo)
    (hx : a.eval x = .slice (some ⟨wr.heap.size, 0, none⟩) 1 1) (w0 : World) (hb : Below base w0 wr) (hbase : base ≤ wr.heap.size) (hn : k ≤ 1000000)
    (h : ∀ v' w', OwnO w' base v' (k + 1) K N s t → Below base w0 w' → (∀ g, v'.ownBlock = some g → g < w'.heap.size) → wr.heap.size ≤ w'.heap.size → (∀ b, b < wr.heap.size → some b ≠ v.ownBlock → w'.heap[b]? = wr.heap[b]?) → KK (a.put o.dst v') w') :
    o.wp Tryz.prog a (wr.alloc (.cells #[.int .i64 (N k), .bool sg, .slice An kn cn, .slice Ad kd cd, .bool false, .slice none 0 0, .slice none 0 0] 65)) KK Q := by
  obtain ⟨i, hi, hz0, hs1, hb4⟩ := info_parts info_open
  obtain ⟨xs, h1, h2⟩ := hown
  refine wp_append_lies _ sa x 61 ho base 65 i _ 7 120 Tryz.underlying61 hi hz0 hs1 hb4 rfl (by omega) v k xs hs (h1.alloc _) ⟨wr.heap.size, 0, none⟩ 1 1 [.int .i64 (N k), .bool sg, .slice An kn cn, .slice Ad kd cd, .bool false, .slice none 0 0, .slice none 0 0] hx rfl ?_ ?_ (by omega) (by unfold maxLen; omega) (by omega) (by simp; omega) (wr.heap.size + 1) (by simp) ?_
  · intro j u hu
    rw [Addr.add_lit, World.cell?_alloc_at _ _ _ _ rfl]
    rcases j with _ | _ | _ | _ | _ | _ | _ | j <;> simp at hu <;> subst hu <;> rfl
  · intro u hu
    simp at hu
    rcases hu with rfl | rfl | rfl | rfl | rfl | rfl <;> rfl
  · intro g cap w' hown' hg hgb hglt
    have hsz : wr.heap.size + 1 ≤ w'.heap.size := by have := hg.size; simpa using this
    have hold : ∀ b, b < wr.heap.size → some b ≠ v.ownBlock → w'.heap[b]? = wr.heap[b]? := by
      intro b hb hne
      exact (hg.block b (by simp; omega) hne).trans (Below.heap_alloc wr _ b hb)
    have hvlt := h1.lt
    have hne' : ∀ b, b < wr.heap.size → some b ≠ v.ownBlock → some b ≠ (Value.slice (some ⟨g, 0, none⟩) (k + 1) cap).ownBlock := by
      intro b hb hne e
      have e' : b = g := by simpa [Value.ownBlock] using e
      subst e'
      rcases hgb with h | h
      · exact hne h.symm
      · omega
    refine h _ w' ⟨xs ++ [.int .i64 (N k), .bool sg, .slice An kn cn, .slice Ad kd cd, .bool false, .slice none 0 0, .slice none 0 0], hown', fun j hj => ?_⟩ ?_ ?_ (by omega) hold
    · have hxl := h1.1
      rcases Nat.lt_or_ge j k with hjn | hjn
      · refine (h2 j hjn).keep (by omega) (fun b hb hlt => ⟨hold b hlt hb.2, hb.1, hne' b hlt hb.2⟩) fun i hi => ?_
        rw [List.getElem?_append_left (by omega)]
      · obtain rfl : j = k := by omega
        have hat : ∀ i, i < 7 → (xs ++ [.int .i64 (N j), .bool sg, .slice An kn cn, .slice Ad kd cd, .bool false, .slice none 0 0, .slice none 0 0])[j * 7 + i]? = [Value.int .i64 (N j), .bool sg, .slice An kn cn, .slice Ad kd cd, .bool false, .slice none 0 0, .slice none 0 0][i]? := fun i hi => by
          rw [List.getElem?_append_right (by omega), show j * 7 + i - xs.length = i from by omega]
        refine ⟨sg, An, kn, cn, Ad, kd, cd, false, none, 0, 0, none, 0, 0, hat 0 (by omega), hat 1 (by omega), hat 2 (by omega), hat 3 (by omega), hat 4 (by omega), hat 5 (by omega), hat 6 (by omega), hr.toP.keep (by omega) fun b hb hlt => ?_, ?_⟩
        · have hne : some b ≠ v.ownBlock := fun e => by have := hfar b e.symm; omega
          exact ⟨hold b hlt hne, by omega, hne' b hlt hne⟩
        · rw [ht0]
          refine ⟨false, 0, 0, fun _ => 0, fun _ => 0, _, _, rfl, ⟨fun i hi => absurd hi (by omega), none, 0, rfl, Nat.le_refl _, Nat.zero_le _, fun h => absurd h (by omega)⟩, ⟨fun i hi => absurd hi (by omega), none, 0, rfl, Nat.le_refl _, Nat.zero_le _, fun h => absurd h (by omega)⟩, Nat.zero_le _, Nat.zero_le _, ?_⟩
          rfl
    · exact (hb.alloc hbase _).grown hg (by simp; omega) fun g' hg' => (hvlt g' hg').1
    · intro g' hg'
      have : g = g' := by simpa [Value.ownBlock] using hg'
      omega
/-- Place i is taken away. -/
def cutF {α : Type} (i : Nat) (f : Nat → α) (j : Nat) : α := if j < i then f j else f (j + 1)
end
end Go.Proofs.YtgheaoaicbkaoaaGreatDoor

/-
  Audits: one open point is taken out of a row of the call's own.
-/
namespace Go.Proofs.YtgheaoaicbkaoaaGreatDoor
open Go.RowKit AC
set_option linter.unusedVariables false
set_option linter.unusedSimpArgs false
def zero7 : List Value := [.int .i64 0, .bool false, .slice none 0 0, .slice none 0 0, .bool false, .slice none 0 0, .slice none 0 0]
theorem zeroV_open (w : World) : (zeroValue 65).run Tryz.prog w = .ok (.agg zero7.toArray) w := by
  obtain ⟨i, hi, hz0, _, _⟩ := info_parts info_open
  simp [zeroValue, typeInfo, hi, hz0, zero7]
theorem run_clear_open (w : World) (ty : TypeId) (g o c : Nat) (cur : Array Value) (hg : w.heap[g]? = some (.cells cur 65 (0, 0))) (hfit : o + 7 ≤ cur.size) :
    (Builtin.clear_ #[61] ty #[.slice (some ⟨g, o, none⟩) 1 c]).run Tryz.prog w = .ok (.tuple #[]) (w.setRow g (cur.toList.take o ++ zero7 ++ cur.toList.drop (o + 7)).toArray) := by
  have hst := run_storeCells_at Tryz.prog g o 65 zero7 0 cur w hg (by simpa [zero7] using hfit) (by intro v hv; simp only [zero7, List.mem_cons, List.not_mem_nil, or_false] at hv; rcases hv with rfl | rfl | rfl | rfl | rfl | rfl | rfl <;> rfl)
  have hzc : (Builtin.zeroCells (Value.agg zero7.toArray).cells 1).toList = zero7 := by
    simp [Builtin.zeroCells, Value.cells, zero7]
    apply List.ext_getElem?
    intro i
    rcases i with _ | _ | _ | _ | _ | _ | _ | i <;> simp [List.getElem?_ofFn]
  simp only [Nat.add_zero] at hst
  have hl : o + zero7.length = o + 7 := rfl
  rw [hl] at hst
  have hzc' : (Builtin.zeroCells (Value.agg #[.int .i64 0, .bool false, .slice none 0 0, .slice none 0 0, .bool false, .slice none 0 0, .slice none 0 0]).cells 1).toList = zero7 := hzc
  simp [Builtin.clear_, run_underlying Tryz.underlying61, zeroV_open, hzc', hst]
theorem cut_get {α : Type} (xs : List α) (i k : Nat) (hx : xs.length = k * 7) (hi : i < k) {j o : Nat} (hj : j < k - 1) (ho : o < 7) : (xs.take (i * 7) ++ xs.drop ((i + 1) * 7))[j * 7 + o]? = xs[(if j < i then j else j + 1) * 7 + o]? := by
  by_cases h : j < i
  · rw [if_pos h, List.getElem?_append_left (by rw [List.length_take]; omega), List.getElem?_take, if_pos (by omega)]
  · rw [if_neg h, List.getElem?_append_right (by rw [List.length_take]; omega), List.length_take, List.getElem?_drop]
    congr 1
    omega
section
variable {w : World} {base k K : Nat} {N : Nat → Int} {s t : Nat → Rat}
set_option maxRecDepth 100000 in
theorem OwnO.del {g c : Nat} (h : OwnO w base (.slice (some ⟨g, 0, none⟩) k c) k K N s t) {i : Nat} (hi : i < k) (c2 c3 : Nat) (Ad : Addr) (hAd : Ad = ⟨g, (i + 1) * 7, none⟩ ∨ k = i + 1) :
    ∃ w1 w2, (∀ ty, (Builtin.append_ #[61, 61] ty #[.slice (some ⟨g, 0, none⟩) i c, .slice (some Ad) (k - (i + 1)) c2]).run Tryz.prog w = .ok (.slice (some ⟨g, 0, none⟩) (k - 1) c) w1) ∧
      (∀ ty2, (Builtin.clear_ #[61] ty2 #[.slice (some ⟨g, (k - 1) * 7, none⟩) 1 c3]).run Tryz.prog w1 = .ok (.tuple #[]) w2) ∧
      OwnO w2 base (.slice (some ⟨g, 0, none⟩) (k - 1) c) (k - 1) K (cutF i N) (cutF i s) (cutF i t) ∧ w.grownBy w2 (some g) := by
  obtain ⟨xs, h1, h2⟩ := h
  obtain ⟨inf, hinf, hz0, hs1, hb4⟩ := info_parts info_open
  have hxl := h1.1
  rcases h1.2 with ⟨e, _⟩ | ⟨g', cap, cur, e, hb, hgg, h3, h4, h5, h6⟩
  · cases e
  injection e with e1 _ e2
  injection e1 with e1
  injection e1 with e1
  subst e1
  subst e2
  obtain ⟨news, hnews⟩ : ∃ news, news = xs.drop ((i + 1) * 7) := ⟨_, rfl⟩
  have hnl : news.length = (k - (i + 1)) * inf.size := by rw [hnews, List.length_drop, hs1]; omega
  have hat : ∀ j u, news[j]? = some u → w.cell? (Ad.add j) = some u := by
    intro j u hj
    rcases hAd with rfl | hAd
    case inr =>
      have := (List.getElem?_eq_some_iff.1 hj).1
      rw [hnl] at this
      rw [hAd] at this
      simp at this
    rw [hnews, List.getElem?_drop] at hj
    have := h1.cells (g := g) rfl _ _ hj
    rw [Addr.add_lit, Nat.zero_add] at this
    rw [Addr.add_lit]
    exact this
  have hcl : cur.toList.length = c * 7 := by rw [Array.length_toList, h5]
  have hone : ∀ u ∈ news, u.oneCell' = true := by
    intro u hu
    rw [hnews] at hu
    obtain ⟨q, hq⟩ := List.mem_iff_getElem?.1 (List.mem_of_mem_drop hu)
    have hql := (List.getElem?_eq_some_iff.1 hq).1
    obtain ⟨b1, A1, k1, c1, A2, k2, c2', b2, A3, k3, c3', A4, k4, c4, e0, e1, e2, e3, e4, e5, e6, _, _⟩ := h2 (q / 7) (by omega)
    have hm : q = q / 7 * 7 + q % 7 := by omega
    have hm7 : q % 7 < 7 := by omega
    have : q % 7 = 0 ∨ q % 7 = 1 ∨ q % 7 = 2 ∨ q % 7 = 3 ∨ q % 7 = 4 ∨ q % 7 = 5 ∨ q % 7 = 6 := by omega
    rcases this with h | h | h | h | h | h | h <;> rw [hm, h] at hq <;> (try simp only [Nat.add_zero] at hq)
    · rw [e0] at hq; rw [← Option.some.inj hq]; rfl
    · rw [e1] at hq; rw [← Option.some.inj hq]; rfl
    · rw [e2] at hq; rw [← Option.some.inj hq]; rfl
    · rw [e3] at hq; rw [← Option.some.inj hq]; rfl
    · rw [e4] at hq; rw [← Option.some.inj hq]; rfl
    · rw [e5] at hq; rw [← Option.some.inj hq]; rfl
    · rw [e6] at hq; rw [← Option.some.inj hq]; rfl
  have hr := fun ty => run_append_room (P := Tryz.prog) w 61 ty 65 inf Tryz.underlying61 hinf g i c cur hgg Ad (k - (i + 1)) c2 news hnl hat hone (by omega) (by rw [hnl, hs1, h5]; omega)
  simp only [hs1] at hr hnl
  simp only [show i + (k - (i + 1)) = k - 1 by omega] at hr
  obtain ⟨C1, hC1⟩ : ∃ C1, C1 = (cur.toList.take (i * 7) ++ news ++ cur.toList.drop (i * 7 + news.length)).toArray := ⟨_, rfl⟩
  simp only [← hC1] at hr
  have hC1l : C1.size = c * 7 := by
    rw [hC1]
    simp only [List.size_toArray, List.length_append, List.length_take, List.length_drop, hcl, hnl]
    omega
  have hg1 := setRow_heap w g cur C1 65 (0, 0) hgg
  have hr2 := fun ty2 => run_clear_open (w.setRow g C1) ty2 g ((k - 1) * 7) c3 C1 hg1 (by rw [hC1l]; omega)
  obtain ⟨C2, hC2⟩ : ∃ C2, C2 = (C1.toList.take ((k - 1) * 7) ++ zero7 ++ C1.toList.drop ((k - 1) * 7 + 7)).toArray := ⟨_, rfl⟩
  simp only [← hC2] at hr2
  have hC1t : C1.toList.length = c * 7 := by rw [Array.length_toList, hC1l]
  have hg2 := setRow_heap _ g C1 C2 65 (0, 0) hg1
  have htake : C2.toList.take ((k - 1) * 7) = xs.take (i * 7) ++ xs.drop ((i + 1) * 7) := by
    have hl7 : zero7.length = 7 := rfl
    rw [hC2, List.toList_toArray, List.append_assoc, List.take_append_of_le_length (by rw [List.length_take]; omega), List.take_take, Nat.min_self, hC1, List.toList_toArray, List.append_assoc, ← List.append_assoc,
      List.take_append_of_le_length (by rw [List.length_append, List.length_take, hnl]; omega), List.take_of_length_le (by rw [List.length_append, List.length_take, hnl]; omega), hnews, ← h6, List.take_take]
    congr 2
    omega
  have hother : ∀ b, b ≠ g → ((w.setRow g C1).setRow g C2).heap[b]? = w.heap[b]? := fun b hne => (setRow_other _ g b C2 hne).trans (setRow_other w g b C1 hne)
  have hsize : ((w.setRow g C1).setRow g C2).heap.size = w.heap.size := by simp [World.setRow]
  refine ⟨_, _, hr, hr2, ⟨xs.take (i * 7) ++ xs.drop ((i + 1) * 7), ⟨by rw [List.length_append, List.length_take, List.length_drop]; omega, .inr ⟨g, c, C2, rfl, hb, hg2, by omega, h4, ?_, htake⟩⟩, fun j hj => ?_⟩, ⟨rfl, rfl, rfl, Nat.le_of_eq hsize.symm, fun b _ hne => hother b fun e => hne (by rw [e])⟩⟩
  · rw [hC2]
    have hl7 : zero7.length = 7 := rfl
    simp only [List.size_toArray, List.length_append, List.length_take, List.length_drop, hC1t, hl7]
    omega
  · have hkeep : ∀ b, (base ≤ b ∧ some b ≠ (Value.slice (some ⟨g, 0, none⟩) k c).ownBlock) → b < w.heap.size → ((w.setRow g C1).setRow g C2).heap[b]? = w.heap[b]? ∧ (base ≤ b ∧ some b ≠ (Value.slice (some ⟨g, 0, none⟩) (k - 1) c).ownBlock) := fun b hb' _ => ⟨hother b fun e => hb'.2 (by rw [e]; rfl), hb'⟩
    have hx7 := fun (o : Nat) (ho : o < 7) => cut_get xs i k hxl hi (j := j) (o := o) hj ho
    unfold cutF
    by_cases hji : j < i
    · simp only [if_pos hji] at hx7 ⊢
      exact (h2 j (by omega)).keep (Nat.le_of_eq hsize.symm) hkeep fun o ho => hx7 o ho
    · simp only [if_neg hji] at hx7 ⊢
      exact (h2 (j + 1) (by omega)).keep (Nat.le_of_eq hsize.symm) hkeep fun o ho => hx7 o ho
end
theorem wp_clear {P : Program} {o : Oper} {a : Act} {x : World} {K : Act → World → Prop} {Q : Exit → Act → World → Prop} (s : Operand) (T : Array TypeId) {v v' : Value} {w' : World} (ho : o.op = .call { callee := .builtin .clear, args := #[s], argTypes := T }) (hs : a.eval s = v)
    (hr : (Builtin.clear_ T o.type #[v]).run P x = .ok v' w') (h : K (a.put o.dst v') w') : o.wp P a x K Q := by
  unfold Oper.wp execOp
  simp only [ho, resolve, invoke, builtin, Sem.run_bind, Sem.run_pure, Result.andThen_ok, List.map_toArray, List.map_cons, List.map_nil, hs, hr]
  exact h
theorem wp_append' {P : Program} {o : Oper} {a : Act} {x : World} {K : Act → World → Prop} {Q : Exit → Act → World → Prop} (s y : Operand) (T : Array TypeId) {v u v' : Value} {w' : World} (ho : o.op = .call { callee := .builtin .append, args := #[s, y], argTypes := T }) (hs : a.eval s = v) (hy : a.eval y = u)
    (hr : (Builtin.append_ T o.type #[v, u]).run P x = .ok v' w') (h : K (a.put o.dst v') w') : o.wp P a x K Q := by
  unfold Oper.wp execOp
  simp only [ho, resolve, invoke, builtin, Sem.run_bind, Sem.run_pure, Result.andThen_ok, List.map_toArray, List.map_cons, List.map_nil, hs, hy, hr]
  exact h
end Go.Proofs.YtgheaoaicbkaoaaGreatDoor

