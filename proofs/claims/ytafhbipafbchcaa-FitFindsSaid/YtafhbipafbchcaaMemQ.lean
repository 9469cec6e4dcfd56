/-
  Words for memory: rows of rational numbers that the call makes.
-/
import Derived.Test.YtafhbipafbchcaaWalkT
namespace Go.Proofs.Ytafhbipafbchcaa
open Go.RowKit AC
set_option linter.unusedVariables false
set_option linter.unusedSimpArgs false

theorem info_rat : (Try.prog.info? 29).map (fun i => (i.zero, i.size, i.bytes)) = some (some (.agg #[.bool false, .slice none 0 0, .slice none 0 0]), 3, 56) := by kernel_rfl

/-- Block b is a row of k structs; the first n hold r 0, r 1, .. in their canonical form, in memory behind b. -/
def RowQ (w : World) (b k n : Nat) (r : Nat → Rat) : Prop :=
  ∃ f : Nat → Value, w.rowIs b 29 (k * 3) f ∧ ∀ j, j < n → ∃ s An kn cn Ad kd cd, f (j * 3) = .bool s ∧ f (j * 3 + 1) = .slice An kn cn ∧ f (j * 3 + 2) = .slice Ad kd cd ∧ RatR w (b + 1) (.agg #[.bool s, .slice An kn cn, .slice Ad kd cd]) (r j)

section
variable {w w' : World} {b k n : Nat} {r : Nat → Rat}
theorem RowQ.lt (h : RowQ w b k n r) : b < w.heap.size := by obtain ⟨f, h1, _⟩ := h; exact h1.lt
theorem RowQ.below (h : RowQ w b k n r) (hb : Below w.heap.size w w') : RowQ w' b k n r := by
  obtain ⟨f, h1, h2⟩ := h
  refine ⟨f, h1.of_block (hb.block b h1.lt), fun j hj => ?_⟩
  obtain ⟨s, An, kn, cn, Ad, kd, cd, e1, e2, e3, e4⟩ := h2 j hj
  exact ⟨s, An, kn, cn, Ad, kd, cd, e1, e2, e3, e4.below hb⟩
theorem RowQ.there (h : RowQ w b k n r) {i : Nat} (hi : i < k * 3) : ∃ u, w.cell? ⟨b, i, none⟩ = some u := by
  obtain ⟨f, h1, _⟩ := h
  exact ⟨_, h1.cell hi⟩
theorem RowQ.frozen (h : RowQ w b k n r) (i : Nat) : w.frozen? ⟨b, i, none⟩ = false := by
  obtain ⟨f, h1, _⟩ := h
  exact h1.frozen i
theorem RowQ.store (h : RowQ w b k n r) {s : Bool} {An Ad : Option Addr} {kn cn kd cd : Nat} (hr : RatR w (b + 1) (.agg #[.bool s, .slice An kn cn, .slice Ad kd cd]) (r n)) :
    RowQ (((w.setCell ⟨b, n * 3, none⟩ (.bool s)).setCell ⟨b, n * 3 + 1, none⟩ (.slice An kn cn)).setCell ⟨b, n * 3 + 2, none⟩ (.slice Ad kd cd)) b k (n + 1) r := by
  obtain ⟨f, h1, h2⟩ := h
  have keep : ∀ v q, RatR w (b + 1) v q → RatR (((w.setCell ⟨b, n * 3, none⟩ (.bool s)).setCell ⟨b, n * 3 + 1, none⟩ (.slice An kn cn)).setCell ⟨b, n * 3 + 2, none⟩ (.slice Ad kd cd)) (b + 1) v q := by
    rintro v q ⟨vn, vd, rfl, g1, g2⟩
    exact ⟨vn, vd, rfl, ((Limbs.setCell g1 (by simp) _).setCell (by simp) _).setCell (by simp) _, ((Limbs.setCell g2 (by simp) _).setCell (by simp) _).setCell (by simp) _⟩
  refine ⟨_, ((h1.set (n * 3) (.bool s)).set (n * 3 + 1) (.slice An kn cn)).set (n * 3 + 2) (.slice Ad kd cd), fun j hj => ?_⟩
  rcases Nat.lt_or_ge j n with hjn | hjn
  · obtain ⟨s', An', kn', cn', Ad', kd', cd', e1, e2, e3, e4⟩ := h2 j hjn
    refine ⟨s', An', kn', cn', Ad', kd', cd', ?_, ?_, ?_, keep _ _ e4⟩
    · rw [if_neg (by omega), if_neg (by omega), if_neg (by omega)]; exact e1
    · rw [if_neg (by omega), if_neg (by omega), if_neg (by omega)]; exact e2
    · rw [if_neg (by omega), if_neg (by omega), if_neg (by omega)]; exact e3
  · obtain rfl : j = n := by omega
    refine ⟨s, An, kn, cn, Ad, kd, cd, ?_, ?_, ?_, keep _ _ hr⟩
    · rw [if_neg (by omega), if_neg (by omega), if_pos rfl]
    · rw [if_neg (by omega), if_pos rfl]
    · rw [if_pos rfl]
theorem RowQ.toV (h : RowQ w b k n r) {lo K : Nat} (hn : n ≤ k) (hl : lo ≤ b) (hk : k ≤ 4294967296) (hK : ∀ j, j < n → sz (r j) ≤ K) : RatsV w lo (.slice (some ⟨b, 0, none⟩) n k) n K r := by
  have hlt := h.lt
  obtain ⟨f, h1, h2⟩ := h
  refine ⟨_, k, rfl, hn, by unfold maxLen; omega, fun _ => ⟨b, 0, rfl, hl, hlt, fun i hi => ?_⟩⟩
  obtain ⟨s, An, kn, cn, Ad, kd, cd, e1, e2, e3, e4⟩ := h2 i hi
  refine ⟨s, An, kn, cn, Ad, kd, cd, ?_, ?_, ?_, (e4.toV (hK i hi)).lower (by omega)⟩
  · rw [Nat.zero_add, h1.cell (by omega), e1]
  · rw [Nat.zero_add, h1.cell (by omega), e2]
  · rw [Nat.zero_add, h1.cell (by omega), e3]
end

/-- 'make([]api.Rat, n)'. -/
theorem wpList_mkQ (w : World) {ops : Array Oper} {rest : List Oper} {o : Oper} {a : Act} {Q : Exit → Act → World → Prop}
    (hg : o.guard = none) (l c : Operand) (hop : o.op = Op.makeSlice 22 l c)
    (kl kc : IntKind) (L C : Int) (n : Nat) (hl : a.eval l = .int kl L) (hc : a.eval c = .int kc C) (hL : L = (n : Int)) (hC : C = (n : Int)) (hn : n ≤ 4294967296)
    (base : Nat) (w0 : World) (hb : Below base w0 w) (hbase : base ≤ w.heap.size)
    (hK : ∀ b w', base ≤ b → w.heap.size ≤ b → (∀ r, RowQ w' b n 0 r) → Below base w0 w' → Below w.heap.size w w' → wpList Try.prog ops Q rest (a.put o.dst (.slice (some ⟨b, 0, none⟩) n n)) w') :
    wpList Try.prog ops Q (o :: rest) a w := by
  obtain ⟨i, hi, hz0, hs1, hb4⟩ := info_parts info_rat
  subst hL
  subst hC
  refine wpList_plain hg fun K hK' => ?_
  have hrun := run_make (P := Try.prog) w 22 29 i _ Try.underlying22 hi hz0 kl kc n n (by omega) (by omega) (by rw [hb4]; omega) (by omega)
  simp only [Int.toNat_natCast] at hrun
  unfold Oper.wp
  simp only [execOp, hop, hl, hc]
  simp [hrun, Result.andThen]
  refine hK' _ _ (hK _ _ hbase (Nat.le_refl _) (fun r => ?_) (hb.alloc hbase _) ((Below.refl _ _).alloc (Nat.le_refl _) _))
  refine ⟨fun j => (madeCells (Value.cells (.agg #[.bool false, .slice none 0 0, .slice none 0 0])) (n * 3))[j]?.getD undef, ⟨_, heap_alloc_new _ _, ?_, fun j hj => ?_⟩, fun j hj => absurd hj (by omega)⟩
  · rw [size_madeCells, hs1]
  · rw [hs1]
    have : j < (madeCells (Value.cells (.agg #[.bool false, .slice none 0 0, .slice none 0 0])) (n * 3)).size := by rw [size_madeCells]; exact hj
    simp only [Array.getElem?_eq_getElem this, Option.getD_some]

end Go.Proofs.Ytafhbipafbchcaa
