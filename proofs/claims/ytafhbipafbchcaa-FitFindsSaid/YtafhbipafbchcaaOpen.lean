/-
  An argument that is a list of rational numbers, read out of memory.
-/
import Derived.Test.YtafhbipafbchcaaWalkT
import Derived.Test.YtafhbipafbchcaaRows
import Derived.Deep.Slices
import Derived.Deep.Strs
import Derived.ProofKit
import Derived.OpenShut
namespace Go.Proofs.Ytafhbipafbchcaa
open Go.RowKit AC Go.ChangeShapes Go.WideShapes Go.Deep
set_option linter.unusedVariables false
set_option linter.unusedSimpArgs false

theorem cells_bool : Try.prog.cellsOf 4 = 1 := by kernel_rfl
theorem cells_u32s : Try.prog.cellsOf 27 = 1 := by kernel_rfl
theorem cells_u32 : Try.prog.cellsOf 49 = 1 := by kernel_rfl
theorem cells_rat : Try.prog.cellsOf 29 = 3 := by kernel_rfl

theorem cell_lt {w : World} {a : Addr} {v : Value} (h : w.cell? a = some v) : a.block < w.heap.size := by
  rcases Nat.lt_or_ge a.block w.heap.size with h1 | h1
  · exact h1
  · unfold World.cell? at h
    rw [Array.getElem?_eq_none h1] at h
    simp at h

section
variable {H : Type} {enc : TypeId × Value → H} {W : World} {base : Nat} {spare : Nat → Bool} {held : Bool}

/-- A list of limbs. -/
theorem open_limbs {n : Nat} {cs : List Value} {x : DataW H × List MemPlace} (h : DataW.trod enc Try.prog W base spare held n 27 cs = some x) :
    ∃ A k c f, cs = [.slice A k c] ∧ k ≤ maxLen ∧ Limbs W 0 (.slice A k c) k f := by
  rcases open_ints Try.underlying27 Try.underlying49 cells_u32 h with ⟨rfl, _⟩ | ⟨a, len, cap, zs, rfl, _, hl, hm, hz, _, hcell, hwz⟩
  · exact ⟨none, 0, 0, fun _ => 0, rfl, Nat.zero_le _, Limbs.nil _ _ _⟩
  · have hlz : len ≤ zs.length := by rw [hz]; split <;> omega
    have hb : ∀ i, i < zs.length → 0 ≤ zs.getD i 0 ∧ zs.getD i 0 ≤ 4294967295 := by
      intro i hi
      refine bounds_u32 (hwz _ ?_)
      rw [List.getD_eq_getElem?_getD, List.getElem?_eq_getElem hi]
      exact List.getElem_mem hi
    refine ⟨some a, len, cap, fun i => (zs.getD i 0).toNat, rfl, by omega, fun i hi => ?_, _, _, rfl, hl, hm, fun h0 => ?_⟩
    · have := hb i (by omega)
      show (zs.getD i 0).toNat < 4294967296
      omega
    · have h1 := hcell 0 (by omega)
      have hs : a.spot = none := by simpa [Addr.add] using World.cell?_spot h1
      obtain ⟨b, off, spot⟩ := a
      simp only at hs
      subst hs
      refine ⟨b, off, rfl, Nat.zero_le _, cell_lt h1, fun i hi => ?_⟩
      have h2 := hcell i (by omega)
      rw [Addr.add_lit] at h2
      rw [h2]
      have := hb i (by omega)
      simp only [Option.some.injEq, Value.int.injEq, true_and]
      omega

/-- A rational number. -/
theorem open_rat {n : Nat} {cs : List Value} {x : DataW H × List MemPlace} (h : DataW.trod enc Try.prog W base spare held n 29 cs = some x) :
    ∃ s An kn cn Ad kd cd q, cs = [.bool s, .slice An kn cn, .slice Ad kd cd] ∧ RatV W 0 (.agg #[.bool s, .slice An kn cn, .slice Ad kd cd]) maxLen q := by
  obtain ⟨y0, y1, y2, m, _, hl, h0, h1, h2⟩ := trod_struct3 Try.underlying29 h
  rw [cells_rat] at hl
  match cs, hl with
  | [c0, c1, c2], _ =>
    have e0 := h0
    have e1 := h1
    have e2 := h2
    simp only [cells_bool, cells_u32s, List.drop_zero, List.take_succ_cons, List.take_zero, List.drop_succ_cons] at e0 e1 e2
    obtain ⟨s, e3, _⟩ := DataW.trod_bool Try.underlying4 e0
    obtain ⟨A, k, c, f, e4, hk, hL⟩ := open_limbs e1
    obtain ⟨A', k', c', f', e5, hk', hL'⟩ := open_limbs e2
    injection e3 with e3 _
    injection e4 with e4 _
    injection e5 with e5 _
    subst e3
    subst e4
    subst e5
    exact ⟨s, A, k, c, A', k', c', _, rfl, s, k, k', f, f', _, _, rfl, hL, hL', hk, hk', rfl⟩

/-- A list of them. -/
theorem open_rats {v : Value} {d : DataW H} {p : List MemPlace} (h : DataW.Trod enc Try.prog W base spare held 22 v d p) (hv : ∃ A k c, v = .slice A k c) :
    ∃ k r, RatsV W 0 v k maxLen r := by
  obtain ⟨A, k, c, rfl⟩ := hv
  obtain ⟨fuel, hf⟩ := h
  rcases open_slice Try.underlying22 hf with ⟨hcs, _⟩ | ⟨a, len, cap, m, n, D, Pl, hcs, _, hl, hm, hmm, _, hel⟩
  · simp [Value.cells] at hcs
    obtain ⟨rfl, rfl, rfl⟩ := hcs
    exact ⟨0, fun _ => 0, none, 0, rfl, Nat.le_refl _, Nat.zero_le _, fun h => absurd h (by omega)⟩
  · simp [Value.cells] at hcs
    obtain ⟨rfl, rfl, rfl⟩ := hcs
    have hlm : k ≤ m := by rw [hmm]; split <;> omega
    have key : ∀ i, i < k → ∃ s An kn cn Ad kd cd q, W.cell? (a.add (i * 3)) = some (.bool s) ∧ W.cell? (a.add (i * 3 + 1)) = some (.slice An kn cn) ∧ W.cell? (a.add (i * 3 + 2)) = some (.slice Ad kd cd) ∧ RatV W 0 (.agg #[.bool s, .slice An kn cn, .slice Ad kd cd]) maxLen q := by
      intro i hi
      obtain ⟨cs', hc, ht⟩ := hel i (by omega)
      obtain ⟨s, An, kn, cn, Ad, kd, cd, q, rfl, hq⟩ := open_rat ht
      rw [cells_rat] at hc
      obtain ⟨_, _, hat⟩ := World.cells?_some hc
      refine ⟨s, An, kn, cn, Ad, kd, cd, q, ?_, ?_, ?_, hq⟩
      · have := hat 0 (by omega); rw [Go.Deep.add_add] at this; exact this
      · have := hat 1 (by omega); rw [Go.Deep.add_add] at this; exact this
      · have := hat 2 (by omega); rw [Go.Deep.add_add] at this; exact this
    have hq : ∃ r : Nat → Rat, ∀ i, i < k → ∃ s An kn cn Ad kd cd, W.cell? (a.add (i * 3)) = some (.bool s) ∧ W.cell? (a.add (i * 3 + 1)) = some (.slice An kn cn) ∧ W.cell? (a.add (i * 3 + 2)) = some (.slice Ad kd cd) ∧ RatV W 0 (.agg #[.bool s, .slice An kn cn, .slice Ad kd cd]) maxLen (r i) := by
      refine ⟨fun i => if hi : i < k then (key i hi).choose_spec.choose_spec.choose_spec.choose_spec.choose_spec.choose_spec.choose_spec.choose else 0, fun i hi => ?_⟩
      simp only [hi, dif_pos]
      exact ⟨_, _, _, _, _, _, _, (key i hi).choose_spec.choose_spec.choose_spec.choose_spec.choose_spec.choose_spec.choose_spec.choose_spec⟩
    obtain ⟨r, hr⟩ := hq
    refine ⟨k, r, _, _, rfl, hl, hm, fun h0 => ?_⟩
    obtain ⟨s, _, _, _, _, _, _, h1, _⟩ := hr 0 h0
    have hs : a.spot = none := by simpa [Addr.add] using World.cell?_spot h1
    obtain ⟨b, off, spot⟩ := a
    simp only at hs
    subst hs
    refine ⟨b, off, rfl, Nat.zero_le _, by have := cell_lt h1; simpa [Addr.add] using this, fun i hi => ?_⟩
    obtain ⟨s, An, kn, cn, Ad, kd, cd, h1, h2, h3, h4⟩ := hr i hi
    rw [Addr.add_lit] at h1 h2 h3
    exact ⟨s, An, kn, cn, Ad, kd, cd, h1, h2, h3, h4⟩
end
end Go.Proofs.Ytafhbipafbchcaa
