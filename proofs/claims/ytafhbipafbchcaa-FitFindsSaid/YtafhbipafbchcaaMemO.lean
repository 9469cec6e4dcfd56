/-
  Words for memory: a list of numbers that the call appends to.
-/
import Derived.Test.YtafhbipafbchcaaMemP
import Derived.Deep.AppendLies
namespace Go.Proofs.Ytafhbipafbchcaa
open Go.RowKit AC
set_option linter.unusedVariables false
set_option linter.unusedSimpArgs false

/-- v is a slice of the call's own of n structs, which hold r 0, r 1, ..; the row and the numbers lie from base on, the numbers in other blocks than the row. -/
def OwnQ (w : World) (base : Nat) (v : Value) (n K : Nat) (r : Nat → Rat) : Prop :=
  ∃ xs, w.ownsRow base 29 3 v n xs ∧ ∀ j, j < n → ∃ s An kn cn Ad kd cd, xs[j * 3]? = some (.bool s) ∧ xs[j * 3 + 1]? = some (.slice An kn cn) ∧ xs[j * 3 + 2]? = some (.slice Ad kd cd) ∧ RatVP w (fun b => base ≤ b ∧ some b ≠ v.ownBlock) (.agg #[.bool s, .slice An kn cn, .slice Ad kd cd]) K (r j)

section
variable {w w' : World} {base : Nat} {v : Value} {n K : Nat} {r : Nat → Rat}
theorem OwnQ.nil (w : World) (base K : Nat) (r : Nat → Rat) : OwnQ w base (.slice none 0 0) 0 K r := ⟨[], World.ownsRow_nil _ _ _ _, fun j hj => absurd hj (by omega)⟩
theorem OwnQ.keep (h : OwnQ w base v n K r) (hs : w.heap.size ≤ w'.heap.size) (hk : ∀ b, base ≤ b → b < w.heap.size → w'.heap[b]? = w.heap[b]?) : OwnQ w' base v n K r := by
  obtain ⟨xs, h1, h2⟩ := h
  refine ⟨xs, ⟨h1.1, ?_⟩, fun j hj => ?_⟩
  · rcases h1.2 with hn | ⟨g, cap, cur, rfl, hb, hgg, rest⟩
    · exact .inl hn
    · exact .inr ⟨g, cap, cur, rfl, hb, (hk g hb (Array.getElem?_eq_some_iff.1 hgg).1).trans hgg, rest⟩
  · obtain ⟨s, An, kn, cn, Ad, kd, cd, e1, e2, e3, e4⟩ := h2 j hj
    exact ⟨s, An, kn, cn, Ad, kd, cd, e1, e2, e3, e4.keep hs fun b hb hlt => ⟨hk b hb.1 hlt, hb⟩⟩
theorem OwnQ.below (h : OwnQ w base v n K r) (hb : Below w.heap.size w w') : OwnQ w' base v n K r := h.keep hb.size fun b _ hlt => hb.block b hlt
theorem OwnQ.alloc (h : OwnQ w base v n K r) (o : Obj) : OwnQ (w.alloc o) base v n K r := h.below ((Below.refl _ _).alloc (Nat.le_refl _) o)
theorem OwnQ.congr {r' : Nat → Rat} (h : OwnQ w base v n K r) (e : ∀ j, j < n → r j = r' j) : OwnQ w base v n K r' := by
  obtain ⟨xs, h1, h2⟩ := h
  exact ⟨xs, h1, fun j hj => by rw [← e j hj]; exact h2 j hj⟩
theorem OwnQ.form (h : OwnQ w base v n K r) : ∃ A c, v = .slice A n c ∧ n ≤ c ∧ c ≤ 9223372036854775807 := by
  obtain ⟨xs, h1, _⟩ := h
  rcases h1.2 with ⟨rfl, rfl⟩ | ⟨g, cap, cur, rfl, hb, hgg, h3, h4, _⟩
  · exact ⟨none, 0, rfl, Nat.le_refl _, by omega⟩
  · unfold maxLen at h4; exact ⟨_, cap, rfl, h3, by omega⟩
theorem OwnQ.toV (h : OwnQ w base v n K r) : RatsV w base v n K r := by
  obtain ⟨xs, h1, h2⟩ := h
  have hc := fun b (hb : v.ownBlock = some b) => h1.cells hb
  have hl := h1.lt
  rcases h1.2 with ⟨rfl, rfl⟩ | ⟨g, cap, cur, rfl, hb, hgg, h3, h4, _⟩
  · exact ⟨none, 0, rfl, Nat.le_refl _, Nat.zero_le _, fun h => absurd h (by omega)⟩
  · refine ⟨_, cap, rfl, h3, h4, fun _ => ⟨g, 0, rfl, hb, (hl g rfl).2, fun i hi => ?_⟩⟩
    obtain ⟨s, An, kn, cn, Ad, kd, cd, e1, e2, e3, e4⟩ := h2 i hi
    refine ⟨s, An, kn, cn, Ad, kd, cd, ?_, ?_, ?_, RatVP.toV (e4.keep (Nat.le_refl _) fun b hb _ => ⟨rfl, hb.1⟩)⟩
    · have := hc g rfl _ _ e1; rw [Addr.add_lit] at this; exact this
    · have := hc g rfl _ _ e2; rw [Addr.add_lit, ← Nat.add_assoc] at this; exact this
    · have := hc g rfl _ _ e3; rw [Addr.add_lit, ← Nat.add_assoc] at this; exact this

/-- 'append(out, x)': the element lies in the block that was laid last. -/
theorem wpList_pushQ (wr : World) {ops : Array Oper} {rest : List Oper} {o : Oper} {a : Act} {Q : Exit → Act → World → Prop} (hgd : o.guard = none) (s x : Operand)
    (ho : o.op = .call { callee := .builtin .append, args := #[s, x], argTypes := #[22, 22] })
    (base : Nat) (v : Value) (n K : Nat) (r : Nat → Rat) (hs : a.eval s = v) (hown : OwnQ wr base v n K r)
    (sg : Bool) (An Ad : Option Addr) (kn cn kd cd lo : Nat) (hr : RatV wr lo (.agg #[.bool sg, .slice An kn cn, .slice Ad kd cd]) K (r n)) (hlo : base ≤ lo) (hfar : ∀ g, v.ownBlock = some g → g < lo)
    (hx : a.eval x = .slice (some ⟨wr.heap.size, 0, none⟩) 1 1) (w0 : World) (hb : Below base w0 wr) (hbase : base ≤ wr.heap.size) (hn : n ≤ 1000000)
    (h : ∀ v' w', OwnQ w' base v' (n + 1) K r → Below base w0 w' → (∀ g, v'.ownBlock = some g → g < w'.heap.size) → wr.heap.size ≤ w'.heap.size → (∀ b, b < wr.heap.size → some b ≠ v.ownBlock → w'.heap[b]? = wr.heap[b]?) → wpList Try.prog ops Q rest (a.put o.dst v') w') :
    wpList Try.prog ops Q (o :: rest) a (wr.alloc (.cells #[.bool sg, .slice An kn cn, .slice Ad kd cd] 29)) := by
  obtain ⟨i, hi, hz0, hs1, hb4⟩ := info_parts info_rat
  obtain ⟨xs, h1, h2⟩ := hown
  refine wpList_append_lies _ hgd s x 22 ho base 29 i _ 3 56 Try.underlying22 hi hz0 hs1 hb4 rfl (by omega) v n xs hs (h1.alloc _) ⟨wr.heap.size, 0, none⟩ 1 1 [.bool sg, .slice An kn cn, .slice Ad kd cd] hx rfl ?_ ?_ (by omega) (by unfold maxLen; omega) (by omega) (by simp; omega) (wr.heap.size + 1) (by simp) ?_
  · intro j u hu
    rw [Addr.add_lit, World.cell?_alloc_at _ _ _ _ rfl]
    rcases j with _ | _ | _ | j <;> simp at hu <;> subst hu <;> rfl
  · intro u hu
    simp at hu
    rcases hu with rfl | rfl | rfl <;> rfl
  · intro g cap w' hown' hg hgb hglt
    have hsz : wr.heap.size + 1 ≤ w'.heap.size := by have := hg.size; simpa using this
    have hold : ∀ b, b < wr.heap.size → some b ≠ v.ownBlock → w'.heap[b]? = wr.heap[b]? := by
      intro b hb hne
      exact (hg.block b (by simp; omega) hne).trans (Below.heap_alloc wr _ b hb)
    have hvlt := h1.lt
    have hne' : ∀ b, b < wr.heap.size → some b ≠ v.ownBlock → some b ≠ (Value.slice (some ⟨g, 0, none⟩) (n + 1) cap).ownBlock := by
      intro b hb hne e
      have e' : b = g := by simpa [Value.ownBlock] using e
      subst e'
      rcases hgb with h | h
      · exact hne h.symm
      · omega
    refine h _ w' ⟨xs ++ [.bool sg, .slice An kn cn, .slice Ad kd cd], hown', fun j hj => ?_⟩ ?_ ?_ (by omega) hold
    · have hxl := h1.1
      rcases Nat.lt_or_ge j n with hjn | hjn
      · obtain ⟨s, An', kn', cn', Ad', kd', cd', e1, e2, e3, e4⟩ := h2 j hjn
        refine ⟨s, An', kn', cn', Ad', kd', cd', ?_, ?_, ?_, e4.keep (by omega) fun b hb hlt => ⟨hold b hlt hb.2, hb.1, hne' b hlt hb.2⟩⟩
        · rw [List.getElem?_append_left (by omega)]; exact e1
        · rw [List.getElem?_append_left (by omega)]; exact e2
        · rw [List.getElem?_append_left (by omega)]; exact e3
      · obtain rfl : j = n := by omega
        refine ⟨sg, An, kn, cn, Ad, kd, cd, ?_, ?_, ?_, hr.toP.keep (by omega) fun b hb hlt => ?_⟩
        · rw [List.getElem?_append_right (by omega), show j * 3 - xs.length = 0 from by omega]; rfl
        · rw [List.getElem?_append_right (by omega), show j * 3 + 1 - xs.length = 1 from by omega]; rfl
        · rw [List.getElem?_append_right (by omega), show j * 3 + 2 - xs.length = 2 from by omega]; rfl
        · have hne : some b ≠ v.ownBlock := fun e => by have := hfar b e.symm; omega
          exact ⟨hold b hlt hne, by omega, hne' b hlt hne⟩
    · exact (hb.alloc hbase _).grown hg (by simp; omega) fun g' hg' => (hvlt g' hg').1
    · intro g' hg'
      have : g = g' := by simpa [Value.ownBlock] using hg'
      omega
end

/-- 'make([]api.Rat, 0, n)'. -/
theorem wpList_mkO (w : World) {ops : Array Oper} {rest : List Oper} {o : Oper} {a : Act} {Q : Exit → Act → World → Prop}
    (hg : o.guard = none) (l c : Operand) (hop : o.op = Op.makeSlice 22 l c)
    (kl kc : IntKind) (C : Int) (n : Nat) (hl : a.eval l = .int kl 0) (hc : a.eval c = .int kc C) (hC : C = (n : Int)) (hn : n ≤ 1000000)
    (base : Nat) (w0 : World) (hb : Below base w0 w) (hbase : base ≤ w.heap.size)
    (hK : ∀ v w', (∀ K r, OwnQ w' base v 0 K r) → Below base w0 w' → Below w.heap.size w w' → (∀ g, v.ownBlock = some g → g < w'.heap.size) → wpList Try.prog ops Q rest (a.put o.dst v) w') :
    wpList Try.prog ops Q (o :: rest) a w := by
  obtain ⟨i, hi, hz0, hs1, hb4⟩ := info_parts info_rat
  refine wpList_make_own w hg l c 22 hop base 29 i _ 3 Try.underlying22 hi hz0 hs1 kl kc C n hl hc hC (by rw [hb4]; omega) (by unfold maxLen; omega) hbase ?_
  intro w' hown hgr
  have hbel : Below w.heap.size w w' := (Below.refl _ _).grown hgr (Nat.le_refl _) (by simp)
  exact hK _ w' (fun K r => ⟨[], hown, fun j hj => absurd hj (by omega)⟩) (hb.grown hgr hbase (by simp)) hbel (fun g hg => (hown.lt g hg).2)

end Go.Proofs.Ytafhbipafbchcaa
