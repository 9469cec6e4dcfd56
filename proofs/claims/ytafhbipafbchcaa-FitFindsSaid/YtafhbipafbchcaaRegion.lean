/-
  A region that draws its order, by one condition for each set of operations that are done.
-/
import Derived.Test.YtafhbipafbchcaaMemB
import Derived.Orders
namespace AC
open Go Go.RowKit
set_option linter.unusedVariables false
set_option linter.unusedSimpArgs false

theorem dj {b : Bool} (e : (b || false) = true) : b = true := by simpa using e

theorem least_false (d : Nat → Bool) (n : Nat) (h : ¬ ∀ i, i < n → d i = true) : ∃ i, i < n ∧ d i = false ∧ ∀ j, j < i → d j = true := by
  induction n with
  | zero => exact absurd (fun i hi => absurd hi (by omega)) h
  | succ n ih =>
    by_cases h1 : ∀ i, i < n → d i = true
    · refine ⟨n, by omega, ?_, h1⟩
      cases hd : d n with
      | false => rfl
      | true =>
        refine absurd (fun i hi => ?_) h
        rcases Nat.lt_or_ge i n with h2 | h2
        · exact h1 i h2
        · obtain rfl : i = n := by omega
          exact hd
    · obtain ⟨i, hi, h2, h3⟩ := ih h1
      exact ⟨i, by omega, h2, h3⟩

/-- Every edge goes back. -/
def lowOk (ops : Array Oper) : Bool := (List.range ops.size).all fun i => match ops[i]? with
  | some o => o.after.all fun e => decide (e.on < i)
  | none => true
theorem lowOk_spec {ops : Array Oper} (h : lowOk ops = true) : ∀ (i : Nat) (o : Oper), ops[i]? = some o → ∀ e ∈ o.after, e.on < i := by
  intro i o ho e he
  unfold lowOk at h
  rw [List.all_eq_true] at h
  have hi : i < ops.size := (Array.getElem?_eq_some_iff.1 ho).1
  have h1 := h i (List.mem_range.2 hi)
  rw [ho] at h1
  have h2 := (Array.all_eq_true_iff_forall_mem.1 h1) e he
  simpa using h2

section
variable {P : Program} {ops : Array Oper} {Q : Exit → Act → World → Prop}

theorem ready_least {listed : Array Bool} {d : Nat → Bool} (hsz : listed.size = ops.size) (hd : ∀ i, i < ops.size → listed[i]? = some (d i))
    (hlow : ∀ (i : Nat) (o : Oper), ops[i]? = some o → ∀ e ∈ o.after, e.on < i) {i : Nat} (hi : i < ops.size) (h1 : d i = false) (h2 : ∀ j, j < i → d j = true) : i ∈ Region.ready .any ops listed := by
  unfold Region.ready
  rw [List.mem_filter]
  refine ⟨List.mem_range.2 hi, ?_⟩
  have e1 : listed.getD i true = false := by rw [Array.getD_eq_getD_getElem?, hd i hi, h1]; rfl
  obtain ⟨o, ho⟩ : ∃ o, ops[i]? = some o := ⟨ops[i], Array.getElem?_eq_getElem hi⟩
  rw [e1, ho]
  simp only [Bool.not_false, Bool.true_and, Option.map_some, Option.getD_some]
  rw [Array.all_eq_true_iff_forall_mem]
  intro e he
  have hlt := hlow i o ho e he
  have e2 : listed.getD e.on false = true := by rw [Array.getD_eq_getD_getElem?, hd e.on (by omega), h2 e.on hlt]; rfl
  rw [e2]
  simp

theorem ready_spec {listed : Array Bool} {d : Nat → Bool} (hd : ∀ i, i < ops.size → listed[i]? = some (d i)) {i : Nat} (h : i ∈ Region.ready .any ops listed) (hall : ∀ (i : Nat) (o : Oper), ops[i]? = some o → ∀ e ∈ o.after, e.on < i) :
    ∃ o, ops[i]? = some o ∧ d i = false ∧ ∀ e ∈ o.after, Region.binds .any e = true → d e.on = true := by
  unfold Region.ready at h
  rw [List.mem_filter] at h
  obtain ⟨h1, h2⟩ := h
  have hi : i < ops.size := List.mem_range.1 h1
  obtain ⟨o, ho⟩ : ∃ o, ops[i]? = some o := ⟨ops[i], Array.getElem?_eq_getElem hi⟩
  rw [ho, Array.getD_eq_getD_getElem?, hd i hi] at h2
  simp only [Option.getD_some, Option.map_some, Bool.and_eq_true, Bool.not_eq_true'] at h2
  refine ⟨o, ho, h2.1, fun e he hb => ?_⟩
  have h3 := (Array.all_eq_true_iff_forall_mem.1 h2.2) e he
  have hlt := hall i o ho e he
  rw [Array.getD_eq_getD_getElem?, hd e.on (by omega)] at h3
  simpa [hb] using h3

/-- The operations in any order: I says what holds when the operations d are done. -/
theorem wp_region_inv {id : Nat} {a : Act} {w : World} (hm : P.follows .mixedOrders = true)
    (hlow : ∀ (i : Nat) (o : Oper), ops[i]? = some o → ∀ e ∈ o.after, e.on < i) (I : (Nat → Bool) → Act → World → Prop) (h0 : I (fun _ => false) a w.drew)
    (hstep : ∀ (d : Nat → Bool) (i : Nat) (o : Oper) (a : Act) (w : World), ops[i]? = some o → d i = false → (∀ e ∈ o.after, Region.binds .any e = true → d e.on = true) → I d a w → wpOp P ops Q i (I (fun j => d j || j == i)) a w)
    (hfin : ∀ (d : Nat → Bool) (a : Act) (w : World), (∀ i, i < ops.size → d i = true) → I d a w → Q .normal a w) : (Code.region id ops true).wp P Q a w := by
  have key : ∀ (fuel : Nat) (listed : Array Bool) (d : Nat → Bool) (a : Act) (w : World), listed.size = ops.size → (∀ i, i < ops.size → listed[i]? = some (d i)) → I d a w →
      (∃ n, n + fuel = ops.size ∧ ∃ l : List Nat, l.length = n ∧ l.Nodup ∧ ∀ i ∈ l, i < ops.size ∧ d i = true) → wpAny P .any ops Q fuel listed a w := by
    intro fuel
    induction fuel with
    | zero =>
      intro listed d a w hsz hd hI hn
      obtain ⟨n, hn, l, hl, hnd, hin⟩ := hn
      have hall : ∀ i, i < ops.size → d i = true := by
        intro i hi
        cases hdi : d i with
        | true => rfl
        | false =>
          exfalso
          have hni : i ∉ l := fun h => by have := (hin i h).2; rw [hdi] at this; cases this
          have hnd2 : (i :: l).Nodup := List.nodup_cons.2 ⟨hni, hnd⟩
          have hsub : (i :: l) ⊆ List.range ops.size := by
            intro j hj
            rcases List.mem_cons.1 hj with rfl | hj
            · exact List.mem_range.2 hi
            · exact List.mem_range.2 (hin j hj).1
          have := List.Nodup.length_le_of_subset hnd2 hsub
          simp at this
          omega
      refine ⟨?_, hfin d a w hall hI⟩
      rcases hr : Region.ready .any ops listed with _ | ⟨i, rs⟩
      · rfl
      · exfalso
        obtain ⟨o, ho, hdi, _⟩ := ready_spec hd (i := i) (by rw [hr]; exact List.mem_cons_self) hlow
        have hi : i < ops.size := (Array.getElem?_eq_some_iff.1 ho).1
        rw [hall i hi] at hdi
        cases hdi
    | succ fuel ih =>
      intro listed d a w hsz hd hI hn
      refine ⟨fun hr => ?_, fun i hi => ?_⟩
      · by_cases hall : ∀ i, i < ops.size → d i = true
        · exact hfin d a w hall hI
        · exfalso
          obtain ⟨i, hi, h1, h2⟩ := least_false d ops.size hall
          have := ready_least hsz hd hlow hi h1 h2
          rw [hr] at this
          cases this
      · obtain ⟨o, ho, hdi, hed⟩ := ready_spec hd hi hlow
        have hilt : i < ops.size := (Array.getElem?_eq_some_iff.1 ho).1
        refine wpOp_mono (fun a' w' hI' => ih (listed.setIfInBounds i true) (fun j => d j || j == i) a' w' (by simpa using hsz) ?_ hI' ?_) (hstep d i o a w ho hdi hed hI)
        · intro j hj
          by_cases hij : j = i
          · subst hij
            rw [Array.getElem?_setIfInBounds_self_of_lt (by omega)]
            simp
          · rw [Array.getElem?_setIfInBounds_ne (fun e => hij e.symm), hd j hj]
            simp [hij]
        · obtain ⟨n, hn, l, hl, hnd, hin⟩ := hn
          refine ⟨n + 1, by omega, i :: l, by simp [hl], List.nodup_cons.2 ⟨fun h => ?_, hnd⟩, fun j hj => ?_⟩
          · have := (hin i h).2; rw [hdi] at this; cases this
          · rcases List.mem_cons.1 hj with rfl | hj
            · exact ⟨hilt, by simp⟩
            · exact ⟨(hin j hj).1, by simp [(hin j hj).2]⟩
  refine wp_region_any hm (key ops.size (Array.replicate ops.size false) (fun _ => false) a _ (by simp) (fun i hi => by simp [hi]) h0 ⟨0, by omega, [], rfl, List.nodup_nil, fun i hi => by cases hi⟩)

/-- One operation without a guard, the rest behind a letter. -/
theorem wpOp_plain {i : Nat} {o : Oper} {I : Act → World → Prop} {a : Act} {w : World} (ho : ops[i]? = some o) (hg : o.guard = none)
    (h : ∀ K : Act → World → Prop, (∀ a w, I a w → K a w) → o.wp P a w K Q) : wpOp P ops Q i I a w := by
  unfold wpOp
  rw [ho]
  simp only [Region.wanted, hg, if_true]
  exact .inl (h I fun _ _ h => h)
end

end AC
