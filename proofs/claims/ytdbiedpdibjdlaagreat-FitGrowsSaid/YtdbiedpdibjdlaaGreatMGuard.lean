/-
  Operations with a guard, in a region that draws its order.
-/
import Derived.Test.YtdbiedpdibjdlaaGreatMRegion
namespace AC
open Go Go.RowKit
set_option linter.unusedVariables false
set_option linter.unusedSimpArgs false

/-- One operation of a region, shut to the unifier. -/
def opOk (P : Program) (ops : Array Oper) (Q : Exit → Act → World → Prop) (i : Nat) (K : Act → World → Prop) (a : Act) (w : World) : Prop := wpOp P ops Q i K a w
theorem opOk.out {P : Program} {ops : Array Oper} {Q : Exit → Act → World → Prop} {i : Nat} {K : Act → World → Prop} {a : Act} {w : World} (h : opOk P ops Q i K a w) : wpOp P ops Q i K a w := h
theorem opOk.of {P : Program} {ops : Array Oper} {Q : Exit → Act → World → Prop} {i : Nat} {K : Act → World → Prop} {a : Act} {w : World} (h : wpOp P ops Q i K a w) : opOk P ops Q i K a w := h
attribute [irreducible] opOk

section
variable {P : Program} {ops : Array Oper} {Q : Exit → Act → World → Prop}
theorem opOk_plain {i : Nat} {o : Oper} {I : Act → World → Prop} {a : Act} {w : World} (ho : ops[i]? = some o) (hg : o.guard = none)
    (h : ∀ K : Act → World → Prop, (∀ a w, I a w → K a w) → o.wp P a w K Q) : opOk P ops Q i I a w := opOk.of (wpOp_plain ho hg h)
theorem opOk_h {i : Nat} {o : Oper} {I : Act → World → Prop} {a : Act} {w : World} (ho : ops[i]? = some o) (hg : o.guard = none)
    (h : ∀ K : Act → World → Prop, Hid (∀ a w, I a w → K a w) → o.wp P a w K Q) : opOk P ops Q i I a w := opOk_plain ho hg h
theorem opOk_guarded {i j : Nat} {want : Bool} {o : Oper} {I : Act → World → Prop} {a : Act} {w : World} (ho : ops[i]? = some o) (hg : o.guard = some (j, want)) (t : Nat) (hd : (ops[j]?).bind (·.dst) = some t) (hv : a.tmps[t]? = some (.bool want))
    (h : ∀ K : Act → World → Prop, (∀ a w, I a w → K a w) → o.wp P a w K Q) : opOk P ops Q i I a w := by
  refine opOk.of ?_
  have hy : yielded ops a.tmps j = some want := by
    unfold yielded
    rw [hd]
    show (match a.tmps[t]? with | some (.bool b) => some b | _ => none) = some want
    rw [hv]
  unfold wpOp
  rw [ho]
  simp only [Region.wanted, hg, hy, beq_self_eq_true, if_true]
  exact .inl (h I fun _ _ h => h)
theorem opOk_skipped {i j : Nat} {want : Bool} {o : Oper} {I : Act → World → Prop} {a : Act} {w : World} (ho : ops[i]? = some o) (hg : o.guard = some (j, want)) (t : Nat) (hd : (ops[j]?).bind (·.dst) = some t) (hv : a.tmps[t]? = some (.bool (!want)))
    (h : I (a.put o.dst undef) w) : opOk P ops Q i I a w := by
  refine opOk.of ?_
  have hy : yielded ops a.tmps j = some (!want) := by
    unfold yielded
    rw [hd]
    show (match a.tmps[t]? with | some (.bool b) => some b | _ => none) = some (!want)
    rw [hv]
  unfold wpOp
  rw [ho]
  have : (some (!want) == some want) = false := by cases want <;> rfl
  simp only [Region.wanted, hg, hy, this]
  exact h

/-- wp_region_stable without a word on where the memory of an operation lies. -/
theorem wp_region_facts {id : Nat} {a0 : Act} {w0 : World} (hm : P.follows .mixedOrders = true)
    (hlow : lowOk ops = true) (slots : List Nat) (f : Nat) (hok : (dstsOk ops slots && lastOk ops slots.length f && decide slots.Nodup && decide (slots.length ≤ ops.size)) = true)
    (F : Nat → Value → World → Prop)
    (stab : ∀ i v x x', i < slots.length → F i v x → Below x.heap.size x x' → F i v x')
    (step : ∀ (i : Nat) (o : Oper) (s : Nat → Value) (x : World), ops[i]? = some o → i < slots.length → Below w0.heap.size w0 x →
      (∀ j, ahead ops f i j = true → j < slots.length → F j (s j) x) →
      opOk P ops Q i (fun a' x' => ∃ v, a' = (putAll a0 slots 0 s).put (some (slots.getD i 0)) v ∧ F i v x' ∧ Below x.heap.size x x') (putAll a0 slots 0 s) x)
    (fin : ∀ (s : Nat → Value) (x : World), Below w0.heap.size w0 x → (∀ i, i < slots.length → F i (s i) x) → wpList P ops Q (ops.toList.drop slots.length) (putAll a0 slots 0 s) x) :
    (Code.region id ops true).wp P Q a0 w0 :=
  wp_region_stable hm hlow slots f hok (fun i _ _ v x => F i v x) (fun i _ _ v x x' hi h hb => stab i v x x' hi h hb)
    (fun i o s x ho hi hb hdep => (step i o s x ho hi hb fun j hj hjn => (hdep j hj hjn).choose_spec.choose_spec).out)
    (fun s _ _ x hb hF _ => fin s x hb fun i hi => (hF i hi).1)
end

end AC

/-
  A region that draws its order: each operation but the last ones leaves a fact; a fact stays under the operations that do not stand ahead of its own.
-/
namespace AC
open Go Go.RowKit
set_option linter.unusedVariables false
set_option linter.unusedSimpArgs false

theorem nv : (∀ (a : Act) (k : Nat) (s : Nat → Value), putAll a [] k s = a) ∧ (∀ (a : Act) (t : Nat) (r : List Nat) (k : Nat) (s : Nat → Value), putAll a (t :: r) k s = putAll (a.put (some t) (s k)) r (k + 1) s) ∧
    (∀ (l : List Value) (d) (i : Nat) (v : Value), Act.put ⟨l.toArray, d⟩ (some i) v = ⟨(l.set i v).toArray, d⟩) ∧ (∀ (x y : Value) (l : List Value) (i : Nat), (x :: l).set (i + 1) y = x :: l.set i y) ∧ (∀ (x y : Value) (l : List Value), (x :: l).set 0 y = y :: l) ∧
    (∀ (x y : Nat) (l : List Nat), (x :: l).getD 0 y = x) ∧ (∀ (x y i : Nat) (l : List Nat), (x :: l).getD (i + 1) y = l.getD i y) ∧ (∀ n : Nat, 0 + n = n) :=
  ⟨fun _ _ _ => rfl, fun _ _ _ _ _ => rfl, fun l d i v => by simp [Act.put], fun _ _ _ _ => rfl, fun _ _ _ => rfl, fun _ _ _ => rfl, fun _ _ _ _ => rfl, Nat.zero_add⟩

section
variable {P : Program} {ops : Array Oper} {Q : Exit → Act → World → Prop}
/-- What holds of the first operations. -/
def RlI (a0 : Act) (R : (Nat → Bool) → World → Prop) (slots : List Nat) (F : Nat → Value → World → Prop) (d : Nat → Bool) (a : Act) (x : World) : Prop :=
  ∃ (s : Nat → Value), a = putAll a0 slots 0 s ∧ R d x ∧ ∀ i, i < slots.length → d i = true → F i (s i) x

theorem wp_region_rel {id : Nat} {a0 : Act} {w0 : World} (hm : P.follows .mixedOrders = true)
    (hlow : lowOk ops = true) (slots : List Nat) (f : Nat) (hok : (dstsOk ops slots && lastOk ops slots.length f && decide slots.Nodup && decide (slots.length ≤ ops.size)) = true)
    (R : (Nat → Bool) → World → Prop) (G : Nat → World → World → Prop) (F : Nat → Value → World → Prop) (h0 : R (fun _ => false) w0.drew) (hR : ∀ d j x x', R d x → d j = false → G j x x' → R (fun k => d k || k == j) x')
    (stab : ∀ i j v x x', i < slots.length → j < slots.length → i ≠ j → ahead ops f i j = false → F i v x → G j x x' → F i v x')
    (step : ∀ (i : Nat) (o : Oper) (s : Nat → Value) (d : Nat → Bool) (x : World), ops[i]? = some o → i < slots.length → d i = false → R d x →
      (∀ j, ahead ops f i j = true → j < slots.length → F j (s j) x) →
      opOk P ops Q i (fun a' x' => ∃ v, a' = (putAll a0 slots 0 s).put (some (slots.getD i 0)) v ∧ F i v x' ∧ G i x x') (putAll a0 slots 0 s) x)
    (fin : ∀ (s : Nat → Value) (d : Nat → Bool) (x : World), R d x → (∀ i, i < slots.length → F i (s i) x) → wpList P ops Q (ops.toList.drop slots.length) (putAll a0 slots 0 s) x) :
    (Code.region id ops true).wp P Q a0 w0 := by
  simp only [Bool.and_eq_true, decide_eq_true_eq] at hok
  obtain ⟨⟨⟨hdst, hlast⟩, hnd⟩, hsz⟩ := hok
  have hl := lowOk_spec hlow
  have hlast' : ∀ i, i < ops.size → slots.length ≤ i → ∀ j, j < i → ahead ops f i j = true := by
    intro i hi hn j hj
    have h1 := List.all_eq_true.1 hlast i (List.mem_range.2 hi)
    simp only [Bool.or_eq_true, decide_eq_true_eq] at h1
    rcases h1 with h1 | h1
    · omega
    · exact List.all_eq_true.1 h1 j (List.mem_range.2 hj)
  refine wp_region_inv hm hl (fun d a x => (∀ (i : Nat) (o : Oper), ops[i]? = some o → d i = true → ∀ e ∈ o.after, Region.binds .any e = true → d e.on = true) ∧
    (((∀ j, slots.length ≤ j → d j = false) ∧ RlI a0 R slots F d a x) ∨ (∃ k, slots.length < k ∧ (∀ j, d j = decide (j < k)) ∧ wpList P ops Q (ops.toList.drop k) a x))) ?_ ?_ ?_
  · refine ⟨(fun i o _ h => by cases h), .inl ⟨fun _ _ => rfl, ?_⟩⟩
    obtain ⟨s, hs⟩ := putAll_self slots a0 0 hnd
    exact ⟨s, hs.symm, h0, fun i _ h => by cases h⟩
  · rintro d i o a x ho hdi hed ⟨hcl, hI⟩
    have hi : i < ops.size := (Array.getElem?_eq_some_iff.1 ho).1
    have hcl' : ∀ (k : Nat) (o' : Oper), ops[k]? = some o' → (d k || k == i) = true → ∀ e ∈ o'.after, Region.binds .any e = true → (d e.on || e.on == i) = true := by
      intro k o' ho' hk e he hb
      rw [Bool.or_eq_true] at hk ⊢
      rcases hk with hk | hk
      · exact .inl (hcl k o' ho' hk e he hb)
      · have : k = i := by simpa using hk
        subst this
        rw [ho] at ho'
        injection ho' with ho'
        subst ho'
        exact .inl (hed e he hb)
    rcases Nat.lt_or_ge i slots.length with hin | hin
    · rcases hI with ⟨hnone, s, rfl, hbx, hF⟩ | ⟨k, hk, hdk, hw⟩
      · refine wpOp_mono ?_ (step i o s d x ho hin hdi hbx fun j hj hjn => hF j hjn (ahead_done hcl f i j o ho hed hj)).out
        rintro a' x' ⟨v, rfl, hFi, hb'⟩
        refine ⟨hcl', .inl ⟨fun j hj => ?_, ?_⟩⟩
        · have : (j == i) = false := by rw [beq_eq_false_iff_ne]; omega
          show (d j || j == i) = false
          rw [hnone j hj, this]; rfl
        · refine ⟨fun j => if j = i then v else s j, ?_, hR d i x x' hbx hdi hb', ?_⟩
          · have ht : slots[i]? = some (slots.getD i 0) := by rw [List.getD_eq_getElem?_getD, List.getElem?_eq_getElem hin]; rfl
            rw [putAll_upd slots a0 0 i s (slots.getD i 0) v hnd ht, Nat.zero_add]
          · intro j hj hdj
            by_cases hji : j = i
            · subst hji
              simp only [if_true]
              exact hFi
            · simp only [if_neg hji]
              have hdj' : d j = true := by
                rw [Bool.or_eq_true] at hdj
                rcases hdj with h | h
                · exact h
                · exact absurd (by simpa using h) hji
              refine stab j i _ x x' hj hin hji ?_ (hF j hj hdj') hb'
              cases ha : ahead ops f j i with
              | false => rfl
              | true =>
                exfalso
                have hjs : j < ops.size := by omega
                have hoj : ops[j]? = some ops[j] := Array.getElem?_eq_getElem hjs
                have := ahead_done hcl f j i _ hoj (hcl j _ hoj hdj') ha
                rw [hdi] at this
                cases this
      · rw [hdk i] at hdi
        simp at hdi
        omega
    · have hall : ∀ j, j < i → d j = true := fun j hj => ahead_done hcl f i j o ho hed (hlast' i hi hin j hj)
      have key : ∃ w', w' = wpList P ops Q (ops.toList.drop i) a x ∧ w' := by
        refine ⟨_, rfl, ?_⟩
        rcases hI with ⟨hnone, s, rfl, hbx, hF⟩ | ⟨k, hk, hdk, hw⟩
        · have hin' : i = slots.length := by
            rcases Nat.lt_or_ge slots.length i with h | h
            · have := hall slots.length h; rw [hnone _ (Nat.le_refl _)] at this; cases this
            · omega
          rw [hin']
          exact fin s d x hbx fun j hj => hF j hj (hall j (by omega))
        · have : i = k := by
            rcases Nat.lt_trichotomy i k with h | h | h
            · rw [hdk i] at hdi; simp at hdi; omega
            · exact h
            · have := hall k h; rw [hdk k] at this; simp at this
          rw [this]; exact hw
      obtain ⟨_, rfl, key⟩ := key
      rw [drop_at ho] at key
      refine wpOp_mono ?_ (wpOp_of_wpList ho key)
      intro a' x' hw
      refine ⟨hcl', .inr ⟨i + 1, by omega, fun j => ?_, hw⟩⟩
      show (d j || j == i) = _
      rcases Nat.lt_trichotomy j i with h | h | h
      · rw [hall j h]; simp; omega
      · subst h; simp
      · have hdj : d j = false := by
          rcases hI with ⟨hnone, _⟩ | ⟨k, hk, hdk, hw⟩
          · exact hnone j (by omega)
          · rw [hdk i] at hdi; rw [hdk j]; simp at hdi ⊢; omega
        rw [hdj]
        have : (j == i) = false := by rw [beq_eq_false_iff_ne]; omega
        rw [this]; simp; omega
  · rintro d a x hall ⟨hcl, hI⟩
    rcases hI with ⟨hnone, s, rfl, hbx, hF⟩ | ⟨k, hk, hdk, hw⟩
    · have hn : slots.length = ops.size := by
        rcases Nat.lt_or_ge slots.length ops.size with h | h
        · have := hall _ h; rw [hnone _ (Nat.le_refl _)] at this; cases this
        · omega
      have := fin s d x hbx fun j hj => hF j hj (hall j (by omega))
      rw [hn, List.drop_of_length_le (by simp)] at this
      exact this
    · have hks : ops.size ≤ k := by
        rcases Nat.lt_or_ge k ops.size with h | h
        · have := hall k h; rw [hdk k] at this; simp at this
        · exact h
      rw [List.drop_of_length_le (by simpa using hks)] at hw
      exact hw
end

end AC

