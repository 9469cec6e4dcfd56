/-
  Operations with a guard, in a region that draws its order.
-/
import Derived.Test.YtafhbipafbchcaaStable
namespace AC
open Go Go.RowKit
set_option linter.unusedVariables false
set_option linter.unusedSimpArgs false

/-- One operation of a region, shut to the unifier. -/
def opOk (P : Program) (ops : Array Oper) (Q : Exit → Act → World → Prop) (i : Nat) (K : Act → World → Prop) (a : Act) (w : World) : Prop := wpOp P ops Q i K a w
theorem opOk.out {P : Program} {ops : Array Oper} {Q : Exit → Act → World → Prop} {i : Nat} {K : Act → World → Prop} {a : Act} {w : World} (h : opOk P ops Q i K a w) : wpOp P ops Q i K a w := h
theorem opOk.of {P : Program} {ops : Array Oper} {Q : Exit → Act → World → Prop} {i : Nat} {K : Act → World → Prop} {a : Act} {w : World} (h : wpOp P ops Q i K a w) : opOk P ops Q i K a w := h
attribute [irreducible] opOk

section
variable {P : Program} {ops : Array Oper} {Q : Exit → Act → World → Prop}
theorem opOk_plain {i : Nat} {o : Oper} {I : Act → World → Prop} {a : Act} {w : World} (ho : ops[i]? = some o) (hg : o.guard = none)
    (h : ∀ K : Act → World → Prop, (∀ a w, I a w → K a w) → o.wp P a w K Q) : opOk P ops Q i I a w := opOk.of (wpOp_plain ho hg h)
theorem opOk_guarded {i j : Nat} {want : Bool} {o : Oper} {I : Act → World → Prop} {a : Act} {w : World} (ho : ops[i]? = some o) (hg : o.guard = some (j, want)) (t : Nat) (hd : (ops[j]?).bind (·.dst) = some t) (hv : a.tmps[t]? = some (.bool want))
    (h : ∀ K : Act → World → Prop, (∀ a w, I a w → K a w) → o.wp P a w K Q) : opOk P ops Q i I a w := by
  refine opOk.of ?_
  have hy : yielded ops a.tmps j = some want := by
    unfold yielded
    rw [hd]
    show (match a.tmps[t]? with | some (.bool b) => some b | _ => none) = some want
    rw [hv]
  unfold wpOp
  rw [ho]
  simp only [Region.wanted, hg, hy, beq_self_eq_true, if_true]
  exact .inl (h I fun _ _ h => h)
theorem opOk_skipped {i j : Nat} {want : Bool} {o : Oper} {I : Act → World → Prop} {a : Act} {w : World} (ho : ops[i]? = some o) (hg : o.guard = some (j, want)) (t : Nat) (hd : (ops[j]?).bind (·.dst) = some t) (hv : a.tmps[t]? = some (.bool (!want)))
    (h : I (a.put o.dst undef) w) : opOk P ops Q i I a w := by
  refine opOk.of ?_
  have hy : yielded ops a.tmps j = some (!want) := by
    unfold yielded
    rw [hd]
    show (match a.tmps[t]? with | some (.bool b) => some b | _ => none) = some (!want)
    rw [hv]
  unfold wpOp
  rw [ho]
  have : (some (!want) == some want) = false := by cases want <;> rfl
  simp only [Region.wanted, hg, hy, this]
  exact h

/-- wp_region_stable without a word on where the memory of an operation lies. -/
theorem wp_region_facts {id : Nat} {a0 : Act} {w0 : World} (hm : P.follows .mixedOrders = true)
    (hlow : lowOk ops = true) (slots : List Nat) (f : Nat) (hok : (dstsOk ops slots && lastOk ops slots.length f && decide slots.Nodup && decide (slots.length ≤ ops.size)) = true)
    (F : Nat → Value → World → Prop)
    (stab : ∀ i v x x', i < slots.length → F i v x → Below x.heap.size x x' → F i v x')
    (step : ∀ (i : Nat) (o : Oper) (s : Nat → Value) (x : World), ops[i]? = some o → i < slots.length → Below w0.heap.size w0 x →
      (∀ j, ahead ops f i j = true → j < slots.length → F j (s j) x) →
      opOk P ops Q i (fun a' x' => ∃ v, a' = (putAll a0 slots 0 s).put (some (slots.getD i 0)) v ∧ F i v x' ∧ Below x.heap.size x x') (putAll a0 slots 0 s) x)
    (fin : ∀ (s : Nat → Value) (x : World), Below w0.heap.size w0 x → (∀ i, i < slots.length → F i (s i) x) → wpList P ops Q (ops.toList.drop slots.length) (putAll a0 slots 0 s) x) :
    (Code.region id ops true).wp P Q a0 w0 :=
  wp_region_stable hm hlow slots f hok (fun i _ _ v x => F i v x) (fun i _ _ v x x' hi h hb => stab i v x x' hi h hb)
    (fun i o s x ho hi hb hdep => (step i o s x ho hi hb fun j hj hjn => (hdep j hj hjn).choose_spec.choose_spec).out)
    (fun s _ _ x hb hF _ => fin s x hb fun i hi => (hF i hi).1)
end

end AC
