/-
  A region that draws its order, by one condition for each set of operations that are done.
-/
import Derived.Test.YtdbiedpdibjdlaaGreatMWalkA
import Derived.Orders
namespace AC
open Go Go.RowKit
set_option linter.unusedVariables false
set_option linter.unusedSimpArgs false

theorem dj {b : Bool} (e : (b || false) = true) : b = true := by simpa using e

theorem least_false (d : Nat → Bool) (n : Nat) (h : ¬ ∀ i, i < n → d i = true) : ∃ i, i < n ∧ d i = false ∧ ∀ j, j < i → d j = true := by
  induction n with
  | zero => exact absurd (fun i hi => absurd hi (by omega)) h
  | succ n ih =>
    by_cases h1 : ∀ i, i < n → d i = true
    · refine ⟨n, by omega, ?_, h1⟩
      cases hd : d n with
      | false => rfl
      | true =>
        refine absurd (fun i hi => ?_) h
        rcases Nat.lt_or_ge i n with h2 | h2
        · exact h1 i h2
        · obtain rfl : i = n := by omega
          exact hd
    · obtain ⟨i, hi, h2, h3⟩ := ih h1
      exact ⟨i, by omega, h2, h3⟩

/-- Every edge goes back. -/
def lowOk (ops : Array Oper) : Bool := (List.range ops.size).all fun i => match ops[i]? with
  | some o => o.after.all fun e => decide (e.on < i)
  | none => true
theorem lowOk_spec {ops : Array Oper} (h : lowOk ops = true) : ∀ (i : Nat) (o : Oper), ops[i]? = some o → ∀ e ∈ o.after, e.on < i := by
  intro i o ho e he
  unfold lowOk at h
  rw [List.all_eq_true] at h
  have hi : i < ops.size := (Array.getElem?_eq_some_iff.1 ho).1
  have h1 := h i (List.mem_range.2 hi)
  rw [ho] at h1
  have h2 := (Array.all_eq_true_iff_forall_mem.1 h1) e he
  simpa using h2

section
variable {P : Program} {ops : Array Oper} {Q : Exit → Act → World → Prop}

theorem ready_least {listed : Array Bool} {d : Nat → Bool} (hsz : listed.size = ops.size) (hd : ∀ i, i < ops.size → listed[i]? = some (d i))
    (hlow : ∀ (i : Nat) (o : Oper), ops[i]? = some o → ∀ e ∈ o.after, e.on < i) {i : Nat} (hi : i < ops.size) (h1 : d i = false) (h2 : ∀ j, j < i → d j = true) : i ∈ Region.ready .any ops listed := by
  unfold Region.ready
  rw [List.mem_filter]
  refine ⟨List.mem_range.2 hi, ?_⟩
  have e1 : listed.getD i true = false := by rw [Array.getD_eq_getD_getElem?, hd i hi, h1]; rfl
  obtain ⟨o, ho⟩ : ∃ o, ops[i]? = some o := ⟨ops[i], Array.getElem?_eq_getElem hi⟩
  rw [e1, ho]
  simp only [Bool.not_false, Bool.true_and, Option.map_some, Option.getD_some]
  rw [Array.all_eq_true_iff_forall_mem]
  intro e he
  have hlt := hlow i o ho e he
  have e2 : listed.getD e.on false = true := by rw [Array.getD_eq_getD_getElem?, hd e.on (by omega), h2 e.on hlt]; rfl
  rw [e2]
  simp

theorem ready_spec {listed : Array Bool} {d : Nat → Bool} (hd : ∀ i, i < ops.size → listed[i]? = some (d i)) {i : Nat} (h : i ∈ Region.ready .any ops listed) (hall : ∀ (i : Nat) (o : Oper), ops[i]? = some o → ∀ e ∈ o.after, e.on < i) :
    ∃ o, ops[i]? = some o ∧ d i = false ∧ ∀ e ∈ o.after, Region.binds .any e = true → d e.on = true := by
  unfold Region.ready at h
  rw [List.mem_filter] at h
  obtain ⟨h1, h2⟩ := h
  have hi : i < ops.size := List.mem_range.1 h1
  obtain ⟨o, ho⟩ : ∃ o, ops[i]? = some o := ⟨ops[i], Array.getElem?_eq_getElem hi⟩
  rw [ho, Array.getD_eq_getD_getElem?, hd i hi] at h2
  simp only [Option.getD_some, Option.map_some, Bool.and_eq_true, Bool.not_eq_true'] at h2
  refine ⟨o, ho, h2.1, fun e he hb => ?_⟩
  have h3 := (Array.all_eq_true_iff_forall_mem.1 h2.2) e he
  have hlt := hall i o ho e he
  rw [Array.getD_eq_getD_getElem?, hd e.on (by omega)] at h3
  simpa [hb] using h3

/-- The operations in any order: I says what holds when the operations d are done. -/
theorem wp_region_inv {id : Nat} {a : Act} {w : World} (hm : P.follows .mixedOrders = true)
    (hlow : ∀ (i : Nat) (o : Oper), ops[i]? = some o → ∀ e ∈ o.after, e.on < i) (I : (Nat → Bool) → Act → World → Prop) (h0 : I (fun _ => false) a w.drew)
    (hstep : ∀ (d : Nat → Bool) (i : Nat) (o : Oper) (a : Act) (w : World), ops[i]? = some o → d i = false → (∀ e ∈ o.after, Region.binds .any e = true → d e.on = true) → I d a w → wpOp P ops Q i (I (fun j => d j || j == i)) a w)
    (hfin : ∀ (d : Nat → Bool) (a : Act) (w : World), (∀ i, i < ops.size → d i = true) → I d a w → Q .normal a w) : (Code.region id ops true).wp P Q a w := by
  have key : ∀ (fuel : Nat) (listed : Array Bool) (d : Nat → Bool) (a : Act) (w : World), listed.size = ops.size → (∀ i, i < ops.size → listed[i]? = some (d i)) → I d a w →
      (∃ n, n + fuel = ops.size ∧ ∃ l : List Nat, l.length = n ∧ l.Nodup ∧ ∀ i ∈ l, i < ops.size ∧ d i = true) → wpAny P .any ops Q fuel listed a w := by
    intro fuel
    induction fuel with
    | zero =>
      intro listed d a w hsz hd hI hn
      obtain ⟨n, hn, l, hl, hnd, hin⟩ := hn
      have hall : ∀ i, i < ops.size → d i = true := by
        intro i hi
        cases hdi : d i with
        | true => rfl
        | false =>
          exfalso
          have hni : i ∉ l := fun h => by have := (hin i h).2; rw [hdi] at this; cases this
          have hnd2 : (i :: l).Nodup := List.nodup_cons.2 ⟨hni, hnd⟩
          have hsub : (i :: l) ⊆ List.range ops.size := by
            intro j hj
            rcases List.mem_cons.1 hj with rfl | hj
            · exact List.mem_range.2 hi
            · exact List.mem_range.2 (hin j hj).1
          have := List.Nodup.length_le_of_subset hnd2 hsub
          simp at this
          omega
      refine ⟨?_, hfin d a w hall hI⟩
      rcases hr : Region.ready .any ops listed with _ | ⟨i, rs⟩
      · rfl
      · exfalso
        obtain ⟨o, ho, hdi, _⟩ := ready_spec hd (i := i) (by rw [hr]; exact List.mem_cons_self) hlow
        have hi : i < ops.size := (Array.getElem?_eq_some_iff.1 ho).1
        rw [hall i hi] at hdi
        cases hdi
    | succ fuel ih =>
      intro listed d a w hsz hd hI hn
      refine ⟨fun hr => ?_, fun i hi => ?_⟩
      · by_cases hall : ∀ i, i < ops.size → d i = true
        · exact hfin d a w hall hI
        · exfalso
          obtain ⟨i, hi, h1, h2⟩ := least_false d ops.size hall
          have := ready_least hsz hd hlow hi h1 h2
          rw [hr] at this
          cases this
      · obtain ⟨o, ho, hdi, hed⟩ := ready_spec hd hi hlow
        have hilt : i < ops.size := (Array.getElem?_eq_some_iff.1 ho).1
        refine wpOp_mono (fun a' w' hI' => ih (listed.setIfInBounds i true) (fun j => d j || j == i) a' w' (by simpa using hsz) ?_ hI' ?_) (hstep d i o a w ho hdi hed hI)
        · intro j hj
          by_cases hij : j = i
          · subst hij
            rw [Array.getElem?_setIfInBounds_self_of_lt (by omega)]
            simp
          · rw [Array.getElem?_setIfInBounds_ne (fun e => hij e.symm), hd j hj]
            simp [hij]
        · obtain ⟨n, hn, l, hl, hnd, hin⟩ := hn
          refine ⟨n + 1, by omega, i :: l, by simp [hl], List.nodup_cons.2 ⟨fun h => ?_, hnd⟩, fun j hj => ?_⟩
          · have := (hin i h).2; rw [hdi] at this; cases this
          · rcases List.mem_cons.1 hj with rfl | hj
            · exact ⟨hilt, by simp⟩
            · exact ⟨(hin j hj).1, by simp [(hin j hj).2]⟩
  refine wp_region_any hm (key ops.size (Array.replicate ops.size false) (fun _ => false) a _ (by simp) (fun i hi => by simp [hi]) h0 ⟨0, by omega, [], rfl, List.nodup_nil, fun i hi => by cases hi⟩)

/-- One operation without a guard, the rest behind a letter. -/
theorem wpOp_plain {i : Nat} {o : Oper} {I : Act → World → Prop} {a : Act} {w : World} (ho : ops[i]? = some o) (hg : o.guard = none)
    (h : ∀ K : Act → World → Prop, (∀ a w, I a w → K a w) → o.wp P a w K Q) : wpOp P ops Q i I a w := by
  unfold wpOp
  rw [ho]
  simp only [Region.wanted, hg, if_true]
  exact .inl (h I fun _ _ h => h)
end

end AC

/-
  A region that draws its order: its operations but the last ones only read or make new memory, and each leaves a fact that stays; the last ones stand behind all others.
-/
namespace AC
open Go Go.RowKit
set_option linter.unusedVariables false
set_option linter.unusedSimpArgs false

/-- The frame with the slots of a list filled. -/
def putAll : Act → List Nat → Nat → (Nat → Value) → Act
  | a, [], _, _ => a
  | a, t :: r, k, s => putAll (a.put (some t) (s k)) r (k + 1) s

theorem putAll_same {a : Act} : ∀ (l : List Nat) (k : Nat) (s s' : Nat → Value), (∀ i, k ≤ i → i < k + l.length → s i = s' i) → putAll a l k s = putAll a l k s'
  | [], _, _, _, _ => rfl
  | t :: r, k, s, s', h => by
    unfold putAll
    rw [h k (Nat.le_refl _) (by simp), putAll_same r (k + 1) s s' fun i h1 h2 => h i (by omega) (by simp; omega)]

theorem putAll_put : ∀ (l : List Nat) (a : Act) (k : Nat) (s : Nat → Value) (t : Nat) (v : Value), t ∉ l → (putAll a l k s).put (some t) v = putAll (a.put (some t) v) l k s
  | [], _, _, _, _, _, _ => rfl
  | u :: r, a, k, s, t, v, h => by
    unfold putAll
    rw [putAll_put r _ (k + 1) s t v (fun hm => h (List.mem_cons_of_mem _ hm))]
    rw [Act.put_comm a (s k) v (x := some u) (y := some t) (fun d e e' => by
      injection e with e; injection e' with e'; subst e; subst e'; exact h List.mem_cons_self)]

theorem act_put_put (a : Act) (t : Nat) (u v : Value) : (a.put (some t) u).put (some t) v = a.put (some t) v := by
  unfold Act.put
  simp

theorem putAll_upd : ∀ (l : List Nat) (a : Act) (k i : Nat) (s : Nat → Value) (t : Nat) (v : Value), l.Nodup → l[i]? = some t →
    (putAll a l k s).put (some t) v = putAll a l k (fun j => if j = k + i then v else s j)
  | [], _, _, _, _, _, _, _, h => by simp at h
  | u :: r, a, k, 0, s, t, v, hn, h => by
    simp only [List.getElem?_cons_zero, Option.some.injEq] at h
    subst h
    unfold putAll
    have e : (fun j => if j = k + 0 then v else s j) k = v := if_pos rfl
    rw [putAll_put r _ (k + 1) s u v (List.nodup_cons.1 hn).1, act_put_put, e]
    exact putAll_same r (k + 1) _ _ fun i h1 _ => (if_neg (by omega)).symm
  | u :: r, a, k, i + 1, s, t, v, hn, h => by
    unfold putAll
    rw [List.getElem?_cons_succ] at h
    have e : (fun j => if j = k + (i + 1) then v else s j) k = s k := if_neg (by omega)
    rw [putAll_upd r _ (k + 1) i s t v (List.nodup_cons.1 hn).2 h, e]
    exact putAll_same r (k + 1) _ _ fun j _ _ => by
      rw [show k + 1 + i = k + (i + 1) from by omega]

theorem putAll_self : ∀ (l : List Nat) (a : Act) (k : Nat), l.Nodup → ∃ s, putAll a l k s = a
  | [], a, k, _ => ⟨fun _ => undef, rfl⟩
  | t :: r, a, k, hn => by
    obtain ⟨s, hs⟩ := putAll_self r (a.put (some t) (a.tmps.getD t undef)) (k + 1) (List.nodup_cons.1 hn).2
    refine ⟨fun j => if j = k then a.tmps.getD t undef else s j, ?_⟩
    unfold putAll
    have e : (fun j => if j = k then a.tmps.getD t undef else s j) k = a.tmps.getD t undef := if_pos rfl
    rw [e, putAll_same r (k + 1) _ s (fun i h1 _ => if_neg (by omega)), hs]
    unfold Act.put
    have : a.tmps.setIfInBounds t (a.tmps.getD t undef) = a.tmps := by
      apply Array.ext_getElem?
      intro j
      by_cases hj : j = t
      · subst hj
        by_cases hlt : j < a.tmps.size
        · rw [Array.getElem?_setIfInBounds_self_of_lt hlt, Array.getD_eq_getD_getElem?, Array.getElem?_eq_getElem hlt]; rfl
        · rw [Array.getElem?_eq_none (by simpa using hlt), Array.getElem?_eq_none (by simpa using hlt)]
      · rw [Array.getElem?_setIfInBounds_ne (fun e => hj e.symm)]
    simp only [this]

/-- j stands ahead of i in every order (by at most f steps). -/
def ahead (ops : Array Oper) : Nat → Nat → Nat → Bool
  | 0, _, _ => false
  | f + 1, i, j => match ops[i]? with
    | some o => o.after.any fun e => Region.binds .any e && (e.on == j || ahead ops f e.on j)
    | none => false
def lastOk (ops : Array Oper) (n f : Nat) : Bool :=
  (List.range ops.size).all fun i => decide (i < n) || (List.range i).all fun j => ahead ops f i j
def dstsOk (ops : Array Oper) (slots : List Nat) : Bool :=
  (List.range slots.length).all fun i => match ops[i]? with
    | some o => decide (o.dst = slots[i]?)
    | none => false

theorem ahead_done {ops : Array Oper} {d : Nat → Bool} (hcl : ∀ (i : Nat) (o : Oper), ops[i]? = some o → d i = true → ∀ e ∈ o.after, Region.binds .any e = true → d e.on = true) :
    ∀ (f i j : Nat) (o : Oper), ops[i]? = some o → (∀ e ∈ o.after, Region.binds .any e = true → d e.on = true) → ahead ops f i j = true → d j = true
  | 0, _, _, _, _, _, h => by simp [ahead] at h
  | f + 1, i, j, o, ho, hp, h => by
    unfold ahead at h
    rw [ho] at h
    obtain ⟨e, he, h2⟩ := Array.any_eq_true'.1 h
    simp only [Bool.and_eq_true, Bool.or_eq_true, beq_iff_eq] at h2
    have hde := hp e he h2.1
    rcases h2.2 with h3 | h3
    · rw [← h3]; exact hde
    · cases ho' : ops[e.on]? with
      | none => cases f with
        | zero => simp [ahead] at h3
        | succ f => simp [ahead, ho'] at h3
      | some o' => exact ahead_done hcl f e.on j o' ho' (fun e' he' hb' => hcl e.on o' ho' hde e' he' hb') h3

section
variable {P : Program} {ops : Array Oper} {Q : Exit → Act → World → Prop}

theorem wpOp_of_wpList {i : Nat} {o : Oper} {rest : List Oper} {a : Act} {w : World} (ho : ops[i]? = some o) (h : wpList P ops Q (o :: rest) a w) : wpOp P ops Q i (wpList P ops Q rest) a w := by
  unfold wpOp
  rw [ho]
  exact h

theorem drop_at {ops : Array Oper} {i : Nat} {o : Oper} (ho : ops[i]? = some o) : ops.toList.drop i = o :: ops.toList.drop (i + 1) := by
  obtain ⟨hi, e⟩ := Array.getElem?_eq_some_iff.1 ho
  rw [List.drop_eq_getElem_cons (by simpa using hi)]
  congr 1

/-- What holds of the first operations. -/
def StI (a0 : Act) (w0 : World) (slots : List Nat) (F : Nat → Nat → Nat → Value → World → Prop) (d : Nat → Bool) (a : Act) (x : World) : Prop :=
  ∃ (s : Nat → Value) (lo hi : Nat → Nat), a = putAll a0 slots 0 s ∧ Below w0.heap.size w0 x ∧ (∀ i, i < slots.length → d i = true → F i (lo i) (hi i) (s i) x ∧ w0.heap.size ≤ lo i ∧ lo i ≤ hi i ∧ hi i ≤ x.heap.size) ∧
    ∀ i j, i < slots.length → j < slots.length → i ≠ j → d i = true → d j = true → hi i ≤ lo j ∨ hi j ≤ lo i

theorem wp_region_stable {id : Nat} {a0 : Act} {w0 : World} (hm : P.follows .mixedOrders = true)
    (hlow : lowOk ops = true) (slots : List Nat) (f : Nat) (hok : (dstsOk ops slots && lastOk ops slots.length f && decide slots.Nodup && decide (slots.length ≤ ops.size)) = true)
    (F : Nat → Nat → Nat → Value → World → Prop)
    (stab : ∀ i lo hi v x x', i < slots.length → F i lo hi v x → Below x.heap.size x x' → F i lo hi v x')
    (step : ∀ (i : Nat) (o : Oper) (s : Nat → Value) (x : World), ops[i]? = some o → i < slots.length → Below w0.heap.size w0 x →
      (∀ j, ahead ops f i j = true → j < slots.length → ∃ lo hi, F j lo hi (s j) x) →
      wpOp P ops Q i (fun a' x' => ∃ v, a' = (putAll a0 slots 0 s).put (some (slots.getD i 0)) v ∧ F i x.heap.size x'.heap.size v x' ∧ Below x.heap.size x x') (putAll a0 slots 0 s) x)
    (fin : ∀ (s : Nat → Value) (lo hi : Nat → Nat) (x : World), Below w0.heap.size w0 x → (∀ i, i < slots.length → F i (lo i) (hi i) (s i) x ∧ w0.heap.size ≤ lo i ∧ lo i ≤ hi i ∧ hi i ≤ x.heap.size) →
      (∀ i j, i < slots.length → j < slots.length → i ≠ j → hi i ≤ lo j ∨ hi j ≤ lo i) → wpList P ops Q (ops.toList.drop slots.length) (putAll a0 slots 0 s) x) :
    (Code.region id ops true).wp P Q a0 w0 := by
  simp only [Bool.and_eq_true, decide_eq_true_eq] at hok
  obtain ⟨⟨⟨hdst, hlast⟩, hnd⟩, hsz⟩ := hok
  have hl := lowOk_spec hlow
  have hlast' : ∀ i, i < ops.size → slots.length ≤ i → ∀ j, j < i → ahead ops f i j = true := by
    intro i hi hn j hj
    have h1 := List.all_eq_true.1 hlast i (List.mem_range.2 hi)
    simp only [Bool.or_eq_true, decide_eq_true_eq] at h1
    rcases h1 with h1 | h1
    · omega
    · exact List.all_eq_true.1 h1 j (List.mem_range.2 hj)
  have hdst' : ∀ i o, i < slots.length → ops[i]? = some o → o.dst = slots[i]? := by
    intro i o hi ho
    have h1 := List.all_eq_true.1 hdst i (List.mem_range.2 hi)
    rw [ho] at h1
    simpa using h1
  refine wp_region_inv hm hl (fun d a x => (∀ (i : Nat) (o : Oper), ops[i]? = some o → d i = true → ∀ e ∈ o.after, Region.binds .any e = true → d e.on = true) ∧
    (((∀ j, slots.length ≤ j → d j = false) ∧ StI a0 w0 slots F d a x) ∨ (∃ k, slots.length < k ∧ (∀ j, d j = decide (j < k)) ∧ wpList P ops Q (ops.toList.drop k) a x))) ?_ ?_ ?_
  · refine ⟨(fun i o _ h => by cases h), .inl ⟨fun _ _ => rfl, ?_⟩⟩
    obtain ⟨s, hs⟩ := putAll_self slots a0 0 hnd
    exact ⟨s, fun _ => 0, fun _ => 0, hs.symm, (Below.refl _ _).drew, (fun i _ h => by cases h), (fun i j _ _ _ h _ => by cases h)⟩
  · rintro d i o a x ho hdi hed ⟨hcl, hI⟩
    have hi : i < ops.size := (Array.getElem?_eq_some_iff.1 ho).1
    have hcl' : ∀ (k : Nat) (o' : Oper), ops[k]? = some o' → (d k || k == i) = true → ∀ e ∈ o'.after, Region.binds .any e = true → (d e.on || e.on == i) = true := by
      intro k o' ho' hk e he hb
      rw [Bool.or_eq_true] at hk ⊢
      rcases hk with hk | hk
      · exact .inl (hcl k o' ho' hk e he hb)
      · have : k = i := by simpa using hk
        subst this
        rw [ho] at ho'
        injection ho' with ho'
        subst ho'
        exact .inl (hed e he hb)
    rcases Nat.lt_or_ge i slots.length with hin | hin
    · rcases hI with ⟨hnone, s, lo, hi', rfl, hbx, hF, hdis⟩ | ⟨k, hk, hdk, hw⟩
      · refine wpOp_mono ?_ (step i o s x ho hin hbx fun j hj hjn => ⟨_, _, (hF j hjn (ahead_done hcl f i j o ho hed hj)).1⟩)
        rintro a' x' ⟨v, rfl, hFi, hb'⟩
        refine ⟨hcl', .inl ⟨fun j hj => ?_, ?_⟩⟩
        · have : (j == i) = false := by rw [beq_eq_false_iff_ne]; omega
          show (d j || j == i) = false
          rw [hnone j hj, this]; rfl
        · refine ⟨fun j => if j = i then v else s j, fun j => if j = i then x.heap.size else lo j, fun j => if j = i then x'.heap.size else hi' j, ?_, hbx.trans (hb'.mono hbx.size), ?_, ?_⟩
          · have ht : slots[i]? = some (slots.getD i 0) := by rw [List.getD_eq_getElem?_getD, List.getElem?_eq_getElem hin]; rfl
            rw [putAll_upd slots a0 0 i s (slots.getD i 0) v hnd ht, Nat.zero_add]
          · intro j hj hdj
            by_cases hji : j = i
            · subst hji
              simp only [if_true]
              exact ⟨hFi, hbx.size, hb'.size, Nat.le_refl _⟩
            · simp only [if_neg hji]
              have hdj' : d j = true := by
                rw [Bool.or_eq_true] at hdj
                rcases hdj with h | h
                · exact h
                · exact absurd (by simpa using h) hji
              obtain ⟨h1, h2, h3, h4⟩ := hF j hj hdj'
              exact ⟨stab _ _ _ _ _ _ hj h1 hb', h2, h3, Nat.le_trans h4 hb'.size⟩
          · intro j k hj hk hjk hdj hdk
            have old : ∀ j, (d j || j == i) = true → j ≠ i → d j = true := by
              intro j h hne
              rw [Bool.or_eq_true] at h
              rcases h with h | h
              · exact h
              · exact absurd (by simpa using h) hne
            by_cases hji : j = i
            · subst hji
              have hkj : k ≠ j := fun e => hjk e.symm
              simp only [if_true, if_neg hkj]
              exact .inr (hF k hk (old k hdk hkj)).2.2.2
            · by_cases hki : k = i
              · subst hki
                simp only [if_true, if_neg hji]
                exact .inl (hF j hj (old j hdj hji)).2.2.2
              · simp only [if_neg hji, if_neg hki]
                exact hdis j k hj hk hjk (old j hdj hji) (old k hdk hki)
      · rw [hdk i] at hdi
        simp at hdi
        omega
    · have hall : ∀ j, j < i → d j = true := fun j hj => ahead_done hcl f i j o ho hed (hlast' i hi hin j hj)
      have key : ∃ w', w' = wpList P ops Q (ops.toList.drop i) a x ∧ w' := by
        refine ⟨_, rfl, ?_⟩
        rcases hI with ⟨hnone, s, lo, hi', rfl, hbx, hF, hdis⟩ | ⟨k, hk, hdk, hw⟩
        · have hin' : i = slots.length := by
            rcases Nat.lt_or_ge slots.length i with h | h
            · have := hall slots.length h; rw [hnone _ (Nat.le_refl _)] at this; cases this
            · omega
          rw [hin']
          exact fin s lo hi' x hbx (fun j hj => hF j hj (hall j (by omega))) (fun j k hj hk hjk => hdis j k hj hk hjk (hall j (by omega)) (hall k (by omega)))
        · have : i = k := by
            rcases Nat.lt_trichotomy i k with h | h | h
            · rw [hdk i] at hdi; simp at hdi; omega
            · exact h
            · have := hall k h; rw [hdk k] at this; simp at this
          rw [this]; exact hw
      obtain ⟨_, rfl, key⟩ := key
      rw [drop_at ho] at key
      refine wpOp_mono ?_ (wpOp_of_wpList ho key)
      intro a' x' hw
      refine ⟨hcl', .inr ⟨i + 1, by omega, fun j => ?_, hw⟩⟩
      show (d j || j == i) = _
      rcases Nat.lt_trichotomy j i with h | h | h
      · rw [hall j h]; simp; omega
      · subst h; simp
      · have hdj : d j = false := by
          rcases hI with ⟨hnone, _⟩ | ⟨k, hk, hdk, hw⟩
          · exact hnone j (by omega)
          · rw [hdk i] at hdi; rw [hdk j]; simp at hdi ⊢; omega
        rw [hdj]
        have : (j == i) = false := by rw [beq_eq_false_iff_ne]; omega
        rw [this]; simp; omega
  · rintro d a x hall ⟨hcl, hI⟩
    rcases hI with ⟨hnone, s, lo, hi', rfl, hbx, hF, hdis⟩ | ⟨k, hk, hdk, hw⟩
    · have hn : slots.length = ops.size := by
        rcases Nat.lt_or_ge slots.length ops.size with h | h
        · have := hall _ h; rw [hnone _ (Nat.le_refl _)] at this; cases this
        · omega
      have := fin s lo hi' x hbx (fun j hj => hF j hj (hall j (by omega))) (fun j k hj hk hjk => hdis j k hj hk hjk (hall j (by omega)) (hall k (by omega)))
      rw [hn, List.drop_of_length_le (by simp)] at this
      exact this
    · have hks : ops.size ≤ k := by
        rcases Nat.lt_or_ge k ops.size with h | h
        · have := hall k h; rw [hdk k] at this; simp at this
        · exact h
      rw [List.drop_of_length_le (by simpa using hks)] at hw
      exact hw
end

end AC

