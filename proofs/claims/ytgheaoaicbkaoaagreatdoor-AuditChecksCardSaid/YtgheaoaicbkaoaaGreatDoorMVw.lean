/-
  The general law of regions where only the edges that bind go back (an edge of gc's own order may go forth).
-/
import Derived.Test.YtgheaoaicbkaoaaGreatDoorMRefL
namespace AC
open Go Go.RowKit
set_option linter.unusedVariables false
set_option linter.unusedSimpArgs false
/-- Every edge that binds goes back. -/
def lowB (ops : Array Oper) : Bool := (List.range ops.size).all fun i => match ops[i]? with
  | some o => o.after.all fun e => !(Region.binds .any e) || decide (e.on < i)
  | none => true
theorem lowB_spec {ops : Array Oper} (h : lowB ops = true) : ∀ (i : Nat) (o : Oper), ops[i]? = some o → ∀ e ∈ o.after, Region.binds .any e = true → e.on < i := by
  intro i o ho e he hb
  unfold lowB at h
  rw [List.all_eq_true] at h
  have hi : i < ops.size := (Array.getElem?_eq_some_iff.1 ho).1
  have h1 := h i (List.mem_range.2 hi)
  rw [ho] at h1
  have h2 := (Array.all_eq_true_iff_forall_mem.1 h1) e he
  simpa [hb] using h2
section
variable {P : Program} {ops : Array Oper} {Q : Exit → Act → World → Prop}

theorem ready_leastB {listed : Array Bool} {d : Nat → Bool} (hsz : listed.size = ops.size) (hd : ∀ i, i < ops.size → listed[i]? = some (d i))
    (hlow : ∀ (i : Nat) (o : Oper), ops[i]? = some o → ∀ e ∈ o.after, Region.binds .any e = true → e.on < i) {i : Nat} (hi : i < ops.size) (h1 : d i = false) (h2 : ∀ j, j < i → d j = true) : i ∈ Region.ready .any ops listed := by
  unfold Region.ready
  rw [List.mem_filter]
  refine ⟨List.mem_range.2 hi, ?_⟩
  have e1 : listed.getD i true = false := by rw [Array.getD_eq_getD_getElem?, hd i hi, h1]; rfl
  obtain ⟨o, ho⟩ : ∃ o, ops[i]? = some o := ⟨ops[i], Array.getElem?_eq_getElem hi⟩
  rw [e1, ho]
  simp only [Bool.not_false, Bool.true_and, Option.map_some, Option.getD_some]
  rw [Array.all_eq_true_iff_forall_mem]
  intro e he
  cases hb : Region.binds .any e with
  | false => simp
  | true =>
    have hlt := hlow i o ho e he hb
    have e2 : listed.getD e.on false = true := by rw [Array.getD_eq_getD_getElem?, hd e.on (by omega), h2 e.on hlt]; rfl
    rw [e2]
    simp

theorem ready_specB {listed : Array Bool} {d : Nat → Bool} (hd : ∀ i, i < ops.size → listed[i]? = some (d i)) {i : Nat} (h : i ∈ Region.ready .any ops listed) (hall : ∀ (i : Nat) (o : Oper), ops[i]? = some o → ∀ e ∈ o.after, Region.binds .any e = true → e.on < i) :
    ∃ o, ops[i]? = some o ∧ d i = false ∧ ∀ e ∈ o.after, Region.binds .any e = true → d e.on = true := by
  unfold Region.ready at h
  rw [List.mem_filter] at h
  obtain ⟨h1, h2⟩ := h
  have hi : i < ops.size := List.mem_range.1 h1
  obtain ⟨o, ho⟩ : ∃ o, ops[i]? = some o := ⟨ops[i], Array.getElem?_eq_getElem hi⟩
  rw [ho, Array.getD_eq_getD_getElem?, hd i hi] at h2
  simp only [Option.getD_some, Option.map_some, Bool.and_eq_true, Bool.not_eq_true'] at h2
  refine ⟨o, ho, h2.1, fun e he hb => ?_⟩
  have h3 := (Array.all_eq_true_iff_forall_mem.1 h2.2) e he
  have hlt := hall i o ho e he hb
  rw [Array.getD_eq_getD_getElem?, hd e.on (by omega)] at h3
  simpa [hb] using h3

/-- The operations in any order: I says what holds when the operations d are done. -/
theorem wp_region_invB {id : Nat} {a : Act} {w : World} (hm : P.follows .mixedOrders = true)
    (hlow : ∀ (i : Nat) (o : Oper), ops[i]? = some o → ∀ e ∈ o.after, Region.binds .any e = true → e.on < i) (I : (Nat → Bool) → Act → World → Prop) (h0 : I (fun _ => false) a w.drew)
    (hstep : ∀ (d : Nat → Bool) (i : Nat) (o : Oper) (a : Act) (w : World), ops[i]? = some o → d i = false → (∀ e ∈ o.after, Region.binds .any e = true → d e.on = true) → I d a w → wpOp P ops Q i (I (fun j => d j || j == i)) a w)
    (hfin : ∀ (d : Nat → Bool) (a : Act) (w : World), (∀ i, i < ops.size → d i = true) → I d a w → Q .normal a w) : (Code.region id ops true).wp P Q a w := by
  have key : ∀ (fuel : Nat) (listed : Array Bool) (d : Nat → Bool) (a : Act) (w : World), listed.size = ops.size → (∀ i, i < ops.size → listed[i]? = some (d i)) → I d a w →
      (∃ n, n + fuel = ops.size ∧ ∃ l : List Nat, l.length = n ∧ l.Nodup ∧ ∀ i ∈ l, i < ops.size ∧ d i = true) → wpAny P .any ops Q fuel listed a w := by
    intro fuel
    induction fuel with
    | zero =>
      intro listed d a w hsz hd hI hn
      obtain ⟨n, hn, l, hl, hnd, hin⟩ := hn
      have hall : ∀ i, i < ops.size → d i = true := by
        intro i hi
        cases hdi : d i with
        | true => rfl
        | false =>
          exfalso
          have hni : i ∉ l := fun h => by have := (hin i h).2; rw [hdi] at this; cases this
          have hnd2 : (i :: l).Nodup := List.nodup_cons.2 ⟨hni, hnd⟩
          have hsub : (i :: l) ⊆ List.range ops.size := by
            intro j hj
            rcases List.mem_cons.1 hj with rfl | hj
            · exact List.mem_range.2 hi
            · exact List.mem_range.2 (hin j hj).1
          have := List.Nodup.length_le_of_subset hnd2 hsub
          simp at this
          omega
      refine ⟨?_, hfin d a w hall hI⟩
      rcases hr : Region.ready .any ops listed with _ | ⟨i, rs⟩
      · rfl
      · exfalso
        obtain ⟨o, ho, hdi, _⟩ := ready_specB hd (i := i) (by rw [hr]; exact List.mem_cons_self) hlow
        have hi : i < ops.size := (Array.getElem?_eq_some_iff.1 ho).1
        rw [hall i hi] at hdi
        cases hdi
    | succ fuel ih =>
      intro listed d a w hsz hd hI hn
      refine ⟨fun hr => ?_, fun i hi => ?_⟩
      · by_cases hall : ∀ i, i < ops.size → d i = true
        · exact hfin d a w hall hI
        · exfalso
          obtain ⟨i, hi, h1, h2⟩ := least_false d ops.size hall
          have := ready_leastB hsz hd hlow hi h1 h2
          rw [hr] at this
          cases this
      · obtain ⟨o, ho, hdi, hed⟩ := ready_specB hd hi hlow
        have hilt : i < ops.size := (Array.getElem?_eq_some_iff.1 ho).1
        refine wpOp_mono (fun a' w' hI' => ih (listed.setIfInBounds i true) (fun j => d j || j == i) a' w' (by simpa using hsz) ?_ hI' ?_) (hstep d i o a w ho hdi hed hI)
        · intro j hj
          by_cases hij : j = i
          · subst hij
            rw [Array.getElem?_setIfInBounds_self_of_lt (by omega)]
            simp
          · rw [Array.getElem?_setIfInBounds_ne (fun e => hij e.symm), hd j hj]
            simp [hij]
        · obtain ⟨n, hn, l, hl, hnd, hin⟩ := hn
          refine ⟨n + 1, by omega, i :: l, by simp [hl], List.nodup_cons.2 ⟨fun h => ?_, hnd⟩, fun j hj => ?_⟩
          · have := (hin i h).2; rw [hdi] at this; cases this
          · rcases List.mem_cons.1 hj with rfl | hj
            · exact ⟨hilt, by simp⟩
            · exact ⟨(hin j hj).1, by simp [(hin j hj).2]⟩
  refine wp_region_any hm (key ops.size (Array.replicate ops.size false) (fun _ => false) a _ (by simp) (fun i hi => by simp [hi]) h0 ⟨0, by omega, [], rfl, List.nodup_nil, fun i hi => by cases hi⟩)

end
end AC

/-
  A region that draws its order: facts and relations that may speak of which operations are done; what stands ahead of an operation is reckoned once, as bits.
-/
namespace AC
open Go Go.RowKit
set_option linter.unusedVariables false
set_option linter.unusedSimpArgs false

/-- The bits of what stands ahead of an operation. -/
def bmask (acc : Array Nat) (o : Oper) : Nat := o.after.toList.foldl (fun s e => if Region.binds .any e then s ||| (1 <<< e.on) ||| acc.getD e.on 0 else s) 0
def bgo : List Oper → Array Nat → Array Nat
  | [], acc => acc
  | o :: r, acc => bgo r (acc.push (bmask acc o))
def befs (ops : Array Oper) : Array Nat := bgo ops.toList #[]
def aheadB (B : Array Nat) (i j : Nat) : Bool := (B.getD i 0).testBit j
def lastB (B : Array Nat) (ops : Array Oper) (n : Nat) : Bool :=
  (List.range ops.size).all fun i => decide (i < n) || (List.range i).all fun j => aheadB B i j

/-- A set that is closed under what must be done first. -/
def Closed (ops : Array Oper) (d : Nat → Bool) : Prop := ∀ (i : Nat) (o : Oper), ops[i]? = some o → d i = true → ∀ e ∈ o.after, Region.binds .any e = true → d e.on = true
def BOk (ops : Array Oper) (i m : Nat) : Prop := ∀ (d : Nat → Bool) (o : Oper), ops[i]? = some o → Closed ops d → (∀ e ∈ o.after, Region.binds .any e = true → d e.on = true) → ∀ j, m.testBit j = true → d j = true

theorem bmask_ok {ops : Array Oper} {acc : Array Nat} (h : ∀ i, i < acc.size → BOk ops i (acc.getD i 0)) (hsz : acc.size ≤ ops.size) (o : Oper) (i : Nat) (ho : ops[i]? = some o) : BOk ops i (bmask acc o) := by
  intro d o' ho' hcl hp j hj
  rw [ho] at ho'
  injection ho' with ho'
  subst ho'
  unfold bmask at hj
  have key : ∀ (l : List Edge) (s : Nat), (∀ e ∈ l, e ∈ o.after.toList) → (∀ j, s.testBit j = true → d j = true) → ∀ j, (l.foldl (fun s e => if Region.binds .any e then s ||| (1 <<< e.on) ||| acc.getD e.on 0 else s) s).testBit j = true → d j = true := by
    intro l
    induction l with
    | nil => intro s _ hs j hj; exact hs j hj
    | cons e l ih =>
      intro s hl hs j hj
      rw [List.foldl_cons] at hj
      refine ih _ (fun e' he' => hl e' (List.mem_cons_of_mem _ he')) ?_ j hj
      intro k hk
      by_cases hb : Region.binds .any e = true
      · rw [if_pos hb] at hk
        have hde := hp e (by have := hl e List.mem_cons_self; simpa using this) hb
        rw [Nat.testBit_or, Nat.testBit_or, Bool.or_eq_true, Bool.or_eq_true] at hk
        rcases hk with (hk | hk) | hk
        · exact hs k hk
        · have hek : k = e.on := by
            rw [Nat.testBit_shiftLeft] at hk
            simp only [Bool.and_eq_true, decide_eq_true_eq] at hk
            have h1 := hk.2
            have h2 : k - e.on = 0 := by
              rcases hm : k - e.on with _ | m
              · rfl
              · rw [hm, Nat.testBit_succ] at h1
                simp at h1
            omega
          rw [hek]; exact hde
        · rcases Nat.lt_or_ge e.on acc.size with h1 | h1
          · have hon : e.on < ops.size := by omega
            exact h e.on h1 d ops[e.on] (Array.getElem?_eq_getElem hon) hcl (fun e' he' hb' => hcl e.on _ (Array.getElem?_eq_getElem hon) hde e' he' hb') k hk
          · rw [Array.getD_eq_getD_getElem?, Array.getElem?_eq_none h1] at hk
            simp at hk
      · rw [if_neg hb] at hk
        exact hs k hk
  exact key o.after.toList 0 (fun e he => he) (fun j hj => by simp at hj) j hj

theorem bgo_ok {ops : Array Oper} : ∀ (l : List Oper) (acc : Array Nat), (∀ k o, l[k]? = some o → ops[acc.size + k]? = some o) → acc.size + l.length = ops.size → (∀ i, i < acc.size → BOk ops i (acc.getD i 0)) →
    ∀ i, i < ops.size → BOk ops i ((bgo l acc).getD i 0)
  | [], acc, _, hsz, h, i, hi => h i (by simp at hsz; omega)
  | o :: r, acc, hl, hsz, h, i, hi => by
    rw [bgo]
    have ho : ops[acc.size]? = some o := by have := hl 0 o rfl; simpa using this
    refine bgo_ok r _ (fun k o' hk => ?_) (by simp at hsz ⊢; omega) (fun k hk => ?_) i hi
    · have := hl (k + 1) o' (by simpa using hk)
      rw [Array.size_push]
      rw [show acc.size + 1 + k = acc.size + (k + 1) from by omega]
      exact this
    · rw [Array.size_push] at hk
      rcases Nat.lt_or_ge k acc.size with h1 | h1
      · have e : (acc.push (bmask acc o)).getD k 0 = acc.getD k 0 := by
          rw [Array.getD_eq_getD_getElem?, Array.getD_eq_getD_getElem?, Array.getElem?_push, if_neg (by omega)]
        rw [e]; exact h k h1
      · obtain rfl : k = acc.size := by omega
        have e : (acc.push (bmask acc o)).getD acc.size 0 = bmask acc o := by
          rw [Array.getD_eq_getD_getElem?, Array.getElem?_push, if_pos rfl]; rfl
        rw [e]
        exact bmask_ok h (by simp at hsz; omega) o _ ho
theorem befs_done {ops : Array Oper} {d : Nat → Bool} (hcl : Closed ops d) {i j : Nat} {o : Oper} (ho : ops[i]? = some o) (hp : ∀ e ∈ o.after, Region.binds .any e = true → d e.on = true) (h : aheadB (befs ops) i j = true) : d j = true := by
  have hi : i < ops.size := (Array.getElem?_eq_some_iff.1 ho).1
  exact bgo_ok ops.toList #[] (fun k o hk => by simpa using hk) (by simp) (fun i hi => absurd hi (by simp)) i hi d o ho hcl hp j h

/-- What is done, and one more. -/
def updB (d : Nat → Bool) (j : Nat) : Nat → Bool := fun k => d k || k == j
theorem updB_self (d : Nat → Bool) (j : Nat) : updB d j j = true := by simp [updB]
theorem updB_of {d : Nat → Bool} {j k : Nat} (h : d k = true) : updB d j k = true := by simp [updB, h]
theorem updB_ne {d : Nat → Bool} {j k : Nat} (h : k ≠ j) : updB d j k = d k := by simp [updB, h]

section
variable {P : Program} {ops : Array Oper} {Q : Exit → Act → World → Prop}
def RlD (a0 : Act) (R : (Nat → Bool) → World → Prop) (slots : List Nat) (F : (Nat → Bool) → Nat → Value → World → Prop) (d : Nat → Bool) (a : Act) (x : World) : Prop :=
  ∃ (s : Nat → Value), a = putAll a0 slots 0 s ∧ R d x ∧ ∀ i, i < slots.length → d i = true → F d i (s i) x

theorem wp_region_dep {id : Nat} {a0 : Act} {w0 : World} (hm : P.follows .mixedOrders = true)
    (hlow : lowB ops = true) (slots : List Nat) (hok : (dstsOk ops slots && lastB (befs ops) ops slots.length && decide slots.Nodup && decide (slots.length ≤ ops.size)) = true)
    (R : (Nat → Bool) → World → Prop) (G : Nat → World → World → Prop) (F : (Nat → Bool) → Nat → Value → World → Prop) (h0 : R (fun _ => false) w0.drew) (hR : ∀ d j x x', R d x → d j = false → G j x x' → R (updB d j) x')
    (stab : ∀ d i j v x x', i < slots.length → j < slots.length → i ≠ j → d i = true → d j = false → (∀ k, aheadB (befs ops) j k = true → d k = true) → F d i v x → G j x x' → F (updB d j) i v x')
    (step : ∀ (i : Nat) (o : Oper) (s : Nat → Value) (d : Nat → Bool) (x : World), ops[i]? = some o → i < slots.length → d i = false → R d x →
      (∀ j, aheadB (befs ops) i j = true → j < slots.length → d j = true ∧ F d j (s j) x) →
      opOk P ops Q i (fun a' x' => ∃ v, a' = (putAll a0 slots 0 s).put (some (slots.getD i 0)) v ∧ F (updB d i) i v x' ∧ G i x x') (putAll a0 slots 0 s) x)
    (fin : ∀ (s : Nat → Value) (d : Nat → Bool) (x : World), R d x → (∀ i, i < slots.length → d i = true ∧ F d i (s i) x) → wpList P ops Q (ops.toList.drop slots.length) (putAll a0 slots 0 s) x) :
    (Code.region id ops true).wp P Q a0 w0 := by
  simp only [Bool.and_eq_true, decide_eq_true_eq] at hok
  obtain ⟨⟨⟨hdst, hlast⟩, hnd⟩, hsz⟩ := hok
  have hl := lowB_spec hlow
  have hlast' : ∀ i, i < ops.size → slots.length ≤ i → ∀ j, j < i → aheadB (befs ops) i j = true := by
    intro i hi hn j hj
    have h1 := List.all_eq_true.1 hlast i (List.mem_range.2 hi)
    simp only [Bool.or_eq_true, decide_eq_true_eq] at h1
    rcases h1 with h1 | h1
    · omega
    · exact List.all_eq_true.1 h1 j (List.mem_range.2 hj)
  refine wp_region_invB hm hl (fun d a x => Closed ops d ∧
    (((∀ j, slots.length ≤ j → d j = false) ∧ RlD a0 R slots F d a x) ∨ (∃ k, slots.length < k ∧ (∀ j, d j = decide (j < k)) ∧ wpList P ops Q (ops.toList.drop k) a x))) ?_ ?_ ?_
  · refine ⟨(fun i o _ h => by cases h), .inl ⟨fun _ _ => rfl, ?_⟩⟩
    obtain ⟨s, hs⟩ := putAll_self slots a0 0 hnd
    exact ⟨s, hs.symm, h0, fun i _ h => by cases h⟩
  · rintro d i o a x ho hdi hed ⟨hcl, hI⟩
    have hi : i < ops.size := (Array.getElem?_eq_some_iff.1 ho).1
    have hcl' : Closed ops (fun k => d k || k == i) := by
      intro k o' ho' hk e he hb
      rw [Bool.or_eq_true] at hk ⊢
      rcases hk with hk | hk
      · exact .inl (hcl k o' ho' hk e he hb)
      · have : k = i := by simpa using hk
        subst this
        rw [ho] at ho'
        injection ho' with ho'
        subst ho'
        exact .inl (hed e he hb)
    rcases Nat.lt_or_ge i slots.length with hin | hin
    · rcases hI with ⟨hnone, s, rfl, hbx, hF⟩ | ⟨k, hk, hdk, hw⟩
      · refine wpOp_mono ?_ (step i o s d x ho hin hdi hbx fun j hj hjn => ⟨befs_done hcl ho hed hj, hF j hjn (befs_done hcl ho hed hj)⟩).out
        rintro a' x' ⟨v, rfl, hFi, hb'⟩
        refine ⟨hcl', .inl ⟨fun j hj => ?_, ?_⟩⟩
        · have : (j == i) = false := by rw [beq_eq_false_iff_ne]; omega
          show (d j || j == i) = false
          rw [hnone j hj, this]; rfl
        · refine ⟨fun j => if j = i then v else s j, ?_, hR d i x x' hbx hdi hb', ?_⟩
          · have ht : slots[i]? = some (slots.getD i 0) := by rw [List.getD_eq_getElem?_getD, List.getElem?_eq_getElem hin]; rfl
            rw [putAll_upd slots a0 0 i s (slots.getD i 0) v hnd ht, Nat.zero_add]
          · intro j hj hdj
            by_cases hji : j = i
            · subst hji
              simp only [if_true]
              exact hFi
            · simp only [if_neg hji]
              have hdj' : d j = true := by
                rw [Bool.or_eq_true] at hdj
                rcases hdj with h | h
                · exact h
                · exact absurd (by simpa using h) hji
              exact stab d j i _ x x' hj hin hji hdj' hdi (fun k hk => befs_done hcl ho hed hk) (hF j hj hdj') hb'
      · rw [hdk i] at hdi
        simp at hdi
        omega
    · have hall : ∀ j, j < i → d j = true := fun j hj => befs_done hcl ho hed (hlast' i hi hin j hj)
      have key : ∃ w', w' = wpList P ops Q (ops.toList.drop i) a x ∧ w' := by
        refine ⟨_, rfl, ?_⟩
        rcases hI with ⟨hnone, s, rfl, hbx, hF⟩ | ⟨k, hk, hdk, hw⟩
        · have hin' : i = slots.length := by
            rcases Nat.lt_or_ge slots.length i with h | h
            · have := hall slots.length h; rw [hnone _ (Nat.le_refl _)] at this; cases this
            · omega
          rw [hin']
          exact fin s d x hbx fun j hj => ⟨hall j (by omega), hF j hj (hall j (by omega))⟩
        · have : i = k := by
            rcases Nat.lt_trichotomy i k with h | h | h
            · rw [hdk i] at hdi; simp at hdi; omega
            · exact h
            · have := hall k h; rw [hdk k] at this; simp at this
          rw [this]; exact hw
      obtain ⟨_, rfl, key⟩ := key
      rw [drop_at ho] at key
      refine wpOp_mono ?_ (wpOp_of_wpList ho key)
      intro a' x' hw
      refine ⟨hcl', .inr ⟨i + 1, by omega, fun j => ?_, hw⟩⟩
      show (d j || j == i) = _
      rcases Nat.lt_trichotomy j i with h | h | h
      · rw [hall j h]; simp; omega
      · subst h; simp
      · have hdj : d j = false := by
          rcases hI with ⟨hnone, _⟩ | ⟨k, hk, hdk, hw⟩
          · exact hnone j (by omega)
          · rw [hdk i] at hdi; rw [hdk j]; simp at hdi ⊢; omega
        rw [hdj]
        have : (j == i) = false := by rw [beq_eq_false_iff_ne]; omega
        rw [this]; simp; omega
  · rintro d a x hall ⟨hcl, hI⟩
    rcases hI with ⟨hnone, s, rfl, hbx, hF⟩ | ⟨k, hk, hdk, hw⟩
    · have hn : slots.length = ops.size := by
        rcases Nat.lt_or_ge slots.length ops.size with h | h
        · have := hall _ h; rw [hnone _ (Nat.le_refl _)] at this; cases this
        · omega
      have := fin s d x hbx fun j hj => ⟨hall j (by omega), hF j hj (hall j (by omega))⟩
      rw [hn, List.drop_of_length_le (by simp)] at this
      exact this
    · have hks : ops.size ≤ k := by
        rcases Nat.lt_or_ge k ops.size with h | h
        · have := hall k h; rw [hdk k] at this; simp at this
        · exact h
      rw [List.drop_of_length_le (by simpa using hks)] at hw
      exact hw
end

end AC

