/-
  The walks of the reference's build (joined), Canonical, Neg, FromInt, Sign.
-/
import Derived.Test.YtgheaoaicbkaoaaGreatDoorMRefF
import Derived.Test.YtgheaoaicbkaoaaGreatDoorMWalkP
namespace Go.Proofs.YtgheaoaicbkaoaaGreatDoor
open Go.RowKit AC
set_option linter.unusedVariables false
set_option linter.unusedSimpArgs false

theorem build_any (w : World) (lo lo' : Nat) (neg : Bool) (v v' : Value) (kn kd : Nat) (fn fd : Nat → Nat) (hn : Limbs w lo v kn fn) (hd : Limbs w lo' v' kd fd) (hkn : kn ≤ 4000000000) (hkd : kd ≤ 4000000000) (q : Rat) (hq : q = mkRat (sg neg (vs fn kn)) (vs fd kd)) :
    Calls Tryz.prog 35 #[.bool neg, v, v'] w (RetQ w q) := by
  by_cases h0 : vs fn kn = 0 ∨ vs fd kd = 0
  · refine (build_zero w lo lo' neg v v' kn kd fn fd hn hd hkn hkd _ _ rfl rfl h0).mono ?_
    rintro e w' ⟨v2, rfl, h, hb⟩
    refine ⟨v2, rfl, ?_, hb⟩
    subst hq
    rcases h0 with h0 | h0
    · rw [h0]; exact RatR.ofZero h
    · rw [h0, Rat.mkRat_zero]; exact h
  · refine (build_pos w lo lo' neg v v' kn kd fn fd hn hd hkn hkd _ _ rfl rfl (fun h => h0 (.inl h)) (fun h => h0 (.inr h))).mono ?_
    rintro e w' ⟨v2, rfl, h, hb⟩
    refine ⟨v2, rfl, ?_, hb⟩
    subst hq
    exact RatR.ofLow (fun h => h0 (.inr h)) (fun h => h0 (.inl h)) h

/-- The parts of a number that comes in. -/
theorem RatV.parts {w : World} {lo : Nat} {v : Value} {K : Nat} {q : Rat} (h : RatV w lo v K q) :
    ∃ s A k c A' k' c' fn fd, v = .agg #[.bool s, .slice A k c, .slice A' k' c'] ∧ Limbs w lo (.slice A k c) k fn ∧ Limbs w lo (.slice A' k' c') k' fd ∧ k ≤ K ∧ k' ≤ K ∧ q = mkRat (sg s (vs fn k)) (vs fd k') := by
  obtain ⟨neg, kn, kd, fn, fd, vn, vd, rfl, h1, h2, h3, h4, h5⟩ := h
  obtain ⟨A, c, rfl⟩ := h1.len
  obtain ⟨A', c', rfl⟩ := h2.len
  exact ⟨neg, A, kn, c, A', kd, c', fn, fd, rfl, h1, h2, h3, h4, h5⟩

set_option maxHeartbeats 1000000 in
theorem rCanonical_any (w : World) (lo : Nat) (v : Value) (K : Nat) (q : Rat) (hv : RatV w lo v K q) (hK : K ≤ 4000000000) :
    Calls Tryz.prog 67 #[v] w (RetQ w q) := by
  obtain ⟨s, A, k, c, A', k', c', fn, fd, rfl, hn, hd, hkn, hkd, hq⟩ := hv.parts
  have HN := Lib.hid hn
  have HD := Lib.hid hd
  have HQ := Lib.hid hq
  clear hv hn hd hq
  go_enter Tryz.func67, Tryz.ntmps67
  go_wp2_with fail
  refine (build_any _ lo lo s _ _ k k' fn fd (HN.out.below (bel2 w _ _)) (HD.out.below (bel2 w _ _)) (by omega) (by omega) q HQ.out).mono ?_
  rintro e w1 ⟨v1, rfl, hr1, hb1⟩
  have hbw1 := (bel2 w _ _).trans (hb1.mono (by simp; omega))
  have hR1 := (Bk.new _ 27 _).below hb1 (by simp)
  simp only [World.size_alloc] at hR1 hr1
  have HR1 := Lib.hid hr1
  obtain ⟨A2, c2, A3, c3, rfl, _, _⟩ := FracR.form hr1
  obtain ⟨hcR, hfR, hz2⟩ := hR1.facts
  clear hr1 hb1
  go_wp2
  exact bodyPost_ret (v := .agg #[.bool (decide (q.num < 0)), .slice A2 (dl q.num.natAbs) c2, .slice A3 (dl q.den) c3]) (by simp [results, Tryz.results67, go_sem, hcR]) rfl
    ⟨_, rfl, RatR.lower (rat_set3 HR1.out (by omega) _ _ _) (by omega), below_set3 hbw1 (by omega) _ _ _⟩

set_option maxHeartbeats 1000000 in
theorem rNeg_any (w : World) (lo : Nat) (v : Value) (K : Nat) (q : Rat) (hv : RatV w lo v K q) (hK : K ≤ 4000000000) :
    Calls Tryz.prog 68 #[v] w (RetQ w (-q)) := by
  obtain ⟨s, A, k, c, A', k', c', fn, fd, rfl, hn, hd, hkn, hkd, hq⟩ := hv.parts
  have HN := Lib.hid hn
  have HD := Lib.hid hd
  obtain ⟨q', hq'⟩ : ∃ q', Hid (q' = -q) := ⟨_, rfl⟩
  have HQ : Hid (q' = mkRat (sg (!s) (vs fn k)) (vs fd k')) := by
    show _ = _
    rw [hq'.out, sg_not, ← Rat.neg_mkRat, ← hq]
  rw [← hq'.out]
  clear hv hn hd hq hq'
  go_enter Tryz.func68, Tryz.ntmps68
  go_wp2_with fail
  refine (build_any _ lo lo (!s) _ _ k k' fn fd (HN.out.below (bel2 w _ _)) (HD.out.below (bel2 w _ _)) (by omega) (by omega) q' HQ.out).mono ?_
  rintro e w1 ⟨v1, rfl, hr1, hb1⟩
  have hbw1 := (bel2 w _ _).trans (hb1.mono (by simp; omega))
  have hR1 := (Bk.new _ 27 _).below hb1 (by simp)
  simp only [World.size_alloc] at hR1 hr1
  have HR1 := Lib.hid hr1
  obtain ⟨A2, c2, A3, c3, rfl, _, _⟩ := FracR.form hr1
  obtain ⟨hcR, hfR, hz2⟩ := hR1.facts
  clear hr1 hb1
  go_wp2
  exact bodyPost_ret (v := .agg #[.bool (decide (q'.num < 0)), .slice A2 (dl q'.num.natAbs) c2, .slice A3 (dl q'.den) c3]) (by simp [results, Tryz.results68, go_sem, hcR]) rfl
    ⟨_, rfl, RatR.lower (rat_set3 HR1.out (by omega) _ _ _) (by omega), below_set3 hbw1 (by omega) _ _ _⟩

theorem cut_sign {q : Rat} : q.num.natAbs = 0 → sgnQ q = 0 := by
  intro h; unfold sgnQ; rw [Int.natAbs_eq_zero.1 h]; rfl

set_option maxHeartbeats 1000000 in
theorem rSign_any (w : World) (lo : Nat) (v : Value) (K : Nat) (q : Rat) (hv : RatV w lo v K q) (hK : K ≤ 4000000000) :
    Calls Tryz.prog 33 #[v] w (fun e w' => e = .returned (.int .i64 (sgnQ q)) ∧ Below w.heap.size w w') := by
  have HV := Lib.hid hv
  obtain ⟨s, A, k, c, A', k', c', rfl⟩ := hv.form
  clear hv
  go_enter Tryz.func33, Tryz.ntmps33
  go_wp2_with fail
  refine (rCanonical_any _ lo _ K q (HV.out.below (bel1 w _)) hK).mono ?_
  rintro e w1 ⟨v1, rfl, hr1, hb1⟩
  have hbw1 := (bel1 w _).trans (hb1.mono (by simp))
  have hR1 := (Bk.new _ 27 _).below hb1 (by simp)
  obtain ⟨A2, c2, A3, c3, rfl, _, _⟩ := FracR.form hr1
  obtain ⟨hcR, hfR, hz2⟩ := hR1.facts
  have hgo : ∀ z, sgnQ q = z → ∀ w', Below w.heap.size w w' → (Ending.returned (.int .i64 z) = .returned (.int .i64 (sgnQ q)) ∧ Below w.heap.size w w') := by
    rintro z rfl w' hb; exact ⟨rfl, hb⟩
  have HGO := Lib.hid hgo
  clear hr1 hb1 hgo
  by_cases h0 : q.num.natAbs = 0
  · have hs := Lib.hid (cut_sign h0)
    have hl : ((dl q.num.natAbs : Nat) : Int) = 0 := by rw [h0, dl_zero]; rfl
    have hl' : (((dl q.num.natAbs : Nat) : Int) == 0) = true := by rw [hl]; rfl
    clear h0 hl
    go_wp2
    go_ret
    exact HGO.out _ hs.out _ (below_set3 hbw1 (Nat.le_refl _) _ _ _)
  · have hl' : (((dl q.num.natAbs : Nat) : Int) == 0) = false := by
      rw [beq_eq_false_iff_ne]
      have := mt dl_eq_zero.1 h0
      omega
    by_cases hneg : q.num < 0
    · have hs : Hid (sgnQ q = -1) := by show _ = _; unfold sgnQ; exact Int.sign_eq_neg_one_of_neg hneg
      have hd : decide (q.num < 0) = true := by simpa using hneg
      clear h0
      rw [hd] at *
      go_wp2
      go_ret
      exact HGO.out _ hs.out _ (below_set3 hbw1 (Nat.le_refl _) _ _ _)
    · have hs : Hid (sgnQ q = 1) := by show _ = _; unfold sgnQ; exact Int.sign_eq_one_of_pos (by omega)
      have hd : decide (q.num < 0) = false := by simpa using hneg
      clear h0
      rw [hd] at *
      go_wp2
      go_ret
      exact HGO.out _ hs.out _ (below_set3 hbw1 (Nat.le_refl _) _ _ _)

set_option maxHeartbeats 1000000 in
theorem rFromInt_any (w : World) (x : Int) (h1 : -9223372036854775808 ≤ x) (h2 : x ≤ 9223372036854775807) :
    Calls Tryz.prog 17 #[.int .i64 x] w (RetQ w (mkRat x 1)) := by
  have hdl : Hid (dl x.natAbs ≤ 3) := by
    show dl x.natAbs ≤ 3
    apply dl_le
    have h3 : B ^ 3 = 1000000000000000000000000000 := by decide
    omega
  obtain ⟨q, hq⟩ : ∃ q, Hid (q = mkRat x 1) := ⟨_, rfl⟩
  rw [← hq.out]
  have h1v : Hid (vs (dg 1) 1 = 1) := by show _ = _; rw [vs_dg]; decide
  have HQ : Hid (q = mkRat (sg (decide (x < 0)) (vs (dg x.natAbs) (dl x.natAbs))) (vs (dg 1) 1)) := by
    show _ = _
    rw [hq.out, vs_dl, h1v.out]
    congr 1
    unfold sg
    by_cases h : x < 0
    · simp [h]; omega
    · simp [h]; omega
  by_cases h0 : x < 0
  · have hd : decide (x < 0) = true := by simpa using h0
    rw [hd] at HQ
    clear hd
    go_enter Tryz.func17, Tryz.ntmps17
    go_wp2_with fail
    rw [show (-(x + 1) + 1) = ((x.natAbs : Nat) : Int) by omega]
    refine (limbs_any _ x.natAbs (by omega)).mono ?_
    rintro e w1 ⟨v1, rfl, hn1, hb1⟩
    have hR1 := Lib.hid ((Bk.new w 27 _).below hb1 (by simp))
    have HN1 := Lib.hid hn1
    obtain ⟨A, c, rfl⟩ := Limbs.len hn1
    have hz1 : w.heap.size < w1.heap.size := hR1.out.lt
    have hbw1 := (bel1 w _).trans (hb1.mono (by simp))
    clear hn1 hb1
    go_wp2_with fail
    refine (build_any _ (w.heap.size + 1) (w.heap.size + 1) true _ _ (dl x.natAbs) 1 (dg x.natAbs) (dg 1) ?_ ?_ (by have := hdl.out; omega) (by omega) q HQ.out).mono ?_
    · exact Limbs.lower (Limbs.alloc HN1.out _) (by simp)
    · have := NatR.oneNew w1 (w.heap.size + 1) 120 (by omega); unfold NatR at this; rw [dl_one] at this; exact this
    rintro e w2 ⟨v2, rfl, hr2, hb2⟩
    have HR2 := Lib.hid hr2
    obtain ⟨A2, c2, A3, c3, rfl, h3, h4⟩ := FracR.form hr2
    obtain ⟨hcR, hfR, hz2⟩ := ((hR1.out.alloc _).below hb2 (by simp; omega)).facts
    have hbw2 := (hbw1.alloc (by omega) _).trans (hb2.mono (by simp; omega))
    clear h3 h4 hr2 hb2
    go_wp2
    exact bodyPost_ret (v := .agg #[.bool (decide (q.num < 0)), .slice A2 (dl q.num.natAbs) c2, .slice A3 (dl q.den) c3]) (by simp [results, Tryz.results17, go_sem, hcR]) rfl
      ⟨_, rfl, RatR.lower (rat_set3 HR2.out (by simp; omega) _ _ _) (by simp; omega), below_set3 hbw2 (by omega) _ _ _⟩
  · have hd : decide (x < 0) = false := by simpa using h0
    rw [hd] at HQ
    clear hd
    obtain ⟨n, rfl⟩ : ∃ n : Nat, x = n := ⟨x.toNat, by omega⟩
    rw [Int.natAbs_natCast] at HQ hdl
    go_enter Tryz.func17, Tryz.ntmps17
    go_wp2_with fail
    refine (limbs_any _ n (by omega)).mono ?_
    rintro e w1 ⟨v1, rfl, hn1, hb1⟩
    have hR1 := Lib.hid ((Bk.new w 27 _).below hb1 (by simp))
    have HN1 := Lib.hid hn1
    obtain ⟨A, c, rfl⟩ := Limbs.len hn1
    have hz1 : w.heap.size < w1.heap.size := hR1.out.lt
    have hbw1 := (bel1 w _).trans (hb1.mono (by simp))
    clear hn1 hb1
    go_wp2_with fail
    refine (build_any _ (w.heap.size + 1) (w.heap.size + 1) false _ _ (dl n) 1 (dg n) (dg 1) ?_ ?_ (by have := hdl.out; omega) (by omega) q HQ.out).mono ?_
    · exact Limbs.lower (Limbs.alloc HN1.out _) (by simp)
    · have := NatR.oneNew w1 (w.heap.size + 1) 120 (by omega); unfold NatR at this; rw [dl_one] at this; exact this
    rintro e w2 ⟨v2, rfl, hr2, hb2⟩
    have HR2 := Lib.hid hr2
    obtain ⟨A2, c2, A3, c3, rfl, h3, h4⟩ := FracR.form hr2
    obtain ⟨hcR, hfR, hz2⟩ := ((hR1.out.alloc _).below hb2 (by simp; omega)).facts
    have hbw2 := (hbw1.alloc (by omega) _).trans (hb2.mono (by simp; omega))
    clear h3 h4 hr2 hb2
    go_wp2
    exact bodyPost_ret (v := .agg #[.bool (decide (q.num < 0)), .slice A2 (dl q.num.natAbs) c2, .slice A3 (dl q.den) c3]) (by simp [results, Tryz.results17, go_sem, hcR]) rfl
      ⟨_, rfl, RatR.lower (rat_set3 HR2.out (by simp; omega) _ _ _) (by simp; omega), below_set3 hbw2 (by omega) _ _ _⟩

end Go.Proofs.YtgheaoaicbkaoaaGreatDoor

/-
  A region that draws its order: its operations but the last ones only read or make new memory, and each leaves a fact that stays; the last ones stand behind all others.
-/
namespace AC
open Go Go.RowKit
set_option linter.unusedVariables false
set_option linter.unusedSimpArgs false

/-- The frame with the slots of a list filled. -/
def putAll : Act → List Nat → Nat → (Nat → Value) → Act
  | a, [], _, _ => a
  | a, t :: r, k, s => putAll (a.put (some t) (s k)) r (k + 1) s

theorem putAll_same {a : Act} : ∀ (l : List Nat) (k : Nat) (s s' : Nat → Value), (∀ i, k ≤ i → i < k + l.length → s i = s' i) → putAll a l k s = putAll a l k s'
  | [], _, _, _, _ => rfl
  | t :: r, k, s, s', h => by
    unfold putAll
    rw [h k (Nat.le_refl _) (by simp), putAll_same r (k + 1) s s' fun i h1 h2 => h i (by omega) (by simp; omega)]

theorem putAll_put : ∀ (l : List Nat) (a : Act) (k : Nat) (s : Nat → Value) (t : Nat) (v : Value), t ∉ l → (putAll a l k s).put (some t) v = putAll (a.put (some t) v) l k s
  | [], _, _, _, _, _, _ => rfl
  | u :: r, a, k, s, t, v, h => by
    unfold putAll
    rw [putAll_put r _ (k + 1) s t v (fun hm => h (List.mem_cons_of_mem _ hm))]
    rw [Act.put_comm a (s k) v (x := some u) (y := some t) (fun d e e' => by
      injection e with e; injection e' with e'; subst e; subst e'; exact h List.mem_cons_self)]

theorem act_put_put (a : Act) (t : Nat) (u v : Value) : (a.put (some t) u).put (some t) v = a.put (some t) v := by
  unfold Act.put
  simp

theorem putAll_upd : ∀ (l : List Nat) (a : Act) (k i : Nat) (s : Nat → Value) (t : Nat) (v : Value), l.Nodup → l[i]? = some t →
    (putAll a l k s).put (some t) v = putAll a l k (fun j => if j = k + i then v else s j)
  | [], _, _, _, _, _, _, _, h => by simp at h
  | u :: r, a, k, 0, s, t, v, hn, h => by
    simp only [List.getElem?_cons_zero, Option.some.injEq] at h
    subst h
    unfold putAll
    have e : (fun j => if j = k + 0 then v else s j) k = v := if_pos rfl
    rw [putAll_put r _ (k + 1) s u v (List.nodup_cons.1 hn).1, act_put_put, e]
    exact putAll_same r (k + 1) _ _ fun i h1 _ => (if_neg (by omega)).symm
  | u :: r, a, k, i + 1, s, t, v, hn, h => by
    unfold putAll
    rw [List.getElem?_cons_succ] at h
    have e : (fun j => if j = k + (i + 1) then v else s j) k = s k := if_neg (by omega)
    rw [putAll_upd r _ (k + 1) i s t v (List.nodup_cons.1 hn).2 h, e]
    exact putAll_same r (k + 1) _ _ fun j _ _ => by
      rw [show k + 1 + i = k + (i + 1) from by omega]

theorem putAll_self : ∀ (l : List Nat) (a : Act) (k : Nat), l.Nodup → ∃ s, putAll a l k s = a
  | [], a, k, _ => ⟨fun _ => undef, rfl⟩
  | t :: r, a, k, hn => by
    obtain ⟨s, hs⟩ := putAll_self r (a.put (some t) (a.tmps.getD t undef)) (k + 1) (List.nodup_cons.1 hn).2
    refine ⟨fun j => if j = k then a.tmps.getD t undef else s j, ?_⟩
    unfold putAll
    have e : (fun j => if j = k then a.tmps.getD t undef else s j) k = a.tmps.getD t undef := if_pos rfl
    rw [e, putAll_same r (k + 1) _ s (fun i h1 _ => if_neg (by omega)), hs]
    unfold Act.put
    have : a.tmps.setIfInBounds t (a.tmps.getD t undef) = a.tmps := by
      apply Array.ext_getElem?
      intro j
      by_cases hj : j = t
      · subst hj
        by_cases hlt : j < a.tmps.size
        · rw [Array.getElem?_setIfInBounds_self_of_lt hlt, Array.getD_eq_getD_getElem?, Array.getElem?_eq_getElem hlt]; rfl
        · rw [Array.getElem?_eq_none (by simpa using hlt), Array.getElem?_eq_none (by simpa using hlt)]
      · rw [Array.getElem?_setIfInBounds_ne (fun e => hj e.symm)]
    simp only [this]

/-- j stands ahead of i in every order (by at most f steps). -/
def ahead (ops : Array Oper) : Nat → Nat → Nat → Bool
  | 0, _, _ => false
  | f + 1, i, j => match ops[i]? with
    | some o => o.after.any fun e => Region.binds .any e && (e.on == j || ahead ops f e.on j)
    | none => false
def lastOk (ops : Array Oper) (n f : Nat) : Bool :=
  (List.range ops.size).all fun i => decide (i < n) || (List.range i).all fun j => ahead ops f i j
def dstsOk (ops : Array Oper) (slots : List Nat) : Bool :=
  (List.range slots.length).all fun i => match ops[i]? with
    | some o => decide (o.dst = slots[i]?)
    | none => false

theorem ahead_done {ops : Array Oper} {d : Nat → Bool} (hcl : ∀ (i : Nat) (o : Oper), ops[i]? = some o → d i = true → ∀ e ∈ o.after, Region.binds .any e = true → d e.on = true) :
    ∀ (f i j : Nat) (o : Oper), ops[i]? = some o → (∀ e ∈ o.after, Region.binds .any e = true → d e.on = true) → ahead ops f i j = true → d j = true
  | 0, _, _, _, _, _, h => by simp [ahead] at h
  | f + 1, i, j, o, ho, hp, h => by
    unfold ahead at h
    rw [ho] at h
    obtain ⟨e, he, h2⟩ := Array.any_eq_true'.1 h
    simp only [Bool.and_eq_true, Bool.or_eq_true, beq_iff_eq] at h2
    have hde := hp e he h2.1
    rcases h2.2 with h3 | h3
    · rw [← h3]; exact hde
    · cases ho' : ops[e.on]? with
      | none => cases f with
        | zero => simp [ahead] at h3
        | succ f => simp [ahead, ho'] at h3
      | some o' => exact ahead_done hcl f e.on j o' ho' (fun e' he' hb' => hcl e.on o' ho' hde e' he' hb') h3

section
variable {P : Program} {ops : Array Oper} {Q : Exit → Act → World → Prop}

theorem wpOp_of_wpList {i : Nat} {o : Oper} {rest : List Oper} {a : Act} {w : World} (ho : ops[i]? = some o) (h : wpList P ops Q (o :: rest) a w) : wpOp P ops Q i (wpList P ops Q rest) a w := by
  unfold wpOp
  rw [ho]
  exact h

theorem drop_at {ops : Array Oper} {i : Nat} {o : Oper} (ho : ops[i]? = some o) : ops.toList.drop i = o :: ops.toList.drop (i + 1) := by
  obtain ⟨hi, e⟩ := Array.getElem?_eq_some_iff.1 ho
  rw [List.drop_eq_getElem_cons (by simpa using hi)]
  congr 1

/-- What holds of the first operations. -/
def StI (a0 : Act) (w0 : World) (slots : List Nat) (F : Nat → Nat → Nat → Value → World → Prop) (d : Nat → Bool) (a : Act) (x : World) : Prop :=
  ∃ (s : Nat → Value) (lo hi : Nat → Nat), a = putAll a0 slots 0 s ∧ Below w0.heap.size w0 x ∧ (∀ i, i < slots.length → d i = true → F i (lo i) (hi i) (s i) x ∧ w0.heap.size ≤ lo i ∧ lo i ≤ hi i ∧ hi i ≤ x.heap.size) ∧
    ∀ i j, i < slots.length → j < slots.length → i ≠ j → d i = true → d j = true → hi i ≤ lo j ∨ hi j ≤ lo i

theorem wp_region_stable {id : Nat} {a0 : Act} {w0 : World} (hm : P.follows .mixedOrders = true)
    (hlow : lowOk ops = true) (slots : List Nat) (f : Nat) (hok : (dstsOk ops slots && lastOk ops slots.length f && decide slots.Nodup && decide (slots.length ≤ ops.size)) = true)
    (F : Nat → Nat → Nat → Value → World → Prop)
    (stab : ∀ i lo hi v x x', i < slots.length → F i lo hi v x → Below x.heap.size x x' → F i lo hi v x')
    (step : ∀ (i : Nat) (o : Oper) (s : Nat → Value) (x : World), ops[i]? = some o → i < slots.length → Below w0.heap.size w0 x →
      (∀ j, ahead ops f i j = true → j < slots.length → ∃ lo hi, F j lo hi (s j) x) →
      wpOp P ops Q i (fun a' x' => ∃ v, a' = (putAll a0 slots 0 s).put (some (slots.getD i 0)) v ∧ F i x.heap.size x'.heap.size v x' ∧ Below x.heap.size x x') (putAll a0 slots 0 s) x)
    (fin : ∀ (s : Nat → Value) (lo hi : Nat → Nat) (x : World), Below w0.heap.size w0 x → (∀ i, i < slots.length → F i (lo i) (hi i) (s i) x ∧ w0.heap.size ≤ lo i ∧ lo i ≤ hi i ∧ hi i ≤ x.heap.size) →
      (∀ i j, i < slots.length → j < slots.length → i ≠ j → hi i ≤ lo j ∨ hi j ≤ lo i) → wpList P ops Q (ops.toList.drop slots.length) (putAll a0 slots 0 s) x) :
    (Code.region id ops true).wp P Q a0 w0 := by
  simp only [Bool.and_eq_true, decide_eq_true_eq] at hok
  obtain ⟨⟨⟨hdst, hlast⟩, hnd⟩, hsz⟩ := hok
  have hl := lowOk_spec hlow
  have hlast' : ∀ i, i < ops.size → slots.length ≤ i → ∀ j, j < i → ahead ops f i j = true := by
    intro i hi hn j hj
    have h1 := List.all_eq_true.1 hlast i (List.mem_range.2 hi)
    simp only [Bool.or_eq_true, decide_eq_true_eq] at h1
    rcases h1 with h1 | h1
    · omega
    · exact List.all_eq_true.1 h1 j (List.mem_range.2 hj)
  have hdst' : ∀ i o, i < slots.length → ops[i]? = some o → o.dst = slots[i]? := by
    intro i o hi ho
    have h1 := List.all_eq_true.1 hdst i (List.mem_range.2 hi)
    rw [ho] at h1
    simpa using h1
  refine wp_region_inv hm hl (fun d a x => (∀ (i : Nat) (o : Oper), ops[i]? = some o → d i = true → ∀ e ∈ o.after, Region.binds .any e = true → d e.on = true) ∧
    (((∀ j, slots.length ≤ j → d j = false) ∧ StI a0 w0 slots F d a x) ∨ (∃ k, slots.length < k ∧ (∀ j, d j = decide (j < k)) ∧ wpList P ops Q (ops.toList.drop k) a x))) ?_ ?_ ?_
  · refine ⟨(fun i o _ h => by cases h), .inl ⟨fun _ _ => rfl, ?_⟩⟩
    obtain ⟨s, hs⟩ := putAll_self slots a0 0 hnd
    exact ⟨s, fun _ => 0, fun _ => 0, hs.symm, (Below.refl _ _).drew, (fun i _ h => by cases h), (fun i j _ _ _ h _ => by cases h)⟩
  · rintro d i o a x ho hdi hed ⟨hcl, hI⟩
    have hi : i < ops.size := (Array.getElem?_eq_some_iff.1 ho).1
    have hcl' : ∀ (k : Nat) (o' : Oper), ops[k]? = some o' → (d k || k == i) = true → ∀ e ∈ o'.after, Region.binds .any e = true → (d e.on || e.on == i) = true := by
      intro k o' ho' hk e he hb
      rw [Bool.or_eq_true] at hk ⊢
      rcases hk with hk | hk
      · exact .inl (hcl k o' ho' hk e he hb)
      · have : k = i := by simpa using hk
        subst this
        rw [ho] at ho'
        injection ho' with ho'
        subst ho'
        exact .inl (hed e he hb)
    rcases Nat.lt_or_ge i slots.length with hin | hin
    · rcases hI with ⟨hnone, s, lo, hi', rfl, hbx, hF, hdis⟩ | ⟨k, hk, hdk, hw⟩
      · refine wpOp_mono ?_ (step i o s x ho hin hbx fun j hj hjn => ⟨_, _, (hF j hjn (ahead_done hcl f i j o ho hed hj)).1⟩)
        rintro a' x' ⟨v, rfl, hFi, hb'⟩
        refine ⟨hcl', .inl ⟨fun j hj => ?_, ?_⟩⟩
        · have : (j == i) = false := by rw [beq_eq_false_iff_ne]; omega
          show (d j || j == i) = false
          rw [hnone j hj, this]; rfl
        · refine ⟨fun j => if j = i then v else s j, fun j => if j = i then x.heap.size else lo j, fun j => if j = i then x'.heap.size else hi' j, ?_, hbx.trans (hb'.mono hbx.size), ?_, ?_⟩
          · have ht : slots[i]? = some (slots.getD i 0) := by rw [List.getD_eq_getElem?_getD, List.getElem?_eq_getElem hin]; rfl
            rw [putAll_upd slots a0 0 i s (slots.getD i 0) v hnd ht, Nat.zero_add]
          · intro j hj hdj
            by_cases hji : j = i
            · subst hji
              simp only [if_true]
              exact ⟨hFi, hbx.size, hb'.size, Nat.le_refl _⟩
            · simp only [if_neg hji]
              have hdj' : d j = true := by
                rw [Bool.or_eq_true] at hdj
                rcases hdj with h | h
                · exact h
                · exact absurd (by simpa using h) hji
              obtain ⟨h1, h2, h3, h4⟩ := hF j hj hdj'
              exact ⟨stab _ _ _ _ _ _ hj h1 hb', h2, h3, Nat.le_trans h4 hb'.size⟩
          · intro j k hj hk hjk hdj hdk
            have old : ∀ j, (d j || j == i) = true → j ≠ i → d j = true := by
              intro j h hne
              rw [Bool.or_eq_true] at h
              rcases h with h | h
              · exact h
              · exact absurd (by simpa using h) hne
            by_cases hji : j = i
            · subst hji
              have hkj : k ≠ j := fun e => hjk e.symm
              simp only [if_true, if_neg hkj]
              exact .inr (hF k hk (old k hdk hkj)).2.2.2
            · by_cases hki : k = i
              · subst hki
                simp only [if_true, if_neg hji]
                exact .inl (hF j hj (old j hdj hji)).2.2.2
              · simp only [if_neg hji, if_neg hki]
                exact hdis j k hj hk hjk (old j hdj hji) (old k hdk hki)
      · rw [hdk i] at hdi
        simp at hdi
        omega
    · have hall : ∀ j, j < i → d j = true := fun j hj => ahead_done hcl f i j o ho hed (hlast' i hi hin j hj)
      have key : ∃ w', w' = wpList P ops Q (ops.toList.drop i) a x ∧ w' := by
        refine ⟨_, rfl, ?_⟩
        rcases hI with ⟨hnone, s, lo, hi', rfl, hbx, hF, hdis⟩ | ⟨k, hk, hdk, hw⟩
        · have hin' : i = slots.length := by
            rcases Nat.lt_or_ge slots.length i with h | h
            · have := hall slots.length h; rw [hnone _ (Nat.le_refl _)] at this; cases this
            · omega
          rw [hin']
          exact fin s lo hi' x hbx (fun j hj => hF j hj (hall j (by omega))) (fun j k hj hk hjk => hdis j k hj hk hjk (hall j (by omega)) (hall k (by omega)))
        · have : i = k := by
            rcases Nat.lt_trichotomy i k with h | h | h
            · rw [hdk i] at hdi; simp at hdi; omega
            · exact h
            · have := hall k h; rw [hdk k] at this; simp at this
          rw [this]; exact hw
      obtain ⟨_, rfl, key⟩ := key
      rw [drop_at ho] at key
      refine wpOp_mono ?_ (wpOp_of_wpList ho key)
      intro a' x' hw
      refine ⟨hcl', .inr ⟨i + 1, by omega, fun j => ?_, hw⟩⟩
      show (d j || j == i) = _
      rcases Nat.lt_trichotomy j i with h | h | h
      · rw [hall j h]; simp; omega
      · subst h; simp
      · have hdj : d j = false := by
          rcases hI with ⟨hnone, _⟩ | ⟨k, hk, hdk, hw⟩
          · exact hnone j (by omega)
          · rw [hdk i] at hdi; rw [hdk j]; simp at hdi ⊢; omega
        rw [hdj]
        have : (j == i) = false := by rw [beq_eq_false_iff_ne]; omega
        rw [this]; simp; omega
  · rintro d a x hall ⟨hcl, hI⟩
    rcases hI with ⟨hnone, s, lo, hi', rfl, hbx, hF, hdis⟩ | ⟨k, hk, hdk, hw⟩
    · have hn : slots.length = ops.size := by
        rcases Nat.lt_or_ge slots.length ops.size with h | h
        · have := hall _ h; rw [hnone _ (Nat.le_refl _)] at this; cases this
        · omega
      have := fin s lo hi' x hbx (fun j hj => hF j hj (hall j (by omega))) (fun j k hj hk hjk => hdis j k hj hk hjk (hall j (by omega)) (hall k (by omega)))
      rw [hn, List.drop_of_length_le (by simp)] at this
      exact this
    · have hks : ops.size ≤ k := by
        rcases Nat.lt_or_ge k ops.size with h | h
        · have := hall k h; rw [hdk k] at this; simp at this
        · exact h
      rw [List.drop_of_length_le (by simpa using hks)] at hw
      exact hw
end

end AC

