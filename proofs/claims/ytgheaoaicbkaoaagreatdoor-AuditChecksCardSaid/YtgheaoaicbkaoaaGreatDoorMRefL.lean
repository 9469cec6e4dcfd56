/-
  The walks of the reference's Sub and Cmp, and of keep2's Rat and Rats.
-/
import Derived.Test.YtgheaoaicbkaoaaGreatDoorMRefK
import Derived.Test.YtgheaoaicbkaoaaGreatDoorMRefJ
namespace Go.Proofs.YtgheaoaicbkaoaaGreatDoor
open Go.RowKit AC
set_option linter.unusedVariables false
set_option linter.unusedSimpArgs false

set_option maxHeartbeats 2000000 in
theorem rSub_any (w : World) (lo lo' : Nat) (v v' : Value) (K K' : Nat) (q q' : Rat) (hv : RatV w lo v K q) (hv' : RatV w lo' v' K' q') (hK : K + K' ≤ 2000000000) :
    Calls Tryz.prog 34 #[v, v'] w (RetQ w (q - q')) := by
  have hsz : sz q' ≤ K' + 1 := hv'.size
  have HV := Lib.hid hv
  have HV' := Lib.hid hv'
  obtain ⟨s, A, k, c, A', k', c', rfl⟩ := hv.form
  obtain ⟨s2, A2, k2, c2, A3, k3, c3, rfl⟩ := hv'.form
  obtain ⟨Q, hQ⟩ : ∃ Q, Hid (Q = q + (-q')) := ⟨_, rfl⟩
  rw [Rat.sub_eq_add_neg, ← hQ.out]
  clear hv hv'
  go_enter Tryz.func34, Tryz.ntmps34
  go_upto_region 1 with (fail)
  obtain ⟨W, hW⟩ : ∃ W, W = (((w.alloc (.cells #[.bool s, .slice A k c, .slice A' k' c'] 27)).alloc (.cells #[.bool s2, .slice A2 k2 c2, .slice A3 k3 c3] 27)).alloc (.cells zero3 27)) := ⟨_, rfl⟩
  have hbW : Below w.heap.size w W := by rw [hW]; exact bel3 _ _ _ _
  have hFW : Bk W w.heap.size 27 #[.bool s, .slice A k c, .slice A' k' c'] := by rw [hW]; exact ((Bk.new _ _ _).alloc _).alloc _
  have hGW : Bk W (w.heap.size + 1) 27 #[.bool s2, .slice A2 k2 c2, .slice A3 k3 c3] := by
    rw [hW]; have := (Bk.new (w.alloc (.cells #[.bool s, .slice A k c, .slice A' k' c'] 27)) 27 #[.bool s2, .slice A2 k2 c2, .slice A3 k3 c3]).alloc (.cells zero3 27); simpa using this
  have hRW : Bk W (w.heap.size + 1 + 1) 27 zero3 := by
    rw [hW]; have := (Bk.new ((w.alloc (.cells #[.bool s, .slice A k c, .slice A' k' c'] 27)).alloc (.cells #[.bool s2, .slice A2 k2 c2, .slice A3 k3 c3] 27)) 27 zero3); simpa using this
  have hW' := hW
  simp only [zero3] at hW'
  rw [← hW']
  clear hW hW'
  refine wp_region_stable (by kernel_rfl) (by kernel_rfl) [5, 6, 7, 8] 3 (by kernel_rfl) (fun i lo hi v x => match i with
    | 0 => v = .agg #[.bool s, .slice A k c, .slice A' k' c']
    | 1 => v = .agg #[.bool s2, .slice A2 k2 c2, .slice A3 k3 c3]
    | 2 => RatR x W.heap.size v (-q')
    | _ => RatR x W.heap.size v Q) ?_ ?_ ?_
  · intro i lo hi v x x' hi h hb
    rcases i with _ | _ | _ | i
    · exact h
    · exact h
    · exact RatR.below h hb
    · exact RatR.below h hb
  · intro i o S x ho hi hbx hdep
    rcases i with _ | _ | _ | _ | i
    · cases ho
      obtain ⟨hcF, hfF, hzF⟩ := (hFW.below hbx hFW.lt).facts
      refine wpOp_plain rfl rfl fun KK hKK => ?_
      have HK := Lib.hid hKK
      clear hKK hdep hi
      simp only [putAll, Act.put, List.setIfInBounds_toArray, List.set_cons_succ, List.set_cons_zero, List.getD_cons_zero, List.getD_cons_succ, Nat.zero_add, Nat.reduceAdd] at HK ⊢
      go_wp2
      exact HK.out _ _ ⟨_, rfl, rfl, Below.refl _ _⟩
    · cases ho
      obtain ⟨hcG, hfG, hzG⟩ := (hGW.below hbx hGW.lt).facts
      refine wpOp_plain rfl rfl fun KK hKK => ?_
      have HK := Lib.hid hKK
      clear hKK hdep hi
      simp only [putAll, Act.put, List.setIfInBounds_toArray, List.set_cons_succ, List.set_cons_zero, List.getD_cons_zero, List.getD_cons_succ, Nat.zero_add, Nat.reduceAdd] at HK ⊢
      go_wp2
      exact HK.out _ _ ⟨_, rfl, rfl, Below.refl _ _⟩
    · cases ho
      obtain ⟨_, _, h1⟩ := hdep 1 (by kernel_rfl) (by decide)
      refine wpOp_plain rfl rfl fun KK hKK => ?_
      have HK := Lib.hid hKK
      clear hKK hdep hi
      simp only [putAll, Act.put, List.setIfInBounds_toArray, List.set_cons_succ, List.set_cons_zero, List.getD_cons_zero, List.getD_cons_succ, Nat.zero_add, Nat.reduceAdd] at HK ⊢
      generalize S 1 = t1 at *
      subst h1
      go_wp2_with fail
      refine (rNeg_any _ lo' _ K' q' (HV'.out.below (hbW.trans (hbx.mono hbW.size))) (by omega)).mono ?_
      rintro e xN ⟨vN, rfl, hrN, hbN⟩
      exact HK.out _ _ ⟨_, rfl, RatR.lower hrN hbx.size, hbN⟩
    · cases ho
      obtain ⟨_, _, h0⟩ := hdep 0 (by kernel_rfl) (by decide)
      obtain ⟨_, _, h2⟩ := hdep 2 (by kernel_rfl) (by decide)
      replace h2 : RatR x W.heap.size (S 2) (-q') := h2
      have H2 := Lib.hid h2
      clear h2
      refine wpOp_plain rfl rfl fun KK hKK => ?_
      have HK := Lib.hid hKK
      clear hKK hdep hi
      simp only [putAll, Act.put, List.setIfInBounds_toArray, List.set_cons_succ, List.set_cons_zero, List.getD_cons_zero, List.getD_cons_succ, Nat.zero_add, Nat.reduceAdd] at HK ⊢
      generalize S 0 = t0 at *
      subst h0
      go_wp2_with fail
      refine (rAdd_any _ lo W.heap.size _ _ K (K' + 1) q (-q') (HV.out.below (hbW.trans (hbx.mono hbW.size))) (RatR.toV H2.out (by rw [sz_neg]; exact hsz)) (by omega)).mono ?_
      rintro e xN ⟨vN, rfl, hrN, hbN⟩
      exact HK.out _ _ ⟨_, rfl, (by rw [hQ.out]; exact RatR.lower hrN hbx.size), hbN⟩
    · exact absurd hi (by simp)
  · intro S lo1 hi1 x hbx hF hdis
    have g0 : S 0 = .agg #[.bool s, .slice A k c, .slice A' k' c'] := (hF 0 (by decide)).1
    have g1 : S 1 = .agg #[.bool s2, .slice A2 k2 c2, .slice A3 k3 c3] := (hF 1 (by decide)).1
    have g2 : RatR x W.heap.size (S 2) (-q') := (hF 2 (by decide)).1
    have g3 : RatR x W.heap.size (S 3) Q := (hF 3 (by decide)).1
    clear hF hdis
    simp only [putAll, Act.put, List.setIfInBounds_toArray, List.set_cons_succ, List.set_cons_zero, List.getD_cons_zero, List.getD_cons_succ, Nat.zero_add, Nat.reduceAdd, List.length_cons, List.length_nil, List.drop_succ_cons, List.drop_zero]
    generalize S 0 = t0 at *
    subst g0
    generalize S 1 = t1 at *
    subst g1
    generalize S 2 = t2 at *
    generalize S 3 = t3 at *
    have HQ := Lib.hid g3
    obtain ⟨A1, c1, B1, e1, rfl, _, _⟩ := FracR.form g3
    have hR2 := hRW.below hbx hRW.lt
    have hbxw := hbW.trans (hbx.mono hbW.size)
    have hzx := hbx.size
    have hzW := hRW.lt
    obtain ⟨hcR, hfR, hzR⟩ := hR2.facts
    simp only [zero3] at hcR
    clear g2 g3
    go_wp2
    exact bodyPost_ret (v := .agg #[.bool (decide (Q.num < 0)), .slice A1 (dl Q.num.natAbs) c1, .slice B1 (dl Q.den) e1]) (by simp [results, Tryz.results34, go_sem, hcR]) rfl ⟨_, rfl, RatR.lower (rat_set3 HQ.out (by omega) _ _ _) (by omega), below_set3 hbxw (by omega) _ _ _⟩

set_option maxHeartbeats 2000000 in
theorem rCmp_any (w : World) (lo lo' : Nat) (v v' : Value) (K K' : Nat) (q q' : Rat) (hv : RatV w lo v K q) (hv' : RatV w lo' v' K' q') (hK : K + K' ≤ 2000000000) :
    Calls Tryz.prog 16 #[v, v'] w (fun e w' => e = .returned (.int .i64 (cmpQ q q')) ∧ Below w.heap.size w w') := by
  have hsz : sz (q - q') ≤ K + K' + 3 := by have h1 := hv.size; have h2 := hv'.size; have h3 := sz_sub q q'; omega
  have HV := Lib.hid hv
  have HV' := Lib.hid hv'
  obtain ⟨s, A, k, c, A', k', c', rfl⟩ := hv.form
  obtain ⟨s2, A2, k2, c2, A3, k3, c3, rfl⟩ := hv'.form
  clear hv hv'
  go_enter Tryz.func16, Tryz.ntmps16
  go_wp2_with fail
  refine (rSub_any _ lo lo' _ _ K K' q q' (HV.out.below (bel2 w _ _)) (HV'.out.below (bel2 w _ _)) (by omega)).mono ?_
  rintro e w1 ⟨v1, rfl, hr1, hb1⟩
  have HR1 := Lib.hid hr1
  have hbw1 := (bel2 w _ _).trans (hb1.mono (by simp; omega))
  clear hr1 hb1
  go_wp2_with fail
  refine (rSign_any _ _ _ (K + K' + 3) (q - q') (RatR.toV HR1.out hsz) (by omega)).mono ?_
  rintro e w2 ⟨rfl, hb2⟩
  go_wp2
  go_ret
  exact ⟨rfl, hbw1.trans (hb2.mono hbw1.size)⟩

/-- Both lists of limbs are short. -/
def shortB (k k' : Nat) : Bool := decide (k ≤ 2) && decide (k' ≤ 2)

theorem kRat_any (w : World) (s : Bool) (A A' : Option Addr) (k c k' c' : Nat) (hk : k ≤ 9223372036854775807) (hk' : k' ≤ 9223372036854775807) :
    Calls Tryz.prog 5 #[.agg #[.bool s, .slice A k c, .slice A' k' c']] w (fun e w' => e = .returned (.bool (shortB k k')) ∧ Below w.heap.size w w') := by
  by_cases h1 : k ≤ 2
  · by_cases h2 : k' ≤ 2
    · have hb : Hid (shortB k k' = true) := by show _ = _; simp [shortB, h1, h2]
      rw [hb.out]
      go_enter Tryz.func5, Tryz.ntmps5
      go_wp2
      go_ret
      exact ⟨by simp; omega, bel1 _ _⟩
    · have hb : Hid (shortB k k' = false) := by show _ = _; simp [shortB, h1, h2]
      rw [hb.out]
      go_enter Tryz.func5, Tryz.ntmps5
      go_wp2
      go_ret
      exact ⟨by simp; omega, bel1 _ _⟩
  · have hb : Hid (shortB k k' = false) := by show _ = _; simp [shortB, h1]
    have h1' : decide ((k : Int) ≤ 2) = false := by simp; omega
    rw [hb.out]
    go_enter Tryz.func5, Tryz.ntmps5
    go_wp2
    go_ret
    exact ⟨rfl, bel1 _ _⟩

theorem RatV.short {w : World} {lo : Nat} {s : Bool} {An Ad : Option Addr} {kn cn kd cd K : Nat} {q : Rat} (h : RatV w lo (.agg #[.bool s, .slice An kn cn, .slice Ad kd cd]) K q) (h1 : shortB kn kd = true) : RatV w lo (.agg #[.bool s, .slice An kn cn, .slice Ad kd cd]) 2 q := by
  obtain ⟨neg, kn', kd', fn, fd, vn, vd, e, h2, h3, h4, h5, h6⟩ := h
  simp only [Value.agg.injEq, Array.mk.injEq, List.cons.injEq, and_true] at e
  obtain ⟨e1, rfl, rfl⟩ := e
  obtain ⟨A1, c1, e2⟩ := h2.len
  obtain ⟨A2, c2, e3⟩ := h3.len
  injection e2 with _ e2 _
  injection e3 with _ e3 _
  subst e2
  subst e3
  simp only [shortB, Bool.and_eq_true, decide_eq_true_eq] at h1
  refine ⟨neg, kn, kd, fn, fd, _, _, ?_, h2, h3, h1.1, h1.2, h6⟩
  rw [e1]
theorem RatsV.snoc {w : World} {lo b off i c K : Nat} {r : Nat → Rat} (h : RatsV w lo (.slice (some ⟨b, off, none⟩) i c) i K r) (hb : lo ≤ b) (hlt : b < w.heap.size) (hic : i + 1 ≤ c) {s : Bool} {An Ad : Option Addr} {kn cn kd cd : Nat}
    (e1 : w.cell? ⟨b, off + i * 3, none⟩ = some (.bool s)) (e2 : w.cell? ⟨b, off + i * 3 + 1, none⟩ = some (.slice An kn cn)) (e3 : w.cell? ⟨b, off + i * 3 + 2, none⟩ = some (.slice Ad kd cd)) (e4 : RatV w lo (.agg #[.bool s, .slice An kn cn, .slice Ad kd cd]) K (r i)) :
    RatsV w lo (.slice (some ⟨b, off, none⟩) (i + 1) c) (i + 1) K r := by
  obtain ⟨A', c', e, h1, h2, h3⟩ := h
  injection e with eA _ ec
  subst eA
  subst ec
  refine ⟨_, _, rfl, hic, h2, fun _ => ⟨b, off, rfl, hb, hlt, fun j hj => ?_⟩⟩
  rcases Nat.lt_or_ge j i with h | h
  · obtain ⟨b', off', e', h4, h5, h6⟩ := h3 (by omega)
    injection e' with e'
    injection e' with e5 e6
    subst e5
    subst e6
    exact h6 j h
  · obtain rfl : j = i := by omega
    exact ⟨s, An, kn, cn, Ad, kd, cd, e1, e2, e3, e4⟩
theorem RatsV.empty (w : World) (lo c K : Nat) (A : Option Addr) (r : Nat → Rat) (hc : c ≤ 9223372036854775807) : RatsV w lo (.slice A 0 c) 0 K r :=
  ⟨A, c, rfl, Nat.zero_le _, by unfold maxLen; omega, fun h => absurd h (by omega)⟩

theorem RatsV.elem {w : World} {lo : Nat} {A : Option Addr} {c k K : Nat} {r : Nat → Rat} (h : RatsV w lo (.slice A k c) k K r) {i : Nat} (hi : i < k) :
    ∃ b off s An kn cn Ad kd cd, A = some ⟨b, off, none⟩ ∧ lo ≤ b ∧ b < w.heap.size ∧ w.cell? ⟨b, off + i * 3, none⟩ = some (.bool s) ∧ w.cell? ⟨b, off + i * 3 + 1, none⟩ = some (.slice An kn cn) ∧ w.cell? ⟨b, off + i * 3 + 2, none⟩ = some (.slice Ad kd cd) ∧
      RatV w lo (.agg #[.bool s, .slice An kn cn, .slice Ad kd cd]) K (r i) ∧ kn ≤ 9223372036854775807 ∧ kd ≤ 9223372036854775807 := by
  obtain ⟨A', c', e, _, _, h3⟩ := h
  injection e with e1 e2 e3
  subst e1
  obtain ⟨b, off, rfl, h4, h5, h6⟩ := h3 (by omega)
  obtain ⟨s, An, kn, cn, Ad, kd, cd, g1, g2, g3, g4⟩ := h6 i hi
  refine ⟨b, off, s, An, kn, cn, Ad, kd, cd, rfl, h4, h5, g1, g2, g3, g4, ?_⟩
  obtain ⟨neg, kn', kd', fn, fd, vn, vd, e, h2, h3, _⟩ := g4
  simp only [Value.agg.injEq, Array.mk.injEq, List.cons.injEq, and_true] at e
  obtain ⟨_, rfl, rfl⟩ := e
  have q1 := h2.short
  have q2 := h3.short
  obtain ⟨_, _, e2⟩ := h2.len
  obtain ⟨_, _, e3⟩ := h3.len
  injection e2 with _ e2 _
  injection e3 with _ e3 _
  omega

/-- What Rats says. -/
def KeptR (w : World) (lo : Nat) (v : Value) (k n : Nat) (r : Nat → Rat) (e : Ending) (w' : World) : Prop :=
  ∃ b, e = .returned (.bool b) ∧ (b = true → k ≤ n ∧ RatsV w lo v k 2 r) ∧ Below w.heap.size w w'
theorem KeptR.no {w w' : World} {lo : Nat} {v : Value} {k n : Nat} {r : Nat → Rat} (h : Below w.heap.size w w') : KeptR w lo v k n r (.returned (.bool false)) w' := ⟨false, rfl, (fun h => by cases h), h⟩
theorem KeptR.yes {w w' : World} {lo : Nat} {v : Value} {k n : Nat} {r : Nat → Rat} (h : Below w.heap.size w w') (h1 : k ≤ n) (h2 : RatsV w lo v k 2 r) : KeptR w lo v k n r (.returned (.bool true)) w' := ⟨true, rfl, (fun _ => ⟨h1, h2⟩), h⟩

end Go.Proofs.YtgheaoaicbkaoaaGreatDoor

/-
  Operations with a guard, in a region that draws its order.
-/
namespace AC
open Go Go.RowKit
set_option linter.unusedVariables false
set_option linter.unusedSimpArgs false

/-- One operation of a region, shut to the unifier. -/
def opOk (P : Program) (ops : Array Oper) (Q : Exit → Act → World → Prop) (i : Nat) (K : Act → World → Prop) (a : Act) (w : World) : Prop := wpOp P ops Q i K a w
theorem opOk.out {P : Program} {ops : Array Oper} {Q : Exit → Act → World → Prop} {i : Nat} {K : Act → World → Prop} {a : Act} {w : World} (h : opOk P ops Q i K a w) : wpOp P ops Q i K a w := h
theorem opOk.of {P : Program} {ops : Array Oper} {Q : Exit → Act → World → Prop} {i : Nat} {K : Act → World → Prop} {a : Act} {w : World} (h : wpOp P ops Q i K a w) : opOk P ops Q i K a w := h
attribute [irreducible] opOk

section
variable {P : Program} {ops : Array Oper} {Q : Exit → Act → World → Prop}
theorem opOk_plain {i : Nat} {o : Oper} {I : Act → World → Prop} {a : Act} {w : World} (ho : ops[i]? = some o) (hg : o.guard = none)
    (h : ∀ K : Act → World → Prop, (∀ a w, I a w → K a w) → o.wp P a w K Q) : opOk P ops Q i I a w := opOk.of (wpOp_plain ho hg h)
theorem opOk_h {i : Nat} {o : Oper} {I : Act → World → Prop} {a : Act} {w : World} (ho : ops[i]? = some o) (hg : o.guard = none)
    (h : ∀ K : Act → World → Prop, Hid (∀ a w, I a w → K a w) → o.wp P a w K Q) : opOk P ops Q i I a w := opOk_plain ho hg h
theorem opOk_guarded {i j : Nat} {want : Bool} {o : Oper} {I : Act → World → Prop} {a : Act} {w : World} (ho : ops[i]? = some o) (hg : o.guard = some (j, want)) (t : Nat) (hd : (ops[j]?).bind (·.dst) = some t) (hv : a.tmps[t]? = some (.bool want))
    (h : ∀ K : Act → World → Prop, (∀ a w, I a w → K a w) → o.wp P a w K Q) : opOk P ops Q i I a w := by
  refine opOk.of ?_
  have hy : yielded ops a.tmps j = some want := by
    unfold yielded
    rw [hd]
    show (match a.tmps[t]? with | some (.bool b) => some b | _ => none) = some want
    rw [hv]
  unfold wpOp
  rw [ho]
  simp only [Region.wanted, hg, hy, beq_self_eq_true, if_true]
  exact .inl (h I fun _ _ h => h)
theorem opOk_skipped {i j : Nat} {want : Bool} {o : Oper} {I : Act → World → Prop} {a : Act} {w : World} (ho : ops[i]? = some o) (hg : o.guard = some (j, want)) (t : Nat) (hd : (ops[j]?).bind (·.dst) = some t) (hv : a.tmps[t]? = some (.bool (!want)))
    (h : I (a.put o.dst undef) w) : opOk P ops Q i I a w := by
  refine opOk.of ?_
  have hy : yielded ops a.tmps j = some (!want) := by
    unfold yielded
    rw [hd]
    show (match a.tmps[t]? with | some (.bool b) => some b | _ => none) = some (!want)
    rw [hv]
  unfold wpOp
  rw [ho]
  have : (some (!want) == some want) = false := by cases want <;> rfl
  simp only [Region.wanted, hg, hy, this]
  exact h

/-- wp_region_stable without a word on where the memory of an operation lies. -/
theorem wp_region_facts {id : Nat} {a0 : Act} {w0 : World} (hm : P.follows .mixedOrders = true)
    (hlow : lowOk ops = true) (slots : List Nat) (f : Nat) (hok : (dstsOk ops slots && lastOk ops slots.length f && decide slots.Nodup && decide (slots.length ≤ ops.size)) = true)
    (F : Nat → Value → World → Prop)
    (stab : ∀ i v x x', i < slots.length → F i v x → Below x.heap.size x x' → F i v x')
    (step : ∀ (i : Nat) (o : Oper) (s : Nat → Value) (x : World), ops[i]? = some o → i < slots.length → Below w0.heap.size w0 x →
      (∀ j, ahead ops f i j = true → j < slots.length → F j (s j) x) →
      opOk P ops Q i (fun a' x' => ∃ v, a' = (putAll a0 slots 0 s).put (some (slots.getD i 0)) v ∧ F i v x' ∧ Below x.heap.size x x') (putAll a0 slots 0 s) x)
    (fin : ∀ (s : Nat → Value) (x : World), Below w0.heap.size w0 x → (∀ i, i < slots.length → F i (s i) x) → wpList P ops Q (ops.toList.drop slots.length) (putAll a0 slots 0 s) x) :
    (Code.region id ops true).wp P Q a0 w0 :=
  wp_region_stable hm hlow slots f hok (fun i _ _ v x => F i v x) (fun i _ _ v x x' hi h hb => stab i v x x' hi h hb)
    (fun i o s x ho hi hb hdep => (step i o s x ho hi hb fun j hj hjn => (hdep j hj hjn).choose_spec.choose_spec).out)
    (fun s _ _ x hb hF _ => fin s x hb fun i hi => (hF i hi).1)
end

end AC

/-
  A region that draws its order: each operation but the last ones leaves a fact; a fact stays under the operations that do not stand ahead of its own.
-/
namespace AC
open Go Go.RowKit
set_option linter.unusedVariables false
set_option linter.unusedSimpArgs false

theorem nv : (∀ (a : Act) (k : Nat) (s : Nat → Value), putAll a [] k s = a) ∧ (∀ (a : Act) (t : Nat) (r : List Nat) (k : Nat) (s : Nat → Value), putAll a (t :: r) k s = putAll (a.put (some t) (s k)) r (k + 1) s) ∧
    (∀ (l : List Value) (d) (i : Nat) (v : Value), Act.put ⟨l.toArray, d⟩ (some i) v = ⟨(l.set i v).toArray, d⟩) ∧ (∀ (x y : Value) (l : List Value) (i : Nat), (x :: l).set (i + 1) y = x :: l.set i y) ∧ (∀ (x y : Value) (l : List Value), (x :: l).set 0 y = y :: l) ∧
    (∀ (x y : Nat) (l : List Nat), (x :: l).getD 0 y = x) ∧ (∀ (x y i : Nat) (l : List Nat), (x :: l).getD (i + 1) y = l.getD i y) ∧ (∀ n : Nat, 0 + n = n) :=
  ⟨fun _ _ _ => rfl, fun _ _ _ _ _ => rfl, fun l d i v => by simp [Act.put], fun _ _ _ _ => rfl, fun _ _ _ => rfl, fun _ _ _ => rfl, fun _ _ _ _ => rfl, Nat.zero_add⟩

section
variable {P : Program} {ops : Array Oper} {Q : Exit → Act → World → Prop}
/-- What holds of the first operations. -/
def RlI (a0 : Act) (R : (Nat → Bool) → World → Prop) (slots : List Nat) (F : Nat → Value → World → Prop) (d : Nat → Bool) (a : Act) (x : World) : Prop :=
  ∃ (s : Nat → Value), a = putAll a0 slots 0 s ∧ R d x ∧ ∀ i, i < slots.length → d i = true → F i (s i) x

theorem wp_region_rel {id : Nat} {a0 : Act} {w0 : World} (hm : P.follows .mixedOrders = true)
    (hlow : lowOk ops = true) (slots : List Nat) (f : Nat) (hok : (dstsOk ops slots && lastOk ops slots.length f && decide slots.Nodup && decide (slots.length ≤ ops.size)) = true)
    (R : (Nat → Bool) → World → Prop) (G : Nat → World → World → Prop) (F : Nat → Value → World → Prop) (h0 : R (fun _ => false) w0.drew) (hR : ∀ d j x x', R d x → d j = false → G j x x' → R (fun k => d k || k == j) x')
    (stab : ∀ i j v x x', i < slots.length → j < slots.length → i ≠ j → ahead ops f i j = false → F i v x → G j x x' → F i v x')
    (step : ∀ (i : Nat) (o : Oper) (s : Nat → Value) (d : Nat → Bool) (x : World), ops[i]? = some o → i < slots.length → d i = false → R d x →
      (∀ j, ahead ops f i j = true → j < slots.length → F j (s j) x) →
      opOk P ops Q i (fun a' x' => ∃ v, a' = (putAll a0 slots 0 s).put (some (slots.getD i 0)) v ∧ F i v x' ∧ G i x x') (putAll a0 slots 0 s) x)
    (fin : ∀ (s : Nat → Value) (d : Nat → Bool) (x : World), R d x → (∀ i, i < slots.length → F i (s i) x) → wpList P ops Q (ops.toList.drop slots.length) (putAll a0 slots 0 s) x) :
    (Code.region id ops true).wp P Q a0 w0 := by
  simp only [Bool.and_eq_true, decide_eq_true_eq] at hok
  obtain ⟨⟨⟨hdst, hlast⟩, hnd⟩, hsz⟩ := hok
  have hl := lowOk_spec hlow
  have hlast' : ∀ i, i < ops.size → slots.length ≤ i → ∀ j, j < i → ahead ops f i j = true := by
    intro i hi hn j hj
    have h1 := List.all_eq_true.1 hlast i (List.mem_range.2 hi)
    simp only [Bool.or_eq_true, decide_eq_true_eq] at h1
    rcases h1 with h1 | h1
    · omega
    · exact List.all_eq_true.1 h1 j (List.mem_range.2 hj)
  refine wp_region_inv hm hl (fun d a x => (∀ (i : Nat) (o : Oper), ops[i]? = some o → d i = true → ∀ e ∈ o.after, Region.binds .any e = true → d e.on = true) ∧
    (((∀ j, slots.length ≤ j → d j = false) ∧ RlI a0 R slots F d a x) ∨ (∃ k, slots.length < k ∧ (∀ j, d j = decide (j < k)) ∧ wpList P ops Q (ops.toList.drop k) a x))) ?_ ?_ ?_
  · refine ⟨(fun i o _ h => by cases h), .inl ⟨fun _ _ => rfl, ?_⟩⟩
    obtain ⟨s, hs⟩ := putAll_self slots a0 0 hnd
    exact ⟨s, hs.symm, h0, fun i _ h => by cases h⟩
  · rintro d i o a x ho hdi hed ⟨hcl, hI⟩
    have hi : i < ops.size := (Array.getElem?_eq_some_iff.1 ho).1
    have hcl' : ∀ (k : Nat) (o' : Oper), ops[k]? = some o' → (d k || k == i) = true → ∀ e ∈ o'.after, Region.binds .any e = true → (d e.on || e.on == i) = true := by
      intro k o' ho' hk e he hb
      rw [Bool.or_eq_true] at hk ⊢
      rcases hk with hk | hk
      · exact .inl (hcl k o' ho' hk e he hb)
      · have : k = i := by simpa using hk
        subst this
        rw [ho] at ho'
        injection ho' with ho'
        subst ho'
        exact .inl (hed e he hb)
    rcases Nat.lt_or_ge i slots.length with hin | hin
    · rcases hI with ⟨hnone, s, rfl, hbx, hF⟩ | ⟨k, hk, hdk, hw⟩
      · refine wpOp_mono ?_ (step i o s d x ho hin hdi hbx fun j hj hjn => hF j hjn (ahead_done hcl f i j o ho hed hj)).out
        rintro a' x' ⟨v, rfl, hFi, hb'⟩
        refine ⟨hcl', .inl ⟨fun j hj => ?_, ?_⟩⟩
        · have : (j == i) = false := by rw [beq_eq_false_iff_ne]; omega
          show (d j || j == i) = false
          rw [hnone j hj, this]; rfl
        · refine ⟨fun j => if j = i then v else s j, ?_, hR d i x x' hbx hdi hb', ?_⟩
          · have ht : slots[i]? = some (slots.getD i 0) := by rw [List.getD_eq_getElem?_getD, List.getElem?_eq_getElem hin]; rfl
            rw [putAll_upd slots a0 0 i s (slots.getD i 0) v hnd ht, Nat.zero_add]
          · intro j hj hdj
            by_cases hji : j = i
            · subst hji
              simp only [if_true]
              exact hFi
            · simp only [if_neg hji]
              have hdj' : d j = true := by
                rw [Bool.or_eq_true] at hdj
                rcases hdj with h | h
                · exact h
                · exact absurd (by simpa using h) hji
              refine stab j i _ x x' hj hin hji ?_ (hF j hj hdj') hb'
              cases ha : ahead ops f j i with
              | false => rfl
              | true =>
                exfalso
                have hjs : j < ops.size := by omega
                have hoj : ops[j]? = some ops[j] := Array.getElem?_eq_getElem hjs
                have := ahead_done hcl f j i _ hoj (hcl j _ hoj hdj') ha
                rw [hdi] at this
                cases this
      · rw [hdk i] at hdi
        simp at hdi
        omega
    · have hall : ∀ j, j < i → d j = true := fun j hj => ahead_done hcl f i j o ho hed (hlast' i hi hin j hj)
      have key : ∃ w', w' = wpList P ops Q (ops.toList.drop i) a x ∧ w' := by
        refine ⟨_, rfl, ?_⟩
        rcases hI with ⟨hnone, s, rfl, hbx, hF⟩ | ⟨k, hk, hdk, hw⟩
        · have hin' : i = slots.length := by
            rcases Nat.lt_or_ge slots.length i with h | h
            · have := hall slots.length h; rw [hnone _ (Nat.le_refl _)] at this; cases this
            · omega
          rw [hin']
          exact fin s d x hbx fun j hj => hF j hj (hall j (by omega))
        · have : i = k := by
            rcases Nat.lt_trichotomy i k with h | h | h
            · rw [hdk i] at hdi; simp at hdi; omega
            · exact h
            · have := hall k h; rw [hdk k] at this; simp at this
          rw [this]; exact hw
      obtain ⟨_, rfl, key⟩ := key
      rw [drop_at ho] at key
      refine wpOp_mono ?_ (wpOp_of_wpList ho key)
      intro a' x' hw
      refine ⟨hcl', .inr ⟨i + 1, by omega, fun j => ?_, hw⟩⟩
      show (d j || j == i) = _
      rcases Nat.lt_trichotomy j i with h | h | h
      · rw [hall j h]; simp; omega
      · subst h; simp
      · have hdj : d j = false := by
          rcases hI with ⟨hnone, _⟩ | ⟨k, hk, hdk, hw⟩
          · exact hnone j (by omega)
          · rw [hdk i] at hdi; rw [hdk j]; simp at hdi ⊢; omega
        rw [hdj]
        have : (j == i) = false := by rw [beq_eq_false_iff_ne]; omega
        rw [this]; simp; omega
  · rintro d a x hall ⟨hcl, hI⟩
    rcases hI with ⟨hnone, s, rfl, hbx, hF⟩ | ⟨k, hk, hdk, hw⟩
    · have hn : slots.length = ops.size := by
        rcases Nat.lt_or_ge slots.length ops.size with h | h
        · have := hall _ h; rw [hnone _ (Nat.le_refl _)] at this; cases this
        · omega
      have := fin s d x hbx fun j hj => hF j hj (hall j (by omega))
      rw [hn, List.drop_of_length_le (by simp)] at this
      exact this
    · have hks : ops.size ≤ k := by
        rcases Nat.lt_or_ge k ops.size with h | h
        · have := hall k h; rw [hdk k] at this; simp at this
        · exact h
      rw [List.drop_of_length_le (by simpa using hks)] at hw
      exact hw
end

end AC

