/-
  The walks of the reference's Sub and Cmp, and of keep2's Rat and Rats.
-/
import Derived.Test.YtafhbipafbchcaaRefK
namespace Go.Proofs.Ytafhbipafbchcaa
open Go.RowKit AC
set_option linter.unusedVariables false
set_option linter.unusedSimpArgs false

set_option maxHeartbeats 2000000 in
theorem rSub_any (w : World) (lo lo' : Nat) (v v' : Value) (K K' : Nat) (q q' : Rat) (hv : RatV w lo v K q) (hv' : RatV w lo' v' K' q') (hK : K + K' ≤ 2000000000) :
    Calls Try.prog 21 #[v, v'] w (RetQ w (q - q')) := by
  have hsz : sz q' ≤ K' + 1 := hv'.size
  have HV := Lib.hid hv
  have HV' := Lib.hid hv'
  obtain ⟨s, A, k, c, A', k', c', rfl⟩ := hv.form
  obtain ⟨s2, A2, k2, c2, A3, k3, c3, rfl⟩ := hv'.form
  obtain ⟨Q, hQ⟩ : ∃ Q, Hid (Q = q + (-q')) := ⟨_, rfl⟩
  rw [Rat.sub_eq_add_neg, ← hQ.out]
  clear hv hv'
  go_enter Try.func21, Try.ntmps21
  go_upto_region 1 with (fail)
  obtain ⟨W, hW⟩ : ∃ W, W = (((w.alloc (.cells #[.bool s, .slice A k c, .slice A' k' c'] 29)).alloc (.cells #[.bool s2, .slice A2 k2 c2, .slice A3 k3 c3] 29)).alloc (.cells zero3 29)) := ⟨_, rfl⟩
  have hbW : Below w.heap.size w W := by rw [hW]; exact bel3 _ _ _ _
  have hFW : Bk W w.heap.size 29 #[.bool s, .slice A k c, .slice A' k' c'] := by rw [hW]; exact ((Bk.new _ _ _).alloc _).alloc _
  have hGW : Bk W (w.heap.size + 1) 29 #[.bool s2, .slice A2 k2 c2, .slice A3 k3 c3] := by
    rw [hW]; have := (Bk.new (w.alloc (.cells #[.bool s, .slice A k c, .slice A' k' c'] 29)) 29 #[.bool s2, .slice A2 k2 c2, .slice A3 k3 c3]).alloc (.cells zero3 29); simpa using this
  have hRW : Bk W (w.heap.size + 1 + 1) 29 zero3 := by
    rw [hW]; have := (Bk.new ((w.alloc (.cells #[.bool s, .slice A k c, .slice A' k' c'] 29)).alloc (.cells #[.bool s2, .slice A2 k2 c2, .slice A3 k3 c3] 29)) 29 zero3); simpa using this
  have hW' := hW
  simp only [zero3] at hW'
  rw [← hW']
  clear hW hW'
  refine wp_region_stable (by kernel_rfl) (by kernel_rfl) [5, 6, 7, 8] 3 (by kernel_rfl) (fun i lo hi v x => match i with
    | 0 => v = .agg #[.bool s, .slice A k c, .slice A' k' c']
    | 1 => v = .agg #[.bool s2, .slice A2 k2 c2, .slice A3 k3 c3]
    | 2 => RatR x W.heap.size v (-q')
    | _ => RatR x W.heap.size v Q) ?_ ?_ ?_
  · intro i lo hi v x x' hi h hb
    rcases i with _ | _ | _ | i
    · exact h
    · exact h
    · exact RatR.below h hb
    · exact RatR.below h hb
  · intro i o S x ho hi hbx hdep
    rcases i with _ | _ | _ | _ | i
    · cases ho
      obtain ⟨hcF, hfF, hzF⟩ := (hFW.below hbx hFW.lt).facts
      refine wpOp_plain rfl rfl fun KK hKK => ?_
      have HK := Lib.hid hKK
      clear hKK hdep hi
      simp only [putAll, Act.put, List.setIfInBounds_toArray, List.set_cons_succ, List.set_cons_zero, List.getD_cons_zero, List.getD_cons_succ, Nat.zero_add, Nat.reduceAdd] at HK ⊢
      go_wp2
      exact HK.out _ _ ⟨_, rfl, rfl, Below.refl _ _⟩
    · cases ho
      obtain ⟨hcG, hfG, hzG⟩ := (hGW.below hbx hGW.lt).facts
      refine wpOp_plain rfl rfl fun KK hKK => ?_
      have HK := Lib.hid hKK
      clear hKK hdep hi
      simp only [putAll, Act.put, List.setIfInBounds_toArray, List.set_cons_succ, List.set_cons_zero, List.getD_cons_zero, List.getD_cons_succ, Nat.zero_add, Nat.reduceAdd] at HK ⊢
      go_wp2
      exact HK.out _ _ ⟨_, rfl, rfl, Below.refl _ _⟩
    · cases ho
      obtain ⟨_, _, h1⟩ := hdep 1 (by kernel_rfl) (by decide)
      refine wpOp_plain rfl rfl fun KK hKK => ?_
      have HK := Lib.hid hKK
      clear hKK hdep hi
      simp only [putAll, Act.put, List.setIfInBounds_toArray, List.set_cons_succ, List.set_cons_zero, List.getD_cons_zero, List.getD_cons_succ, Nat.zero_add, Nat.reduceAdd] at HK ⊢
      generalize S 1 = t1 at *
      subst h1
      go_wp2_with fail
      refine (rNeg_any _ lo' _ K' q' (HV'.out.below (hbW.trans (hbx.mono hbW.size))) (by omega)).mono ?_
      rintro e xN ⟨vN, rfl, hrN, hbN⟩
      exact HK.out _ _ ⟨_, rfl, RatR.lower hrN hbx.size, hbN⟩
    · cases ho
      obtain ⟨_, _, h0⟩ := hdep 0 (by kernel_rfl) (by decide)
      obtain ⟨_, _, h2⟩ := hdep 2 (by kernel_rfl) (by decide)
      replace h2 : RatR x W.heap.size (S 2) (-q') := h2
      have H2 := Lib.hid h2
      clear h2
      refine wpOp_plain rfl rfl fun KK hKK => ?_
      have HK := Lib.hid hKK
      clear hKK hdep hi
      simp only [putAll, Act.put, List.setIfInBounds_toArray, List.set_cons_succ, List.set_cons_zero, List.getD_cons_zero, List.getD_cons_succ, Nat.zero_add, Nat.reduceAdd] at HK ⊢
      generalize S 0 = t0 at *
      subst h0
      go_wp2_with fail
      refine (rAdd_any _ lo W.heap.size _ _ K (K' + 1) q (-q') (HV.out.below (hbW.trans (hbx.mono hbW.size))) (RatR.toV H2.out (by rw [sz_neg]; exact hsz)) (by omega)).mono ?_
      rintro e xN ⟨vN, rfl, hrN, hbN⟩
      exact HK.out _ _ ⟨_, rfl, (by rw [hQ.out]; exact RatR.lower hrN hbx.size), hbN⟩
    · exact absurd hi (by simp)
  · intro S lo1 hi1 x hbx hF hdis
    have g0 : S 0 = .agg #[.bool s, .slice A k c, .slice A' k' c'] := (hF 0 (by decide)).1
    have g1 : S 1 = .agg #[.bool s2, .slice A2 k2 c2, .slice A3 k3 c3] := (hF 1 (by decide)).1
    have g2 : RatR x W.heap.size (S 2) (-q') := (hF 2 (by decide)).1
    have g3 : RatR x W.heap.size (S 3) Q := (hF 3 (by decide)).1
    clear hF hdis
    simp only [putAll, Act.put, List.setIfInBounds_toArray, List.set_cons_succ, List.set_cons_zero, List.getD_cons_zero, List.getD_cons_succ, Nat.zero_add, Nat.reduceAdd, List.length_cons, List.length_nil, List.drop_succ_cons, List.drop_zero]
    generalize S 0 = t0 at *
    subst g0
    generalize S 1 = t1 at *
    subst g1
    generalize S 2 = t2 at *
    generalize S 3 = t3 at *
    have HQ := Lib.hid g3
    obtain ⟨A1, c1, B1, e1, rfl, _, _⟩ := FracR.form g3
    have hR2 := hRW.below hbx hRW.lt
    have hbxw := hbW.trans (hbx.mono hbW.size)
    have hzx := hbx.size
    have hzW := hRW.lt
    obtain ⟨hcR, hfR, hzR⟩ := hR2.facts
    simp only [zero3] at hcR
    clear g2 g3
    go_wp2
    exact bodyPost_ret (v := .agg #[.bool (decide (Q.num < 0)), .slice A1 (dl Q.num.natAbs) c1, .slice B1 (dl Q.den) e1]) (by simp [results, Try.results21, go_sem, hcR]) rfl ⟨_, rfl, RatR.lower (rat_set3 HQ.out (by omega) _ _ _) (by omega), below_set3 hbxw (by omega) _ _ _⟩

set_option maxHeartbeats 2000000 in
theorem rCmp_any (w : World) (lo lo' : Nat) (v v' : Value) (K K' : Nat) (q q' : Rat) (hv : RatV w lo v K q) (hv' : RatV w lo' v' K' q') (hK : K + K' ≤ 2000000000) :
    Calls Try.prog 9 #[v, v'] w (fun e w' => e = .returned (.int .i64 (cmpQ q q')) ∧ Below w.heap.size w w') := by
  have hsz : sz (q - q') ≤ K + K' + 3 := by have h1 := hv.size; have h2 := hv'.size; have h3 := sz_sub q q'; omega
  have HV := Lib.hid hv
  have HV' := Lib.hid hv'
  obtain ⟨s, A, k, c, A', k', c', rfl⟩ := hv.form
  obtain ⟨s2, A2, k2, c2, A3, k3, c3, rfl⟩ := hv'.form
  clear hv hv'
  go_enter Try.func9, Try.ntmps9
  go_wp2_with fail
  refine (rSub_any _ lo lo' _ _ K K' q q' (HV.out.below (bel2 w _ _)) (HV'.out.below (bel2 w _ _)) (by omega)).mono ?_
  rintro e w1 ⟨v1, rfl, hr1, hb1⟩
  have HR1 := Lib.hid hr1
  have hbw1 := (bel2 w _ _).trans (hb1.mono (by simp; omega))
  clear hr1 hb1
  go_wp2_with fail
  refine (rSign_any _ _ _ (K + K' + 3) (q - q') (RatR.toV HR1.out hsz) (by omega)).mono ?_
  rintro e w2 ⟨rfl, hb2⟩
  go_wp2
  go_ret
  exact ⟨rfl, hbw1.trans (hb2.mono hbw1.size)⟩

/-- Both lists of limbs are short. -/
def shortB (k k' : Nat) : Bool := decide (k ≤ 2) && decide (k' ≤ 2)

theorem kRat_any (w : World) (s : Bool) (A A' : Option Addr) (k c k' c' : Nat) (hk : k ≤ 9223372036854775807) (hk' : k' ≤ 9223372036854775807) :
    Calls Try.prog 14 #[.agg #[.bool s, .slice A k c, .slice A' k' c']] w (fun e w' => e = .returned (.bool (shortB k k')) ∧ Below w.heap.size w w') := by
  by_cases h1 : k ≤ 2
  · by_cases h2 : k' ≤ 2
    · have hb : Hid (shortB k k' = true) := by show _ = _; simp [shortB, h1, h2]
      rw [hb.out]
      go_enter Try.func14, Try.ntmps14
      go_wp2
      go_ret
      exact ⟨by simp; omega, bel1 _ _⟩
    · have hb : Hid (shortB k k' = false) := by show _ = _; simp [shortB, h1, h2]
      rw [hb.out]
      go_enter Try.func14, Try.ntmps14
      go_wp2
      go_ret
      exact ⟨by simp; omega, bel1 _ _⟩
  · have hb : Hid (shortB k k' = false) := by show _ = _; simp [shortB, h1]
    have h1' : decide ((k : Int) ≤ 2) = false := by simp; omega
    rw [hb.out]
    go_enter Try.func14, Try.ntmps14
    go_wp2
    go_ret
    exact ⟨rfl, bel1 _ _⟩

theorem RatV.short {w : World} {lo : Nat} {s : Bool} {An Ad : Option Addr} {kn cn kd cd K : Nat} {q : Rat} (h : RatV w lo (.agg #[.bool s, .slice An kn cn, .slice Ad kd cd]) K q) (h1 : shortB kn kd = true) : RatV w lo (.agg #[.bool s, .slice An kn cn, .slice Ad kd cd]) 2 q := by
  obtain ⟨neg, kn', kd', fn, fd, vn, vd, e, h2, h3, h4, h5, h6⟩ := h
  simp only [Value.agg.injEq, Array.mk.injEq, List.cons.injEq, and_true] at e
  obtain ⟨e1, rfl, rfl⟩ := e
  obtain ⟨A1, c1, e2⟩ := h2.len
  obtain ⟨A2, c2, e3⟩ := h3.len
  injection e2 with _ e2 _
  injection e3 with _ e3 _
  subst e2
  subst e3
  simp only [shortB, Bool.and_eq_true, decide_eq_true_eq] at h1
  refine ⟨neg, kn, kd, fn, fd, _, _, ?_, h2, h3, h1.1, h1.2, h6⟩
  rw [e1]
theorem RatsV.snoc {w : World} {lo b off i c K : Nat} {r : Nat → Rat} (h : RatsV w lo (.slice (some ⟨b, off, none⟩) i c) i K r) (hb : lo ≤ b) (hlt : b < w.heap.size) (hic : i + 1 ≤ c) {s : Bool} {An Ad : Option Addr} {kn cn kd cd : Nat}
    (e1 : w.cell? ⟨b, off + i * 3, none⟩ = some (.bool s)) (e2 : w.cell? ⟨b, off + i * 3 + 1, none⟩ = some (.slice An kn cn)) (e3 : w.cell? ⟨b, off + i * 3 + 2, none⟩ = some (.slice Ad kd cd)) (e4 : RatV w lo (.agg #[.bool s, .slice An kn cn, .slice Ad kd cd]) K (r i)) :
    RatsV w lo (.slice (some ⟨b, off, none⟩) (i + 1) c) (i + 1) K r := by
  obtain ⟨A', c', e, h1, h2, h3⟩ := h
  injection e with eA _ ec
  subst eA
  subst ec
  refine ⟨_, _, rfl, hic, h2, fun _ => ⟨b, off, rfl, hb, hlt, fun j hj => ?_⟩⟩
  rcases Nat.lt_or_ge j i with h | h
  · obtain ⟨b', off', e', h4, h5, h6⟩ := h3 (by omega)
    injection e' with e'
    injection e' with e5 e6
    subst e5
    subst e6
    exact h6 j h
  · obtain rfl : j = i := by omega
    exact ⟨s, An, kn, cn, Ad, kd, cd, e1, e2, e3, e4⟩
theorem RatsV.empty (w : World) (lo c K : Nat) (A : Option Addr) (r : Nat → Rat) (hc : c ≤ 9223372036854775807) : RatsV w lo (.slice A 0 c) 0 K r :=
  ⟨A, c, rfl, Nat.zero_le _, by unfold maxLen; omega, fun h => absurd h (by omega)⟩

theorem RatsV.elem {w : World} {lo : Nat} {A : Option Addr} {c k K : Nat} {r : Nat → Rat} (h : RatsV w lo (.slice A k c) k K r) {i : Nat} (hi : i < k) :
    ∃ b off s An kn cn Ad kd cd, A = some ⟨b, off, none⟩ ∧ lo ≤ b ∧ b < w.heap.size ∧ w.cell? ⟨b, off + i * 3, none⟩ = some (.bool s) ∧ w.cell? ⟨b, off + i * 3 + 1, none⟩ = some (.slice An kn cn) ∧ w.cell? ⟨b, off + i * 3 + 2, none⟩ = some (.slice Ad kd cd) ∧
      RatV w lo (.agg #[.bool s, .slice An kn cn, .slice Ad kd cd]) K (r i) ∧ kn ≤ 9223372036854775807 ∧ kd ≤ 9223372036854775807 := by
  obtain ⟨A', c', e, _, _, h3⟩ := h
  injection e with e1 e2 e3
  subst e1
  obtain ⟨b, off, rfl, h4, h5, h6⟩ := h3 (by omega)
  obtain ⟨s, An, kn, cn, Ad, kd, cd, g1, g2, g3, g4⟩ := h6 i hi
  refine ⟨b, off, s, An, kn, cn, Ad, kd, cd, rfl, h4, h5, g1, g2, g3, g4, ?_⟩
  obtain ⟨neg, kn', kd', fn, fd, vn, vd, e, h2, h3, _⟩ := g4
  simp only [Value.agg.injEq, Array.mk.injEq, List.cons.injEq, and_true] at e
  obtain ⟨_, rfl, rfl⟩ := e
  have q1 := h2.short
  have q2 := h3.short
  obtain ⟨_, _, e2⟩ := h2.len
  obtain ⟨_, _, e3⟩ := h3.len
  injection e2 with _ e2 _
  injection e3 with _ e3 _
  omega

/-- What Rats says. -/
def KeptR (w : World) (lo : Nat) (v : Value) (k n : Nat) (r : Nat → Rat) (e : Ending) (w' : World) : Prop :=
  ∃ b, e = .returned (.bool b) ∧ (b = true → k ≤ n ∧ RatsV w lo v k 2 r) ∧ Below w.heap.size w w'
theorem KeptR.no {w w' : World} {lo : Nat} {v : Value} {k n : Nat} {r : Nat → Rat} (h : Below w.heap.size w w') : KeptR w lo v k n r (.returned (.bool false)) w' := ⟨false, rfl, (fun h => by cases h), h⟩
theorem KeptR.yes {w w' : World} {lo : Nat} {v : Value} {k n : Nat} {r : Nat → Rat} (h : Below w.heap.size w w') (h1 : k ≤ n) (h2 : RatsV w lo v k 2 r) : KeptR w lo v k n r (.returned (.bool true)) w' := ⟨true, rfl, (fun _ => ⟨h1, h2⟩), h⟩

set_option maxHeartbeats 1000000 in
theorem kRats_any (w : World) (lo : Nat) (v : Value) (k K n : Nat) (r : Nat → Rat) (hv : RatsV w lo v k K r) (hn : n ≤ 1000000) :
    Calls Try.prog 6 #[v, .int .i64 n] w (KeptR w lo v k n r) := by
  have HV := Lib.hid hv
  obtain ⟨A, c, rfl, hkc, hcm⟩ := hv.form
  clear hv
  by_cases hkn : k ≤ n
  · have hdk : decide (n < k) = false := by simp; omega
    go_enter Try.func6, Try.ntmps6
    go_wp2
    go_loopw [12] (fun iv wr => ∃ i : Nat, i ≤ k ∧ iv = .int .i64 i ∧ Hid (RatsV w lo (.slice A i c) i 2 r) ∧ Below w.heap.size w wr) (fun iv _ => k - (intOf iv).toNat)
    case atStart => exact ⟨0, by omega, rfl, RatsV.empty _ _ _ _ _ _ hcm, Below.refl _ _⟩
    case round =>
      obtain ⟨i, hi, rfl, hso, hbw⟩ := hrel
      by_cases hlt : i < k
      · obtain ⟨b, off, s, An, kn, cn, Ad, kd, cd, rfl, hlb, hbb, g1, g2, g3, g4, hkn', hkd'⟩ := HV.out.elem (i := i) hlt
        have HE := Lib.hid g4
        have c1 := (hbw.cell (p := ⟨b, off + i * 3, none⟩) hbb).trans g1
        have c2 := (hbw.cell (p := ⟨b, off + i * 3 + 1, none⟩) hbb).trans g2
        have c3 := (hbw.cell (p := ⟨b, off + i * 3 + 2, none⟩) hbb).trans g3
        have G1 := Lib.hid g1
        have G2 := Lib.hid g2
        have G3 := Lib.hid g3
        clear g1 g2 g3 g4
        go_wp2_with fail
        refine (kRat_any _ s An Ad kn cn kd cd hkn' hkd').mono ?_
        rintro e w1 ⟨rfl, hb1⟩
        have hbw1 := hbw.trans (hb1.mono hbw.size)
        clear hb1
        obtain ⟨t, ht⟩ : ∃ t, Hid (t = shortB kn kd) := ⟨_, rfl⟩
        rw [← ht.out]
        cases t
        · go_wp2
          go_ret
          exact KeptR.no hbw1
        · go_wp2
          go_roundw
          case rel => exact ⟨i + 1, by omega, by go_num, RatsV.snoc hso.out hlb hbb (by omega) G1.out G2.out G3.out (HE.out.short ht.out.symm), hbw1⟩
          case measure => simp [intOf]; omega
      · obtain rfl : i = k := by omega
        go_wp2
        go_ret
        exact KeptR.yes hbw hkn hso.out
  · go_enter Try.func6, Try.ntmps6
    go_wp2
    go_ret
    exact KeptR.no (Below.refl _ _)

end Go.Proofs.Ytafhbipafbchcaa
