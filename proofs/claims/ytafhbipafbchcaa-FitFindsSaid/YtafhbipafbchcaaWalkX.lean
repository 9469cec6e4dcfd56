/-
  The walks of fit's Fit and Above.
-/
import Derived.Test.YtafhbipafbchcaaWalkW
namespace Go.Proofs.Ytafhbipafbchcaa
open Go.RowKit AC
set_option linter.unusedVariables false
set_option linter.unusedSimpArgs false

set_option maxHeartbeats 2000000 in
theorem Fit_yes (w : World) (lo : Nat) (v : Value) (k K : Nat) (r : Nat → Rat) (d : Int) (hv : RatsV w lo v k K r) (hk : k ≤ 33) (hK : KD K k ≤ 1900000000) (hd : ((cutQ (fun j => dif r j 0) k : Nat) : Int) ≤ d + 1) :
    Calls Try.prog 7 #[v, .int .i64 d] w (fun e w' => ∃ v2, e = .returned (.tuple #[v2, .bool true]) ∧ RatsV w' w.heap.size v2 (cutQ (fun j => dif r j 0) k) (KD K k + 1) (fun j => dif r j 0) ∧ Below w.heap.size w w') := by
  have HV := Lib.hid hv
  obtain ⟨A, c, rfl, hkc, hcm⟩ := hv.form
  have hcl := cutQ_le (fun j => dif r j 0) k
  obtain ⟨n, hn⟩ : ∃ n, n = cutQ (fun j => dif r j 0) k := ⟨_, rfl⟩
  rw [← hn] at hd hcl ⊢
  have HN := Lib.hid hn
  clear hv hn
  go_enter Try.func7, Try.ntmps7
  go_wp2_with fail
  refine (Differences_any _ lo _ k K r HV.out hk hK).mono ?_
  rintro e w1 ⟨v1, rfl, hr1, hb1⟩
  rw [← HN.out] at hr1
  have HR := Lib.hid hr1
  obtain ⟨A1, c1, rfl, hkc1, hcm1⟩ := hr1.form
  clear hr1
  go_wp2
  go_ret2
  exact ⟨_, rfl, HR.out, hb1⟩

set_option maxHeartbeats 2000000 in
theorem Fit_no (w : World) (lo : Nat) (v : Value) (k K : Nat) (r : Nat → Rat) (d : Int) (hv : RatsV w lo v k K r) (hk : k ≤ 33) (hK : KD K k ≤ 1900000000) (hd : d + 1 < ((cutQ (fun j => dif r j 0) k : Nat) : Int)) :
    Calls Try.prog 7 #[v, .int .i64 d] w (fun e w' => e = .returned (.tuple #[.slice none 0 0, .bool false]) ∧ Below w.heap.size w w') := by
  have HV := Lib.hid hv
  obtain ⟨A, c, rfl, hkc, hcm⟩ := hv.form
  have hcl := cutQ_le (fun j => dif r j 0) k
  obtain ⟨n, hn⟩ : ∃ n, n = cutQ (fun j => dif r j 0) k := ⟨_, rfl⟩
  rw [← hn] at hd hcl
  have HN := Lib.hid hn
  clear hv hn
  go_enter Try.func7, Try.ntmps7
  go_wp2_with fail
  refine (Differences_any _ lo _ k K r HV.out hk hK).mono ?_
  rintro e w1 ⟨v1, rfl, hr1, hb1⟩
  rw [← HN.out] at hr1
  have HR := Lib.hid hr1
  obtain ⟨A1, c1, rfl, hkc1, hcm1⟩ := hr1.form
  clear hr1
  go_wp2
  go_ret2
  exact ⟨rfl, hb1⟩

/-- What Above returns. -/
def AboveR (w : World) (n k : Nat) (p r : Nat → Rat) (e : Ending) (w' : World) : Prop :=
  ∃ (i : Nat) (t : Bool), e = .returned (.tuple #[.int .i64 i, .bool t]) ∧ (t = true → i < k ∧ cmpQ (evalQ p i n) (r i) < 0) ∧ (∀ j, j < (if t then i else k) → 0 ≤ cmpQ (evalQ p j n) (r j)) ∧ Below w.heap.size w w'
theorem AboveR.no {w w' : World} {n k : Nat} {p r : Nat → Rat} (h : ∀ j, j < k → 0 ≤ cmpQ (evalQ p j n) (r j)) (hb : Below w.heap.size w w') : AboveR w n k p r (.returned (.tuple #[.int .i64 0, .bool false])) w' :=
  ⟨0, false, rfl, (fun h => by cases h), h, hb⟩
theorem AboveR.yes {w w' : World} {n k : Nat} {p r : Nat → Rat} {i : Nat} (h : ∀ j, j < i → 0 ≤ cmpQ (evalQ p j n) (r j)) (hi : i < k) (hl : cmpQ (evalQ p i n) (r i) < 0) (hb : Below w.heap.size w w') : AboveR w n k p r (.returned (.tuple #[.int .i64 i, .bool true])) w' :=
  ⟨i, true, rfl, fun _ => ⟨hi, hl⟩, h, hb⟩

set_option maxHeartbeats 2000000 in
theorem Above_any (w : World) (lo lo' : Nat) (v v' : Value) (n k K K' : Nat) (p r : Nat → Rat) (hv : RatsV w lo v n K p) (hv' : RatsV w lo' v' k K' r) (hn : n ≤ 33) (hk : k ≤ 33) (hK : K ≤ 10000000) (hK' : K' ≤ 1000000000) :
    Calls Try.prog 10 #[v, v'] w (AboveR w n k p r) := by
  have HV := Lib.hid hv
  have HV' := Lib.hid hv'
  obtain ⟨A, c, rfl, hkc, hcm⟩ := hv.form
  obtain ⟨A', c', rfl, hkc', hcm'⟩ := hv'.form
  clear hv hv'
  go_enter Try.func10, Try.ntmps10
  go_wp2
  go_loopw [20] (fun iv wr => ∃ i : Nat, i ≤ k ∧ iv = .int .i64 i ∧ Hid (∀ j, j < i → 0 ≤ cmpQ (evalQ p j n) (r j)) ∧ Below w.heap.size w wr) (fun iv _ => k - (intOf iv).toNat)
  case atStart => exact ⟨0, by omega, rfl, fun j hj => absurd hj (by omega), Below.refl _ _⟩
  case round =>
    obtain ⟨i, hi, rfl, hno, hbw⟩ := hrel
    by_cases hlt : i < k
    · obtain ⟨ba, off, s, An, kn, cn, Ad, kd, cd, rfl, hbb, g1, g2, g3, g4⟩ := HV'.out.at_ hbw (i := i) (by omega)
      have HE := Lib.hid g4
      clear g4
      have hws := hbw.size
      have hz1 : ba < wr.heap.size := by omega
      go_wp2_with fail
      refine (Eval_any _ lo _ n K p i ((HV.out.below hbw).below (bel1 _ _)) (by omega) hn hK).mono ?_
      rintro e w1 ⟨v1, rfl, hr1, hb1⟩
      have hB1 := Lib.hid ((Bk.new wr 29 _).below hb1 (by simp))
      obtain ⟨hcB, hfB, hzB⟩ := hB1.out.facts
      obtain ⟨q, hq⟩ : ∃ q, Hid (q = evalQ p i n) := ⟨_, rfl⟩
      rw [← hq.out] at hr1
      have hsz : sz q ≤ 1 + 33 * (K + 303) := by
        rw [hq.out]
        have h3 := sz_eval (r := p) (n := i) (K := K + 1) (by omega) (by omega) n (by omega) (fun j hj => HV.out.size hj)
        have h4 : n * (K + 1 + 302) ≤ 33 * (K + 1 + 302) := Nat.mul_le_mul (by omega) (Nat.le_refl _)
        have h5 : K + 1 + 302 = K + 303 := by omega
        rw [h5] at h3 h4
        exact Nat.le_trans h3 (Nat.add_le_add_left h4 1)
      have HR1 := Lib.hid hr1
      obtain ⟨A1, c1, A2, c2, rfl, _, _⟩ := FracR.form hr1
      have hbw1 := hbw.trans (((bel1 wr _).trans (hb1.mono (by simp))).mono hws)
      have HE1 := Lib.hid ((HE.out.below (bel1 _ (.cells #[.bool s, .slice An kn cn, .slice Ad kd cd] 29))).below hb1)
      clear hr1 hb1
      go_wp2_with fail
      refine (Cmp_any _ wr.heap.size lo' _ _ (1 + 33 * (K + 303)) K' q (r i) ((RatR.toV (HR1.out.lower (by simp)) hsz).below (bel1 _ _)) (HE1.out.below (bel1 _ _)) (by omega)).mono ?_
      rintro e w2 ⟨rfl, hb2⟩
      have hbw2 := hbw1.trans (((bel1 w1 _).trans (hb2.mono (by simp))).mono hbw1.size)
      clear hb2
      have hzq : Hid (cmpQ q (r i) = cmpQ (evalQ p i n) (r i)) := by
        show _ = _
        rw [hq.out]
      obtain ⟨z, hz⟩ : ∃ z, z = cmpQ q (r i) := ⟨_, rfl⟩
      rw [← hz] at hzq ⊢
      clear hz hsz
      by_cases hneg : z < 0
      · go_wp2
        go_ret2
        exact AboveR.yes hno.out hlt (by rw [← hzq.out]; exact hneg) hbw2
      · go_wp2
        go_roundw
        case rel =>
          refine ⟨i + 1, by omega, by go_num, fun j hj => ?_, hbw2⟩
          rcases Nat.lt_or_ge j i with h | h
          · exact hno.out j h
          · obtain rfl : j = i := by omega
            rw [← hzq.out]
            omega
        case measure => simp [intOf]; omega
    · obtain rfl : i = k := by omega
      go_wp2
      go_ret2
      exact AboveR.no hno.out hbw

end Go.Proofs.Ytafhbipafbchcaa
