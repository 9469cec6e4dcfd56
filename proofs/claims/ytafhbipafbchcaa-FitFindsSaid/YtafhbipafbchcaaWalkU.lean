/-
  The walk of binomial's Canonical.
-/
import Derived.Test.YtafhbipafbchcaaMemQ
import Derived.Deep.CutBlock
import Derived.Deep.DeepCutAuto
namespace Go.Proofs.Ytafhbipafbchcaa
open Go.RowKit AC
set_option linter.unusedVariables false
set_option linter.unusedSimpArgs false

/-- How many numbers are left without the zeros at the end. -/
def cutQ (r : Nat → Rat) : Nat → Nat
  | 0 => 0
  | n + 1 => if r n = 0 then cutQ r n else n + 1
theorem cutQ_le (r : Nat → Rat) : ∀ n, cutQ r n ≤ n
  | 0 => Nat.le_refl _
  | n + 1 => by unfold cutQ; split; · exact Nat.le_trans (cutQ_le r n) (by omega)
                · omega
theorem sgnQ_zero {q : Rat} : sgnQ q = 0 ↔ q = 0 := by
  unfold sgnQ
  rw [Int.sign_eq_zero_iff_zero]
  exact Rat.num_eq_zero

/-- One element of a list of numbers, read later. -/
theorem RatsV.at_ {w wr : World} {lo : Nat} {A : Option Addr} {c k K : Nat} {r : Nat → Rat} (h : RatsV w lo (.slice A k c) k K r) (hb : Below w.heap.size w wr) {i : Nat} (hi : i < k) :
    ∃ b off s An kn cn Ad kd cd, A = some ⟨b, off, none⟩ ∧ b < w.heap.size ∧ wr.cell? ⟨b, off + i * 3, none⟩ = some (.bool s) ∧ wr.cell? ⟨b, off + i * 3 + 1, none⟩ = some (.slice An kn cn) ∧ wr.cell? ⟨b, off + i * 3 + 2, none⟩ = some (.slice Ad kd cd) ∧
      RatV wr lo (.agg #[.bool s, .slice An kn cn, .slice Ad kd cd]) K (r i) := by
  obtain ⟨A', c', e, _, _, h3⟩ := h
  injection e with e1 e2 e3
  subst e1
  obtain ⟨b, off, rfl, h4, h5, h6⟩ := h3 (by omega)
  obtain ⟨s, An, kn, cn, Ad, kd, cd, g1, g2, g3, g4⟩ := h6 i hi
  exact ⟨b, off, s, An, kn, cn, Ad, kd, cd, rfl, h5, (hb.cell (p := ⟨b, _, none⟩) h5).trans g1, (hb.cell (p := ⟨b, _, none⟩) h5).trans g2, (hb.cell (p := ⟨b, _, none⟩) h5).trans g3, g4.below hb⟩

theorem RatsV.form {w : World} {lo : Nat} {v : Value} {k K : Nat} {r : Nat → Rat} (h : RatsV w lo v k K r) : ∃ A c, v = .slice A k c ∧ k ≤ c ∧ c ≤ 9223372036854775807 := by
  obtain ⟨A, c, rfl, h1, h2, _⟩ := h
  unfold maxLen at h2
  exact ⟨A, c, rfl, h1, by omega⟩

theorem RatsV.size {w : World} {lo : Nat} {v : Value} {k K : Nat} {r : Nat → Rat} (h : RatsV w lo v k K r) {i : Nat} (hi : i < k) : sz (r i) ≤ K + 1 := by
  obtain ⟨A, c, rfl, h1, h2, _⟩ := id h
  obtain ⟨_, _, _, _, _, _, _, _, _, _, _, _, _, _, h5⟩ := h.at_ (Below.refl _ _) hi
  exact h5.size

set_option maxHeartbeats 2000000 in
theorem canonicalL_any (w : World) (lo : Nat) (v : Value) (k K : Nat) (r : Nat → Rat) (hv : RatsV w lo v k K r) (hk : k ≤ 4294967296) (hK : K ≤ 4000000000) :
    Calls Try.prog 11 #[v] w (Ret fun v2 w' => RatsV w' w.heap.size v2 (cutQ r k) (K + 1) r ∧ Below w.heap.size w w') := by
  have HV := Lib.hid hv
  obtain ⟨A, c, rfl, hkc, hcm⟩ := hv.form
  clear hv
  go_enter Try.func11, Try.ntmps11
  go_upto_block 0 with (fail)
  go_cut [3] (fun nv wx => nv = .int .i64 ((cutQ r k : Nat) : Int) ∧ Below w.heap.size w wx)
  case first =>
    go_wp2
    go_loopw [3] (fun nv wr => ∃ m : Nat, m ≤ k ∧ nv = .int .i64 m ∧ Hid (cutQ r k = cutQ r m) ∧ Below w.heap.size w wr) (fun nv _ => (intOf nv).toNat)
    case atStart => exact ⟨k, Nat.le_refl _, rfl, rfl, Below.refl _ _⟩
    case round =>
      obtain ⟨m, hm, rfl, hcut, hbw⟩ := hrel
      by_cases hgo : ∃ m', m = m' + 1 ∧ r m' = 0
      · obtain ⟨m, rfl, hz⟩ := hgo
        obtain ⟨b, off, s, An, kn, cn, Ad, kd, cd, rfl, hbb, g1, g2, g3, g4⟩ := HV.out.at_ hbw (i := m) (by omega)
        have HE := Lib.hid g4
        have hgt : decide ((0 : Int) < (m : Int) + 1) = true := by rw [decide_eq_true_iff]; omega
        have hcn : Hid (cutQ r k = cutQ r m) := by
          show _ = _
          rw [hcut.out]
          show (if r m = 0 then cutQ r m else m + 1) = _
          rw [if_pos hz]
        have HZ := Lib.hid (sgnQ_zero.2 hz)
        clear g4 hz
        go_wp2_with fail
        refine (Sign_any _ lo _ K (r m) HE.out (by omega)).mono ?_
        rintro e w1 ⟨rfl, hb1⟩
        rw [HZ.out]
        go_wp2
        go_roundw
        case rel => exact ⟨m, by omega, by go_num, hcn, hbw.trans (hb1.mono hbw.size)⟩
        case measure => simp [intOf]
      · have hfin : Hid (cutQ r k = m) := by
          show _ = _
          rw [hcut.out]
          rcases m with _ | m
          · rfl
          · show (if r m = 0 then cutQ r m else m + 1) = _
            rw [if_neg (fun h => hgo ⟨m, rfl, h⟩)]
        rcases m with _ | m
        · go_wp2
          go_meet
          exact ⟨by rw [hfin.out], hbw⟩
        · obtain ⟨b, off, s, An, kn, cn, Ad, kd, cd, rfl, hbb, g1, g2, g3, g4⟩ := HV.out.at_ hbw (i := m) (by omega)
          have HE := Lib.hid g4
          have hgt : decide ((0 : Int) < (m : Int) + 1) = true := by rw [decide_eq_true_iff]; omega
          have hz : r m ≠ 0 := fun h => hgo ⟨m, rfl, h⟩
          obtain ⟨si, hsi⟩ : ∃ si, Hid (si = sgnQ (r m)) := ⟨_, rfl⟩
          have hsz : (si == 0) = false := by rw [beq_eq_false_iff_ne, hsi.out]; exact fun h => hz (sgnQ_zero.1 h)
          clear g4 hz hgo
          go_wp2_with fail
          refine (Sign_any _ lo _ K (r m) HE.out (by omega)).mono ?_
          rintro e w1 ⟨rfl, hb1⟩
          rw [← hsi.out]
          go_wp2
          go_meet
          exact ⟨by rw [hfin.out]; rfl, hbw.trans (hb1.mono hbw.size)⟩
  case rest =>
    obtain ⟨rfl, hbc⟩ := hcut
    have hcl := cutQ_le r k
    obtain ⟨n, hn⟩ : ∃ n, Hid (n = cutQ r k) := ⟨_, rfl⟩
    rw [← hn.out] at hcl ⊢
    go_wp2_with (at_make; refine wpList_mkQ _ rfl _ _ rfl _ _ _ _ n (by rfl) (by rfl) rfl rfl (by omega) w.heap.size w hbc hbc.size ?_; intro b w1 hlb1 hlb2 hrow1 hbw1 hbw2)
    go_loopw [25] (fun iv wr => ∃ i : Nat, i ≤ n ∧ iv = .int .i64 i ∧ RowQ wr b n i r ∧ Below w.heap.size w wr) (fun iv _ => n - (intOf iv).toNat)
    case atStart => exact ⟨0, by omega, rfl, hrow1 r, hbw1⟩
    case round =>
      obtain ⟨i, hi, rfl, hrow, hbw⟩ := hrel
      by_cases hlt : i < n
      · obtain ⟨ba, off, s, An, kn, cn, Ad, kd, cd, rfl, hbb, g1, g2, g3, g4⟩ := HV.out.at_ hbw (i := i) (by omega)
        have HE := Lib.hid g4
        clear g4
        go_wp2_with fail
        refine (canonical_any _ lo _ K (r i) HE.out (by omega)).mono ?_
        rintro e w2 ⟨v2, rfl, hr2, hb2⟩
        have hrow2 := hrow.below hb2
        obtain ⟨u0, hu0⟩ := hrow2.there (i := i * 3) (by omega)
        obtain ⟨u1, hu1⟩ := hrow2.there (i := i * 3 + 1) (by omega)
        obtain ⟨u2, hu2⟩ := hrow2.there (i := i * 3 + 2) (by omega)
        have f0 := hrow2.frozen (i * 3)
        have f1 := hrow2.frozen (i * 3 + 1)
        have f2 := hrow2.frozen (i * 3 + 2)
        have hlr := hrow.lt
        have hst := Lib.hid (hr2.lower (show b + 1 ≤ wr.heap.size by omega))
        obtain ⟨A2, c2, A3, c3, rfl, _, _⟩ := FracR.form hr2
        have hbq := hbw.trans (hb2.mono hbw.size)
        have HROW := Lib.hid hrow2
        clear hrow hrow2 hr2 hb2
        go_wp2
        go_roundw
        case rel => exact ⟨i + 1, by omega, by go_num, RowQ.store HROW.out hst.out, ((hbq.setCell (p := ⟨b, _, none⟩) hlb1 _).setCell (p := ⟨b, _, none⟩) hlb1 _).setCell (p := ⟨b, _, none⟩) hlb1 _⟩
        case measure => simp [intOf]; omega
      · obtain rfl : i = n := by omega
        go_wp2
        go_ret
        refine ⟨.slice (some ⟨b, 0, none⟩) i i, rfl, ?_, hbw⟩
        rw [← hn.out]
        exact hrow.toV (Nat.le_refl _) hlb1 (by omega) (fun j hj => HV.out.size (by omega))

end Go.Proofs.Ytafhbipafbchcaa
