/-
  The walks of rational's load and sign.
-/
import Derived.Test.YtafhbipafbchcaaWalkL
import Derived.Deep.RegionHeld3
namespace Go.Proofs.Ytafhbipafbchcaa
open Go.RowKit AC
set_option linter.unusedVariables false
set_option linter.unusedSimpArgs false

/-- A struct of a sign and two lists of limbs, at most K each, that denotes the number q. -/
def RatV (w : World) (lo : Nat) (v : Value) (K : Nat) (q : Rat) : Prop :=
  ∃ (neg : Bool) (kn kd : Nat) (fn fd : Nat → Nat) (vn vd : Value), v = .agg #[.bool neg, vn, vd] ∧ Limbs w lo vn kn fn ∧ Limbs w lo vd kd fd ∧ kn ≤ K ∧ kd ≤ K ∧ q = mkRat (sg neg (vs fn kn)) (vs fd kd)

theorem RatV.below {w w' : World} {lo : Nat} {v : Value} {K : Nat} {q : Rat} (h : RatV w lo v K q) (hb : Below w.heap.size w w') : RatV w' lo v K q := by
  obtain ⟨neg, kn, kd, fn, fd, vn, vd, rfl, h1, h2, h3, h4, h5⟩ := h
  exact ⟨neg, kn, kd, fn, fd, vn, vd, rfl, h1.below hb, h2.below hb, h3, h4, h5⟩
theorem RatV.lower {w : World} {lo lo' : Nat} {v : Value} {K : Nat} {q : Rat} (h : RatV w lo v K q) (hl : lo' ≤ lo) : RatV w lo' v K q := by
  obtain ⟨neg, kn, kd, fn, fd, vn, vd, rfl, h1, h2, h3, h4, h5⟩ := h
  exact ⟨neg, kn, kd, fn, fd, vn, vd, rfl, h1.lower hl, h2.lower hl, h3, h4, h5⟩

theorem sg_ofParts (q : Rat) : sg (decide (q.num < 0)) q.num.natAbs = q.num := by
  unfold sg
  by_cases h : q.num < 0
  · simp [h]; omega
  · simp [h]; omega
theorem mk_parts (q : Rat) : mkRat (sg (decide (q.num < 0)) q.num.natAbs) q.den = q := by rw [sg_ofParts]; exact Rat.mkRat_self q
theorem RatR.toV {w : World} {lo : Nat} {v : Value} {q : Rat} (h : RatR w lo v q) {K : Nat} (hK : sz q ≤ K) : RatV w lo v K q := by
  obtain ⟨vn, vd, rfl, h1, h2⟩ := h
  refine ⟨_, _, _, _, _, vn, vd, rfl, h1, h2, ?_, ?_, ?_⟩
  · exact Nat.le_trans (Nat.le_max_left _ _) hK
  · exact Nat.le_trans (Nat.le_max_right _ _) hK
  · rw [vs_dl, vs_dl, mk_parts]

theorem dl_limbs {f : Nat → Nat} {k : Nat} (h : ∀ i, i < k → f i < 4294967296) : dl (vs f k) ≤ k + 1 := by
  apply dl_le
  have h1 := carry_small f k h k (Nat.le_refl _)
  rw [Nat.pow_succ, Nat.mul_comm, ← Nat.div_lt_iff_lt_mul (Bp_pos k)]
  exact Nat.lt_of_le_of_lt h1 (by decide)

theorem RatV.size {w : World} {lo : Nat} {v : Value} {K : Nat} {q : Rat} (h : RatV w lo v K q) : sz q ≤ K + 1 := by
  obtain ⟨neg, kn, kd, fn, fd, vn, vd, rfl, h1, h2, h3, h4, h5⟩ := h
  rw [h5]
  refine sz_mk _ _ _ ?_ ?_ (by omega)
  · rw [sg_natAbs]; have := dl_limbs h1.1; omega
  · have := dl_limbs h2.1; omega

/-- What load gives: a fraction in new memory. -/
def LoadR (w : World) (K : Nat) (q : Rat) (v2 : Value) (w' : World) : Prop :=
  ∃ neg n d, FracR w' w.heap.size v2 neg n d ∧ d ≠ 0 ∧ dl n ≤ K + 1 ∧ dl d ≤ K + 1 ∧ q = mkRat (sg neg n) d ∧ Below w.heap.size w w'

set_option maxHeartbeats 2000000 in
theorem load_any (w : World) (lo : Nat) (v : Value) (K : Nat) (q : Rat) (hv : RatV w lo v K q) (hK : K ≤ 4294967290) :
    Calls Try.prog 31 #[v] w (Ret (LoadR w K q)) := by
  obtain ⟨neg, kn, kd, fn, fd, vn, vd, rfl, h1, h2, h3, h4, h5⟩ := hv
  have H1 := Lib.hid h1
  have H2 := Lib.hid h2
  have H5 := Lib.hid h5
  obtain ⟨A, c, rfl⟩ := h1.len
  obtain ⟨A', c', rfl⟩ := h2.len
  clear h1 h2 h5
  go_enter Try.func31, Try.ntmps31
  go_wp2
  go_region_held3 (fun w' => w'.cell? ⟨w.heap.size, 1, none⟩ = some (.slice A kn c) ∧ w'.cell? ⟨w.heap.size, 2, none⟩ = some (.slice A' kd c')) (go_keep)
    (first
      | (go_at_call_of 45 (Value.slice A kn c); refine (normal_any _ lo _ kn fn (by exact (H1.out.alloc _).alloc _) (by omega)).mono ?_; rintro e w1 ⟨v1, rfl, hn1, hb1⟩; have hbw1 := (bel2 w _ _).drew.trans (hb1.mono (by simp; omega)); have hz1 : w.heap.size + 1 < w1.heap.size := (by have := hb1.size; simp at this; omega); have hz1' : w.heap.size < w1.heap.size := (by omega); obtain ⟨hc1, hf1⟩ := bcell hb1; have hcA : w1.cell? ⟨w.heap.size, 1, none⟩ = some (.slice A kn c) := (hb1.cell (p := ⟨w.heap.size, 1, none⟩) (by simp; omega)).trans (by simp [go_sem]); have hcB : w1.cell? ⟨w.heap.size, 2, none⟩ = some (.slice A' kd c') := (hb1.cell (p := ⟨w.heap.size, 2, none⟩) (by simp; omega)).trans (by simp [go_sem]))
      | (go_at_call_of 45 (Value.slice A' kd c'); refine (normal_any _ lo _ kd fd (by exact H2.out.below hbw1) (by omega)).mono ?_; rintro e w2 ⟨v2, rfl, hn2, hb2⟩; have hcA2 : w2.cell? ⟨w.heap.size, 1, none⟩ = some (.slice A kn c) := (hb2.cell (p := ⟨w.heap.size, 1, none⟩) (by simp; omega)).trans hcA; have hcB2 : w2.cell? ⟨w.heap.size, 2, none⟩ = some (.slice A' kd c') := (hb2.cell (p := ⟨w.heap.size, 2, none⟩) (by simp; omega)).trans hcB))
  have hz2 : w.heap.size + 1 < w2.heap.size := by have := hb2.size; omega
  have hz2' : w.heap.size < w2.heap.size := by omega
  have hbw2 := hbw1.trans (hb2.mono (by omega))
  have hc2 : ∀ b o, b < w.heap.size + 2 → w2.cell? ⟨b, o, none⟩ = w1.cell? ⟨b, o, none⟩ := fun b o h => hb2.cell (p := ⟨b, o, none⟩) (by simp; omega)
  have hf2 : ∀ b o, b < w.heap.size + 2 → w2.frozen? ⟨b, o, none⟩ = w1.frozen? ⟨b, o, none⟩ := fun b o h => hb2.frozen (p := ⟨b, o, none⟩) (by simp; omega)
  have HN1 := Lib.hid (hn1.below hb2)
  have HN2 := Lib.hid hn2
  obtain ⟨N, hN⟩ : ∃ N, Hid (N = vs fn kn) := ⟨_, rfl⟩
  obtain ⟨D, hD⟩ : ∃ D, Hid (D = vs fd kd) := ⟨_, rfl⟩
  rw [← hN.out] at HN1 hn1
  rw [← hD.out] at HN2 hn2
  have hszN : Hid (dl N ≤ K + 1) := by show dl N ≤ K + 1; rw [hN.out]; have := dl_limbs H1.out.1; omega
  have hszD : Hid (dl D ≤ K + 1) := by show dl D ≤ K + 1; rw [hD.out]; have := dl_limbs H2.out.1; omega
  obtain ⟨A1, c1, rfl⟩ := Limbs.len hn1
  obtain ⟨A2, c2, rfl⟩ := Limbs.len hn2
  clear hn1 hn2 hb1 hb2
  have hval : Hid (q = mkRat (sg neg N) D) := by rw [hN.out, hD.out]; exact H5
  have hfin := fun (a b c : Value) => ((hbw2.setCell (p := ⟨w.heap.size + 1, 0, none⟩) (by simp) a).setCell (p := ⟨w.heap.size + 1, 1, none⟩) (by simp) b).setCell (p := ⟨w.heap.size + 1, 2, none⟩) (by simp) c
  have HFIN := Lib.hid hfin
  have hone := fun (a b c : Value) => NatR.oneNew (((w2.setCell ⟨w.heap.size + 1, 0, none⟩ a).setCell ⟨w.heap.size + 1, 1, none⟩ b).setCell ⟨w.heap.size + 1, 2, none⟩ c) w.heap.size 49 (by simp [World.setCell]; omega)
  have hsz : ∀ a b c : Value, (((w2.setCell ⟨w.heap.size + 1, 0, none⟩ a).setCell ⟨w.heap.size + 1, 1, none⟩ b).setCell ⟨w.heap.size + 1, 2, none⟩ c).heap.size = w2.heap.size := fun a b c => by simp [World.setCell]
  simp only [hsz] at hone
  have HONE := Lib.hid hone
  clear hone hsz hfin
  by_cases h0 : N = 0
  · have hq0 : Hid (q = mkRat (sg false 0) 1) := by
      show _ = _
      rw [hval.out, h0, sg_zero, sg_zero, Rat.zero_mkRat, Rat.zero_mkRat]
    have hd0 : (((dl N : Nat) : Int) == 0) = true := by rw [h0, dl_zero]; rfl
    clear h0
    go_wp2
    exact bodyPost_ret (v := .agg #[.bool false, .slice none 0 0, .slice (some ⟨w2.heap.size, 0, none⟩) 1 1]) (by simp [results, Try.results31, go_sem, hc2, hc1, hz2]) rfl
      ⟨_, rfl, false, 0, 1, ⟨_, _, rfl, NatR.zero _ _, HONE.out _ _ _⟩, by omega, by rw [dl_zero]; omega, by rw [dl_one]; omega, hq0.out, (HFIN.out _ _ _).alloc (by simp [World.setCell]; omega) _⟩
  · have hd0 : (((dl N : Nat) : Int) == 0) = false := by
      rw [beq_eq_false_iff_ne]; have := mt dl_eq_zero.1 h0; omega
    by_cases h1 : D = 0
    · have hq0 : Hid (q = mkRat (sg false 0) 1) := by
        show _ = _
        rw [hval.out, h1, sg_zero, Rat.mkRat_zero, Rat.zero_mkRat]
      have hd1 : (((dl D : Nat) : Int) == 0) = true := by rw [h1, dl_zero]; rfl
      clear h0 h1
      go_wp2
      exact bodyPost_ret (v := .agg #[.bool false, .slice none 0 0, .slice (some ⟨w2.heap.size, 0, none⟩) 1 1]) (by simp [results, Try.results31, go_sem, hc2, hc1, hz2]) rfl
        ⟨_, rfl, false, 0, 1, ⟨_, _, rfl, NatR.zero _ _, HONE.out _ _ _⟩, by omega, by rw [dl_zero]; omega, by rw [dl_one]; omega, hq0.out, (HFIN.out _ _ _).alloc (by simp [World.setCell]; omega) _⟩
    · have hd1 : (((dl D : Nat) : Int) == 0) = false := by
        rw [beq_eq_false_iff_ne]; have := mt dl_eq_zero.1 h1; omega
      clear h0
      go_wp2
      refine bodyPost_ret (v := .agg #[.bool neg, .slice A1 (dl N) c1, .slice A2 (dl D) c2]) (by simp [results, Try.results31, go_sem, hc2, hc1, hz2]) rfl
        ⟨_, rfl, neg, N, D, ⟨_, _, rfl, ?_, ?_⟩, h1, hszN.out, hszD.out, hval.out, HFIN.out _ _ _⟩
      · exact (((Limbs.setCell HN1.out (by simp) _).setCell (by simp) _).setCell (by simp) _).lower (by simp; omega)
      · exact (((Limbs.setCell HN2.out (by simp; omega) _).setCell (by simp; omega) _).setCell (by simp; omega) _).lower (by omega)

/-- What sign returns. -/
def signI (neg : Bool) (n : Nat) : Int := if n = 0 then 0 else if neg then -1 else 1

set_option maxHeartbeats 1000000 in
theorem sign_any (w : World) (lo : Nat) (v : Value) (neg : Bool) (n d : Nat) (hv : FracR w lo v neg n d) :
    Calls Try.prog 38 #[v] w (fun e w' => e = .returned (.int .i64 (signI neg n)) ∧ Below w.heap.size w w') := by
  obtain ⟨A, c, A', c', rfl, h1, h2⟩ := hv.form
  clear h1 h2 hv
  by_cases h0 : n = 0
  · have hs : Hid (signI neg n = 0) := by unfold signI; rw [if_pos h0]; rfl
    have hd0 : (((dl n : Nat) : Int) == 0) = true := by rw [h0, dl_zero]; rfl
    clear h0
    go_enter Try.func38, Try.ntmps38
    go_wp2
    go_ret
    exact ⟨by rw [hs.out]; rfl, (Below.refl _ _).alloc (Nat.le_refl _) _⟩
  · have hd0 : (((dl n : Nat) : Int) == 0) = false := by
      rw [beq_eq_false_iff_ne]; have := mt dl_eq_zero.1 h0; omega
    cases neg
    · have hs : Hid (signI false n = 1) := by unfold signI; rw [if_neg h0]; rfl
      clear h0
      go_enter Try.func38, Try.ntmps38
      go_wp2
      go_ret
      exact ⟨by rw [hs.out]; rfl, (Below.refl _ _).alloc (Nat.le_refl _) _⟩
    · have hs : Hid (signI true n = -1) := by unfold signI; rw [if_neg h0]; rfl
      clear h0
      go_enter Try.func38, Try.ntmps38
      go_wp2
      go_ret
      exact ⟨by rw [hs.out]; rfl, (Below.refl _ _).alloc (Nat.le_refl _) _⟩

set_option maxHeartbeats 1000000 in
theorem magnitude_any (w : World) (x : Int) (h1 : -9223372036854775808 ≤ x) (h2 : x ≤ 9223372036854775807) :
    Calls Try.prog 29 #[.int .i64 x] w (Ret fun v2 w' => NatR w' w.heap.size v2 x.natAbs ∧ Below w.heap.size w w') := by
  by_cases h0 : x < 0
  · go_enter Try.func29, Try.ntmps29
    go_wp2_with fail
    rw [show IntKind.u64.wrap (-IntKind.u64.wrap x) = ((x.natAbs : Nat) : Int) by rw [IntKind.wrap_u64, IntKind.wrap_u64]; omega]
    refine (fromWord_any _ x.natAbs (by omega)).mono ?_
    rintro e w1 ⟨v1, rfl, hn1, hb1⟩
    go_wp2
    go_ret
    exact ⟨v1, rfl, hn1, hb1⟩
  · obtain ⟨n, rfl⟩ : ∃ n : Nat, x = n := ⟨x.toNat, by omega⟩
    go_enter Try.func29, Try.ntmps29
    go_wp2_with fail
    refine (fromWord_any _ n (by omega)).mono ?_
    rintro e w1 ⟨v1, rfl, hn1, hb1⟩
    go_wp2
    go_ret
    exact ⟨v1, rfl, by rw [Int.natAbs_natCast]; exact hn1, hb1⟩

end Go.Proofs.Ytafhbipafbchcaa
