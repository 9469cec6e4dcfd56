/-
  The walk of binomial's Differences.
-/
import Derived.Test.YtdbiedpdibjdlaaGreatMMemP
namespace Go.Proofs.YtdbiedpdibjdlaaGreat
open Go.RowKit AC
set_option linter.unusedVariables false
set_option linter.unusedSimpArgs false
set_option maxRecDepth 100000

/-- The differences of a list, i times. -/
def dif (r : Nat → Rat) : Nat → Nat → Rat
  | 0, j => r j
  | i + 1, j => dif r i (j + 1) - dif r i j
/-- How many limbs the differences may have. -/
def KD (K : Nat) : Nat → Nat
  | 0 => K
  | i + 1 => KD K i + KD K i + 3
theorem KD_mono (K : Nat) : ∀ {i j}, i ≤ j → KD K i ≤ KD K j
  | i, 0, h => by obtain rfl : i = 0 := by omega
                  exact Nat.le_refl _
  | i, j + 1, h => by
    rcases Nat.lt_or_ge i (j + 1) with h1 | h1
    · have := KD_mono K (i := i) (j := j) (by omega)
      show _ ≤ KD K j + KD K j + 3
      omega
    · obtain rfl : i = j + 1 := by omega
      exact Nat.le_refl _

theorem RatsP.part {w : World} {S : Nat → Prop} {b off m c K : Nat} {r : Nat → Rat} (h : RatsP w S (.slice (some ⟨b, off, none⟩) (m + 1) c) (m + 1) K r) (c' : Nat) (h1 : m ≤ c') (h2 : c' ≤ c) :
    RatsP w S (.slice (some ⟨b, off, none⟩) m c') m K r := by
  obtain ⟨A', c0, e, h3, h4, h5⟩ := h
  injection e with e1 e2 e3
  subst e3
  obtain ⟨b', off', e4, h6, h7, h8⟩ := h5 (by omega)
  subst e1
  injection e4 with e4
  injection e4 with e5 e6
  subst e5
  subst e6
  exact ⟨_, c', rfl, h1, by omega, fun _ => ⟨b, off, rfl, h6, h7, fun i hi => h8 i (by omega)⟩⟩
theorem RatsP.rest {w : World} {S : Nat → Prop} {b off m c K : Nat} {r : Nat → Rat} (h : RatsP w S (.slice (some ⟨b, off, none⟩) (m + 1) c) (m + 1) K r) (A : Option Addr) (c' : Nat) (h1 : m ≤ c') (h2 : c' ≤ c) (hA : 0 < m → A = some ⟨b, off + 3, none⟩) :
    RatsP w S (.slice A m c') m K (fun j => r (j + 1)) := by
  obtain ⟨A', c0, e, h3, h4, h5⟩ := h
  injection e with e1 e2 e3
  subst e3
  obtain ⟨b', off', e4, h6, h7, h8⟩ := h5 (by omega)
  subst e1
  injection e4 with e4
  injection e4 with e5 e6
  subst e5
  subst e6
  refine ⟨_, c', rfl, h1, by omega, fun h0 => ⟨b, off + 3, hA h0, h6, h7, fun i hi => ?_⟩⟩
  obtain ⟨s, An, kn, cn, Ad, kd, cd, g1, g2, g3, g4⟩ := h8 (i + 1) (by omega)
  have e7 : off + (i + 1) * 3 = off + 3 + i * 3 := by omega
  rw [e7] at g1 g2 g3
  exact ⟨s, An, kn, cn, Ad, kd, cd, g1, g2, g3, g4⟩
theorem RatsP.first {w : World} {S : Nat → Prop} {A : Option Addr} {m c K : Nat} {r : Nat → Rat} (h : RatsP w S (.slice A (m + 1) c) (m + 1) K r) :
    ∃ b off s An kn cn Ad kd cd, A = some ⟨b, off, none⟩ ∧ S b ∧ b < w.heap.size ∧ m + 1 ≤ c ∧ c ≤ 9223372036854775807 ∧ w.cell? ⟨b, off, none⟩ = some (.bool s) ∧ w.cell? ⟨b, off + 1, none⟩ = some (.slice An kn cn) ∧ w.cell? ⟨b, off + 2, none⟩ = some (.slice Ad kd cd) ∧
      RatVP w S (.agg #[.bool s, .slice An kn cn, .slice Ad kd cd]) K (r 0) := by
  obtain ⟨A', c0, e, h3, h4, h5⟩ := h
  injection e with e1 e2 e3
  subst e3
  subst e1
  obtain ⟨b, off, rfl, h6, h7, h8⟩ := h5 (by omega)
  obtain ⟨s, An, kn, cn, Ad, kd, cd, g1, g2, g3, g4⟩ := h8 0 (by omega)
  unfold maxLen at h4
  rw [Nat.zero_mul, Nat.add_zero] at g1 g2 g3
  exact ⟨b, off, s, An, kn, cn, Ad, kd, cd, rfl, h6, h7, h3, by omega, g1, g2, g3, g4⟩

theorem RatsV.lowr {w : World} {lo lo' : Nat} {v : Value} {k K : Nat} {r : Nat → Rat} (h : RatsV w lo v k K r) (hl : lo' ≤ lo) : RatsV w lo' v k K r :=
  RatsP.toV (h.toP.keep (Nat.le_refl _) fun _ hb _ => ⟨rfl, Nat.le_trans hl hb⟩)

/-- The loop of Differences. -/
def DfRel (w : World) (b k K : Nat) (r : Nat → Rat) (iv rv : Value) (wr : World) : Prop :=
  ∃ i : Nat, i ≤ k ∧ iv = .int .i64 i ∧ Hid (RatsP wr (· ≠ b) rv (k - i) (KD K i) (dif r i)) ∧ Hid (RowN wr b k i (KD K k) (fun j => dif r j 0)) ∧ Below w.heap.size w wr

set_option maxHeartbeats 2000000 in
theorem Differences_any (w : World) (lo : Nat) (v : Value) (k K : Nat) (r : Nat → Rat) (hv : RatsV w lo v k K r) (hk : k ≤ 33) (hK : KD K k ≤ 1900000000) :
    Calls Tryz.prog 27 #[v] w (fun e w' => ∃ v2, e = .returned (.tuple #[v2, .bool true]) ∧ RatsV w' w.heap.size v2 (cutQ (fun j => dif r j 0) k) (KD K k + 1) (fun j => dif r j 0) ∧ Below w.heap.size w w') := by
  have HV := Lib.hid hv
  obtain ⟨A, c, rfl, hkc, hcm⟩ := hv.form
  clear hv
  go_enter Tryz.func27, Tryz.ntmps27
  go_wp2_with (first | (at_builtin; refine wpList_copyQ _ rfl _ _ rfl (by rfl) A k c K r (by rfl) lo HV.out w.heap.size w (Below.refl _ _) (Nat.le_refl _) (by omega) ?_; intro rv0 w1 hrv0 hbw1 _; have HR0 := Lib.hid hrv0; obtain ⟨A0, c0, rfl, hkc0, hcm0⟩ := hrv0.form; clear hrv0) | (at_make; refine wpList_mkQ _ rfl _ _ rfl _ _ _ _ k (by rfl) (by rfl) (by first | rfl | simp) (by first | rfl | simp) (by omega) w.heap.size w hbw1 hbw1.size ?_; intro b w2 hlb1 hlb2 hrow1 hbw2 hbw3))
  go_loopw [17, 4] (fun iv rv wr => DfRel w b k K r iv rv wr) (fun iv _ _ => k - (intOf iv).toNat)
  case atStart => exact ⟨0, by omega, rfl, HR0.out.toP.keep hbw3.size fun b' _ hlt => ⟨hbw3.block b' hlt, by omega⟩, RowN.ofQ (hrow1 r), hbw2⟩
  case round =>
    obtain ⟨i, hi, rfl, hrv, hrow, hbw⟩ := hrel
    by_cases hlt : i < k
    · obtain ⟨m, hm⟩ : ∃ m, k - i = m + 1 := ⟨k - i - 1, by omega⟩
      rw [hm] at hrv
      have hrf := hrv.out
      obtain ⟨Ar, cr, rfl, hkcr, hcmr⟩ := hrf.any.form
      obtain ⟨br, off, s, An, kn, cn, Ad, kd, cd, rfl, hbb, hbl, _, _, g1, g2, g3, g4⟩ := hrf.first
      have HE := Lib.hid g4
      obtain ⟨u0, hu0⟩ := hrow.out.there (i := i * 3) (by omega)
      obtain ⟨u1, hu1⟩ := hrow.out.there (i := i * 3 + 1) (by omega)
      obtain ⟨u2, hu2⟩ := hrow.out.there (i := i * 3 + 2) (by omega)
      have f0 := hrow.out.frozen (i * 3)
      have f1 := hrow.out.frozen (i * 3 + 1)
      have f2 := hrow.out.frozen (i * 3 + 2)
      have hlr := hrow.out.lt
      clear hrf g4
      go_wp2
      obtain ⟨W, hW⟩ : ∃ W, W = ((wr.setCell ⟨b, i * 3, none⟩ (.bool s)).setCell ⟨b, i * 3 + 1, none⟩ (.slice An kn cn)).setCell ⟨b, i * 3 + 2, none⟩ (.slice Ad kd cd) := ⟨_, rfl⟩
      rw [← hW]
      have HRW : Hid (RatsP W (· ≠ b) (.slice (some ⟨br, off, none⟩) (m + 1) cr) (m + 1) (KD K i) (dif r i)) := by rw [hW]; exact hrv.out.setAt3 _ _ _ _ _ _
      have HROW : Hid (RowN W b k (i + 1) (KD K k) (fun j => dif r j 0)) := by rw [hW]; exact hrow.out.store (r := fun j => dif r j 0) (HE.out.more (KD_mono K hi))
      have HBW : Hid (Below w.heap.size w W) := by rw [hW]; exact ((hbw.setCell (p := ⟨b, _, none⟩) hlb1 _).setCell (p := ⟨b, _, none⟩) hlb1 _).setCell (p := ⟨b, _, none⟩) hlb1 _
      have hbW : b < W.heap.size := HROW.out.lt
      have hKi : KD K i + KD K i ≤ 3800000000 := by
        have := KD_mono K hi
        omega
      obtain ⟨o3, ho3⟩ : ∃ o3, Hid ((cr = 1 ∧ o3 = off) ∨ (cr ≠ 1 ∧ o3 = off + 3)) := by
        by_cases h : cr = 1
        · exact ⟨off, .inl ⟨h, rfl⟩⟩
        · exact ⟨off + 3, .inr ⟨h, rfl⟩⟩
      have hA3 : 0 < m → (some ⟨br, o3, none⟩ : Option Addr) = some ⟨br, off + 3, none⟩ := by
        intro hm0
        rcases ho3.out with ⟨_, _⟩ | ⟨_, h⟩
        · omega
        · rw [h]
      clear hW g1 g2 g3 hu0 hu1 hu2 f0 f1 f2
      refine wp_region_inv (by kernel_rfl) (lowOk_spec (by kernel_rfl)) (fun d a x => ∃ s4 s26 s27 s28 s29 s30 s31 s32 s33 : Value, a = ⟨#[.slice A k c, undef, .slice none 0 0, .bool false, s4, .slice (some ⟨b, 0, none⟩) k k, .int .i64 i, .slice A k c, .int .i64 k, .bool (decide (33 < (k : Int))), .slice A k c, .slice A0 k c0, .slice A k c, .int .i64 k, .slice (some ⟨b, 0, none⟩) k k, .slice (some ⟨b, 0, none⟩) k k, .int .i64 k, .int .i64 i, .bool true, .int .i64 i, .slice (some ⟨b, 0, none⟩) k k, .int .i64 i, .slice (some ⟨br, off, none⟩) (m + 1) cr, .pointer (some ⟨br, off, none⟩), .agg #[.bool s, .slice An kn cn, .slice Ad kd cd], .pointer (some ⟨b, i * 3, none⟩), s26, s27, s28, s29, s30, s31, s32, s33, u34, undef, undef], []⟩ ∧ (d 8 = false → s4 = .slice (some ⟨br, off, none⟩) (m + 1) cr ∧ Below W.heap.size W x ∧ (d 0 = true → s26 = .slice (some ⟨br, off, none⟩) (m + 1) cr) ∧ (d 1 = true → s27 = .slice (some ⟨br, o3, none⟩) m (cr - 1)) ∧ (d 2 = true → s28 = .slice (some ⟨br, off, none⟩) (m + 1) cr) ∧ (d 3 = true → s29 = .slice (some ⟨br, off, none⟩) (m + 1) cr) ∧ (d 4 = true → s30 = .int .i64 ((m : Int) + 1)) ∧ (d 5 = true → s31 = .int .i64 (m : Int)) ∧ (d 6 = true → s32 = .slice (some ⟨br, off, none⟩) m cr) ∧ (d 7 = true → RatsV x W.heap.size s33 m (KD K (i + 1)) (dif r (i + 1)))) ∧ (d 8 = true → (∀ j, j < 9 → j ≠ 8 → d j = true) ∧ Below W.heap.size W x ∧ RatsV x W.heap.size s4 m (KD K (i + 1)) (dif r (i + 1)))) ?_ ?_ ?_
      · exact ⟨_, _, _, _, _, _, _, _, _, rfl, fun _ => ⟨rfl, (Below.refl _ _).drew, (fun e => by cases e), (fun e => by cases e), (fun e => by cases e), (fun e => by cases e), (fun e => by cases e), (fun e => by cases e), (fun e => by cases e), (fun e => by cases e)⟩, (fun e => by cases e)⟩
      · intro d i o a1 x ho hdi hed hI
        obtain ⟨s4, s26, s27, s28, s29, s30, s31, s32, s33, rfl, hJ, hF⟩ := hI
        have hi : i < 9 := (Array.getElem?_eq_some_iff.1 ho).1
        have hcases : i = 0 ∨ i = 1 ∨ i = 2 ∨ i = 3 ∨ i = 4 ∨ i = 5 ∨ i = 6 ∨ i = 7 ∨ i = 8 := by omega
        rcases hcases with rfl | rfl | rfl | rfl | rfl | rfl | rfl | rfl | rfl
        · cases ho
          have hnl : d 8 = false := by
            cases e : d 8 with
            | false => rfl
            | true => exact absurd ((hF e).1 0 (by omega) (by omega)) (by rw [hdi]; exact Bool.false_ne_true)
          obtain ⟨rfl, hbx, h0, h1, h2, h3, h4, h5, h6, h7⟩ := hJ hnl
          refine wpOp_plain rfl rfl fun KK hKK => ?_
          have HK := Lib.hid hKK
          clear hKK
          have H0 := Lib.hid h0
          have H1 := Lib.hid h1
          have H2 := Lib.hid h2
          have H3 := Lib.hid h3
          have H4 := Lib.hid h4
          have H5 := Lib.hid h5
          have H6 := Lib.hid h6
          have H7 := Lib.hid h7
          have HBX := Lib.hid hbx
          clear h0 h1 h2 h3 h4 h5 h6 h7 hbx hed hdi hJ hF
          go_wp2
          exact HK.out _ _ ⟨_, _, s27, s28, s29, s30, s31, s32, s33, rfl, fun _ => ⟨rfl, HBX.out, fun _ => rfl, (fun e => H1.out (dj e)), (fun e => H2.out (dj e)), (fun e => H3.out (dj e)), (fun e => H4.out (dj e)), (fun e => H5.out (dj e)), (fun e => H6.out (dj e)), (fun e => H7.out (dj e))⟩, fun e => absurd (dj e) (by rw [hnl]; exact Bool.false_ne_true)⟩
        · cases ho
          have hnl : d 8 = false := by
            cases e : d 8 with
            | false => rfl
            | true => exact absurd ((hF e).1 1 (by omega) (by omega)) (by rw [hdi]; exact Bool.false_ne_true)
          obtain ⟨rfl, hbx, h0, h1, h2, h3, h4, h5, h6, h7⟩ := hJ hnl
          have q0 := h0 (hed ⟨0, .data⟩ (by simp) rfl)
          subst q0
          refine wpOp_plain rfl rfl fun KK hKK => ?_
          have HK := Lib.hid hKK
          clear hKK
          have H0 := Lib.hid h0
          have H1 := Lib.hid h1
          have H2 := Lib.hid h2
          have H3 := Lib.hid h3
          have H4 := Lib.hid h4
          have H5 := Lib.hid h5
          have H6 := Lib.hid h6
          have H7 := Lib.hid h7
          have HBX := Lib.hid hbx
          clear h0 h1 h2 h3 h4 h5 h6 h7 hbx hed hdi hJ hF
          rcases ho3.out with ⟨hc1, hc2⟩ | ⟨hc1, hc2⟩
          · subst hc1
            obtain rfl : m = 0 := (by omega)
            subst hc2
            go_wp2
            exact HK.out _ _ ⟨_, _, _, s28, s29, s30, s31, s32, s33, rfl, fun _ => ⟨rfl, HBX.out, fun _ => rfl, fun _ => rfl, (fun e => H2.out (dj e)), (fun e => H3.out (dj e)), (fun e => H4.out (dj e)), (fun e => H5.out (dj e)), (fun e => H6.out (dj e)), (fun e => H7.out (dj e))⟩, fun e => absurd (dj e) (by rw [hnl]; exact Bool.false_ne_true)⟩
          · subst hc2
            go_wp2
            exact HK.out _ _ ⟨_, _, _, s28, s29, s30, s31, s32, s33, rfl, fun _ => ⟨rfl, HBX.out, fun _ => rfl, fun _ => rfl, (fun e => H2.out (dj e)), (fun e => H3.out (dj e)), (fun e => H4.out (dj e)), (fun e => H5.out (dj e)), (fun e => H6.out (dj e)), (fun e => H7.out (dj e))⟩, fun e => absurd (dj e) (by rw [hnl]; exact Bool.false_ne_true)⟩
        · cases ho
          have hnl : d 8 = false := by
            cases e : d 8 with
            | false => rfl
            | true => exact absurd ((hF e).1 2 (by omega) (by omega)) (by rw [hdi]; exact Bool.false_ne_true)
          obtain ⟨rfl, hbx, h0, h1, h2, h3, h4, h5, h6, h7⟩ := hJ hnl
          refine wpOp_plain rfl rfl fun KK hKK => ?_
          have HK := Lib.hid hKK
          clear hKK
          have H0 := Lib.hid h0
          have H1 := Lib.hid h1
          have H2 := Lib.hid h2
          have H3 := Lib.hid h3
          have H4 := Lib.hid h4
          have H5 := Lib.hid h5
          have H6 := Lib.hid h6
          have H7 := Lib.hid h7
          have HBX := Lib.hid hbx
          clear h0 h1 h2 h3 h4 h5 h6 h7 hbx hed hdi hJ hF
          go_wp2
          exact HK.out _ _ ⟨_, s26, s27, _, s29, s30, s31, s32, s33, rfl, fun _ => ⟨rfl, HBX.out, (fun e => H0.out (dj e)), (fun e => H1.out (dj e)), fun _ => rfl, (fun e => H3.out (dj e)), (fun e => H4.out (dj e)), (fun e => H5.out (dj e)), (fun e => H6.out (dj e)), (fun e => H7.out (dj e))⟩, fun e => absurd (dj e) (by rw [hnl]; exact Bool.false_ne_true)⟩
        · cases ho
          have hnl : d 8 = false := by
            cases e : d 8 with
            | false => rfl
            | true => exact absurd ((hF e).1 3 (by omega) (by omega)) (by rw [hdi]; exact Bool.false_ne_true)
          obtain ⟨rfl, hbx, h0, h1, h2, h3, h4, h5, h6, h7⟩ := hJ hnl
          refine wpOp_plain rfl rfl fun KK hKK => ?_
          have HK := Lib.hid hKK
          clear hKK
          have H0 := Lib.hid h0
          have H1 := Lib.hid h1
          have H2 := Lib.hid h2
          have H3 := Lib.hid h3
          have H4 := Lib.hid h4
          have H5 := Lib.hid h5
          have H6 := Lib.hid h6
          have H7 := Lib.hid h7
          have HBX := Lib.hid hbx
          clear h0 h1 h2 h3 h4 h5 h6 h7 hbx hed hdi hJ hF
          go_wp2
          exact HK.out _ _ ⟨_, s26, s27, s28, _, s30, s31, s32, s33, rfl, fun _ => ⟨rfl, HBX.out, (fun e => H0.out (dj e)), (fun e => H1.out (dj e)), (fun e => H2.out (dj e)), fun _ => rfl, (fun e => H4.out (dj e)), (fun e => H5.out (dj e)), (fun e => H6.out (dj e)), (fun e => H7.out (dj e))⟩, fun e => absurd (dj e) (by rw [hnl]; exact Bool.false_ne_true)⟩
        · cases ho
          have hnl : d 8 = false := by
            cases e : d 8 with
            | false => rfl
            | true => exact absurd ((hF e).1 4 (by omega) (by omega)) (by rw [hdi]; exact Bool.false_ne_true)
          obtain ⟨rfl, hbx, h0, h1, h2, h3, h4, h5, h6, h7⟩ := hJ hnl
          have q3 := h3 (hed ⟨3, .data⟩ (by simp) rfl)
          subst q3
          refine wpOp_plain rfl rfl fun KK hKK => ?_
          have HK := Lib.hid hKK
          clear hKK
          have H0 := Lib.hid h0
          have H1 := Lib.hid h1
          have H2 := Lib.hid h2
          have H3 := Lib.hid h3
          have H4 := Lib.hid h4
          have H5 := Lib.hid h5
          have H6 := Lib.hid h6
          have H7 := Lib.hid h7
          have HBX := Lib.hid hbx
          clear h0 h1 h2 h3 h4 h5 h6 h7 hbx hed hdi hJ hF
          go_wp2
          exact HK.out _ _ ⟨_, s26, s27, s28, _, _, s31, s32, s33, rfl, fun _ => ⟨rfl, HBX.out, (fun e => H0.out (dj e)), (fun e => H1.out (dj e)), (fun e => H2.out (dj e)), fun _ => rfl, fun _ => rfl, (fun e => H5.out (dj e)), (fun e => H6.out (dj e)), (fun e => H7.out (dj e))⟩, fun e => absurd (dj e) (by rw [hnl]; exact Bool.false_ne_true)⟩
        · cases ho
          have hnl : d 8 = false := by
            cases e : d 8 with
            | false => rfl
            | true => exact absurd ((hF e).1 5 (by omega) (by omega)) (by rw [hdi]; exact Bool.false_ne_true)
          obtain ⟨rfl, hbx, h0, h1, h2, h3, h4, h5, h6, h7⟩ := hJ hnl
          have q4 := h4 (hed ⟨4, .data⟩ (by simp) rfl)
          subst q4
          refine wpOp_plain rfl rfl fun KK hKK => ?_
          have HK := Lib.hid hKK
          clear hKK
          have H0 := Lib.hid h0
          have H1 := Lib.hid h1
          have H2 := Lib.hid h2
          have H3 := Lib.hid h3
          have H4 := Lib.hid h4
          have H5 := Lib.hid h5
          have H6 := Lib.hid h6
          have H7 := Lib.hid h7
          have HBX := Lib.hid hbx
          clear h0 h1 h2 h3 h4 h5 h6 h7 hbx hed hdi hJ hF
          go_wp2
          exact HK.out _ _ ⟨_, s26, s27, s28, s29, _, _, s32, s33, rfl, fun _ => ⟨rfl, HBX.out, (fun e => H0.out (dj e)), (fun e => H1.out (dj e)), (fun e => H2.out (dj e)), (fun e => H3.out (dj e)), fun _ => rfl, fun _ => rfl, (fun e => H6.out (dj e)), (fun e => H7.out (dj e))⟩, fun e => absurd (dj e) (by rw [hnl]; exact Bool.false_ne_true)⟩
        · cases ho
          have hnl : d 8 = false := by
            cases e : d 8 with
            | false => rfl
            | true => exact absurd ((hF e).1 6 (by omega) (by omega)) (by rw [hdi]; exact Bool.false_ne_true)
          obtain ⟨rfl, hbx, h0, h1, h2, h3, h4, h5, h6, h7⟩ := hJ hnl
          have q2 := h2 (hed ⟨2, .data⟩ (by simp) rfl)
          have q5 := h5 (hed ⟨5, .data⟩ (by simp) rfl)
          subst q2
          subst q5
          refine wpOp_plain rfl rfl fun KK hKK => ?_
          have HK := Lib.hid hKK
          clear hKK
          have H0 := Lib.hid h0
          have H1 := Lib.hid h1
          have H2 := Lib.hid h2
          have H3 := Lib.hid h3
          have H4 := Lib.hid h4
          have H5 := Lib.hid h5
          have H6 := Lib.hid h6
          have H7 := Lib.hid h7
          have HBX := Lib.hid hbx
          clear h0 h1 h2 h3 h4 h5 h6 h7 hbx hed hdi hJ hF
          go_wp2
          exact HK.out _ _ ⟨_, s26, s27, _, s29, s30, _, _, s33, rfl, fun _ => ⟨rfl, HBX.out, (fun e => H0.out (dj e)), (fun e => H1.out (dj e)), fun _ => rfl, (fun e => H3.out (dj e)), (fun e => H4.out (dj e)), fun _ => rfl, fun _ => rfl, (fun e => H7.out (dj e))⟩, fun e => absurd (dj e) (by rw [hnl]; exact Bool.false_ne_true)⟩
        · cases ho
          have hnl : d 8 = false := by
            cases e : d 8 with
            | false => rfl
            | true => exact absurd ((hF e).1 7 (by omega) (by omega)) (by rw [hdi]; exact Bool.false_ne_true)
          obtain ⟨rfl, hbx, h0, h1, h2, h3, h4, h5, h6, h7⟩ := hJ hnl
          have q1 := h1 (hed ⟨1, .data⟩ (by simp) rfl)
          have q6 := h6 (hed ⟨6, .data⟩ (by simp) rfl)
          subst q1
          subst q6
          refine wpOp_plain rfl rfl fun KK hKK => ?_
          have HK := Lib.hid hKK
          clear hKK
          have H0 := Lib.hid h0
          have H1 := Lib.hid h1
          have H2 := Lib.hid h2
          have H3 := Lib.hid h3
          have H4 := Lib.hid h4
          have H5 := Lib.hid h5
          have H6 := Lib.hid h6
          have H7 := Lib.hid h7
          clear h0 h1 h2 h3 h4 h5 h6 h7 hed hdi hJ hF
          go_wp2_with fail
          refine (combine_any _ 0 0 _ _ m (KD K i) (KD K i) (fun j => dif r i (j + 1)) (dif r i) (((HRW.out.rest _ (cr - 1) (by omega) (by omega) (hA3)).below hbx).any) (((HRW.out.part cr (by omega) (Nat.le_refl _)).below hbx).any) (by omega) (by omega)).mono ?_
          rintro e xN ⟨vN, rfl, hrN, hbN⟩
          exact HK.out _ _ ⟨_, s26, _, s28, s29, s30, s31, _, vN, rfl, fun _ => ⟨rfl, hbx.trans (hbN.mono hbx.size), (fun e => H0.out (dj e)), fun _ => rfl, (fun e => H2.out (dj e)), (fun e => H3.out (dj e)), (fun e => H4.out (dj e)), (fun e => H5.out (dj e)), fun _ => rfl, fun _ => RatsV.lowr hrN hbx.size⟩, fun e => absurd (dj e) (by rw [hnl]; exact Bool.false_ne_true)⟩
        · cases ho
          obtain ⟨rfl, hbx, h0, h1, h2, h3, h4, h5, h6, h7⟩ := hJ hdi
          have q7 := h7 (hed ⟨7, .data⟩ (by simp) rfl)
          have d0 : d 0 = true := hed ⟨0, .phase⟩ (by simp) rfl
          have d1 : d 1 = true := hed ⟨1, .phase⟩ (by simp) rfl
          have d2 : d 2 = true := hed ⟨2, .phase⟩ (by simp) rfl
          have d3 : d 3 = true := hed ⟨3, .phase⟩ (by simp) rfl
          have d4 : d 4 = true := hed ⟨4, .phase⟩ (by simp) rfl
          have d5 : d 5 = true := hed ⟨5, .phase⟩ (by simp) rfl
          have d6 : d 6 = true := hed ⟨6, .phase⟩ (by simp) rfl
          have d7 : d 7 = true := hed ⟨7, .data⟩ (by simp) rfl
          have Q7 := Lib.hid q7
          have HBX := Lib.hid hbx
          clear q7
          refine wpOp_plain rfl rfl fun KK hKK => ?_
          have HK := Lib.hid hKK
          clear hKK
          clear hed hJ hF h0 h1 h2 h3 h4 h5 h6 h7
          go_wp2
          exact HK.out _ _ ⟨_, s26, s27, s28, s29, s30, s31, s32, _, rfl, (fun e => by simp at e), fun _ => ⟨(by intro j hj hne; have hc : j = 0 ∨ j = 1 ∨ j = 2 ∨ j = 3 ∨ j = 4 ∨ j = 5 ∨ j = 6 ∨ j = 7 := (by omega); rcases hc with rfl | rfl | rfl | rfl | rfl | rfl | rfl | rfl <;> simp [*]), HBX.out, Q7.out⟩⟩
      · rintro d a1 x hd ⟨s4, s26, s27, s28, s29, s30, s31, s32, s33, rfl, hJ, hF⟩
        obtain ⟨_, hb0, hr0⟩ := hF (hd 8 (Nat.lt_succ_self 8))
        clear hd hJ hF
        have HR0 := Lib.hid hr0
        have HB0 := Lib.hid hb0
        clear hr0 hb0
        go_wp2
        go_roundw
        case rel =>
          have e1 : k - (i + 1) = m := by omega
          refine ⟨i + 1, by omega, by go_num, ?_, HROW.out.below HB0.out, HBW.out.trans (HB0.out.mono HBW.out.size)⟩
          rw [e1]
          exact HR0.out.toP.keep (Nat.le_refl _) fun b' hb' _ => ⟨rfl, by omega⟩
        case measure => simp [intOf]; omega
    · obtain rfl : i = k := by omega
      have HV2 := Lib.hid (hrow.out.toV (Nat.le_refl _) (by omega))
      go_wp2_with fail
      refine (canonicalL_any _ 0 _ i (KD K i) _ HV2.out (by omega) (by omega)).mono ?_
      rintro e w3 ⟨v3, rfl, hr3, hb3⟩
      go_wp2
      go_ret2
      exact ⟨v3, rfl, RatsP.toV (hr3.toP.keep (Nat.le_refl _) fun b' hb' _ => ⟨rfl, Nat.le_trans hbw.size hb'⟩), hbw.trans (hb3.mono hbw.size)⟩

end Go.Proofs.YtdbiedpdibjdlaaGreat

