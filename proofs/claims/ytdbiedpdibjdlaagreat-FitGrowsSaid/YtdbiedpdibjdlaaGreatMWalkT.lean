/-
  The walk of binomial's Eval.
-/
import Derived.Test.YtdbiedpdibjdlaaGreatMWalkS
namespace Go.Proofs.YtdbiedpdibjdlaaGreat
open Go.RowKit AC
set_option linter.unusedVariables false
set_option linter.unusedSimpArgs false

/-- The slice value v holds k numbers r 0, r 1, .., of at most K limbs each. -/
def RatsV (w : World) (lo : Nat) (v : Value) (k K : Nat) (r : Nat → Rat) : Prop :=
  ∃ A c, v = .slice A k c ∧ k ≤ c ∧ c ≤ maxLen ∧ (0 < k → ∃ b off, A = some ⟨b, off, none⟩ ∧ lo ≤ b ∧ b < w.heap.size ∧
    ∀ i, i < k → ∃ s An kn cn Ad kd cd, w.cell? ⟨b, off + i * 3, none⟩ = some (.bool s) ∧ w.cell? ⟨b, off + i * 3 + 1, none⟩ = some (.slice An kn cn) ∧ w.cell? ⟨b, off + i * 3 + 2, none⟩ = some (.slice Ad kd cd) ∧
      RatV w lo (.agg #[.bool s, .slice An kn cn, .slice Ad kd cd]) K (r i))

theorem RatsV.below {w w' : World} {lo : Nat} {v : Value} {k K : Nat} {r : Nat → Rat} (h : RatsV w lo v k K r) (hb : Below w.heap.size w w') : RatsV w' lo v k K r := by
  obtain ⟨A, c, rfl, h1, h2, h3⟩ := h
  refine ⟨A, c, rfl, h1, h2, fun h0 => ?_⟩
  obtain ⟨b, off, rfl, h4, h5, h6⟩ := h3 h0
  refine ⟨b, off, rfl, h4, Nat.lt_of_lt_of_le h5 hb.size, fun i hi => ?_⟩
  obtain ⟨s, An, kn, cn, Ad, kd, cd, e1, e2, e3, e4⟩ := h6 i hi
  exact ⟨s, An, kn, cn, Ad, kd, cd, (hb.cell (p := ⟨b, _, none⟩) h5).trans e1, (hb.cell (p := ⟨b, _, none⟩) h5).trans e2, (hb.cell (p := ⟨b, _, none⟩) h5).trans e3, e4.below hb⟩

/-- The value of a polynomial in the binomial basis. -/
def evalQ (r : Nat → Rat) (n : Int) : Nat → Rat
  | 0 => 0
  | k + 1 => evalQ r n k + r k * fall n k

theorem sz_eval {r : Nat → Rat} {n : Int} {K : Nat} (h1 : 0 ≤ n) (h2 : n ≤ 9223372036854775807) : ∀ k, k ≤ 100 → (∀ i, i < k → sz (r i) ≤ K) → sz (evalQ r n k) ≤ 1 + k * (K + 302)
  | 0, _, _ => by
    show sz 0 ≤ _
    have e : dl 1 = 1 := dl_one
    have : sz 0 = 1 := by simp [sz, dl_zero, e]
    omega
  | k + 1, hk, hr => by
    have h3 := sz_eval (r := r) (K := K) h1 h2 k (by omega) (fun i hi => hr i (by omega))
    have h4 := sz_add (evalQ r n k) (r k * fall n k)
    have h5 := sz_mul (r k) (fall n k)
    have h6 := sz_fall n (by omega) h2 k (by omega)
    have h7 := hr k (by omega)
    rw [evalQ, Nat.add_mul, Nat.one_mul]
    omega

/-- The loop of Eval. -/
def EvRel (w : World) (O k : Nat) (r : Nat → Rat) (n : Int) (iv : Value) (wr : World) : Prop :=
  ∃ (i lo hi : Nat) (q : Rat) (A A' : Option Addr) (c c' : Nat), i ≤ k ∧ w.heap.size < lo ∧ hi ≤ wr.heap.size ∧ (O < lo ∨ hi ≤ O) ∧ iv = .int .i64 i ∧ Hid (q = evalQ r n i) ∧ Hid (Bk wr O 46 #[.bool (decide (q.num < 0)), .slice A (dl q.num.natAbs) c, .slice A' (dl q.den) c']) ∧
    Hid (RatH wr lo hi (.agg #[.bool (decide (q.num < 0)), .slice A (dl q.num.natAbs) c, .slice A' (dl q.den) c']) q) ∧ Hid (Bk wr w.heap.size 46 zero3) ∧ Below w.heap.size w wr ∧ O + 1 ≤ wr.heap.size

set_option maxHeartbeats 1000000 in
theorem Eval_any (w : World) (lo : Nat) (v : Value) (k K : Nat) (r : Nat → Rat) (n : Nat) (hv : RatsV w lo v k K r) (h2 : n ≤ 9223372036854775807) (hk : k ≤ 33) (hK : K ≤ 10000000) :
    Calls Tryz.prog 28 #[v, .int .i64 n] w (fun e w' => ∃ v2, e = .returned (.tuple #[v2, .bool true]) ∧ RatR w' w.heap.size v2 (evalQ r n k) ∧ Below w.heap.size w w') := by
  have HV := Lib.hid hv
  obtain ⟨A, c, rfl, hkc, hcm, hb⟩ := hv
  unfold maxLen at hcm
  have HB := Lib.hid hb
  clear hb
  go_enter Tryz.func28, Tryz.ntmps28
  go_wp2_with fail
  refine (fromInt_any _ 0 (by omega) (by omega)).mono ?_
  rintro e w1 ⟨v1, rfl, hr1, hb1⟩
  have hR1 := Lib.hid ((Bk.new w 46 _).below hb1 (by simp))
  have hz1 : w.heap.size < w1.heap.size := hR1.out.lt
  obtain ⟨q1, hq1⟩ : ∃ q1, Hid (q1 = mkRat 0 1) := ⟨_, rfl⟩
  rw [← hq1.out] at hr1
  have HR1 := Lib.hid hr1
  obtain ⟨A1, c1, A2, c2, rfl, _, _⟩ := FracR.form hr1
  have hbw1 := (bel1 w _).trans (hb1.mono (by simp))
  clear hr1 hb1
  go_wp2
  go_loopw [16] (fun iv wr => EvRel w w1.heap.size k r n iv wr) (fun iv _ => k - (intOf iv).toNat)
  case atStart =>
    refine ⟨0, w.heap.size + 1, w1.heap.size, q1, A1, A2, c1, c2, by omega, by omega, by simp, by omega, rfl, ?_, Bk.new _ _ _, ?_, hR1.out.alloc _, hbw1.alloc (by omega) _, by simp⟩
    · show q1 = 0
      rw [hq1.out, Rat.zero_mkRat]
    · have := (RatR.toH HR1.out).alloc (Nat.le_refl _) (.cells #[.bool (decide (q1.num < 0)), .slice A1 (dl q1.num.natAbs) c1, .slice A2 (dl q1.den) c2] 46)
      exact Lib.hid (by simpa using this)
  case round =>
    obtain ⟨i, lo', hi', q, A', A'', c', c'', hi, hlo, hhi, hout, rfl, hq, hB, hr, hR, hbw, hsz⟩ := hrel
    by_cases hlt : i < k
    · obtain ⟨b, off, rfl, hlb, hbb, hcell⟩ := HB.out (by omega)
      obtain ⟨s, An, kn, cn, Ad, kd, cd, e1, e2, e3, e4⟩ := hcell i hlt
      have g1 := (hbw.cell (p := ⟨b, off + i * 3, none⟩) hbb).trans e1
      have g2 := (hbw.cell (p := ⟨b, off + i * 3 + 1, none⟩) hbb).trans e2
      have g3 := (hbw.cell (p := ⟨b, off + i * 3 + 2, none⟩) hbb).trans e3
      have HE := Lib.hid (e4.below hbw)
      clear e1 e2 e3 e4 hcell
      obtain ⟨hcO, hfO, hzO⟩ := hB.out.facts
      have hszq : Hid (sz q ≤ 1 + 33 * (K + 303)) := by
        show sz q ≤ 1 + 33 * (K + 303)
        rw [hq.out]
        have h3 := sz_eval (r := r) (n := n) (K := K + 1) (by omega) (by omega) i (by omega) (fun j hj => by
          obtain ⟨b', off', _, _, _, hcell'⟩ := HB.out (by omega)
          obtain ⟨_, _, _, _, _, _, _, _, _, _, e5⟩ := hcell' j (by omega)
          exact e5.size)
        have h4 : i * (K + 1 + 302) ≤ 33 * (K + 1 + 302) := Nat.mul_le_mul (by omega) (Nat.le_refl _)
        have h5 : K + 1 + 302 = K + 303 := by omega
        rw [h5] at h3 h4
        exact Nat.le_trans h3 (Nat.add_le_add_left h4 1)
      have hwr := hbw.size
      have hltR := hR.out.lt
      have hszt : Hid (sz (r i * fall n i) ≤ K + 102) := by
        show sz (r i * fall n i) ≤ K + 102
        have h3 := sz_mul (r i) (fall n i)
        have h4 := sz_fall n (by omega) (by omega) i (by omega)
        have h5 := HE.out.size
        omega
      go_wp2
      obtain ⟨W, hW⟩ : ∃ W, W = wr.alloc (.cells #[.bool s, .slice An kn cn, .slice Ad kd cd] 46) := ⟨_, rfl⟩
      rw [← hW]
      have hOW : Hid (Bk W w1.heap.size 46 #[.bool (decide (q.num < 0)), .slice A' (dl q.num.natAbs) c', .slice A'' (dl q.den) c'']) := by rw [hW]; exact hB.out.alloc _
      have hCW : Hid (Bk W wr.heap.size 46 #[.bool s, .slice An kn cn, .slice Ad kd cd]) := by rw [hW]; exact Bk.new _ _ _
      have hRW : Hid (Bk W w.heap.size 46 zero3) := by rw [hW]; exact hR.out.alloc _
      have hrW : Hid (RatH W lo' hi' (.agg #[.bool (decide (q.num < 0)), .slice A' (dl q.num.natAbs) c', .slice A'' (dl q.den) c'']) q) := by rw [hW]; exact hr.out.alloc hhi _
      have hHW : Hid (RatV W lo (.agg #[.bool s, .slice An kn cn, .slice Ad kd cd]) K (r i)) := by rw [hW]; exact HE.out.below (bel1 _ _)
      have HEW := hHW
      have hbW : Below w.heap.size w W := by rw [hW]; exact hbw.alloc hwr _
      have hzW : W.heap.size = wr.heap.size + 1 := by rw [hW]; simp
      have hhW : hi' ≤ W.heap.size := by omega
      have HZ := Lib.hid hzW
      have hzw1 : w1.heap.size < W.heap.size := hOW.out.lt
      clear hW hzW hcO hfO g1 g2 g3
      refine wp_region_inv (by kernel_rfl) (lowOk_spec (by kernel_rfl)) (fun d a x => ∃ s21 s22 s23 s24 s25 s26 s27 s28 : Value, a = ⟨#[.slice (some ⟨b, off, none⟩) k c, .int .i64 n, undef, undef, .pointer (some ⟨w.heap.size, 0, none⟩), .bool false, .pointer (some ⟨w1.heap.size, 0, none⟩), .int .i64 i, .pointer (some ⟨wr.heap.size, 0, none⟩), .agg #[.bool (decide (q1.num < 0)), .slice A1 (dl q1.num.natAbs) c1, .slice A2 (dl q1.den) c2], .slice (some ⟨b, off, none⟩) k c, .int .i64 k, .bool (decide (33 < (k : Int))), undef, .slice (some ⟨b, off, none⟩) k c, .int .i64 k, .int .i64 i, .bool true, .int .i64 i, .pointer (some ⟨b, off + i * 3, none⟩), .agg #[.bool s, .slice An kn cn, .slice Ad kd cd], s21, s22, s23, s24, s25, s26, s27, s28, u29, undef], []⟩ ∧ (d 8 = false → Below W.heap.size W x ∧ (d 0 = true → s21 = (.agg #[.bool (decide (q.num < 0)), .slice A' (dl q.num.natAbs) c', .slice A'' (dl q.den) c''])) ∧ (d 1 = true → s22 = (.agg #[.bool s, .slice An kn cn, .slice Ad kd cd])) ∧ (d 2 = true → s23 = .int .i64 n) ∧ (d 3 = true → s24 = .int .i64 n) ∧ (d 4 = true → s25 = .int .i64 i) ∧ (d 5 = true → RatR x W.heap.size s26 (fall n i)) ∧ (d 6 = true → RatR x W.heap.size s27 (r i * fall n i)) ∧ (d 7 = true → RatR x W.heap.size s28 (q + r i * fall n i))) ∧ (d 8 = true → (∀ j, j < 9 → j ≠ 8 → d j = true) ∧ ∃ x0 A3 c3 A4 c4, Below W.heap.size W x0 ∧ RatR x0 W.heap.size (.agg #[.bool (decide ((q + r i * fall n i).num < 0)), .slice A3 (dl (q + r i * fall n i).num.natAbs) c3, .slice A4 (dl (q + r i * fall n i).den) c4]) (q + r i * fall n i) ∧ x = ((x0.setCell ⟨w1.heap.size, 0, none⟩ (.bool (decide ((q + r i * fall n i).num < 0)))).setCell ⟨w1.heap.size, 1, none⟩ (.slice A3 (dl (q + r i * fall n i).num.natAbs) c3)).setCell ⟨w1.heap.size, 2, none⟩ (.slice A4 (dl (q + r i * fall n i).den) c4))) ?_ ?_ ?_
      · exact ⟨_, _, _, _, _, _, _, _, rfl, fun _ => ⟨(Below.refl _ _).drew, (fun e => by cases e), (fun e => by cases e), (fun e => by cases e), (fun e => by cases e), (fun e => by cases e), (fun e => by cases e), (fun e => by cases e), (fun e => by cases e)⟩, (fun e => by cases e)⟩
      · intro d i o a1 x ho hdi hed hI
        obtain ⟨s21, s22, s23, s24, s25, s26, s27, s28, rfl, hJ, hF⟩ := hI
        have hi : i < 9 := (Array.getElem?_eq_some_iff.1 ho).1
        have hcases : i = 0 ∨ i = 1 ∨ i = 2 ∨ i = 3 ∨ i = 4 ∨ i = 5 ∨ i = 6 ∨ i = 7 ∨ i = 8 := by omega
        rcases hcases with rfl | rfl | rfl | rfl | rfl | rfl | rfl | rfl | rfl
        · cases ho
          have hnl : d 8 = false := by
            cases e : d 8 with
            | false => rfl
            | true => exact absurd ((hF e).1 0 (by omega) (by omega)) (by rw [hdi]; exact Bool.false_ne_true)
          obtain ⟨hbx, h0, h1, h2, h3, h4, h5, h6, h7⟩ := hJ hnl
          obtain ⟨hcO, hfO, hzO⟩ := (hOW.out.below hbx hOW.out.lt).facts
          refine wpOp_plain rfl rfl fun KK hKK => ?_
          have HK := Lib.hid hKK
          clear hKK
          have H0 := Lib.hid h0
          have H1 := Lib.hid h1
          have H2 := Lib.hid h2
          have H3 := Lib.hid h3
          have H4 := Lib.hid h4
          have H5 := Lib.hid h5
          have H6 := Lib.hid h6
          have H7 := Lib.hid h7
          have HBX := Lib.hid hbx
          clear h0 h1 h2 h3 h4 h5 h6 h7 hbx hed hdi hJ hF
          go_wp2
          exact HK.out _ _ ⟨_, s22, s23, s24, s25, s26, s27, s28, rfl, fun _ => ⟨HBX.out, fun _ => rfl, (fun e => H1.out (dj e)), (fun e => H2.out (dj e)), (fun e => H3.out (dj e)), (fun e => H4.out (dj e)), (fun e => H5.out (dj e)), (fun e => H6.out (dj e)), (fun e => H7.out (dj e))⟩, fun e => absurd (dj e) (by rw [hnl]; exact Bool.false_ne_true)⟩
        · cases ho
          have hnl : d 8 = false := by
            cases e : d 8 with
            | false => rfl
            | true => exact absurd ((hF e).1 1 (by omega) (by omega)) (by rw [hdi]; exact Bool.false_ne_true)
          obtain ⟨hbx, h0, h1, h2, h3, h4, h5, h6, h7⟩ := hJ hnl
          obtain ⟨hcC, hfC, hzC⟩ := (hCW.out.below hbx hCW.out.lt).facts
          refine wpOp_plain rfl rfl fun KK hKK => ?_
          have HK := Lib.hid hKK
          clear hKK
          have H0 := Lib.hid h0
          have H1 := Lib.hid h1
          have H2 := Lib.hid h2
          have H3 := Lib.hid h3
          have H4 := Lib.hid h4
          have H5 := Lib.hid h5
          have H6 := Lib.hid h6
          have H7 := Lib.hid h7
          have HBX := Lib.hid hbx
          clear h0 h1 h2 h3 h4 h5 h6 h7 hbx hed hdi hJ hF
          go_wp2
          exact HK.out _ _ ⟨s21, _, s23, s24, s25, s26, s27, s28, rfl, fun _ => ⟨HBX.out, (fun e => H0.out (dj e)), fun _ => rfl, (fun e => H2.out (dj e)), (fun e => H3.out (dj e)), (fun e => H4.out (dj e)), (fun e => H5.out (dj e)), (fun e => H6.out (dj e)), (fun e => H7.out (dj e))⟩, fun e => absurd (dj e) (by rw [hnl]; exact Bool.false_ne_true)⟩
        · cases ho
          have hnl : d 8 = false := by
            cases e : d 8 with
            | false => rfl
            | true => exact absurd ((hF e).1 2 (by omega) (by omega)) (by rw [hdi]; exact Bool.false_ne_true)
          obtain ⟨hbx, h0, h1, h2, h3, h4, h5, h6, h7⟩ := hJ hnl
          refine wpOp_plain rfl rfl fun KK hKK => ?_
          have HK := Lib.hid hKK
          clear hKK
          have H0 := Lib.hid h0
          have H1 := Lib.hid h1
          have H2 := Lib.hid h2
          have H3 := Lib.hid h3
          have H4 := Lib.hid h4
          have H5 := Lib.hid h5
          have H6 := Lib.hid h6
          have H7 := Lib.hid h7
          have HBX := Lib.hid hbx
          clear h0 h1 h2 h3 h4 h5 h6 h7 hbx hed hdi hJ hF
          go_wp2
          exact HK.out _ _ ⟨s21, s22, _, s24, s25, s26, s27, s28, rfl, fun _ => ⟨HBX.out, (fun e => H0.out (dj e)), (fun e => H1.out (dj e)), fun _ => rfl, (fun e => H3.out (dj e)), (fun e => H4.out (dj e)), (fun e => H5.out (dj e)), (fun e => H6.out (dj e)), (fun e => H7.out (dj e))⟩, fun e => absurd (dj e) (by rw [hnl]; exact Bool.false_ne_true)⟩
        · cases ho
          have hnl : d 8 = false := by
            cases e : d 8 with
            | false => rfl
            | true => exact absurd ((hF e).1 3 (by omega) (by omega)) (by rw [hdi]; exact Bool.false_ne_true)
          obtain ⟨hbx, h0, h1, h2, h3, h4, h5, h6, h7⟩ := hJ hnl
          have q2 := h2 (hed ⟨2, .data⟩ (by simp) rfl)
          have hmx : (if 0 < n then (n : Int) else 0) = n := by split <;> omega
          subst q2
          refine wpOp_plain rfl rfl fun KK hKK => ?_
          have HK := Lib.hid hKK
          clear hKK
          have H0 := Lib.hid h0
          have H1 := Lib.hid h1
          have H2 := Lib.hid h2
          have H3 := Lib.hid h3
          have H4 := Lib.hid h4
          have H5 := Lib.hid h5
          have H6 := Lib.hid h6
          have H7 := Lib.hid h7
          have HBX := Lib.hid hbx
          clear h0 h1 h2 h3 h4 h5 h6 h7 hbx hed hdi hJ hF
          go_wp2
          exact HK.out _ _ ⟨s21, s22, _, _, s25, s26, s27, s28, rfl, fun _ => ⟨HBX.out, (fun e => H0.out (dj e)), (fun e => H1.out (dj e)), fun _ => rfl, fun _ => rfl, (fun e => H4.out (dj e)), (fun e => H5.out (dj e)), (fun e => H6.out (dj e)), (fun e => H7.out (dj e))⟩, fun e => absurd (dj e) (by rw [hnl]; exact Bool.false_ne_true)⟩
        · cases ho
          have hnl : d 8 = false := by
            cases e : d 8 with
            | false => rfl
            | true => exact absurd ((hF e).1 4 (by omega) (by omega)) (by rw [hdi]; exact Bool.false_ne_true)
          obtain ⟨hbx, h0, h1, h2, h3, h4, h5, h6, h7⟩ := hJ hnl
          refine wpOp_plain rfl rfl fun KK hKK => ?_
          have HK := Lib.hid hKK
          clear hKK
          have H0 := Lib.hid h0
          have H1 := Lib.hid h1
          have H2 := Lib.hid h2
          have H3 := Lib.hid h3
          have H4 := Lib.hid h4
          have H5 := Lib.hid h5
          have H6 := Lib.hid h6
          have H7 := Lib.hid h7
          have HBX := Lib.hid hbx
          clear h0 h1 h2 h3 h4 h5 h6 h7 hbx hed hdi hJ hF
          go_wp2
          exact HK.out _ _ ⟨s21, s22, s23, s24, _, s26, s27, s28, rfl, fun _ => ⟨HBX.out, (fun e => H0.out (dj e)), (fun e => H1.out (dj e)), (fun e => H2.out (dj e)), (fun e => H3.out (dj e)), fun _ => rfl, (fun e => H5.out (dj e)), (fun e => H6.out (dj e)), (fun e => H7.out (dj e))⟩, fun e => absurd (dj e) (by rw [hnl]; exact Bool.false_ne_true)⟩
        · cases ho
          have hnl : d 8 = false := by
            cases e : d 8 with
            | false => rfl
            | true => exact absurd ((hF e).1 5 (by omega) (by omega)) (by rw [hdi]; exact Bool.false_ne_true)
          obtain ⟨hbx, h0, h1, h2, h3, h4, h5, h6, h7⟩ := hJ hnl
          have q3 := h3 (hed ⟨3, .data⟩ (by simp) rfl)
          have q4 := h4 (hed ⟨4, .data⟩ (by simp) rfl)
          subst q3
          subst q4
          refine wpOp_plain rfl rfl fun KK hKK => ?_
          have HK := Lib.hid hKK
          clear hKK
          have H0 := Lib.hid h0
          have H1 := Lib.hid h1
          have H2 := Lib.hid h2
          have H3 := Lib.hid h3
          have H4 := Lib.hid h4
          have H5 := Lib.hid h5
          have H6 := Lib.hid h6
          have H7 := Lib.hid h7
          clear h0 h1 h2 h3 h4 h5 h6 h7 hed hdi hJ hF
          go_wp2_with fail
          refine (falling_any _ (n : Int) i (by omega) (by omega) (by omega)).mono ?_
          rintro e xN ⟨vN, rfl, hrN, hbN⟩
          exact HK.out _ _ ⟨s21, s22, s23, _, _, vN, s27, s28, rfl, fun _ => ⟨hbx.trans (hbN.mono hbx.size), (fun e => H0.out (dj e)), (fun e => H1.out (dj e)), (fun e => H2.out (dj e)), fun _ => rfl, fun _ => rfl, fun _ => RatR.lower hrN hbx.size, fun e => (H6.out (dj e)).below hbN, fun e => (H7.out (dj e)).below hbN⟩, fun e => absurd (dj e) (by rw [hnl]; exact Bool.false_ne_true)⟩
        · cases ho
          have hnl : d 8 = false := by
            cases e : d 8 with
            | false => rfl
            | true => exact absurd ((hF e).1 6 (by omega) (by omega)) (by rw [hdi]; exact Bool.false_ne_true)
          obtain ⟨hbx, h0, h1, h2, h3, h4, h5, h6, h7⟩ := hJ hnl
          have q1 := h1 (hed ⟨1, .data⟩ (by simp) rfl)
          have q5 := h5 (hed ⟨5, .data⟩ (by simp) rfl)
          subst q1
          refine wpOp_plain rfl rfl fun KK hKK => ?_
          have HK := Lib.hid hKK
          clear hKK
          have H0 := Lib.hid h0
          have H1 := Lib.hid h1
          have H2 := Lib.hid h2
          have H3 := Lib.hid h3
          have H4 := Lib.hid h4
          have H5 := Lib.hid h5
          have H6 := Lib.hid h6
          have H7 := Lib.hid h7
          clear h0 h1 h2 h3 h4 h5 h6 h7 hed hdi hJ hF
          go_wp2_with fail
          refine (mul_any' _ lo W.heap.size _ _ K 101 (r i) (fall n i) (HEW.out.below hbx) (RatR.toV q5 (by have := sz_fall n (by omega) (by omega) i (by omega); omega)) (by omega)).mono ?_
          rintro e xN ⟨vN, rfl, hrN, hbN⟩
          exact HK.out _ _ ⟨s21, _, s23, s24, s25, s26, vN, s28, rfl, fun _ => ⟨hbx.trans (hbN.mono hbx.size), (fun e => H0.out (dj e)), fun _ => rfl, (fun e => H2.out (dj e)), (fun e => H3.out (dj e)), (fun e => H4.out (dj e)), fun e => (H5.out (dj e)).below hbN, fun _ => RatR.lower hrN hbx.size, fun e => (H7.out (dj e)).below hbN⟩, fun e => absurd (dj e) (by rw [hnl]; exact Bool.false_ne_true)⟩
        · cases ho
          have hnl : d 8 = false := by
            cases e : d 8 with
            | false => rfl
            | true => exact absurd ((hF e).1 7 (by omega) (by omega)) (by rw [hdi]; exact Bool.false_ne_true)
          obtain ⟨hbx, h0, h1, h2, h3, h4, h5, h6, h7⟩ := hJ hnl
          have q0 := h0 (hed ⟨0, .data⟩ (by simp) rfl)
          have q6 := h6 (hed ⟨6, .data⟩ (by simp) rfl)
          subst q0
          refine wpOp_plain rfl rfl fun KK hKK => ?_
          have HK := Lib.hid hKK
          clear hKK
          have H0 := Lib.hid h0
          have H1 := Lib.hid h1
          have H2 := Lib.hid h2
          have H3 := Lib.hid h3
          have H4 := Lib.hid h4
          have H5 := Lib.hid h5
          have H6 := Lib.hid h6
          have H7 := Lib.hid h7
          clear h0 h1 h2 h3 h4 h5 h6 h7 hed hdi hJ hF
          go_wp2_with fail
          refine (add_any' _ lo' W.heap.size _ _ (1 + 33 * (K + 303)) (K + 102) q (r i * fall n i) (RatR.toV (RatH.toR (hrW.out.below hhW hbx) (Nat.le_trans hhW hbx.size)) hszq.out) (RatR.toV q6 hszt.out) (by omega)).mono ?_
          rintro e xN ⟨vN, rfl, hrN, hbN⟩
          exact HK.out _ _ ⟨_, s22, s23, s24, s25, s26, s27, vN, rfl, fun _ => ⟨hbx.trans (hbN.mono hbx.size), fun _ => rfl, (fun e => H1.out (dj e)), (fun e => H2.out (dj e)), (fun e => H3.out (dj e)), (fun e => H4.out (dj e)), fun e => (H5.out (dj e)).below hbN, fun e => (H6.out (dj e)).below hbN, fun _ => RatR.lower hrN hbx.size⟩, fun e => absurd (dj e) (by rw [hnl]; exact Bool.false_ne_true)⟩
        · cases ho
          obtain ⟨hbx, h0, h1, h2, h3, h4, h5, h6, h7⟩ := hJ hdi
          have q7 := h7 (hed ⟨7, .data⟩ (by simp) rfl)
          have d0 : d 0 = true := hed ⟨0, .phase⟩ (by simp) rfl
          have d1 : d 1 = true := hed ⟨1, .phase⟩ (by simp) rfl
          have d2 : d 2 = true := hed ⟨2, .phase⟩ (by simp) rfl
          have d3 : d 3 = true := hed ⟨3, .phase⟩ (by simp) rfl
          have d4 : d 4 = true := hed ⟨4, .phase⟩ (by simp) rfl
          have d5 : d 5 = true := hed ⟨5, .phase⟩ (by simp) rfl
          have d6 : d 6 = true := hed ⟨6, .phase⟩ (by simp) rfl
          have d7 : d 7 = true := hed ⟨7, .data⟩ (by simp) rfl
          obtain ⟨hcO, hfO, hzO⟩ := (hOW.out.below hbx hOW.out.lt).facts
          obtain ⟨A3, c3, A4, c4, rfl, _, _⟩ := FracR.form q7
          have Q7 := Lib.hid q7
          have HBX := Lib.hid hbx
          clear q7
          refine wpOp_plain rfl rfl fun KK hKK => ?_
          have HK := Lib.hid hKK
          clear hKK
          clear hed hJ hF h0 h1 h2 h3 h4 h5 h6 h7
          go_wp2
          exact HK.out _ _ ⟨s21, s22, s23, s24, s25, s26, s27, _, rfl, (fun e => by simp at e), fun _ => ⟨(by intro j hj hne; have hc : j = 0 ∨ j = 1 ∨ j = 2 ∨ j = 3 ∨ j = 4 ∨ j = 5 ∨ j = 6 ∨ j = 7 := (by omega); rcases hc with rfl | rfl | rfl | rfl | rfl | rfl | rfl | rfl <;> simp [*]), _, A3, c3, A4, c4, HBX.out, Q7.out, rfl⟩⟩
      · rintro d a1 x hd ⟨s21, s22, s23, s24, s25, s26, s27, s28, rfl, hJ, hF⟩
        obtain ⟨_, x0, A3, c3, A4, c4, hb0, hr0, rfl⟩ := hF (hd 8 (Nat.lt_succ_self 8))
        clear hd hJ hF
        have hbq := hbW.trans (hb0.mono hbW.size)
        have hz0 := hb0.size
        have hws := hbW.size
        have hB0 := Lib.hid (hOW.out.below hb0 hzw1)
        have hR0 := Lib.hid (hRW.out.below hb0 hRW.out.lt)
        have HR0 := Lib.hid hr0
        clear hr0
        go_wp2
        go_roundw
        case rel =>
          refine ⟨i + 1, W.heap.size, x0.heap.size, _, A3, A4, c3, c4, by omega, by have := hRW.out.lt; omega, by rw [size_set3]; exact Nat.le_refl _, .inl hzw1, by go_num, ?_, ((Bk.set hB0.out 0 _).set 1 _).set 2 _, RatH.set3 (RatR.toH HR0.out) (.inl hzw1) _ _ _, (heap_set3 _ _ _ _ _ _ (by omega)).trans hR0.out, below_set3 hbq (by omega) _ _ _, by rw [size_set3]; omega⟩
          show q + r i * fall n i = evalQ r n i + r i * fall n i
          rw [hq.out]
        case measure => simp [intOf]; omega
    · obtain rfl : i = k := by omega
      obtain ⟨hcO, hfO, hzO⟩ := hB.out.facts
      obtain ⟨hcR, hfR, hzR⟩ := hR.out.facts
      simp only [zero3] at hcR
      go_wp2
      refine bodyPost_ret (v := .tuple #[.agg #[.bool (decide (q.num < 0)), .slice A' (dl q.num.natAbs) c', .slice A'' (dl q.den) c''], .bool true]) (by simp [results, Tryz.results28, go_sem, hcR]) rfl
        ⟨_, rfl, ?_, below_set3 hbw (Nat.le_refl _) _ _ _⟩
      rw [← hq.out]
      exact RatR.lower ((RatH.set3 hr.out (.inl hlo) _ _ _).toR (by rw [size_set3]; exact hhi)) (by omega)

end Go.Proofs.YtdbiedpdibjdlaaGreat

