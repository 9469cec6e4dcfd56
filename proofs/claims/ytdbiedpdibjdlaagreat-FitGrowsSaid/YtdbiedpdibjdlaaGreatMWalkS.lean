/-
  The walks of rational's Small and of binomial's falling.
-/
import Derived.Test.YtdbiedpdibjdlaaGreatMWalkR
namespace Go.Proofs.YtdbiedpdibjdlaaGreat
open Go.RowKit AC
set_option linter.unusedVariables false
set_option linter.unusedSimpArgs false

set_option maxHeartbeats 2000000 in
theorem usmall_any (w : World) (x y : Int) (h1 : -9223372036854775808 ≤ x) (h2 : x ≤ 9223372036854775807) (h3 : 1 ≤ y) (h4 : y ≤ 9223372036854775807) :
    Calls Tryz.prog 82 #[.int .i64 x, .int .i64 y] w (RetQ w (mkRat x y.toNat)) := by
  have hsg : Hid (sg (!(decide (x < 0) == decide (y < 0))) x.natAbs = x) := by
    show _ = _
    unfold sg
    have hy : decide (y < 0) = false := by simp; omega
    rw [hy]
    by_cases h : x < 0
    · simp [h]; omega
    · simp [h]; omega
  have hdl : Hid (dl x.natAbs ≤ 3 ∧ dl y.natAbs ≤ 3) := by
    have h5 : B ^ 3 = 1000000000000000000000000000 := by decide
    exact ⟨dl_le (by omega), dl_le (by omega)⟩
  have hyn : Hid (y.natAbs = y.toNat) := by show _ = _; omega
  have hy0 : (y == 0) = false := by rw [beq_eq_false_iff_ne]; omega
  go_enter Tryz.func82, Tryz.ntmps82
  go_wp2_with fail
  refine (magnitude_any _ x h1 h2).mono ?_
  rintro e w1 ⟨v1, rfl, hn1, hb1⟩
  have hR1 := Lib.hid ((Bk.new w 46 _).below hb1 (by simp))
  have HN1 := Lib.hid hn1
  obtain ⟨A, c, rfl⟩ := Limbs.len hn1
  have hz1 : w.heap.size < w1.heap.size := hR1.out.lt
  have hbw1 := (bel1 w _).trans (hb1.mono (by simp))
  clear hn1 hb1
  go_wp2_with fail
  refine (magnitude_any _ y (by omega) h4).mono ?_
  rintro e w2 ⟨v2, rfl, hn2, hb2⟩
  have hR2 := Lib.hid (hR1.out.below hb2 hz1)
  have HN1' := Lib.hid (HN1.out.below hb2)
  have HN2 := Lib.hid hn2
  obtain ⟨A', c', rfl⟩ := Limbs.len hn2
  have hz2 : w.heap.size < w2.heap.size := hR2.out.lt
  have hbw2 := hbw1.trans (hb2.mono hbw1.size)
  clear hn2 hb2
  go_wp2_with fail
  refine (store_any _ (w.heap.size + 1) _ _ x.natAbs y.natAbs (by omega) ⟨_, _, rfl, HN1'.out.lower (by simp), HN2.out.lower (by omega)⟩ (by omega) (by have := hdl.out; omega) (by have := hdl.out; omega)).mono ?_
  rintro e w3 ⟨v3, rfl, hr3, hb3⟩
  rw [hsg.out, hyn.out] at hr3
  obtain ⟨q, hq⟩ : ∃ q, Hid (q = mkRat x y.toNat) := ⟨_, rfl⟩
  rw [← hq.out] at hr3
  have HR3 := Lib.hid hr3
  obtain ⟨A2, c2, A3, c3, rfl, h5, h6⟩ := FracR.form hr3
  obtain ⟨hcR, hfR, hz3⟩ := (hR2.out.below hb3 hz2).facts
  have hbw3 := hbw2.trans (hb3.mono hbw2.size)
  clear h5 h6 hr3 hb3
  go_wp2
  exact bodyPost_ret (v := .agg #[.bool (decide (q.num < 0)), .slice A2 (dl q.num.natAbs) c2, .slice A3 (dl q.den) c3]) (by simp [results, Tryz.results82, go_sem, hcR]) rfl
    ⟨_, rfl, by rw [← hq.out]; exact RatR.lower (rat_set3 HR3.out (by omega) _ _ _) (by omega), below_set3 hbw3 (Nat.le_refl _) _ _ _⟩

/-- As RatR, the memory between lo and hi. -/
def RatH (w : World) (lo hi : Nat) (v : Value) (q : Rat) : Prop :=
  ∃ vn vd, v = .agg #[.bool (decide (q.num < 0)), vn, vd] ∧ LimbsH w lo hi vn (dl q.num.natAbs) (dg q.num.natAbs) ∧ LimbsH w lo hi vd (dl q.den) (dg q.den)
theorem RatR.toH {w : World} {lo : Nat} {v : Value} {q : Rat} (h : RatR w lo v q) : RatH w lo w.heap.size v q := h
theorem RatH.toR {w : World} {lo hi : Nat} {v : Value} {q : Rat} (h : RatH w lo hi v q) (hh : hi ≤ w.heap.size) : RatR w lo v q := by
  obtain ⟨vn, vd, rfl, h1, h2⟩ := h
  exact ⟨vn, vd, rfl, h1.limbs hh, h2.limbs hh⟩
theorem RatH.keep {w w' : World} {lo hi : Nat} {v : Value} {q : Rat} (h : RatH w lo hi v q) (hk : ∀ b, lo ≤ b → b < hi → w'.heap[b]? = w.heap[b]?) : RatH w' lo hi v q := by
  obtain ⟨vn, vd, rfl, h1, h2⟩ := h
  exact ⟨vn, vd, rfl, h1.keep hk, h2.keep hk⟩
theorem RatH.below {w w' : World} {lo hi : Nat} {v : Value} {q : Rat} (h : RatH w lo hi v q) (hh : hi ≤ w.heap.size) (hb : Below w.heap.size w w') : RatH w' lo hi v q :=
  h.keep fun b _ hb2 => hb.block b (by omega)
theorem RatH.alloc {w : World} {lo hi : Nat} {v : Value} {q : Rat} (h : RatH w lo hi v q) (hh : hi ≤ w.heap.size) (o : Obj) : RatH (w.alloc o) lo hi v q :=
  h.below hh (bel1 w o)
theorem RatH.set3 {w : World} {lo hi : Nat} {v : Value} {q : Rat} (h : RatH w lo hi v q) {g : Nat} (hg : g < lo ∨ hi ≤ g) (x y z : Value) :
    RatH (((w.setCell ⟨g, 0, none⟩ x).setCell ⟨g, 1, none⟩ y).setCell ⟨g, 2, none⟩ z) lo hi v q :=
  h.keep fun b h1 h2 => heap_set3 w g x y z b (by omega)

/-- n (n - 1) .. (n - k + 1) / k!. -/
def fall (n : Int) : Nat → Rat
  | 0 => 1
  | k + 1 => fall n k * mkRat (n - k) (k + 1)

theorem fall_zero {n : Int} {i k : Nat} (h : n = i) (hk : i < k) : fall n k = 0 := by
  induction k with
  | zero => omega
  | succ k ih =>
    rw [fall]
    rcases Nat.lt_or_ge i k with h1 | h1
    · rw [ih h1, Rat.zero_mul]
    · obtain rfl : i = k := by omega
      rw [h, Int.sub_self, Rat.zero_mkRat, Rat.mul_zero]

theorem sz_small (x : Int) (d : Nat) (h1 : -9223372036854775808 ≤ x) (h2 : x ≤ 9223372036854775807) (h3 : d ≤ 9223372036854775807) : sz (mkRat x d) ≤ 3 := by
  have h5 : B ^ 3 = 1000000000000000000000000000 := by decide
  exact sz_mk _ _ _ (dl_le (by omega)) (dl_le (by omega)) (by omega)

theorem sz_fall (n : Int) (h1 : -4611686018427387904 ≤ n) (h2 : n ≤ 9223372036854775807) : ∀ k, k ≤ 100 → sz (fall n k) ≤ 1 + 3 * k
  | 0, _ => by
    show sz 1 ≤ 1
    have : dl 1 = 1 := dl_one
    simp [sz, this]
  | k + 1, hk => by
    have h3 := sz_fall n h1 h2 k (by omega)
    have h4 := sz_small (n - k) (k + 1) (by omega) (by omega) (by omega)
    have h5 := sz_mul (fall n k) (mkRat (n - k) (k + 1))
    rw [fall]
    omega

/-- The loop of falling. -/
def FaRel (w : World) (O k : Nat) (n : Int) (iv : Value) (wr : World) : Prop :=
  ∃ (i lo hi : Nat) (q : Rat) (A A' : Option Addr) (c c' : Nat), i ≤ k ∧ w.heap.size < lo ∧ hi ≤ wr.heap.size ∧ (O < lo ∨ hi ≤ O) ∧ iv = .int .i64 i ∧ Hid (q = fall n i) ∧ Hid (Bk wr O 46 #[.bool (decide (q.num < 0)), .slice A (dl q.num.natAbs) c, .slice A' (dl q.den) c']) ∧
    Hid (RatH wr lo hi (.agg #[.bool (decide (q.num < 0)), .slice A (dl q.num.natAbs) c, .slice A' (dl q.den) c']) q) ∧ Hid (Bk wr w.heap.size 46 zero3) ∧ Below w.heap.size w wr ∧ O + 1 ≤ wr.heap.size

set_option maxHeartbeats 1000000 in
theorem falling_any (w : World) (n : Int) (k : Nat) (h1 : -4611686018427387904 ≤ n) (h2 : n ≤ 9223372036854775807) (hk : k ≤ 100) :
    Calls Tryz.prog 55 #[.int .i64 n, .int .i64 k] w (RetQ w (fall n k)) := by
  go_enter Tryz.func55, Tryz.ntmps55
  go_wp2_with fail
  refine (fromInt_any _ 1 (by omega) (by omega)).mono ?_
  rintro e w1 ⟨v1, rfl, hr1, hb1⟩
  have hR1 := Lib.hid ((Bk.new w 46 _).below hb1 (by simp))
  have hz1 : w.heap.size < w1.heap.size := hR1.out.lt
  obtain ⟨q1, hq1⟩ : ∃ q1, Hid (q1 = mkRat 1 1) := ⟨_, rfl⟩
  rw [← hq1.out] at hr1
  have HR1 := Lib.hid hr1
  obtain ⟨A1, c1, A2, c2, rfl, _, _⟩ := FracR.form hr1
  have hbw1 := (bel1 w _).trans (hb1.mono (by simp))
  clear hr1 hb1
  go_wp2
  go_loopw [9] (fun iv wr => FaRel w w1.heap.size k n iv wr) (fun iv _ => k - (intOf iv).toNat)
  case atStart =>
    refine ⟨0, w.heap.size + 1, w1.heap.size, q1, A1, A2, c1, c2, by omega, by omega, by simp, by omega, rfl, ?_, Bk.new _ _ _, ?_, hR1.out.alloc _, hbw1.alloc (by omega) _, by simp⟩
    · show q1 = 1
      rw [hq1.out]; rfl
    · have := (RatR.toH HR1.out).alloc (Nat.le_refl _) (.cells #[.bool (decide (q1.num < 0)), .slice A1 (dl q1.num.natAbs) c1, .slice A2 (dl q1.den) c2] 46)
      exact Lib.hid (by simpa using this)
  case round =>
    obtain ⟨i, lo, hi', q, A, A', c, c', hi, hlo, hhi, hout, rfl, hq, hB, hr, hR, hbw, hsz⟩ := hrel
    by_cases hlt : i < k
    · by_cases hni : n = i
      · have hne : (n == (i : Int)) = true := by simpa using hni
        have hfin : Hid (fall n k = 0) := fall_zero hni hlt
        have hR' := hR
        clear hni
        go_wp2_with fail
        refine (fromInt_any _ 0 (by omega) (by omega)).mono ?_
        rintro e w2 ⟨v2, rfl, hr2, hb2⟩
        have hf0 : Hid (mkRat 0 1 = fall n k) := by show _ = _; rw [hfin.out, Rat.zero_mkRat]
        rw [hf0.out] at hr2
        obtain ⟨q2, hq2⟩ : ∃ q2, Hid (q2 = fall n k) := ⟨_, rfl⟩
        rw [← hq2.out] at hr2
        have HR2 := Lib.hid hr2
        obtain ⟨A3, c3, A4, c4, rfl, _, _⟩ := FracR.form hr2
        obtain ⟨hcR, hfR, hz2⟩ := (hR'.out.below hb2 hR'.out.lt).facts
        simp only [zero3] at hcR
        have hbw2 := hbw.trans (hb2.mono hbw.size)
        clear hr2 hb2
        go_wp2
        exact bodyPost_ret (v := .agg #[.bool (decide (q2.num < 0)), .slice A3 (dl q2.num.natAbs) c3, .slice A4 (dl q2.den) c4]) (by simp [results, Tryz.results55, go_sem, hcR]) rfl
          ⟨_, rfl, by rw [← hq2.out]; exact RatR.lower (rat_set3 HR2.out (by have := hbw.size; have := hR'.out.lt; omega) _ _ _) hbw.size, below_set3 hbw2 (Nat.le_refl _) _ _ _⟩
      · have hne : (n == (i : Int)) = false := by simpa using hni
        obtain ⟨hcO, hfO, hzO⟩ := hB.out.facts
        clear hni
        have hszq : sz q ≤ 301 := by rw [hq.out]; have := sz_fall n h1 h2 i (by omega); omega
        have hwr := hbw.size
        have hltR := hR.out.lt
        have hw1 := IntWalk.i64_in (n - (i : Int)) (by omega)
        have hw2 := IntWalk.i64_in ((i : Int) + 1) (by omega)
        go_wp2
        go_region_with
          (first
            | (go_at_call 82; refine (usmall_any _ (n - i) (i + 1) (by omega) (by omega) (by omega) (by omega)).mono ?_; rintro e w2 ⟨v2, rfl, hr2, hb2⟩; have hB2 := (hB.out.drew.below hb2 hzO); obtain ⟨hcO2, hfO2, hzO2⟩ := hB2.facts; have HR2 := Lib.hid hr2; have hb2' := hb2; clear hr2)
            | (go_at_call 54; refine (mul_any' _ lo wr.heap.size _ _ 301 3 q (mkRat (n - i) (i + 1)) (by exact RatR.toV (RatH.toR (RatH.below (w := wr.drew) hr.out (by simp; omega) hb2) (by have := hb2.size; simp at this; omega)) hszq) (by exact RatR.toV HR2.out (by exact sz_small _ _ (by omega) (by omega) (by omega))) (by omega)).mono ?_; rintro e w3 ⟨v3, rfl, hr3, hb3⟩; have hB3 := (hB2.below hb3 hzO2); obtain ⟨hcO3, hfO3, hzO3⟩ := hB3.facts; obtain ⟨q3, hq3⟩ : ∃ q3, Hid (q3 = q * mkRat (n - i) (i + 1)) := ⟨_, rfl⟩; rw [← hq3.out] at hr3; have HR3 := Lib.hid hr3; obtain ⟨A3, c3, A4, c4, rfl, _, _⟩ := FracR.form hr3; clear hr3))
        all_goals
          have hbq := hbw.drew.trans (hb2.mono hwr)
          have hbq3 := hbq.trans (hb3.mono hbq.size)
          have hz3 := hb3.size
          have hRB := Lib.hid ((hR.out.drew.below hb2 hltR).below hb3 (by have := hb2.size; simp at this; omega))
          have HB3 := Lib.hid hB3
          clear hw1 hw2 hb2 hb3 hB2 hB3 hb2'
          go_wp2
          go_roundw
          case rel =>
            refine ⟨i + 1, w2.heap.size, w3.heap.size, q3, A3, A4, c3, c4, by omega, by omega, by rw [size_set3]; exact Nat.le_refl _, .inl hzO2, by go_num, ?_, ((Bk.set HB3.out 0 _).set 1 _).set 2 _, RatH.set3 (RatR.toH HR3.out) (.inl hzO2) _ _ _, (heap_set3 _ _ _ _ _ _ (by omega)).trans hRB.out, below_set3 hbq3 (by omega) _ _ _, by rw [size_set3]; omega⟩
            show q3 = fall n i * mkRat (n - i) (i + 1)
            rw [hq3.out, hq.out]
          case measure => simp [intOf]; omega
    · obtain rfl : i = k := by omega
      obtain ⟨hcO, hfO, hzO⟩ := hB.out.facts
      obtain ⟨hcR, hfR, hzR⟩ := hR.out.facts
      simp only [zero3] at hcR
      go_wp2
      refine bodyPost_ret (v := .agg #[.bool (decide (q.num < 0)), .slice A (dl q.num.natAbs) c, .slice A' (dl q.den) c']) (by simp [results, Tryz.results55, go_sem, hcR]) rfl
        ⟨_, rfl, ?_, below_set3 hbw (Nat.le_refl _) _ _ _⟩
      rw [← hq.out]
      exact RatR.lower ((RatH.set3 hr.out (.inl hlo) _ _ _).toR (by rw [size_set3]; exact hhi)) (by omega)

end Go.Proofs.YtdbiedpdibjdlaaGreat

