/-
  Audits: the plain law: which point of a list violates its judgement.
-/
import Derived.Test.YtgheaoaicbkaoaaGreatDoorMWalkR
import Derived.Deep.CutBlock
import Derived.Deep.DeepCutAuto
namespace Go.Proofs.YtgheaoaicbkaoaaGreatDoor
open Go.RowKit AC
set_option linter.unusedVariables false
set_option linter.unusedSimpArgs false
theorem cmpR_lt (a b : Rat) : cmpQ a b < 0 ↔ a < b := by
  unfold cmpQ sgnQ
  rw [Int.sign_neg_iff, ← Int.not_le, Rat.num_nonneg, ← Rat.le_iff_sub_nonneg, Rat.not_le]
theorem cmpR_gt (a b : Rat) : 0 < cmpQ a b ↔ b < a := by
  have e : a - b = -(b - a) := by rw [Rat.sub_eq_add_neg, Rat.sub_eq_add_neg, Rat.neg_add, Rat.neg_neg, Rat.add_comm]
  rw [← cmpR_lt b a]
  unfold cmpQ sgnQ
  rw [e, Rat.neg_num, Int.sign_neg, Int.neg_pos]
/-- The least of the first values. -/
def mn (f : Nat → Rat) : Nat → Rat
  | 0 => f 0
  | k + 1 => if cmpQ (mn f k) (f (k + 1)) < 0 then mn f k else f (k + 1)
theorem mn_le (f : Nat → Rat) : ∀ k j, j ≤ k → mn f k ≤ f j
  | 0, j, h => by
    obtain rfl : j = 0 := by omega
    exact Rat.le_refl
  | k + 1, j, h => by
    rw [mn]
    by_cases hc : cmpQ (mn f k) (f (k + 1)) < 0
    · rw [if_pos hc]
      rcases Nat.lt_or_ge j (k + 1) with h1 | h1
      · exact mn_le f k j (by omega)
      · obtain rfl : j = k + 1 := by omega
        exact Rat.le_of_lt ((cmpR_lt _ _).1 hc)
    · rw [if_neg hc]
      have hle : f (k + 1) ≤ mn f k := Rat.not_lt.1 fun h => hc ((cmpR_lt _ _).2 h)
      rcases Nat.lt_or_ge j (k + 1) with h1 | h1
      · exact Rat.le_trans hle (mn_le f k j (by omega))
      · obtain rfl : j = k + 1 := by omega
        exact Rat.le_refl
theorem mn_mem (f : Nat → Rat) : ∀ k, ∃ j, j ≤ k ∧ mn f k = f j
  | 0 => ⟨0, Nat.le_refl _, rfl⟩
  | k + 1 => by
    rw [mn]
    split
    · obtain ⟨j, h1, h2⟩ := mn_mem f k
      exact ⟨j, by omega, h2⟩
    · exact ⟨k + 1, Nat.le_refl _, rfl⟩
theorem mn_congr {f g : Nat → Rat} : ∀ k, (∀ j, j ≤ k → f j = g j) → mn f k = mn g k
  | 0, h => h 0 (Nat.le_refl _)
  | k + 1, h => by rw [mn, mn, mn_congr k fun j hj => h j (by omega), h (k + 1) (Nat.le_refl _)]
/-- A value is above the least one if it is above one of them. -/
theorem mn_over (f : Nat → Rat) (c : Rat) (k : Nat) : 0 < cmpQ c (mn f k) ↔ ∃ j, j ≤ k ∧ 0 < cmpQ c (f j) := by
  rw [cmpR_gt]
  refine ⟨fun h => ?_, fun ⟨j, h1, h2⟩ => ?_⟩
  · obtain ⟨j, h1, h2⟩ := mn_mem f k
    exact ⟨j, h1, by rw [cmpR_gt, ← h2]; exact h⟩
  · rw [cmpR_gt] at h2
    exact Rat.not_le.1 fun h => (Rat.not_le.2 h2) (Rat.le_trans h (mn_le f k j h1))
/-- The last of some points with a node. -/
def fnd (nd : Nat → Int) (x : Int) : List Nat → Option Nat
  | [] => none
  | j :: l => match fnd nd x l with
    | some r => some r
    | none => if nd j = x then some j else none
theorem fnd_none {nd : Nat → Int} {x : Int} : ∀ {l : List Nat}, (∀ j ∈ l, nd j ≠ x) → fnd nd x l = none
  | [], h => rfl
  | j :: l, h => by rw [fnd, fnd_none fun k hk => h k (List.mem_cons_of_mem _ hk)]; simp [h j (by simp)]
theorem fnd_some {nd : Nat → Int} {x : Int} {j : Nat} {b : List Nat} (hj : nd j = x) (hb : ∀ k ∈ b, nd k ≠ x) : ∀ a : List Nat, fnd nd x (a ++ j :: b) = some j
  | [] => by rw [List.nil_append, fnd, fnd_none hb]; simp [hj]
  | i :: a => by rw [List.cons_append, fnd, fnd_some hj hb a]
theorem fnd_at {nd : Nat → Int} {x : Int} {l : List Nat} {k : Nat} {j : Nat} (hk : l[k]? = some j) (hj : nd j = x) (hb : ∀ k' j', k < k' → l[k']? = some j' → nd j' ≠ x) : fnd nd x l = some j := by
  have hlt := (List.getElem?_eq_some_iff.1 hk).1
  have e : l = l.take k ++ j :: l.drop (k + 1) := by
    have h1 := List.getElem_cons_drop hlt
    rw [(List.getElem?_eq_some_iff.1 hk).2] at h1
    rw [h1, List.take_append_drop]
  rw [e]
  refine fnd_some hj (fun y hy => ?_) _
  obtain ⟨i, hi⟩ := List.getElem?_of_mem hy
  rw [List.getElem?_drop] at hi
  exact hb _ y (by omega) hi
section
variable (lower : Bool) (nd kd ct : Nat → Int) (lv : Nat → Rat)
def viol (c : Int) : Bool := (!lower && decide (0 < c)) || (lower && decide (c < 0))
def over (i : Nat) (S : List Nat) : Bool := !lower && S.any fun j => decide (0 < cmpQ (mkRat (ct i) 1) (lv j))
/-- Point i violates its judgement if the points S are open. -/
def badP (i : Nat) (S : List Nat) : Bool := over lower ct lv i S || (!(kd i == 1) && ((!(kd i == 2) && !(kd i == 3)) || match fnd nd (nd i) S with
  | none => true
  | some j => (kd i == 2) && viol lower (cmpQ (lv i) (lv j))))
def nxtP (i : Nat) (S : List Nat) : List Nat := if kd i = 1 then S ++ [i] else match fnd nd (nd i) S with
  | none => S
  | some j => S.filter (· ≠ j)
def runP : Nat → Nat → List Nat → Int
  | 0, _, _ => -1
  | m + 1, i, S => if badP lower nd kd ct lv i S = true then i else runP m (i + 1) (nxtP nd kd i S)
/-- The first point that violates its judgement, or the list's length if the peak is too great. -/
def ansP (n : Nat) (peak : Int) : Int := if runP lower nd kd ct lv n 0 [] = -1 then (if lower = false ∧ 0 < n ∧ 0 < cmpQ (mkRat peak 1) (lv 0) then (n : Int) else -1) else runP lower nd kd ct lv n 0 []
end
section
variable {lower : Bool} {nd kd ct : Nat → Int} {lv : Nat → Rat}
theorem runP_bad {m i : Nat} {S : List Nat} (h : badP lower nd kd ct lv i S = true) : runP lower nd kd ct lv (m + 1) i S = i := by rw [runP, if_pos h]
theorem runP_next {m i : Nat} {S : List Nat} (h : badP lower nd kd ct lv i S = false) : runP lower nd kd ct lv (m + 1) i S = runP lower nd kd ct lv m (i + 1) (nxtP nd kd i S) := by rw [runP, h]; simp
theorem ansP_bad {n : Nat} {peak : Int} {i : Nat} (h : runP lower nd kd ct lv n 0 [] = i) : ansP lower nd kd ct lv n peak = i := by
  unfold ansP
  rw [h, if_neg (by omega)]
theorem ansP_end {n : Nat} {peak : Int} (h : runP lower nd kd ct lv n 0 [] = -1) : ansP lower nd kd ct lv n peak = if lower = false ∧ 0 < n ∧ 0 < cmpQ (mkRat peak 1) (lv 0) then (n : Int) else -1 := by
  unfold ansP
  rw [h, if_pos rfl]
end
end Go.Proofs.YtgheaoaicbkaoaaGreatDoor

/-
  The walks of rational's Small and of binomial's falling.
-/
namespace Go.Proofs.YtgheaoaicbkaoaaGreatDoor
open Go.RowKit AC
set_option linter.unusedVariables false
set_option linter.unusedSimpArgs false

set_option maxHeartbeats 2000000 in
theorem usmall_any (w : World) (x y : Int) (h1 : -9223372036854775808 ≤ x) (h2 : x ≤ 9223372036854775807) (h3 : 1 ≤ y) (h4 : y ≤ 9223372036854775807) :
    Calls Tryz.prog 257 #[.int .i64 x, .int .i64 y] w (RetQ w (mkRat x y.toNat)) := by
  have hsg : Hid (sg (!(decide (x < 0) == decide (y < 0))) x.natAbs = x) := by
    show _ = _
    unfold sg
    have hy : decide (y < 0) = false := by simp; omega
    rw [hy]
    by_cases h : x < 0
    · simp [h]; omega
    · simp [h]; omega
  have hdl : Hid (dl x.natAbs ≤ 3 ∧ dl y.natAbs ≤ 3) := by
    have h5 : B ^ 3 = 1000000000000000000000000000 := by decide
    exact ⟨dl_le (by omega), dl_le (by omega)⟩
  have hyn : Hid (y.natAbs = y.toNat) := by show _ = _; omega
  have hy0 : (y == 0) = false := by rw [beq_eq_false_iff_ne]; omega
  go_enter Tryz.func257, Tryz.ntmps257
  go_wp2_with fail
  refine (magnitude_any _ x h1 h2).mono ?_
  rintro e w1 ⟨v1, rfl, hn1, hb1⟩
  have hR1 := Lib.hid ((Bk.new w 27 _).below hb1 (by simp))
  have HN1 := Lib.hid hn1
  obtain ⟨A, c, rfl⟩ := Limbs.len hn1
  have hz1 : w.heap.size < w1.heap.size := hR1.out.lt
  have hbw1 := (bel1 w _).trans (hb1.mono (by simp))
  clear hn1 hb1
  go_wp2_with fail
  refine (magnitude_any _ y (by omega) h4).mono ?_
  rintro e w2 ⟨v2, rfl, hn2, hb2⟩
  have hR2 := Lib.hid (hR1.out.below hb2 hz1)
  have HN1' := Lib.hid (HN1.out.below hb2)
  have HN2 := Lib.hid hn2
  obtain ⟨A', c', rfl⟩ := Limbs.len hn2
  have hz2 : w.heap.size < w2.heap.size := hR2.out.lt
  have hbw2 := hbw1.trans (hb2.mono hbw1.size)
  clear hn2 hb2
  go_wp2_with fail
  refine (store_any _ (w.heap.size + 1) _ _ x.natAbs y.natAbs (by omega) ⟨_, _, rfl, HN1'.out.lower (by simp), HN2.out.lower (by omega)⟩ (by omega) (by have := hdl.out; omega) (by have := hdl.out; omega)).mono ?_
  rintro e w3 ⟨v3, rfl, hr3, hb3⟩
  rw [hsg.out, hyn.out] at hr3
  obtain ⟨q, hq⟩ : ∃ q, Hid (q = mkRat x y.toNat) := ⟨_, rfl⟩
  rw [← hq.out] at hr3
  have HR3 := Lib.hid hr3
  obtain ⟨A2, c2, A3, c3, rfl, h5, h6⟩ := FracR.form hr3
  obtain ⟨hcR, hfR, hz3⟩ := (hR2.out.below hb3 hz2).facts
  have hbw3 := hbw2.trans (hb3.mono hbw2.size)
  clear h5 h6 hr3 hb3
  go_wp2
  exact bodyPost_ret (v := .agg #[.bool (decide (q.num < 0)), .slice A2 (dl q.num.natAbs) c2, .slice A3 (dl q.den) c3]) (by simp [results, Tryz.results257, go_sem, hcR]) rfl
    ⟨_, rfl, by rw [← hq.out]; exact RatR.lower (rat_set3 HR3.out (by omega) _ _ _) (by omega), below_set3 hbw3 (Nat.le_refl _) _ _ _⟩

/-- As RatR, the memory between lo and hi. -/
def RatH (w : World) (lo hi : Nat) (v : Value) (q : Rat) : Prop :=
  ∃ vn vd, v = .agg #[.bool (decide (q.num < 0)), vn, vd] ∧ LimbsH w lo hi vn (dl q.num.natAbs) (dg q.num.natAbs) ∧ LimbsH w lo hi vd (dl q.den) (dg q.den)
theorem RatR.toH {w : World} {lo : Nat} {v : Value} {q : Rat} (h : RatR w lo v q) : RatH w lo w.heap.size v q := h
theorem RatH.toR {w : World} {lo hi : Nat} {v : Value} {q : Rat} (h : RatH w lo hi v q) (hh : hi ≤ w.heap.size) : RatR w lo v q := by
  obtain ⟨vn, vd, rfl, h1, h2⟩ := h
  exact ⟨vn, vd, rfl, h1.limbs hh, h2.limbs hh⟩
theorem RatH.keep {w w' : World} {lo hi : Nat} {v : Value} {q : Rat} (h : RatH w lo hi v q) (hk : ∀ b, lo ≤ b → b < hi → w'.heap[b]? = w.heap[b]?) : RatH w' lo hi v q := by
  obtain ⟨vn, vd, rfl, h1, h2⟩ := h
  exact ⟨vn, vd, rfl, h1.keep hk, h2.keep hk⟩
theorem RatH.below {w w' : World} {lo hi : Nat} {v : Value} {q : Rat} (h : RatH w lo hi v q) (hh : hi ≤ w.heap.size) (hb : Below w.heap.size w w') : RatH w' lo hi v q :=
  h.keep fun b _ hb2 => hb.block b (by omega)
theorem RatH.alloc {w : World} {lo hi : Nat} {v : Value} {q : Rat} (h : RatH w lo hi v q) (hh : hi ≤ w.heap.size) (o : Obj) : RatH (w.alloc o) lo hi v q :=
  h.below hh (bel1 w o)
theorem RatH.set3 {w : World} {lo hi : Nat} {v : Value} {q : Rat} (h : RatH w lo hi v q) {g : Nat} (hg : g < lo ∨ hi ≤ g) (x y z : Value) :
    RatH (((w.setCell ⟨g, 0, none⟩ x).setCell ⟨g, 1, none⟩ y).setCell ⟨g, 2, none⟩ z) lo hi v q :=
  h.keep fun b h1 h2 => heap_set3 w g x y z b (by omega)

/-- n (n - 1) .. (n - k + 1) / k!. -/
def fall (n : Int) : Nat → Rat
  | 0 => 1
  | k + 1 => fall n k * mkRat (n - k) (k + 1)

theorem fall_zero {n : Int} {i k : Nat} (h : n = i) (hk : i < k) : fall n k = 0 := by
  induction k with
  | zero => omega
  | succ k ih =>
    rw [fall]
    rcases Nat.lt_or_ge i k with h1 | h1
    · rw [ih h1, Rat.zero_mul]
    · obtain rfl : i = k := by omega
      rw [h, Int.sub_self, Rat.zero_mkRat, Rat.mul_zero]

theorem sz_small (x : Int) (d : Nat) (h1 : -9223372036854775808 ≤ x) (h2 : x ≤ 9223372036854775807) (h3 : d ≤ 9223372036854775807) : sz (mkRat x d) ≤ 3 := by
  have h5 : B ^ 3 = 1000000000000000000000000000 := by decide
  exact sz_mk _ _ _ (dl_le (by omega)) (dl_le (by omega)) (by omega)

theorem sz_fall (n : Int) (h1 : -4611686018427387904 ≤ n) (h2 : n ≤ 9223372036854775807) : ∀ k, k ≤ 100 → sz (fall n k) ≤ 1 + 3 * k
  | 0, _ => by
    show sz 1 ≤ 1
    have : dl 1 = 1 := dl_one
    simp [sz, this]
  | k + 1, hk => by
    have h3 := sz_fall n h1 h2 k (by omega)
    have h4 := sz_small (n - k) (k + 1) (by omega) (by omega) (by omega)
    have h5 := sz_mul (fall n k) (mkRat (n - k) (k + 1))
    rw [fall]
    omega

/-- The loop of falling. -/
def FaRel (w : World) (O k : Nat) (n : Int) (iv : Value) (wr : World) : Prop :=
  ∃ (i lo hi : Nat) (q : Rat) (A A' : Option Addr) (c c' : Nat), i ≤ k ∧ w.heap.size < lo ∧ hi ≤ wr.heap.size ∧ (O < lo ∨ hi ≤ O) ∧ iv = .int .i64 i ∧ Hid (q = fall n i) ∧ Hid (Bk wr O 27 #[.bool (decide (q.num < 0)), .slice A (dl q.num.natAbs) c, .slice A' (dl q.den) c']) ∧
    Hid (RatH wr lo hi (.agg #[.bool (decide (q.num < 0)), .slice A (dl q.num.natAbs) c, .slice A' (dl q.den) c']) q) ∧ Hid (Bk wr w.heap.size 27 zero3) ∧ Below w.heap.size w wr ∧ O + 1 ≤ wr.heap.size

set_option maxHeartbeats 1000000 in
theorem falling_any (w : World) (n : Int) (k : Nat) (h1 : -4611686018427387904 ≤ n) (h2 : n ≤ 9223372036854775807) (hk : k ≤ 100) :
    Calls Tryz.prog 327 #[.int .i64 n, .int .i64 k] w (RetQ w (fall n k)) := by
  go_enter Tryz.func327, Tryz.ntmps327
  go_wp2_with fail
  refine (fromInt_any _ 1 (by omega) (by omega)).mono ?_
  rintro e w1 ⟨v1, rfl, hr1, hb1⟩
  have hR1 := Lib.hid ((Bk.new w 27 _).below hb1 (by simp))
  have hz1 : w.heap.size < w1.heap.size := hR1.out.lt
  obtain ⟨q1, hq1⟩ : ∃ q1, Hid (q1 = mkRat 1 1) := ⟨_, rfl⟩
  rw [← hq1.out] at hr1
  have HR1 := Lib.hid hr1
  obtain ⟨A1, c1, A2, c2, rfl, _, _⟩ := FracR.form hr1
  have hbw1 := (bel1 w _).trans (hb1.mono (by simp))
  clear hr1 hb1
  go_wp2
  go_loopw [9] (fun iv wr => FaRel w w1.heap.size k n iv wr) (fun iv _ => k - (intOf iv).toNat)
  case atStart =>
    refine ⟨0, w.heap.size + 1, w1.heap.size, q1, A1, A2, c1, c2, by omega, by omega, by simp, by omega, rfl, ?_, Bk.new _ _ _, ?_, hR1.out.alloc _, hbw1.alloc (by omega) _, by simp⟩
    · show q1 = 1
      rw [hq1.out]; rfl
    · have := (RatR.toH HR1.out).alloc (Nat.le_refl _) (.cells #[.bool (decide (q1.num < 0)), .slice A1 (dl q1.num.natAbs) c1, .slice A2 (dl q1.den) c2] 27)
      exact Lib.hid (by simpa using this)
  case round =>
    obtain ⟨i, lo, hi', q, A, A', c, c', hi, hlo, hhi, hout, rfl, hq, hB, hr, hR, hbw, hsz⟩ := hrel
    by_cases hlt : i < k
    · by_cases hni : n = i
      · have hne : (n == (i : Int)) = true := by simpa using hni
        have hfin : Hid (fall n k = 0) := fall_zero hni hlt
        have hR' := hR
        clear hni
        go_wp2_with fail
        refine (fromInt_any _ 0 (by omega) (by omega)).mono ?_
        rintro e w2 ⟨v2, rfl, hr2, hb2⟩
        have hf0 : Hid (mkRat 0 1 = fall n k) := by show _ = _; rw [hfin.out, Rat.zero_mkRat]
        rw [hf0.out] at hr2
        obtain ⟨q2, hq2⟩ : ∃ q2, Hid (q2 = fall n k) := ⟨_, rfl⟩
        rw [← hq2.out] at hr2
        have HR2 := Lib.hid hr2
        obtain ⟨A3, c3, A4, c4, rfl, _, _⟩ := FracR.form hr2
        obtain ⟨hcR, hfR, hz2⟩ := (hR'.out.below hb2 hR'.out.lt).facts
        simp only [zero3] at hcR
        have hbw2 := hbw.trans (hb2.mono hbw.size)
        clear hr2 hb2
        go_wp2
        exact bodyPost_ret (v := .agg #[.bool (decide (q2.num < 0)), .slice A3 (dl q2.num.natAbs) c3, .slice A4 (dl q2.den) c4]) (by simp [results, Tryz.results327, go_sem, hcR]) rfl
          ⟨_, rfl, by rw [← hq2.out]; exact RatR.lower (rat_set3 HR2.out (by have := hbw.size; have := hR'.out.lt; omega) _ _ _) hbw.size, below_set3 hbw2 (Nat.le_refl _) _ _ _⟩
      · have hne : (n == (i : Int)) = false := by simpa using hni
        obtain ⟨hcO, hfO, hzO⟩ := hB.out.facts
        clear hni
        have hszq : sz q ≤ 301 := by rw [hq.out]; have := sz_fall n h1 h2 i (by omega); omega
        have hwr := hbw.size
        have hltR := hR.out.lt
        have hw1 := IntWalk.i64_in (n - (i : Int)) (by omega)
        have hw2 := IntWalk.i64_in ((i : Int) + 1) (by omega)
        go_wp2
        go_region_with
          (first
            | (go_at_call 257; refine (usmall_any _ (n - i) (i + 1) (by omega) (by omega) (by omega) (by omega)).mono ?_; rintro e w2 ⟨v2, rfl, hr2, hb2⟩; have hB2 := (hB.out.drew.below hb2 hzO); obtain ⟨hcO2, hfO2, hzO2⟩ := hB2.facts; have HR2 := Lib.hid hr2; have hb2' := hb2; clear hr2)
            | (go_at_call 209; refine (mul_any' _ lo wr.heap.size _ _ 301 3 q (mkRat (n - i) (i + 1)) (by exact RatR.toV (RatH.toR (RatH.below (w := wr.drew) hr.out (by simp; omega) hb2) (by have := hb2.size; simp at this; omega)) hszq) (by exact RatR.toV HR2.out (by exact sz_small _ _ (by omega) (by omega) (by omega))) (by omega)).mono ?_; rintro e w3 ⟨v3, rfl, hr3, hb3⟩; have hB3 := (hB2.below hb3 hzO2); obtain ⟨hcO3, hfO3, hzO3⟩ := hB3.facts; obtain ⟨q3, hq3⟩ : ∃ q3, Hid (q3 = q * mkRat (n - i) (i + 1)) := ⟨_, rfl⟩; rw [← hq3.out] at hr3; have HR3 := Lib.hid hr3; obtain ⟨A3, c3, A4, c4, rfl, _, _⟩ := FracR.form hr3; clear hr3))
        all_goals
          have hbq := hbw.drew.trans (hb2.mono hwr)
          have hbq3 := hbq.trans (hb3.mono hbq.size)
          have hz3 := hb3.size
          have hRB := Lib.hid ((hR.out.drew.below hb2 hltR).below hb3 (by have := hb2.size; simp at this; omega))
          have HB3 := Lib.hid hB3
          clear hw1 hw2 hb2 hb3 hB2 hB3 hb2'
          go_wp2
          go_roundw
          case rel =>
            refine ⟨i + 1, w2.heap.size, w3.heap.size, q3, A3, A4, c3, c4, by omega, by omega, by rw [size_set3]; exact Nat.le_refl _, .inl hzO2, by go_num, ?_, ((Bk.set HB3.out 0 _).set 1 _).set 2 _, RatH.set3 (RatR.toH HR3.out) (.inl hzO2) _ _ _, (heap_set3 _ _ _ _ _ _ (by omega)).trans hRB.out, below_set3 hbq3 (by omega) _ _ _, by rw [size_set3]; omega⟩
            show q3 = fall n i * mkRat (n - i) (i + 1)
            rw [hq3.out, hq.out]
          case measure => simp [intOf]; omega
    · obtain rfl : i = k := by omega
      obtain ⟨hcO, hfO, hzO⟩ := hB.out.facts
      obtain ⟨hcR, hfR, hzR⟩ := hR.out.facts
      simp only [zero3] at hcR
      go_wp2
      refine bodyPost_ret (v := .agg #[.bool (decide (q.num < 0)), .slice A (dl q.num.natAbs) c, .slice A' (dl q.den) c']) (by simp [results, Tryz.results327, go_sem, hcR]) rfl
        ⟨_, rfl, ?_, below_set3 hbw (Nat.le_refl _) _ _ _⟩
      rw [← hq.out]
      exact RatR.lower ((RatH.set3 hr.out (.inl hlo) _ _ _).toR (by rw [size_set3]; exact hhi)) (by omega)

end Go.Proofs.YtgheaoaicbkaoaaGreatDoor

/-
  The walk of binomial's Eval.
-/
namespace Go.Proofs.YtgheaoaicbkaoaaGreatDoor
open Go.RowKit AC
set_option linter.unusedVariables false
set_option linter.unusedSimpArgs false

/-- The slice value v holds k numbers r 0, r 1, .., of at most K limbs each. -/
def RatsV (w : World) (lo : Nat) (v : Value) (k K : Nat) (r : Nat → Rat) : Prop :=
  ∃ A c, v = .slice A k c ∧ k ≤ c ∧ c ≤ maxLen ∧ (0 < k → ∃ b off, A = some ⟨b, off, none⟩ ∧ lo ≤ b ∧ b < w.heap.size ∧
    ∀ i, i < k → ∃ s An kn cn Ad kd cd, w.cell? ⟨b, off + i * 3, none⟩ = some (.bool s) ∧ w.cell? ⟨b, off + i * 3 + 1, none⟩ = some (.slice An kn cn) ∧ w.cell? ⟨b, off + i * 3 + 2, none⟩ = some (.slice Ad kd cd) ∧
      RatV w lo (.agg #[.bool s, .slice An kn cn, .slice Ad kd cd]) K (r i))

theorem RatsV.below {w w' : World} {lo : Nat} {v : Value} {k K : Nat} {r : Nat → Rat} (h : RatsV w lo v k K r) (hb : Below w.heap.size w w') : RatsV w' lo v k K r := by
  obtain ⟨A, c, rfl, h1, h2, h3⟩ := h
  refine ⟨A, c, rfl, h1, h2, fun h0 => ?_⟩
  obtain ⟨b, off, rfl, h4, h5, h6⟩ := h3 h0
  refine ⟨b, off, rfl, h4, Nat.lt_of_lt_of_le h5 hb.size, fun i hi => ?_⟩
  obtain ⟨s, An, kn, cn, Ad, kd, cd, e1, e2, e3, e4⟩ := h6 i hi
  exact ⟨s, An, kn, cn, Ad, kd, cd, (hb.cell (p := ⟨b, _, none⟩) h5).trans e1, (hb.cell (p := ⟨b, _, none⟩) h5).trans e2, (hb.cell (p := ⟨b, _, none⟩) h5).trans e3, e4.below hb⟩

/-- The value of a polynomial in the binomial basis. -/
def evalQ (r : Nat → Rat) (n : Int) : Nat → Rat
  | 0 => 0
  | k + 1 => evalQ r n k + r k * fall n k

theorem sz_eval {r : Nat → Rat} {n : Int} {K : Nat} (h1 : 0 ≤ n) (h2 : n ≤ 9223372036854775807) : ∀ k, k ≤ 100 → (∀ i, i < k → sz (r i) ≤ K) → sz (evalQ r n k) ≤ 1 + k * (K + 302)
  | 0, _, _ => by
    show sz 0 ≤ _
    have e : dl 1 = 1 := dl_one
    have : sz 0 = 1 := by simp [sz, dl_zero, e]
    omega
  | k + 1, hk, hr => by
    have h3 := sz_eval (r := r) (K := K) h1 h2 k (by omega) (fun i hi => hr i (by omega))
    have h4 := sz_add (evalQ r n k) (r k * fall n k)
    have h5 := sz_mul (r k) (fall n k)
    have h6 := sz_fall n (by omega) h2 k (by omega)
    have h7 := hr k (by omega)
    rw [evalQ, Nat.add_mul, Nat.one_mul]
    omega

/-- The loop of Eval. -/
def EvRel (w : World) (O k : Nat) (r : Nat → Rat) (n : Int) (iv : Value) (wr : World) : Prop :=
  ∃ (i lo hi : Nat) (q : Rat) (A A' : Option Addr) (c c' : Nat), i ≤ k ∧ w.heap.size < lo ∧ hi ≤ wr.heap.size ∧ (O < lo ∨ hi ≤ O) ∧ iv = .int .i64 i ∧ Hid (q = evalQ r n i) ∧ Hid (Bk wr O 27 #[.bool (decide (q.num < 0)), .slice A (dl q.num.natAbs) c, .slice A' (dl q.den) c']) ∧
    Hid (RatH wr lo hi (.agg #[.bool (decide (q.num < 0)), .slice A (dl q.num.natAbs) c, .slice A' (dl q.den) c']) q) ∧ Hid (Bk wr w.heap.size 27 zero3) ∧ Below w.heap.size w wr ∧ O + 1 ≤ wr.heap.size

end Go.Proofs.YtgheaoaicbkaoaaGreatDoor

/-
  Words for memory: rows of rational numbers that the call makes.
-/
namespace Go.Proofs.YtgheaoaicbkaoaaGreatDoor
open Go.RowKit AC
set_option linter.unusedVariables false
set_option linter.unusedSimpArgs false

theorem info_rat : (Tryz.prog.info? 27).map (fun i => (i.zero, i.size, i.bytes)) = some (some (.agg #[.bool false, .slice none 0 0, .slice none 0 0]), 3, 56) := by kernel_rfl

/-- Block b is a row of k structs; the first n hold r 0, r 1, .. in their canonical form, in memory behind b. -/
def RowQ (w : World) (b k n : Nat) (r : Nat → Rat) : Prop :=
  ∃ f : Nat → Value, w.rowIs b 27 (k * 3) f ∧ ∀ j, j < n → ∃ s An kn cn Ad kd cd, f (j * 3) = .bool s ∧ f (j * 3 + 1) = .slice An kn cn ∧ f (j * 3 + 2) = .slice Ad kd cd ∧ RatR w (b + 1) (.agg #[.bool s, .slice An kn cn, .slice Ad kd cd]) (r j)

section
variable {w w' : World} {b k n : Nat} {r : Nat → Rat}
theorem RowQ.lt (h : RowQ w b k n r) : b < w.heap.size := by obtain ⟨f, h1, _⟩ := h; exact h1.lt
theorem RowQ.below (h : RowQ w b k n r) (hb : Below w.heap.size w w') : RowQ w' b k n r := by
  obtain ⟨f, h1, h2⟩ := h
  refine ⟨f, h1.of_block (hb.block b h1.lt), fun j hj => ?_⟩
  obtain ⟨s, An, kn, cn, Ad, kd, cd, e1, e2, e3, e4⟩ := h2 j hj
  exact ⟨s, An, kn, cn, Ad, kd, cd, e1, e2, e3, e4.below hb⟩
theorem RowQ.there (h : RowQ w b k n r) {i : Nat} (hi : i < k * 3) : ∃ u, w.cell? ⟨b, i, none⟩ = some u := by
  obtain ⟨f, h1, _⟩ := h
  exact ⟨_, h1.cell hi⟩
theorem RowQ.frozen (h : RowQ w b k n r) (i : Nat) : w.frozen? ⟨b, i, none⟩ = false := by
  obtain ⟨f, h1, _⟩ := h
  exact h1.frozen i
theorem RowQ.store (h : RowQ w b k n r) {s : Bool} {An Ad : Option Addr} {kn cn kd cd : Nat} (hr : RatR w (b + 1) (.agg #[.bool s, .slice An kn cn, .slice Ad kd cd]) (r n)) :
    RowQ (((w.setCell ⟨b, n * 3, none⟩ (.bool s)).setCell ⟨b, n * 3 + 1, none⟩ (.slice An kn cn)).setCell ⟨b, n * 3 + 2, none⟩ (.slice Ad kd cd)) b k (n + 1) r := by
  obtain ⟨f, h1, h2⟩ := h
  have keep : ∀ v q, RatR w (b + 1) v q → RatR (((w.setCell ⟨b, n * 3, none⟩ (.bool s)).setCell ⟨b, n * 3 + 1, none⟩ (.slice An kn cn)).setCell ⟨b, n * 3 + 2, none⟩ (.slice Ad kd cd)) (b + 1) v q := by
    rintro v q ⟨vn, vd, rfl, g1, g2⟩
    exact ⟨vn, vd, rfl, ((Limbs.setCell g1 (by simp) _).setCell (by simp) _).setCell (by simp) _, ((Limbs.setCell g2 (by simp) _).setCell (by simp) _).setCell (by simp) _⟩
  refine ⟨_, ((h1.set (n * 3) (.bool s)).set (n * 3 + 1) (.slice An kn cn)).set (n * 3 + 2) (.slice Ad kd cd), fun j hj => ?_⟩
  rcases Nat.lt_or_ge j n with hjn | hjn
  · obtain ⟨s', An', kn', cn', Ad', kd', cd', e1, e2, e3, e4⟩ := h2 j hjn
    refine ⟨s', An', kn', cn', Ad', kd', cd', ?_, ?_, ?_, keep _ _ e4⟩
    · rw [if_neg (by omega), if_neg (by omega), if_neg (by omega)]; exact e1
    · rw [if_neg (by omega), if_neg (by omega), if_neg (by omega)]; exact e2
    · rw [if_neg (by omega), if_neg (by omega), if_neg (by omega)]; exact e3
  · obtain rfl : j = n := by omega
    refine ⟨s, An, kn, cn, Ad, kd, cd, ?_, ?_, ?_, keep _ _ hr⟩
    · rw [if_neg (by omega), if_neg (by omega), if_pos rfl]
    · rw [if_neg (by omega), if_pos rfl]
    · rw [if_pos rfl]
theorem RowQ.toV (h : RowQ w b k n r) {lo K : Nat} (hn : n ≤ k) (hl : lo ≤ b) (hk : k ≤ 4294967296) (hK : ∀ j, j < n → sz (r j) ≤ K) : RatsV w lo (.slice (some ⟨b, 0, none⟩) n k) n K r := by
  have hlt := h.lt
  obtain ⟨f, h1, h2⟩ := h
  refine ⟨_, k, rfl, hn, by unfold maxLen; omega, fun _ => ⟨b, 0, rfl, hl, hlt, fun i hi => ?_⟩⟩
  obtain ⟨s, An, kn, cn, Ad, kd, cd, e1, e2, e3, e4⟩ := h2 i hi
  refine ⟨s, An, kn, cn, Ad, kd, cd, ?_, ?_, ?_, (e4.toV (hK i hi)).lower (by omega)⟩
  · rw [Nat.zero_add, h1.cell (by omega), e1]
  · rw [Nat.zero_add, h1.cell (by omega), e2]
  · rw [Nat.zero_add, h1.cell (by omega), e3]
end

/-- 'make([]api.Rat, n)'. -/
theorem wpList_mkQ (w : World) {ops : Array Oper} {rest : List Oper} {o : Oper} {a : Act} {Q : Exit → Act → World → Prop}
    (hg : o.guard = none) (l c : Operand) (hop : o.op = Op.makeSlice 97 l c)
    (kl kc : IntKind) (L C : Int) (n : Nat) (hl : a.eval l = .int kl L) (hc : a.eval c = .int kc C) (hL : L = (n : Int)) (hC : C = (n : Int)) (hn : n ≤ 4294967296)
    (base : Nat) (w0 : World) (hb : Below base w0 w) (hbase : base ≤ w.heap.size)
    (hK : ∀ b w', base ≤ b → w.heap.size ≤ b → (∀ r, RowQ w' b n 0 r) → Below base w0 w' → Below w.heap.size w w' → wpList Tryz.prog ops Q rest (a.put o.dst (.slice (some ⟨b, 0, none⟩) n n)) w') :
    wpList Tryz.prog ops Q (o :: rest) a w := by
  obtain ⟨i, hi, hz0, hs1, hb4⟩ := info_parts info_rat
  subst hL
  subst hC
  refine wpList_plain hg fun K hK' => ?_
  have hrun := run_make (P := Tryz.prog) w 97 27 i _ Tryz.underlying97 hi hz0 kl kc n n (by omega) (by omega) (by rw [hb4]; omega) (by omega)
  simp only [Int.toNat_natCast] at hrun
  unfold Oper.wp
  simp only [execOp, hop, hl, hc]
  simp [hrun, Result.andThen]
  refine hK' _ _ (hK _ _ hbase (Nat.le_refl _) (fun r => ?_) (hb.alloc hbase _) ((Below.refl _ _).alloc (Nat.le_refl _) _))
  refine ⟨fun j => (madeCells (Value.cells (.agg #[.bool false, .slice none 0 0, .slice none 0 0])) (n * 3))[j]?.getD undef, ⟨_, heap_alloc_new _ _, ?_, fun j hj => ?_⟩, fun j hj => absurd hj (by omega)⟩
  · rw [size_madeCells, hs1]
  · rw [hs1]
    have : j < (madeCells (Value.cells (.agg #[.bool false, .slice none 0 0, .slice none 0 0])) (n * 3)).size := by rw [size_madeCells]; exact hj
    simp only [Array.getElem?_eq_getElem this, Option.getD_some]

end Go.Proofs.YtgheaoaicbkaoaaGreatDoor

/-
  The walk of binomial's Canonical.
-/
namespace Go.Proofs.YtgheaoaicbkaoaaGreatDoor
open Go.RowKit AC
set_option linter.unusedVariables false
set_option linter.unusedSimpArgs false

/-- How many numbers are left without the zeros at the end. -/
def cutQ (r : Nat → Rat) : Nat → Nat
  | 0 => 0
  | n + 1 => if r n = 0 then cutQ r n else n + 1
theorem cutQ_le (r : Nat → Rat) : ∀ n, cutQ r n ≤ n
  | 0 => Nat.le_refl _
  | n + 1 => by unfold cutQ; split; · exact Nat.le_trans (cutQ_le r n) (by omega)
                · omega
theorem sgnQ_zero {q : Rat} : sgnQ q = 0 ↔ q = 0 := by
  unfold sgnQ
  rw [Int.sign_eq_zero_iff_zero]
  exact Rat.num_eq_zero

/-- One element of a list of numbers, read later. -/
theorem RatsV.at_ {w wr : World} {lo : Nat} {A : Option Addr} {c k K : Nat} {r : Nat → Rat} (h : RatsV w lo (.slice A k c) k K r) (hb : Below w.heap.size w wr) {i : Nat} (hi : i < k) :
    ∃ b off s An kn cn Ad kd cd, A = some ⟨b, off, none⟩ ∧ b < w.heap.size ∧ wr.cell? ⟨b, off + i * 3, none⟩ = some (.bool s) ∧ wr.cell? ⟨b, off + i * 3 + 1, none⟩ = some (.slice An kn cn) ∧ wr.cell? ⟨b, off + i * 3 + 2, none⟩ = some (.slice Ad kd cd) ∧
      RatV wr lo (.agg #[.bool s, .slice An kn cn, .slice Ad kd cd]) K (r i) := by
  obtain ⟨A', c', e, _, _, h3⟩ := h
  injection e with e1 e2 e3
  subst e1
  obtain ⟨b, off, rfl, h4, h5, h6⟩ := h3 (by omega)
  obtain ⟨s, An, kn, cn, Ad, kd, cd, g1, g2, g3, g4⟩ := h6 i hi
  exact ⟨b, off, s, An, kn, cn, Ad, kd, cd, rfl, h5, (hb.cell (p := ⟨b, _, none⟩) h5).trans g1, (hb.cell (p := ⟨b, _, none⟩) h5).trans g2, (hb.cell (p := ⟨b, _, none⟩) h5).trans g3, g4.below hb⟩

theorem RatsV.form {w : World} {lo : Nat} {v : Value} {k K : Nat} {r : Nat → Rat} (h : RatsV w lo v k K r) : ∃ A c, v = .slice A k c ∧ k ≤ c ∧ c ≤ 9223372036854775807 := by
  obtain ⟨A, c, rfl, h1, h2, _⟩ := h
  unfold maxLen at h2
  exact ⟨A, c, rfl, h1, by omega⟩

theorem RatsV.size {w : World} {lo : Nat} {v : Value} {k K : Nat} {r : Nat → Rat} (h : RatsV w lo v k K r) {i : Nat} (hi : i < k) : sz (r i) ≤ K + 1 := by
  obtain ⟨A, c, rfl, h1, h2, _⟩ := id h
  obtain ⟨_, _, _, _, _, _, _, _, _, _, _, _, _, _, h5⟩ := h.at_ (Below.refl _ _) hi
  exact h5.size

end Go.Proofs.YtgheaoaicbkaoaaGreatDoor

/-
  The walk of binomial's combine with rational.Sub.
-/
namespace Go.Proofs.YtgheaoaicbkaoaaGreatDoor
open Go.RowKit AC
set_option linter.unusedVariables false
set_option linter.unusedSimpArgs false

end Go.Proofs.YtgheaoaicbkaoaaGreatDoor

